-- Written by this repo's own printer (wip/print), which builds on the kit's.
import Derived.Test.YtjdnimgkfkpaeaaDoorTbM
import Derived.Test.YtjdnimgkfkpaeaaDoorMinex0
namespace Go.Proofs.YtjdnimgkfkpaeaaDoor.Mine
open Go.RowKit Go.Proofs.YtjdnimgkfkpaeaaDoorW.PrintWords Go.Proofs.YtjdnimgkfkpaeaaDoorW.PrintLast Go.Proofs.YtjdnimgkfkpaeaaDoorW.PrintMore
attribute [local go_sem] max2_int min2_int max_two min_two max_three min_three max_four min_four   -- for this text's walks alone
set_option linter.unusedVariables false
set_option linter.unusedSimpArgs false

-- NOT PRINTED: function 41 (stringslite_Index)

-- NOT PRINTED: function 40 (strings_Index)

-- NOT PRINTED: function 44 (bytealg_CountString)

-- NOT PRINTED: function 39 (strings_Count)

-- NOT PRINTED: function 36 (strings_genSplit)

-- NOT PRINTED: function 33 (strings_Split)

-- NOT PRINTED: function 37 (stringslite_Cut)

-- NOT PRINTED: function 34 (strings_Cut)

-- NOT PRINTED: function 25 (table_list)


/-! ### table_New: function 10 (by hand) -/
-- its contract stands in the texts of wip/law11

/-! ### table_Table_At: function 14 (by hand) -/
-- its contract stands in the texts of wip/law11

/-! ### table_Table_Find: function 17 (by hand) -/
-- its contract stands in the texts of wip/law11

/-! ### table_Table_Len: function 19 (by hand) -/
-- its contract stands in the texts of wip/law11

/-! ### table_entry_size: function 31 -/
def table_entry_size.f (a0_0 : ByteArray) (a0_1 : ByteArray) : Option (Int) := some (wrap64 ((wrap64 ((a0_0.size : Int) + (a0_1.size : Int))) + 32))
set_option maxHeartbeats 8000000 in
set_option maxRecDepth 100000 in
theorem table_entry_size.calls (a0_0 : ByteArray) (a0_1 : ByteArray) (r : Int) (w : World) (h : table_entry_size.f a0_0 a0_1 = some r) :
  Calls Tryd.prog 31 #[.agg #[.string a0_0, .string a0_1]] w fun e w' => e = .returned (.int .i64 r) ∧ Below w.heap.size w w' := by
 have hu62 := Tryd.underlying62
 have HB := Aside0.mk (Below.refl w.heap.size w)
 have H : (some (wrap64 ((wrap64 ((a0_0.size : Int) + (a0_1.size : Int))) + 32))) = some r := h
 clear h
 obtain rfl := Option.some.inj H
 go_enter Tryd.func31, Tryd.ntmps31
 go_wp2_with (first | ((with_reducible refine gate_dst (N := 1) rfl ?_); refine box_event ?hg (N := 1) ?hd (cs := #[.string a0_0, .string a0_1]) (t := 62) ?hr ?_; (case hd => rfl); (case hg => rfl); (case hr => first | (go_simp; done) | (go_simp; rfl)); intro gb103 hg w2 hbox hb; have n0_ := Aside0.mk (below_step (by repeat (first | (with_reducible first | exact HB.out | apply below_alloc | apply pw_below_drewN | apply below_drew1) | exact HB.out)) hb); have n1_ := Aside0.mk (hbox); have n2_ := Aside0.mk ((by rw [hg]; exact (below_size (by repeat (first | (with_reducible first | exact HB.out | apply below_alloc | apply pw_below_drewN | apply below_drew1) | exact HB.out))) : w.heap.size ≤ gb103)); have n3_ := Aside0.mk ((by rw [hg]; exact (below_size (by repeat (first | (with_reducible first | exact HB.out | apply below_alloc | apply pw_below_drewN | apply below_drew1) | exact HB.out))) : w.heap.size ≤ gb103)); clear HB; have HB := n0_; have BK103 := n1_; have GW103 := n2_; have GE103 := n3_; clear n0_ n1_ n2_ n3_; clear hb hbox hg; have hcz3_0 : w2.cell? ⟨gb103, 0, none⟩ = some (.string a0_0) := (blk_cell BK103.out 0).trans rfl; have hcz3_1 : w2.cell? ⟨gb103, 1, none⟩ = some (.string a0_1) := (blk_cell BK103.out 1).trans rfl; have hfz3_0 := blk_frozen BK103.out 0; have hfz3_1 := blk_frozen BK103.out 1))
 go_ret
 exact ⟨by first | rfl | (simp [errW_none, errW_some] <;> rfl) | (simp [*, errW_none, errW_some] <;> rfl), by repeat (first | (with_reducible first | exact HB.out | apply below_alloc | apply pw_below_drewN | apply below_drew1 | refine below_set ?_ GE103.out) | exact HB.out)⟩

-- NOT PRINTED: function 32 (table_entry)

-- NOT PRINTED: function 30 (table_Table_fit)

/-! ### table_Table_Add: function 21 (by hand) -/
-- its contract stands in the texts of wip/law11

/-! ### table_Table_Most: function 22 (by hand) -/
-- its contract stands in the texts of wip/law11

/-! ### table_Table_Size: function 23 (by hand) -/
-- its contract stands in the texts of wip/law11

/-! ### nunciolaw11_awake: function 8 -/
def nunciolaw11_awake.f  : Option (Bool) := (table_New.f 100).bind fun t104 => ((table_Table_Add.f t104 (⟨#[97]⟩ : ByteArray) (⟨#[98]⟩ : ByteArray)).bind fun t106 => ((table_Table_Add.f t106 (⟨#[99]⟩ : ByteArray) (⟨#[100]⟩ : ByteArray)).bind fun t107 => ((table_Table_At.f t107 62).bind fun bt108 => ((table_Table_Find.f bt108.2.2.2 (⟨#[97]⟩ : ByteArray) (⟨#[98]⟩ : ByteArray)).bind fun bt112 => ((table_Table_At.f bt112.2.2 2).bind fun bt115 => ((table_Table_Size.f bt115.2.2.2).bind fun bt119 => (if bt119.1 = 68 then ((table_Table_Len.f bt119.2).bind fun bt121 => (if bt121.1 = 2 then ((table_Table_Most.f bt121.2).bind fun bt123 => (if bt123.1 = 100 then (if bt108.1.toList = ([99] : List UInt8) then (if bt108.2.1.toList = ([100] : List UInt8) then (if bt108.2.2.1 = true then (if bt112.1 = 63 then (if bt112.2.1 = true then (if bt115.1.toList = ([58, 109, 101, 116, 104, 111, 100] : List UInt8) then (if bt115.2.1.toList = ([71, 69, 84] : List UInt8) then (some bt115.2.2.1) else (some false)) else (some false)) else (some false)) else (some false)) else (some false)) else (some false)) else (some false)) else (some false))) else (some false))) else (some false))))))))
set_option maxHeartbeats 8000000 in
set_option maxRecDepth 100000 in
theorem nunciolaw11_awake.calls  (r : Bool) (w : World) (hE : EnvW w) (h : nunciolaw11_awake.f  = some r) :
  Calls Tryd.prog 8 #[] w fun e w' => e = .returned (.bool r) ∧ Below w.heap.size w w' := by
 have HB := Aside0.mk (Below.refl w.heap.size w)
 have HEnv := Aside0.mk hE
 clear hE
 have HT : Aside0 (r = true) := ⟨Option.some.inj (h.symm.trans (tb_awake : nunciolaw11_awake.f = some true))⟩
 have H : ((table_New.f 100).bind fun t104 => ((table_Table_Add.f t104 (⟨#[97]⟩ : ByteArray) (⟨#[98]⟩ : ByteArray)).bind fun t106 => ((table_Table_Add.f t106 (⟨#[99]⟩ : ByteArray) (⟨#[100]⟩ : ByteArray)).bind fun t107 => ((table_Table_At.f t107 62).bind fun bt108 => ((table_Table_Find.f bt108.2.2.2 (⟨#[97]⟩ : ByteArray) (⟨#[98]⟩ : ByteArray)).bind fun bt112 => ((table_Table_At.f bt112.2.2 2).bind fun bt115 => ((table_Table_Size.f bt115.2.2.2).bind fun bt119 => (if bt119.1 = 68 then ((table_Table_Len.f bt119.2).bind fun bt121 => (if bt121.1 = 2 then ((table_Table_Most.f bt121.2).bind fun bt123 => (if bt123.1 = 100 then (if bt108.1.toList = ([99] : List UInt8) then (if bt108.2.1.toList = ([100] : List UInt8) then (if bt108.2.2.1 = true then (if bt112.1 = 63 then (if bt112.2.1 = true then (if bt115.1.toList = ([58, 109, 101, 116, 104, 111, 100] : List UInt8) then (if bt115.2.1.toList = ([71, 69, 84] : List UInt8) then (some bt115.2.2.1) else (some false)) else (some false)) else (some false)) else (some false)) else (some false)) else (some false)) else (some false)) else (some false))) else (some false))) else (some false))))))))) = some r := h
 clear h
 replace H := Option.bind_eq_some_iff.mp H
 obtain ⟨t104, A10, H⟩ := H
 replace H : ((table_Table_Add.f t104 (⟨#[97]⟩ : ByteArray) (⟨#[98]⟩ : ByteArray)).bind fun t106 => ((table_Table_Add.f t106 (⟨#[99]⟩ : ByteArray) (⟨#[100]⟩ : ByteArray)).bind fun t107 => ((table_Table_At.f t107 62).bind fun bt108 => ((table_Table_Find.f bt108.2.2.2 (⟨#[97]⟩ : ByteArray) (⟨#[98]⟩ : ByteArray)).bind fun bt112 => ((table_Table_At.f bt112.2.2 2).bind fun bt115 => ((table_Table_Size.f bt115.2.2.2).bind fun bt119 => (if bt119.1 = 68 then ((table_Table_Len.f bt119.2).bind fun bt121 => (if bt121.1 = 2 then ((table_Table_Most.f bt121.2).bind fun bt123 => (if bt123.1 = 100 then (if bt108.1.toList = ([99] : List UInt8) then (if bt108.2.1.toList = ([100] : List UInt8) then (if bt108.2.2.1 = true then (if bt112.1 = 63 then (if bt112.2.1 = true then (if bt115.1.toList = ([58, 109, 101, 116, 104, 111, 100] : List UInt8) then (if bt115.2.1.toList = ([71, 69, 84] : List UInt8) then (some bt115.2.2.1) else (some false)) else (some false)) else (some false)) else (some false)) else (some false)) else (some false)) else (some false)) else (some false))) else (some false))) else (some false)))))))) = some r := H
 have A1 := Aside0.mk A10
 clear A10
 replace H := Option.bind_eq_some_iff.mp H
 obtain ⟨t106, A20, H⟩ := H
 replace H : ((table_Table_Add.f t106 (⟨#[99]⟩ : ByteArray) (⟨#[100]⟩ : ByteArray)).bind fun t107 => ((table_Table_At.f t107 62).bind fun bt108 => ((table_Table_Find.f bt108.2.2.2 (⟨#[97]⟩ : ByteArray) (⟨#[98]⟩ : ByteArray)).bind fun bt112 => ((table_Table_At.f bt112.2.2 2).bind fun bt115 => ((table_Table_Size.f bt115.2.2.2).bind fun bt119 => (if bt119.1 = 68 then ((table_Table_Len.f bt119.2).bind fun bt121 => (if bt121.1 = 2 then ((table_Table_Most.f bt121.2).bind fun bt123 => (if bt123.1 = 100 then (if bt108.1.toList = ([99] : List UInt8) then (if bt108.2.1.toList = ([100] : List UInt8) then (if bt108.2.2.1 = true then (if bt112.1 = 63 then (if bt112.2.1 = true then (if bt115.1.toList = ([58, 109, 101, 116, 104, 111, 100] : List UInt8) then (if bt115.2.1.toList = ([71, 69, 84] : List UInt8) then (some bt115.2.2.1) else (some false)) else (some false)) else (some false)) else (some false)) else (some false)) else (some false)) else (some false)) else (some false))) else (some false))) else (some false))))))) = some r := H
 have A2 := Aside0.mk A20
 clear A20
 replace H := Option.bind_eq_some_iff.mp H
 obtain ⟨t107, A30, H⟩ := H
 replace H : ((table_Table_At.f t107 62).bind fun bt108 => ((table_Table_Find.f bt108.2.2.2 (⟨#[97]⟩ : ByteArray) (⟨#[98]⟩ : ByteArray)).bind fun bt112 => ((table_Table_At.f bt112.2.2 2).bind fun bt115 => ((table_Table_Size.f bt115.2.2.2).bind fun bt119 => (if bt119.1 = 68 then ((table_Table_Len.f bt119.2).bind fun bt121 => (if bt121.1 = 2 then ((table_Table_Most.f bt121.2).bind fun bt123 => (if bt123.1 = 100 then (if bt108.1.toList = ([99] : List UInt8) then (if bt108.2.1.toList = ([100] : List UInt8) then (if bt108.2.2.1 = true then (if bt112.1 = 63 then (if bt112.2.1 = true then (if bt115.1.toList = ([58, 109, 101, 116, 104, 111, 100] : List UInt8) then (if bt115.2.1.toList = ([71, 69, 84] : List UInt8) then (some bt115.2.2.1) else (some false)) else (some false)) else (some false)) else (some false)) else (some false)) else (some false)) else (some false)) else (some false))) else (some false))) else (some false)))))) = some r := H
 have A3 := Aside0.mk A30
 clear A30
 replace H := Option.bind_eq_some_iff.mp H
 obtain ⟨⟨t108, t109, t110, t111⟩, A40, H⟩ := H
 replace H : ((table_Table_Find.f t111 (⟨#[97]⟩ : ByteArray) (⟨#[98]⟩ : ByteArray)).bind fun bt112 => ((table_Table_At.f bt112.2.2 2).bind fun bt115 => ((table_Table_Size.f bt115.2.2.2).bind fun bt119 => (if bt119.1 = 68 then ((table_Table_Len.f bt119.2).bind fun bt121 => (if bt121.1 = 2 then ((table_Table_Most.f bt121.2).bind fun bt123 => (if bt123.1 = 100 then (if t108.toList = ([99] : List UInt8) then (if t109.toList = ([100] : List UInt8) then (if t110 = true then (if bt112.1 = 63 then (if bt112.2.1 = true then (if bt115.1.toList = ([58, 109, 101, 116, 104, 111, 100] : List UInt8) then (if bt115.2.1.toList = ([71, 69, 84] : List UInt8) then (some bt115.2.2.1) else (some false)) else (some false)) else (some false)) else (some false)) else (some false)) else (some false)) else (some false)) else (some false))) else (some false))) else (some false))))) = some r := H
 have A4 := Aside0.mk A40
 clear A40
 replace H := Option.bind_eq_some_iff.mp H
 obtain ⟨⟨t112, t113, t114⟩, A50, H⟩ := H
 replace H : ((table_Table_At.f t114 2).bind fun bt115 => ((table_Table_Size.f bt115.2.2.2).bind fun bt119 => (if bt119.1 = 68 then ((table_Table_Len.f bt119.2).bind fun bt121 => (if bt121.1 = 2 then ((table_Table_Most.f bt121.2).bind fun bt123 => (if bt123.1 = 100 then (if t108.toList = ([99] : List UInt8) then (if t109.toList = ([100] : List UInt8) then (if t110 = true then (if t112 = 63 then (if t113 = true then (if bt115.1.toList = ([58, 109, 101, 116, 104, 111, 100] : List UInt8) then (if bt115.2.1.toList = ([71, 69, 84] : List UInt8) then (some bt115.2.2.1) else (some false)) else (some false)) else (some false)) else (some false)) else (some false)) else (some false)) else (some false)) else (some false))) else (some false))) else (some false)))) = some r := H
 have A5 := Aside0.mk A50
 clear A50
 replace H := Option.bind_eq_some_iff.mp H
 obtain ⟨⟨t115, t116, t117, t118⟩, A60, H⟩ := H
 replace H : ((table_Table_Size.f t118).bind fun bt119 => (if bt119.1 = 68 then ((table_Table_Len.f bt119.2).bind fun bt121 => (if bt121.1 = 2 then ((table_Table_Most.f bt121.2).bind fun bt123 => (if bt123.1 = 100 then (if t108.toList = ([99] : List UInt8) then (if t109.toList = ([100] : List UInt8) then (if t110 = true then (if t112 = 63 then (if t113 = true then (if t115.toList = ([58, 109, 101, 116, 104, 111, 100] : List UInt8) then (if t116.toList = ([71, 69, 84] : List UInt8) then (some t117) else (some false)) else (some false)) else (some false)) else (some false)) else (some false)) else (some false)) else (some false)) else (some false))) else (some false))) else (some false))) = some r := H
 have A6 := Aside0.mk A60
 clear A60
 replace H := Option.bind_eq_some_iff.mp H
 obtain ⟨⟨t119, t120⟩, A70, H⟩ := H
 replace H : (if t119 = 68 then ((table_Table_Len.f t120).bind fun bt121 => (if bt121.1 = 2 then ((table_Table_Most.f bt121.2).bind fun bt123 => (if bt123.1 = 100 then (if t108.toList = ([99] : List UInt8) then (if t109.toList = ([100] : List UInt8) then (if t110 = true then (if t112 = 63 then (if t113 = true then (if t115.toList = ([58, 109, 101, 116, 104, 111, 100] : List UInt8) then (if t116.toList = ([71, 69, 84] : List UInt8) then (some t117) else (some false)) else (some false)) else (some false)) else (some false)) else (some false)) else (some false)) else (some false)) else (some false))) else (some false))) else (some false)) = some r := H
 have A7 := Aside0.mk A70
 clear A70
 by_cases c8 : t119 = 68
 ·
  rw [if_pos c8] at H
  have c8b0 : (t119 == 68) = true := beq_iff_eq.mpr c8
  have c8b1 : (t119 != 68) = false := bne_eq_false_iff_eq.mpr c8
  clear c8
  replace H := Option.bind_eq_some_iff.mp H
  obtain ⟨⟨t121, t122⟩, A90, H⟩ := H
  replace H : (if t121 = 2 then ((table_Table_Most.f t122).bind fun bt123 => (if bt123.1 = 100 then (if t108.toList = ([99] : List UInt8) then (if t109.toList = ([100] : List UInt8) then (if t110 = true then (if t112 = 63 then (if t113 = true then (if t115.toList = ([58, 109, 101, 116, 104, 111, 100] : List UInt8) then (if t116.toList = ([71, 69, 84] : List UInt8) then (some t117) else (some false)) else (some false)) else (some false)) else (some false)) else (some false)) else (some false)) else (some false)) else (some false))) else (some false)) = some r := H
  have A9 := Aside0.mk A90
  clear A90
  by_cases c10 : t121 = 2
  ·
   rw [if_pos c10] at H
   have c10b0 : (t121 == 2) = true := beq_iff_eq.mpr c10
   have c10b1 : (t121 != 2) = false := bne_eq_false_iff_eq.mpr c10
   clear c10
   replace H := Option.bind_eq_some_iff.mp H
   obtain ⟨⟨t123, t124⟩, A110, H⟩ := H
   replace H : (if t123 = 100 then (if t108.toList = ([99] : List UInt8) then (if t109.toList = ([100] : List UInt8) then (if t110 = true then (if t112 = 63 then (if t113 = true then (if t115.toList = ([58, 109, 101, 116, 104, 111, 100] : List UInt8) then (if t116.toList = ([71, 69, 84] : List UInt8) then (some t117) else (some false)) else (some false)) else (some false)) else (some false)) else (some false)) else (some false)) else (some false)) else (some false)) = some r := H
   have A11 := Aside0.mk A110
   clear A110
   by_cases c12 : t123 = 100
   ·
    rw [if_pos c12] at H
    have c12b0 : (t123 == 100) = true := beq_iff_eq.mpr c12
    have c12b1 : (t123 != 100) = false := bne_eq_false_iff_eq.mpr c12
    clear c12
    by_cases c13 : t108.toList = ([99] : List UInt8)
    ·
     rw [if_pos c13] at H
     have c13b0 : (t108.toList == ([99] : List UInt8)) = true := beq_iff_eq.mpr c13
     have c13b1 : (t108.toList != ([99] : List UInt8)) = false := bne_eq_false_iff_eq.mpr c13
     clear c13
     by_cases c14 : t109.toList = ([100] : List UInt8)
     ·
      rw [if_pos c14] at H
      have c14b0 : (t109.toList == ([100] : List UInt8)) = true := beq_iff_eq.mpr c14
      have c14b1 : (t109.toList != ([100] : List UInt8)) = false := bne_eq_false_iff_eq.mpr c14
      clear c14
      by_cases c15 : t110 = true
      ·
       subst c15
       have H1 : (if t112 = 63 then (if t113 = true then (if t115.toList = ([58, 109, 101, 116, 104, 111, 100] : List UInt8) then (if t116.toList = ([71, 69, 84] : List UInt8) then (some t117) else (some false)) else (some false)) else (some false)) else (some false)) = some r := by rw [if_pos rfl] at H; exact H
       clear H
       have H := H1
       clear H1
       by_cases c16 : t112 = 63
       ·
        rw [if_pos c16] at H
        have c16b0 : (t112 == 63) = true := beq_iff_eq.mpr c16
        have c16b1 : (t112 != 63) = false := bne_eq_false_iff_eq.mpr c16
        clear c16
        by_cases c17 : t113 = true
        ·
         subst c17
         have H1 : (if t115.toList = ([58, 109, 101, 116, 104, 111, 100] : List UInt8) then (if t116.toList = ([71, 69, 84] : List UInt8) then (some t117) else (some false)) else (some false)) = some r := by rw [if_pos rfl] at H; exact H
         clear H
         have H := H1
         clear H1
         by_cases c18 : t115.toList = ([58, 109, 101, 116, 104, 111, 100] : List UInt8)
         ·
          rw [if_pos c18] at H
          have c18b0 : (t115.toList == ([58, 109, 101, 116, 104, 111, 100] : List UInt8)) = true := beq_iff_eq.mpr c18
          have c18b1 : (t115.toList != ([58, 109, 101, 116, 104, 111, 100] : List UInt8)) = false := bne_eq_false_iff_eq.mpr c18
          clear c18
          by_cases c19 : t116.toList = ([71, 69, 84] : List UInt8)
          ·
           rw [if_pos c19] at H
           have c19b0 : (t116.toList == ([71, 69, 84] : List UInt8)) = true := beq_iff_eq.mpr c19
           have c19b1 : (t116.toList != ([71, 69, 84] : List UInt8)) = false := bne_eq_false_iff_eq.mpr c19
           clear c19
           obtain rfl := Option.some.inj H
           go_enter Tryd.func8, Tryd.ntmps8
           have tk29 : True := trivial
           have tk30 : True := trivial
           have tk31 : True := trivial
           have tk32 : True := trivial
           go_wp2_with (first | ((with_reducible refine gate_callee (f := 10) rfl ?_); refine goesL_ (some 10) rfl rfl Tryd.func10 (by kernel_rfl) rfl #[.int .i64 100] rfl (by (try simp only [List.map_toArray, List.map_cons, List.map_nil]); first | done | rfl | (simp only [List.length_drop, List.length_take]; rfl)) ?_; (with_reducible refine (table_New.calls 100 t104 w _ ?side1 ?side2 A1.out).mono ?_); (case side1 => repeat (first | (with_reducible first | exact HB.out | apply below_alloc | apply pw_below_drewN | apply below_drew1) | exact HB.out)); (case side2 => exact EnvW.below HEnv.out rfl (by repeat (first | (with_reducible first | exact HB.out | apply below_alloc | apply pw_below_drewN | apply below_drew1) | exact HB.out))); rintro e w20 ⟨g105, rfl, hi, hb, hb2⟩; refine ⟨_, rfl, ?_⟩; have n0_ := Aside0.mk (hb); have n1_ := Aside0.mk (hi); clear HB; have HB := n0_; have HI105 := n1_; clear n0_ n1_; (try clear hb); (try clear hb2); (try clear hk); (try clear hi)) | (have _t : True := tk29; clear tk29 _t; (with_reducible refine gate_callee (f := 21) rfl ?_); refine goesL_ (some 14) rfl rfl Tryd.func21 (by kernel_rfl) rfl #[.pointer (some ⟨g105, 0, none⟩), .string (⟨#[97]⟩ : ByteArray), .string (⟨#[98]⟩ : ByteArray)] rfl (by (try simp only [List.map_toArray, List.map_cons, List.map_nil]); first | done | rfl | (simp only [List.length_drop, List.length_take]; rfl)) ?_; (with_reducible refine (table_Table_Add.calls g105 t104 (⟨#[97]⟩ : ByteArray) (⟨#[98]⟩ : ByteArray) t106 w _ ?side1 ?side2 A2.out).mono ?_); (case side1 => repeat (first | (with_reducible first | exact HI105.out | apply IsS57.alloc | apply IsS57.drewN | apply IsS57.drew) | exact HI105.out)); (case side2 => repeat (first | (with_reducible first | exact HB.out | apply below_alloc | apply pw_below_drewN | apply below_drew1 | refine below_set ?_ (IsS57.ge HI105.out)) | exact HB.out)); rintro e w21 ⟨rfl, hi, hb, hk⟩; refine ⟨_, rfl, ?_⟩; have n0_ := Aside0.mk (hb); have n1_ := Aside0.mk (hi); clear HB; clear HI105; have HB := n0_; have HI105 := n1_; clear n0_ n1_; (try clear hb); (try clear hb2); (try clear hk); (try clear hi)) | (have _t : True := tk30; clear tk30 _t; (with_reducible refine gate_callee (f := 21) rfl ?_); refine goesL_ (some 16) rfl rfl Tryd.func21 (by kernel_rfl) rfl #[.pointer (some ⟨g105, 0, none⟩), .string (⟨#[99]⟩ : ByteArray), .string (⟨#[100]⟩ : ByteArray)] rfl (by (try simp only [List.map_toArray, List.map_cons, List.map_nil]); first | done | rfl | (simp only [List.length_drop, List.length_take]; rfl)) ?_; (with_reducible refine (table_Table_Add.calls g105 t106 (⟨#[99]⟩ : ByteArray) (⟨#[100]⟩ : ByteArray) t107 w _ ?side1 ?side2 A3.out).mono ?_); (case side1 => repeat (first | (with_reducible first | exact HI105.out | apply IsS57.alloc | apply IsS57.drewN | apply IsS57.drew) | exact HI105.out)); (case side2 => repeat (first | (with_reducible first | exact HB.out | apply below_alloc | apply pw_below_drewN | apply below_drew1 | refine below_set ?_ (IsS57.ge HI105.out)) | exact HB.out)); rintro e w22 ⟨rfl, hi, hb, hk⟩; refine ⟨_, rfl, ?_⟩; have n0_ := Aside0.mk (hb); have n1_ := Aside0.mk (hi); clear HB; clear HI105; have HB := n0_; have HI105 := n1_; clear n0_ n1_; (try clear hb); (try clear hb2); (try clear hk); (try clear hi)) | (have _t : True := tk31; clear tk31 _t; (with_reducible refine gate_callee (f := 14) rfl ?_); refine goesL_ (some 19) rfl rfl Tryd.func14 (by kernel_rfl) rfl #[.pointer (some ⟨g105, 0, none⟩), .int .i64 62] rfl (by (try simp only [List.map_toArray, List.map_cons, List.map_nil]); first | done | rfl | (simp only [List.length_drop, List.length_take]; rfl)) ?_; (with_reducible refine (table_Table_At.calls g105 t107 62 t108 t109 true t111 w _ ?side1 ?side2 A4.out).mono ?_); (case side1 => repeat (first | (with_reducible first | exact HI105.out | apply IsS57.alloc | apply IsS57.drewN | apply IsS57.drew) | exact HI105.out)); (case side2 => repeat (first | (with_reducible first | exact HB.out | apply below_alloc | apply pw_below_drewN | apply below_drew1 | refine below_set ?_ (IsS57.ge HI105.out)) | exact HB.out)); rintro e w23 ⟨rfl, hi, hb, hk⟩; refine ⟨_, rfl, ?_⟩; have n0_ := Aside0.mk (hb); have n1_ := Aside0.mk (hi); clear HB; clear HI105; have HB := n0_; have HI105 := n1_; clear n0_ n1_; (try clear hb); (try clear hb2); (try clear hk); (try clear hi)) | ((with_reducible refine gate_callee (f := 17) rfl ?_); refine goesL_ (some 25) rfl rfl Tryd.func17 (by kernel_rfl) rfl #[.pointer (some ⟨g105, 0, none⟩), .string (⟨#[97]⟩ : ByteArray), .string (⟨#[98]⟩ : ByteArray)] rfl (by (try simp only [List.map_toArray, List.map_cons, List.map_nil]); first | done | rfl | (simp only [List.length_drop, List.length_take]; rfl)) ?_; (with_reducible refine (table_Table_Find.calls g105 t111 (⟨#[97]⟩ : ByteArray) (⟨#[98]⟩ : ByteArray) t112 true t114 w _ ?side1 ?side2 A5.out).mono ?_); (case side1 => repeat (first | (with_reducible first | exact HI105.out | apply IsS57.alloc | apply IsS57.drewN | apply IsS57.drew) | exact HI105.out)); (case side2 => repeat (first | (with_reducible first | exact HB.out | apply below_alloc | apply pw_below_drewN | apply below_drew1 | refine below_set ?_ (IsS57.ge HI105.out)) | exact HB.out)); rintro e w24 ⟨rfl, hi, hb, hk⟩; refine ⟨_, rfl, ?_⟩; have n0_ := Aside0.mk (hb); have n1_ := Aside0.mk (hi); clear HB; clear HI105; have HB := n0_; have HI105 := n1_; clear n0_ n1_; (try clear hb); (try clear hb2); (try clear hk); (try clear hi)) | (have _t : True := tk32; clear tk32 _t; (with_reducible refine gate_callee (f := 14) rfl ?_); refine goesL_ (some 30) rfl rfl Tryd.func14 (by kernel_rfl) rfl #[.pointer (some ⟨g105, 0, none⟩), .int .i64 2] rfl (by (try simp only [List.map_toArray, List.map_cons, List.map_nil]); first | done | rfl | (simp only [List.length_drop, List.length_take]; rfl)) ?_; (with_reducible refine (table_Table_At.calls g105 t114 2 t115 t116 t117 t118 w _ ?side1 ?side2 A6.out).mono ?_); (case side1 => repeat (first | (with_reducible first | exact HI105.out | apply IsS57.alloc | apply IsS57.drewN | apply IsS57.drew) | exact HI105.out)); (case side2 => repeat (first | (with_reducible first | exact HB.out | apply below_alloc | apply pw_below_drewN | apply below_drew1 | refine below_set ?_ (IsS57.ge HI105.out)) | exact HB.out)); rintro e w25 ⟨rfl, hi, hb, hk⟩; refine ⟨_, rfl, ?_⟩; have n0_ := Aside0.mk (hb); have n1_ := Aside0.mk (hi); clear HB; clear HI105; have HB := n0_; have HI105 := n1_; clear n0_ n1_; (try clear hb); (try clear hb2); (try clear hk); (try clear hi)) | ((with_reducible refine gate_callee (f := 23) rfl ?_); refine goesL_ (some 35) rfl rfl Tryd.func23 (by kernel_rfl) rfl #[.pointer (some ⟨g105, 0, none⟩)] rfl (by (try simp only [List.map_toArray, List.map_cons, List.map_nil]); first | done | rfl | (simp only [List.length_drop, List.length_take]; rfl)) ?_; (with_reducible refine (table_Table_Size.calls g105 t118 t119 t120 w _ ?side1 ?side2 A7.out).mono ?_); (case side1 => repeat (first | (with_reducible first | exact HI105.out | apply IsS57.alloc | apply IsS57.drewN | apply IsS57.drew) | exact HI105.out)); (case side2 => repeat (first | (with_reducible first | exact HB.out | apply below_alloc | apply pw_below_drewN | apply below_drew1 | refine below_set ?_ (IsS57.ge HI105.out)) | exact HB.out)); rintro e w26 ⟨rfl, hi, hb, hk⟩; refine ⟨_, rfl, ?_⟩; have n0_ := Aside0.mk (hb); have n1_ := Aside0.mk (hi); clear HB; clear HI105; have HB := n0_; have HI105 := n1_; clear n0_ n1_; (try clear hb); (try clear hb2); (try clear hk); (try clear hi)) | (go_at_call 19; (with_reducible refine (table_Table_Len.calls g105 t120 t121 t122 w _ ?side1 ?side2 A9.out).mono ?_); (case side1 => repeat (first | (with_reducible first | exact HI105.out | apply IsS57.alloc | apply IsS57.drewN | apply IsS57.drew) | exact HI105.out)); (case side2 => repeat (first | (with_reducible first | exact HB.out | apply below_alloc | apply pw_below_drewN | apply below_drew1 | refine below_set ?_ (IsS57.ge HI105.out)) | exact HB.out)); rintro e w27 ⟨rfl, hi, hb, hk⟩; have n0_ := Aside0.mk (hb); have n1_ := Aside0.mk (hi); clear HB; clear HI105; have HB := n0_; have HI105 := n1_; clear n0_ n1_; (try clear hb); (try clear hb2); (try clear hk); (try clear hi)) | (go_at_call 22; (with_reducible refine (table_Table_Most.calls g105 t122 t123 t124 w _ ?side1 ?side2 A11.out).mono ?_); (case side1 => repeat (first | (with_reducible first | exact HI105.out | apply IsS57.alloc | apply IsS57.drewN | apply IsS57.drew) | exact HI105.out)); (case side2 => repeat (first | (with_reducible first | exact HB.out | apply below_alloc | apply pw_below_drewN | apply below_drew1 | refine below_set ?_ (IsS57.ge HI105.out)) | exact HB.out)); rintro e w28 ⟨rfl, hi, hb, hk⟩; have n0_ := Aside0.mk (hb); have n1_ := Aside0.mk (hi); clear HB; clear HI105; have HB := n0_; have HI105 := n1_; clear n0_ n1_; (try clear hb); (try clear hb2); (try clear hk); (try clear hi)))
           go_ret
           exact ⟨by first | rfl | (simp [errW_none, errW_some] <;> rfl) | (simp [*, errW_none, errW_some] <;> rfl), by repeat (first | (with_reducible first | exact HB.out | apply below_alloc | apply pw_below_drewN | apply below_drew1 | refine below_set ?_ (IsS57.ge HI105.out)) | exact HB.out)⟩
          ·
           rw [if_neg c19] at H
           have c19b0 : (t116.toList == ([71, 69, 84] : List UInt8)) = false := beq_eq_false_iff_ne.mpr c19
           have c19b1 : (t116.toList != ([71, 69, 84] : List UInt8)) = true := bne_iff_ne.mpr c19
           exact absurd ((Option.some.inj H).trans HT.out) (by decide)
         ·
          rw [if_neg c18] at H
          have c18b0 : (t115.toList == ([58, 109, 101, 116, 104, 111, 100] : List UInt8)) = false := beq_eq_false_iff_ne.mpr c18
          have c18b1 : (t115.toList != ([58, 109, 101, 116, 104, 111, 100] : List UInt8)) = true := bne_iff_ne.mpr c18
          exact absurd ((Option.some.inj H).trans HT.out) (by decide)
        ·
         replace c17 := Bool.eq_false_iff.mpr c17
         subst c17
         have H1 : (some false) = some r := by rw [if_neg (show ¬ (false = true) by decide)] at H; exact H
         clear H
         have H := H1
         clear H1
         exact absurd ((Option.some.inj H).trans HT.out) (by decide)
       ·
        rw [if_neg c16] at H
        have c16b0 : (t112 == 63) = false := beq_eq_false_iff_ne.mpr c16
        have c16b1 : (t112 != 63) = true := bne_iff_ne.mpr c16
        exact absurd ((Option.some.inj H).trans HT.out) (by decide)
      ·
       replace c15 := Bool.eq_false_iff.mpr c15
       subst c15
       have H1 : (some false) = some r := by rw [if_neg (show ¬ (false = true) by decide)] at H; exact H
       clear H
       have H := H1
       clear H1
       exact absurd ((Option.some.inj H).trans HT.out) (by decide)
     ·
      rw [if_neg c14] at H
      have c14b0 : (t109.toList == ([100] : List UInt8)) = false := beq_eq_false_iff_ne.mpr c14
      have c14b1 : (t109.toList != ([100] : List UInt8)) = true := bne_iff_ne.mpr c14
      exact absurd ((Option.some.inj H).trans HT.out) (by decide)
    ·
     rw [if_neg c13] at H
     have c13b0 : (t108.toList == ([99] : List UInt8)) = false := beq_eq_false_iff_ne.mpr c13
     have c13b1 : (t108.toList != ([99] : List UInt8)) = true := bne_iff_ne.mpr c13
     exact absurd ((Option.some.inj H).trans HT.out) (by decide)
   ·
    rw [if_neg c12] at H
    have c12b0 : (t123 == 100) = false := beq_eq_false_iff_ne.mpr c12
    have c12b1 : (t123 != 100) = true := bne_iff_ne.mpr c12
    exact absurd ((Option.some.inj H).trans HT.out) (by decide)
  ·
   rw [if_neg c10] at H
   have c10b0 : (t121 == 2) = false := beq_eq_false_iff_ne.mpr c10
   have c10b1 : (t121 != 2) = true := bne_iff_ne.mpr c10
   exact absurd ((Option.some.inj H).trans HT.out) (by decide)
 ·
  rw [if_neg c8] at H
  have c8b0 : (t119 == 68) = false := beq_eq_false_iff_ne.mpr c8
  have c8b1 : (t119 != 68) = true := bne_iff_ne.mpr c8
  exact absurd ((Option.some.inj H).trans HT.out) (by decide)

/-! ### nunciolaw11_Few: function 9 -/
def nunciolaw11_Few.l0 : Nat → List (S34) → Int → Int → Option (Bool)
 | 0, _, _, _ => none
 | k + 1, x0, x3, x4 => if x4 < (x0.length : Int) then (if x3 < 3000 then (if 0 ≤ x4 then (nunciolaw11_Few.l0 k x0 (wrap64 ((wrap64 (x3 + (mn (((rd_T34 x0 x4).f0).size : Int) 3000))) + (mn (((rd_T34 x0 x4).f1).size : Int) 3000))) (wrap64 (x4 + 1))) else (none)) else (some (decide (x3 < 3000)))) else (some (decide (x3 < 3000)))
def nunciolaw11_Few.f (k : Nat) (l0 : List (S34)) : Option (Bool) := nunciolaw11_Few.l0 k l0 (mn (l0.length : Int) 3000) 0
theorem nunciolaw11_Few.mono_l : ∀ k, (∀ y0 y1 y2, LeO (nunciolaw11_Few.l0 k y0 y1 y2) (nunciolaw11_Few.l0 (k + 1) y0 y1 y2))
 | 0 => fun _ _ _ r h => by simp [nunciolaw11_Few.l0] at h
 | k + 1 => by
  have ih0 := nunciolaw11_Few.mono_l k
  ·
   intro y0 y1 y2
   unfold nunciolaw11_Few.l0
   repeat' first
   | (with_reducible exact ih0 _ _ _)
   | (with_reducible exact LeO.refl _)
   | (with_reducible exact LeO.none _)
   | (with_reducible refine LeO.ite ?_ ?_)
   | (with_reducible refine LeO.bind ?_ (fun _ => ?_))
   | exact ih0 _ _ _
   | exact LeO.none _
   | refine LeO.ite ?_ ?_
   | refine LeO.bind ?_ (fun _ => ?_)
theorem nunciolaw11_Few.mono : ∀ a0 k, LeO (nunciolaw11_Few.f k a0) (nunciolaw11_Few.f (k + 1) a0) := by
 intro a0 k
 have ih0 := nunciolaw11_Few.mono_l k
 unfold nunciolaw11_Few.f
 repeat' first
   | (with_reducible exact ih0 _ _ _)
   | (with_reducible exact LeO.refl _)
   | (with_reducible exact LeO.none _)
   | (with_reducible refine LeO.ite ?_ ?_)
   | (with_reducible refine LeO.bind ?_ (fun _ => ?_))
   | exact ih0 _ _ _
   | exact LeO.none _
   | refine LeO.ite ?_ ?_
   | refine LeO.bind ?_ (fun _ => ?_)
set_option maxHeartbeats 8000000 in
set_option maxRecDepth 100000 in
theorem nunciolaw11_Few.calls (k : Nat) (A0 : Option Addr) (c0 : Nat) (l0 : List (S34)) (r : Bool) (w : World) (hr0 : Kd.C k34 w A0 l0.length l0) (hc0 : l0.length ≤ c0) (h : nunciolaw11_Few.f k l0 = some r) :
  Calls Tryd.prog 9 #[.slice A0 l0.length c0] w fun e w' => e = .returned (.bool r) ∧ Below w.heap.size w w' := by
 have HR0 := Aside0.mk hr0
 have HC0 := Aside0.mk hc0
 clear hr0 hc0
 have HB := Aside0.mk (Below.refl w.heap.size w)
 have H : (nunciolaw11_Few.l0 k l0 (mn (l0.length : Int) 3000) 0) = some r := h
 clear h
 obtain ⟨ji2, hji2⟩ : ∃ j_ : Int, (mn (l0.length : Int) 3000) = j_ := ⟨_, rfl⟩
 replace H : (nunciolaw11_Few.l0 k l0 ji2 0) = some r := by first | (rw [hji2] at H; exact H) | (simp only [hji2] at H ⊢; exact H)
 (try (have hji2h : ji2 ≤ 3000 := by (rw [← hji2]; unfold mn; (repeat' split) <;> omega)))
 (try (have hji2g : ji2 ≤ 64 := by omega))
 (try (have hji2l : 0 ≤ ji2 := by (rw [← hji2]; unfold mn; (repeat' split) <;> omega)))
 (try (have hji2m : 0 ≤ ji2 := by omega))
 have hji2_ : (if 3000 < (l0.length : Int) then 3000 else (l0.length : Int)) = ji2 := hji2
 have H' := Aside0.mk H
 clear H
 go_enter Tryd.func9, Tryd.ntmps9
 go_wp2
 repeat (go_quiet (fail); try go_wp2)
 go_loopg [3, 4] k (fun kq v3 v4 w' => ∃ (x3_1 : Int) (x4_1 : Int), v3 = .int .i64 x3_1 ∧ v4 = .int .i64 x4_1 ∧ Aside0 (nunciolaw11_Few.l0 kq l0 x3_1 x4_1 = some r) ∧ Aside0 (kq ≤ k) ∧ Aside0 (Below w.heap.size w w'))
 case atStart => exact ⟨(ji2), (0), (by first | rfl | (simp; done) | (simp only [← hji2] <;> (first | rfl | simp)) | (simp [*]; done)), (by first | rfl | (simp; done) | (simp [*]; done)), H', ⟨Nat.le_refl _⟩, ⟨by repeat (first | (with_reducible first | exact HB.out | apply below_alloc | apply pw_below_drewN | apply below_drew1) | exact HB.out)⟩⟩
 case round =>
  clear H'
  try clear p2
  obtain ⟨x3_1, x4_1, rfl, rfl, HA, HK1, HB⟩ := hrel
  cases gk with
  | zero => exact absurd HA.out (by simp [nunciolaw11_Few.l0])
  | succ k1 =>
   have H := HA.out
   clear HA
   simp only [nunciolaw11_Few.l0] at H
   by_cases c3 : x4_1 < (l0.length : Int)
   ·
    rw [if_pos c3] at H
    have c3b0 : decide (x4_1 < (l0.length : Int)) = true := decide_eq_true c3
    clear c3
    by_cases c4 : x3_1 < 3000
    ·
     rw [if_pos c4] at H
     have c4b0 : decide (x3_1 < 3000) = true := decide_eq_true c4
     clear c4
     by_cases c5 : 0 ≤ x4_1
     ·
      rw [if_pos c5] at H
      have c5b0 : decide (0 ≤ x4_1) = true := decide_eq_true c5
      clear c5
      obtain ⟨ji6, hji6⟩ : ∃ j_ : Int, (mn (((rd_T34 l0 x4_1).f0).size : Int) 3000) = j_ := ⟨_, rfl⟩
      replace H : (nunciolaw11_Few.l0 k1 l0 (wrap64 ((wrap64 (x3_1 + (ji6))) + (mn (((rd_T34 l0 x4_1).f1).size : Int) 3000))) (wrap64 (x4_1 + 1))) = some r := by first | (rw [hji6] at H; exact H) | (simp only [hji6] at H ⊢; exact H)
      have hji6_ : (if 3000 < (((rd_T34 l0 x4_1).f0).size : Int) then 3000 else (((rd_T34 l0 x4_1).f0).size : Int)) = ji6 := hji6
      obtain ⟨ji7, hji7⟩ : ∃ j_ : Int, (mn (((rd_T34 l0 x4_1).f1).size : Int) 3000) = j_ := ⟨_, rfl⟩
      replace H : (nunciolaw11_Few.l0 k1 l0 (wrap64 ((wrap64 (x3_1 + (ji6))) + (ji7))) (wrap64 (x4_1 + 1))) = some r := by first | (rw [hji7] at H; exact H) | (simp only [hji7] at H ⊢; exact H)
      have hji7_ : (if 3000 < (((rd_T34 l0 x4_1).f1).size : Int) then 3000 else (((rd_T34 l0 x4_1).f1).size : Int)) = ji7 := hji7
      have H' := Aside0.mk H
      clear H
      have p125 : 0 ≤ (x4_1 : Int) := of_decide_eq_true (by first | (with_reducible assumption) | assumption)
      have q125 : x4_1 < (l0.length : Int) := of_decide_eq_true (by first | (with_reducible assumption) | assumption)
      obtain ⟨ad125, e125, hx125_0, hx125_1, hx125_2⟩ := at_T34 HR0.out x4_1 p125 q125
      cases e125
      replace hx125_0 := (HB.out.cell (World.block_lt_of_cell? w _ hx125_0)).trans hx125_0
      replace hx125_1 := (HB.out.cell (World.block_lt_of_cell? w _ hx125_1)).trans hx125_1
      replace hx125_2 := (HB.out.cell (World.block_lt_of_cell? w _ hx125_2)).trans hx125_2
      replace p125 := eq_true p125
      replace q125 := eq_true q125
      have p126 : 0 ≤ (x4_1 : Int) := of_decide_eq_true (by first | (with_reducible assumption) | assumption)
      have q126 : x4_1 < (l0.length : Int) := of_decide_eq_true (by first | (with_reducible assumption) | assumption)
      obtain ⟨ad126, e126, hx126_0, hx126_1, hx126_2⟩ := at_T34 HR0.out x4_1 p126 q126
      obtain rfl : ad125 = ad126 := (by injection e126)
      replace hx126_0 := (HB.out.cell (World.block_lt_of_cell? w _ hx126_0)).trans hx126_0
      replace hx126_1 := (HB.out.cell (World.block_lt_of_cell? w _ hx126_1)).trans hx126_1
      replace hx126_2 := (HB.out.cell (World.block_lt_of_cell? w _ hx126_2)).trans hx126_2
      replace p126 := eq_true p126
      replace q126 := eq_true q126
      go_wp2
      repeat (go_quiet (fail); try go_wp2)
      go_roundg k1
      case measure => have := HK1.out; omega
      case rel => exact ⟨(wrap64 ((wrap64 (x3_1 + (ji6))) + (ji7))), (wrap64 (x4_1 + 1)), (by first | rfl | (simp; done) | (simp only [← hji6, ← hji7] <;> (first | rfl | simp)) | (simp [*]; done)), (by first | rfl | (simp; done) | (simp [*]; done)), H', ⟨by have := HK1.out; omega⟩, ⟨by repeat (first | (with_reducible first | exact HB.out | apply below_alloc | apply pw_below_drewN | apply below_drew1) | exact HB.out)⟩⟩
     ·
      rw [if_neg c5] at H
      exact absurd H (by simp)
    ·
     rw [if_neg c4] at H
     have c4b0 : decide (x3_1 < 3000) = false := decide_eq_false c4
     clear c4
     obtain rfl := Option.some.inj H
     go_wp2
     repeat (go_quiet (fail); try go_wp2)
     go_ret
     exact ⟨by first | rfl | (simp [errW_none, errW_some] <;> rfl) | (simp only [← hji2]; first | rfl | (simp [errW_none, errW_some] <;> rfl)) | (simp [*, errW_none, errW_some] <;> rfl), by repeat (first | (with_reducible first | exact HB.out | apply below_alloc | apply pw_below_drewN | apply below_drew1) | exact HB.out)⟩
   ·
    rw [if_neg c3] at H
    have c3b0 : decide (x4_1 < (l0.length : Int)) = false := decide_eq_false c3
    clear c3
    obtain rfl := Option.some.inj H
    go_wp2
    repeat (go_quiet (fail); try go_wp2)
    go_ret
    exact ⟨by first | rfl | (simp [errW_none, errW_some] <;> rfl) | (simp only [← hji2]; first | rfl | (simp [errW_none, errW_some] <;> rfl)) | (simp [*, errW_none, errW_some] <;> rfl), by repeat (first | (with_reducible first | exact HB.out | apply below_alloc | apply pw_below_drewN | apply below_drew1) | exact HB.out)⟩

end Go.Proofs.YtjdnimgkfkpaeaaDoor.Mine
