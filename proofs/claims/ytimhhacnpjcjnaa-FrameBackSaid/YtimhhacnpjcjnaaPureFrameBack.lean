import Derived.Test.YtimhhacnpjcjnaaMinex24
import Derived.Test.YtimhhacnpjcjnaaMinex3
import Derived.Test.YtimhhacnpjcjnaaMinex5
import Derived.Test.YtimhhacnpjcjnaaPureFrameParses
import Derived.Test.YtimhhacnpjcjnaaLParse
namespace Go.Proofs.Ytimhhacnpjcjnaa.Pure
set_option linter.unusedSimpArgs false
open Go.RowKit Go.Proofs.Ytimhhacnpjcjnaa.Mine Go.Proofs.YtimhhacnpjcjnaaW.PrintWords Go.Proofs.YtimhhacnpjcjnaaW.PrintLast Go.Proofs.YtimhhacnpjcjnaaW.PrintMore

/-- The bytes ahead of a payload. -/
def hd9 (n a b c : Int) : List Int := be n 3 ++ [a, b] ++ be c 4
theorem be3 (n : Int) : be n 3 = [n / 65536 % 256, n / 256 % 256, n % 256] := by
  simp only [be]
  rw [show (2 : Int) ^ (8 * 2) = 65536 by decide, show (2 : Int) ^ (8 * 1) = 256 by decide, show (2 : Int) ^ (8 * 0) = 1 by decide, Int.ediv_one]
theorem be4 (n : Int) : be n 4 = [n / 16777216 % 256, n / 65536 % 256, n / 256 % 256, n % 256] := by
  simp only [be]
  rw [show (2 : Int) ^ (8 * 3) = 16777216 by decide, show (2 : Int) ^ (8 * 2) = 65536 by decide, show (2 : Int) ^ (8 * 1) = 256 by decide, show (2 : Int) ^ (8 * 0) = 1 by decide, Int.ediv_one]
theorem hd9_eq (n a b c : Int) : hd9 n a b c = [n / 65536 % 256, n / 256 % 256, n % 256, a, b, c / 16777216 % 256, c / 65536 % 256, c / 256 % 256, c % 256] := by
  rw [hd9, be3, be4]; rfl
theorem hd9_bytes (n c : Int) {a b : Int} (ha : 0 ≤ a ∧ a ≤ 255) (hb : 0 ≤ b ∧ b ≤ 255) : Bytes (hd9 n a b c) :=
  ((be_bytes n 3).append (Bytes.cons ha.1 (by omega) (Bytes.cons hb.1 (by omega) Bytes.nil))).append (be_bytes c 4)
/-- A frame's bytes. -/
def pt (a b c : Int) (d : ByteArray) : ByteArray × Int :=
  if c > 2147483647 then ((⟨#[]⟩ : ByteArray), 1) else if (d.size : Int) > 16384 then ((⟨#[]⟩ : ByteArray), 3) else (strOfNums (hd9 (d.size : Int) a b c ++ bytesOf d), 0)
theorem print_f {k : Nat} {a b c : Int} {d : ByteArray} (hc : 0 ≤ c ∧ c ≤ 4294967295) (hk : 8 < k) : frame_Print.f k a b c d = some (pt a b c d) := by
  unfold frame_Print.f pt
  by_cases h1 : c > 2147483647
  · rw [if_pos h1, if_pos h1]
  rw [if_neg h1, if_neg h1]
  by_cases h2 : (d.size : Int) > 16384
  · rw [if_pos h2, if_pos h2]
  rw [if_neg h2, if_neg h2]
  have hz : IntKind.u64.wrap (d.size : Int) = (d.size : Int) := wu64_id (by omega) (by omega)
  have hw : IntKind.u64.wrap c = c := wu64_id hc.1 (by omega)
  have s3 : szOf 3 = 3 := by decide
  have s4 : szOf 4 = 4 := by decide
  have l3 : (be (d.size : Int) 3).length = 3 := be_length _ 3
  have l4 : (be c 4).length = 4 := be_length _ 4
  have p1 : num_Put.f k ([] : List Int) (d.size : Int) 3 = some (be (d.size : Int) 3) := by
    have := put_f (k := k) (l := []) (d.size : Int) 3 (by simp) hk
    rw [s3, List.nil_append] at this; exact this
  have p2 : num_Put.f k (be (d.size : Int) 3 ++ [a, b]) c 4 = some (be (d.size : Int) 3 ++ [a, b] ++ be c 4) := by
    have := put_f (k := k) (l := be (d.size : Int) 3 ++ [a, b]) c 4 (by rw [List.length_append, l3]; simp) hk
    rw [s4] at this; exact this
  have l5 : (be (d.size : Int) 3 ++ [a, b] ++ be c 4).length = 9 := by rw [List.length_append, List.length_append, l3, l4]; rfl
  rw [hz, hw, p1, Option.bind_some, Option.bind_some, if_pos (by rw [l3]; show 3 + 2 < 140737488355328; decide), p2, Option.bind_some, if_pos (by rw [l5]; omega)]
  rfl
theorem nine {l : List Int} (h : 9 ≤ l.length) : ∃ x0 x1 x2 x3 x4 x5 x6 x7 x8 r, l = x0 :: x1 :: x2 :: x3 :: x4 :: x5 :: x6 :: x7 :: x8 :: r := by
  match l, h with
  | x0 :: x1 :: x2 :: x3 :: x4 :: x5 :: x6 :: x7 :: x8 :: r, _ => exact ⟨x0, x1, x2, x3, x4, x5, x6, x7, x8, r, rfl⟩
theorem pn_nine (x0 x1 x2 x3 x4 x5 x6 x7 x8 : Int) (r : List Int) : pn (x0 :: x1 :: x2 :: x3 :: x4 :: x5 :: x6 :: x7 :: x8 :: r) = (x0 * 256 + x1) * 256 + x2 := by
  simp [pn, beVal]
theorem pst_nine (x0 x1 x2 x3 x4 x5 x6 x7 x8 : Int) (r : List Int) : pst (x0 :: x1 :: x2 :: x3 :: x4 :: x5 :: x6 :: x7 :: x8 :: r) = (((x5 * 256 + x6) * 256 + x7) * 256 + x8) % 2147483648 := by
  simp [pst, beVal]
theorem bt3_nine {s : ByteArray} {x0 x1 x2 x3 x4 x5 x6 x7 x8 : Int} {r : List Int} (h : bytesOf s = x0 :: x1 :: x2 :: x3 :: x4 :: x5 :: x6 :: x7 :: x8 :: r) : bt s 3 = x3 ∧ bt s 4 = x4 ∧ bt s 5 = x5 := by
  rw [bt_eq, bt_eq, bt_eq, h]; exact ⟨rfl, rfl, rfl⟩
/-- What is parsed of what was printed. -/
theorem pf_pt {a b c : Int} {d more : ByteArray} (ha : 0 ≤ a ∧ a ≤ 255) (hb : 0 ≤ b ∧ b ≤ 255) (hc : 0 ≤ c ∧ c ≤ 2147483647) (hd : d.size ≤ 16384) :
    pf (strOfNums (hd9 (d.size : Int) a b c ++ bytesOf d) ++ more) = (a, b, c, d, 9 + (d.size : Int), 0) := by
  have hbs : bytesOf (strOfNums (hd9 (d.size : Int) a b c ++ bytesOf d) ++ more) = hd9 (d.size : Int) a b c ++ bytesOf d ++ bytesOf more := by
    rw [bytesOf_append, bytesOf_str ((hd9_bytes _ c ha hb).append (bytesOf_bytes d))]
  have hsz := size_bytesOf (strOfNums (hd9 (d.size : Int) a b c ++ bytesOf d) ++ more)
  have hds := size_bytesOf d
  generalize strOfNums (hd9 (d.size : Int) a b c ++ bytesOf d) ++ more = s at *
  rw [hd9_eq] at hbs
  simp only [List.cons_append, List.nil_append] at hbs
  rw [hbs] at hsz
  simp only [List.length_cons, List.length_append] at hsz
  obtain ⟨e3, e4, _⟩ := bt3_nine hbs
  unfold pf
  rw [hbs, pn_nine, pst_nine, e3, e4]
  have hn : ((d.size : Int) / 65536 % 256 * 256 + (d.size : Int) / 256 % 256) * 256 + (d.size : Int) % 256 = (d.size : Int) := by omega
  have hcc : (((c / 16777216 % 256 * 256 + c / 65536 % 256) * 256 + c / 256 % 256) * 256 + c % 256) % 2147483648 = c := by omega
  rw [hn, hcc, if_neg (by omega), if_neg (by omega), if_neg (by omega)]
  have he : s.extract 9 (9 + (d.size : Int)).toNat = d := by
    apply bytesOf_inj
    rw [bytesOf_extract, hbs]
    simp only [List.drop_succ_cons, List.drop_zero]
    rw [show (9 + (d.size : Int)).toNat - 9 = (bytesOf d).length by omega, List.take_left]
  rw [he]
theorem pf_short {a b c : Int} {d : ByteArray} (ha : 0 ≤ a ∧ a ≤ 255) (hb : 0 ≤ b ∧ b ≤ 255) (hd : d.size ≤ 16384) :
    (pf ((strOfNums (hd9 (d.size : Int) a b c ++ bytesOf d)).extract 0 (8 + d.size))).2.2.2.2.2 = 2 := by
  have hbs : bytesOf ((strOfNums (hd9 (d.size : Int) a b c ++ bytesOf d)).extract 0 (8 + d.size)) = (hd9 (d.size : Int) a b c ++ bytesOf d).take (8 + d.size) := by
    rw [bytesOf_extract, bytesOf_str ((hd9_bytes _ c ha hb).append (bytesOf_bytes d)), List.drop_zero, Nat.sub_zero]
  have hsz := size_bytesOf ((strOfNums (hd9 (d.size : Int) a b c ++ bytesOf d)).extract 0 (8 + d.size))
  have hds := size_bytesOf d
  generalize (strOfNums (hd9 (d.size : Int) a b c ++ bytesOf d)).extract 0 (8 + d.size) = s at *
  rw [hd9_eq] at hbs
  simp only [List.cons_append, List.nil_append] at hbs
  rw [hbs, List.length_take] at hsz
  simp only [List.length_cons, List.length_append] at hsz
  unfold pf
  by_cases h9 : (s.size : Int) < 9
  · rw [if_pos h9]
  have hn : ((d.size : Int) / 65536 % 256 * 256 + (d.size : Int) / 256 % 256) * 256 + (d.size : Int) % 256 = (d.size : Int) := by omega
  have h3 : pn (bytesOf s) = (d.size : Int) := by
    rw [hbs, show 8 + d.size = (5 + d.size) + 3 by omega]
    simp only [List.take_succ_cons, pn]
    simp only [List.take_zero, beVal, List.foldl_cons, List.foldl_nil]
    omega
  rw [if_neg h9, h3, if_neg (by omega), if_pos (by omega)]
theorem back_j1 {k : Nat} {s : ByteArray} (hs : s.size ≤ 40000) (hk : 20 < k) : nunciolaw14_FrameBack.j1 (k + 1) s = some true := by
  have hsz := size_bytesOf s
  have hby := bytesOf_bytes s
  simp only [nunciolaw14_FrameBack.j1]
  rw [parse_f (by omega) hk, Option.bind_some]
  unfold pf
  by_cases h9 : (s.size : Int) < 9
  · rw [if_pos h9]; rfl
  obtain ⟨x0, x1, x2, x3, x4, x5, x6, x7, x8, r, hl⟩ := nine (l := bytesOf s) (by omega)
  obtain ⟨e3, e4, e5⟩ := bt3_nine hl
  rw [if_neg h9]
  have hB : ∀ x ∈ [x0, x1, x2, x3, x4, x5, x6, x7, x8], 0 ≤ x ∧ x < 256 := fun x hx => hby x (by rw [hl]; simp only [List.mem_cons, List.not_mem_nil, or_false] at hx ⊢; omega)
  have hr : Bytes r := fun x hx => hby x (by rw [hl]; simp only [List.mem_cons]; simp [hx])
  have b0 := hB x0 (by simp)
  have b1 := hB x1 (by simp)
  have b2 := hB x2 (by simp)
  have b3 := hB x3 (by simp)
  have b4 := hB x4 (by simp)
  have b5 := hB x5 (by simp)
  have b6 := hB x6 (by simp)
  have b7 := hB x7 (by simp)
  have b8 := hB x8 (by simp)
  clear hB
  rw [hl] at hsz
  simp only [List.length_cons] at hsz
  rw [hl, pn_nine, pst_nine, e3, e4]
  generalize hn : (x0 * 256 + x1) * 256 + x2 = n
  by_cases h1 : n > 16384
  · rw [if_pos h1]; rfl
  by_cases h2 : (s.size : Int) - 9 < n
  · rw [if_neg h1, if_pos h2]; rfl
  rw [if_neg h1, if_neg h2]
  simp only [if_true]
  have hds : (s.extract 9 (9 + n).toNat).size = n.toNat := by rw [ByteArray.size_extract]; omega
  have hdb : bytesOf (s.extract 9 (9 + n).toNat) = r.take n.toNat := by
    rw [bytesOf_extract, hl]
    simp only [List.drop_succ_cons, List.drop_zero]
    rw [show (9 + n).toNat - 9 = n.toNat by omega]
  generalize hst : (((x5 * 256 + x6) * 256 + x7) * 256 + x8) % 2147483648 = st
  have hu : pt x3 x4 st (s.extract 9 (9 + n).toNat) = (strOfNums (x0 :: x1 :: x2 :: x3 :: x4 :: (x5 % 128) :: x6 :: x7 :: x8 :: r.take n.toNat), 0) := by
    unfold pt
    rw [if_neg (by omega), if_neg (by omega), hdb, hd9_eq, hds, show ((n.toNat : Nat) : Int) = n by omega]
    rw [show n / 65536 % 256 = x0 by omega, show n / 256 % 256 = x1 by omega, show n % 256 = x2 by omega, show st / 16777216 % 256 = x5 % 128 by omega, show st / 65536 % 256 = x6 by omega, show st / 256 % 256 = x7 by omega, show st % 256 = x8 by omega]
    rfl
  rw [print_f (by omega) (by omega), hu, Option.bind_some]
  have hbu : Bytes (x0 :: x1 :: x2 :: x3 :: x4 :: (x5 % 128) :: x6 :: x7 :: x8 :: r.take n.toNat) :=
    Bytes.cons b0.1 b0.2 (Bytes.cons b1.1 b1.2 (Bytes.cons b2.1 b2.2 (Bytes.cons b3.1 b3.2 (Bytes.cons b4.1 b4.2 (Bytes.cons (by omega) (by omega) (Bytes.cons b6.1 b6.2 (Bytes.cons b7.1 b7.2 (Bytes.cons b8.1 b8.2 (hr.take _)))))))))
  have hus : (strOfNums (x0 :: x1 :: x2 :: x3 :: x4 :: (x5 % 128) :: x6 :: x7 :: x8 :: r.take n.toNat)).size = 9 + n.toNat := by
    rw [strOfNums_size]; simp only [List.length_cons, List.length_take]; omega
  have hub := bytesOf_str hbu
  generalize strOfNums (x0 :: x1 :: x2 :: x3 :: x4 :: (x5 % 128) :: x6 :: x7 :: x8 :: r.take n.toNat) = u at *
  obtain ⟨_, _, u5⟩ := bt3_nine hub
  have q1 : (u.extract 0 5).toList = (s.extract 0 5).toList := by
    rw [toList_inj]; apply bytesOf_inj
    rw [bytesOf_extract, bytesOf_extract, hub, hl]
    rfl
  have q2 : (u.extract 6 u.size).toList = (s.extract 6 (9 + n).toNat).toList := by
    rw [toList_inj]; apply bytesOf_inj
    rw [bytesOf_extract, bytesOf_extract, hub, hl, hus, show (9 + n).toNat - 6 = n.toNat + 3 by omega, show 9 + n.toNat - 6 = n.toNat + 3 by omega]
    simp only [List.drop_succ_cons, List.drop_zero, List.take_succ_cons, List.take_take, Nat.min_self]
  simp only [if_true]
  rw [if_pos (by omega), if_pos (by omega), if_pos (by omega), if_pos (by omega), if_pos q1, if_pos (by omega), if_pos (by omega), if_pos (by omega), if_pos q2, if_pos (by omega), if_pos (by omega), u5, e5, tmod_pos 128 (by omega), tmod_pos 128 (by omega), Int.emod_emod_of_dvd _ (Int.dvd_refl 128)]
  simp
theorem back_j0 {k : Nat} {a b c : Int} {d more s : ByteArray} (ha : 0 ≤ a ∧ a ≤ 255) (hb : 0 ≤ b ∧ b ≤ 255) (hc : 0 ≤ c ∧ c ≤ 4294967295) (hd : d.size ≤ 40000) (hm : more.size ≤ 1000) (hs : s.size ≤ 40000) (hk : 20 < k) :
    nunciolaw14_FrameBack.j0 (k + 1 + 1) more s false a b c d = some true := by
  have j1 := back_j1 (k := k) hs hk
  simp only [nunciolaw14_FrameBack.j0]
  rw [if_neg (by simp), print_f hc (by omega), Option.bind_some]
  unfold pt
  by_cases h1 : c > 2147483647
  · rw [if_pos h1]
    simp only [show ¬ ((1 : Int) = 0) by decide, if_false]
    rw [if_neg (by omega)]; exact j1
  by_cases h2 : (d.size : Int) > 16384
  · rw [if_neg h1, if_pos h2]
    simp only [show ¬ ((3 : Int) = 0) by decide, if_false]
    rw [if_pos (by omega), if_neg (by omega)]; exact j1
  rw [if_neg h1, if_neg h2]
  simp only [if_true]
  have hts : (strOfNums (hd9 (d.size : Int) a b c ++ bytesOf d)).size = 9 + d.size := by
    rw [strOfNums_size, List.length_append, hd9_eq, ← size_bytesOf]; rfl
  have e1 := pf_pt (more := more) ha hb ⟨hc.1, by omega⟩ (d := d) (by omega)
  have e2 := pf_short (c := c) ha hb (d := d) (by omega)
  generalize strOfNums (hd9 (d.size : Int) a b c ++ bytesOf d) = t at *
  have hts2 : (t ++ more).size ≤ 4000000000000 := by rw [ByteArray.size_append]; omega
  rw [if_pos (by omega), parse_f hts2 (by omega), e1, Option.bind_some, w64 (x := (t.size : Int) - 1) (by omega) (by omega), if_pos (by omega), if_pos (by omega), show ((t.size : Int) - 1).toNat = 8 + d.size by omega, parse_f (by rw [ByteArray.size_extract]; omega) (by omega), Option.bind_some]
  rw [if_neg (by simp), if_pos (show (9 + (d.size : Int)) = (t.size : Int) by omega), if_pos rfl, if_pos e2]
  exact j1
theorem FrameBack : nunciolaw14_FrameBack.Pure := by
  intro a b c d more s ha hb hc _ _ _
  have T : ∀ a b c d more s, nunciolaw14_FrameBack.j0 (299 + 1 + 1) more s true a b c d = some true := by
    intro a b c d more s
    simp only [nunciolaw14_FrameBack.j0]; rw [if_pos trivial]
  refine ⟨299 + 1 + 1, ?_⟩
  unfold nunciolaw14_FrameBack.f
  rw [awake14 (by omega), Option.bind_some, if_pos rfl]
  by_cases h1 : (d.size : Int) > 40000
  · rw [if_pos h1]; exact T _ _ _ _ _ _
  by_cases h2 : (more.size : Int) > 1000
  · rw [if_neg h1, if_pos h2]; exact T _ _ _ _ _ _
  rw [if_neg h1, if_neg h2]
  by_cases h3 : (s.size : Int) > 40000
  · rw [decide_eq_true h3]; exact T _ _ _ _ _ _
  · rw [decide_eq_false h3]; exact back_j0 (b_u8 ha) (b_u8 hb) (b_u32 hc) (by omega) (by omega) (by omega) (by omega)
end Go.Proofs.Ytimhhacnpjcjnaa.Pure
