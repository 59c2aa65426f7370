import Derived.Test.YtimhhacnpjcjnaaMinex18
import Derived.Test.YtimhhacnpjcjnaaMinex13
import Derived.Test.YtimhhacnpjcjnaaMinex3
import Derived.Test.YtimhhacnpjcjnaaMinex5
import Derived.Test.YtimhhacnpjcjnaaMinex15
import Derived.Test.YtimhhacnpjcjnaaMinex17
import Derived.Test.YtimhhacnpjcjnaaMinex16
import Derived.Test.YtimhhacnpjcjnaaMinex14
import Derived.Test.YtimhhacnpjcjnaaLRefGet
import Derived.Test.YtimhhacnpjcjnaaLNum
namespace Go.Proofs.Ytimhhacnpjcjnaa.Pure
open Go.RowKit Go.Proofs.Ytimhhacnpjcjnaa.Mine Go.Proofs.YtimhhacnpjcjnaaW.PrintWords Go.Proofs.YtimhhacnpjcjnaaW.PrintLast Go.Proofs.YtimhhacnpjcjnaaW.PrintMore

theorem str_append {a b : List Int} (ha : Bytes a) (hb : Bytes b) : strOfNums (a ++ b) = strOfNums a ++ strOfNums b := by
  apply bytesOf_inj
  rw [bytesOf_append, bytesOf_str ha, bytesOf_str hb, bytesOf_str (ha.append hb)]
theorem and31 {m : Int} (h0 : 0 ≤ m) (h1 : m < 4294967296) : Go.bits .and .u32 (m % 4294967296) 2147483647 = m % 2147483648 := by
  rw [Int.emod_eq_of_lt h0 h1, u32_and _ _ h0 h1 (by omega) (by omega)]
  have h2 : m.toNat &&& (2147483647 : Int).toNat = m.toNat % 2147483648 := Nat.and_two_pow_sub_one_eq_mod m.toNat 31
  rw [h2]
  omega
theorem be_div (n : Int) (j : Nat) : be n (j + 1) = ((n / 2 ^ (8 * j)) % 256) :: be n j := rfl
theorem rput_l0 (s : ByteArray) (n : Int) (h0 : 0 ≤ n) (hn : n < 18446744073709551616) (hs : s.size ≤ 1000000000) (z : Nat) (hz : z ≤ 8) : ∀ (d k i : Nat), i + d = z → d < k →
    nuncioref01_Put.l0 k s (n / 2 ^ (8 * i)) (z : Int) (strOfNums (be n i)) (i : Int) = some (s ++ strOfNums (be n z))
  | 0, k, i, hd, hk => by
    obtain ⟨k, rfl⟩ : ∃ m, k = m + 1 := ⟨k - 1, by omega⟩
    have hl : (strOfNums (be n i)).size = i := by rw [strOfNums_size, be_length]
    obtain rfl : i = z := by omega
    simp only [nuncioref01_Put.l0]
    rw [if_neg (by omega), if_pos (by omega)]
  | d + 1, k, i, hd, hk => by
    obtain ⟨k, rfl⟩ : ∃ m, k = m + 1 := ⟨k - 1, by omega⟩
    have hl : (strOfNums (be n i)).size = i := by rw [strOfNums_size, be_length]
    have hq0 : 0 ≤ n / 2 ^ (8 * i) := Int.ediv_nonneg h0 (Int.pow_nonneg (by omega))
    have hq1 : n / 2 ^ (8 * i) ≤ n := Int.ediv_le_self _ h0
    have hstep : n / 2 ^ (8 * i) / 256 = n / 2 ^ (8 * (i + 1)) := by
      rw [Int.ediv_ediv_of_nonneg (Int.pow_nonneg (by omega)), show 8 * (i + 1) = 8 * i + 8 by omega, Int.pow_add]
      rfl
    have hq2 : 0 ≤ n / 2 ^ (8 * (i + 1)) := by rw [← hstep]; omega
    have hq3 : n / 2 ^ (8 * (i + 1)) < 18446744073709551616 := by rw [← hstep]; omega
    have hb : Bytes [n / 2 ^ (8 * i) % 256] := Bytes.cons (by omega) (by omega) Bytes.nil
    have hs1 : (strOfNums [n / 2 ^ (8 * i) % 256]).size = 1 := by rw [strOfNums_size]; rfl
    have e3 : strOfNums [n / 2 ^ (8 * i) % 256] ++ strOfNums (be n i) = strOfNums (be n (i + 1)) := by
      rw [← str_append hb (be_bytes n i)]
      rfl
    have ih := rput_l0 s n h0 hn hs z hz d k (i + 1) (by omega) (by omega)
    simp only [nuncioref01_Put.l0]
    rw [if_pos (by omega), if_pos (by omega), tmod_pos 256 hq0, Int.emod_emod_of_dvd _ (Int.dvd_refl 256), Option.bind_some, if_pos (by omega), e3, tdiv_pos 256 hq0, hstep, wu64_id hq2 hq3, w64 (x := (i : Int) + 1) (by omega) (by omega)]
    exact ih
theorem rput_f {k : Nat} {s : ByteArray} {n : Int} (z : Nat) (h0 : 0 ≤ n) (hn : n < 18446744073709551616) (hs : s.size ≤ 1000000000) (hz : z ≤ 8) (hk : 8 < k) : nuncioref01_Put.f k s n (z : Int) = some (s ++ strOfNums (be n z)) := by
  have := rput_l0 s n h0 hn hs z hz z k 0 (by omega) (by omega)
  rw [Nat.mul_zero, Int.pow_zero, Int.ediv_one] at this
  exact this
theorem print_same {k : Nat} {a b c : Int} {d : ByteArray} (ha : 0 ≤ a ∧ a ≤ 255) (hb : 0 ≤ b ∧ b ≤ 255) (hc : 0 ≤ c ∧ c ≤ 4294967295) (hk : 8 < k) :
    ∃ r, frame_Print.f k a b c d = some r ∧ nuncioref14_Print.f k a b c d = some r := by
  unfold frame_Print.f nuncioref14_Print.f
  by_cases h1 : c > 2147483647
  · rw [if_pos h1, if_pos h1]; exact ⟨_, rfl, rfl⟩
  rw [if_neg h1, if_neg h1]
  by_cases h2 : (d.size : Int) > 16384
  · rw [if_pos h2, if_pos h2]; exact ⟨_, rfl, rfl⟩
  rw [if_neg h2, if_neg h2]
  have hz : IntKind.u64.wrap (d.size : Int) = (d.size : Int) := wu64_id (by omega) (by omega)
  have hw : IntKind.u64.wrap c = c := wu64_id hc.1 (by omega)
  have hab : Bytes [a, b] := Bytes.cons ha.1 (by omega) (Bytes.cons hb.1 (by omega) Bytes.nil)
  have s3 : szOf 3 = 3 := by decide
  have s4 : szOf 4 = 4 := by decide
  have l3 : (be (d.size : Int) 3).length = 3 := be_length _ 3
  have l4 : (be c 4).length = 4 := be_length _ 4
  have p1 : num_Put.f k ([] : List Int) (d.size : Int) 3 = some (be (d.size : Int) 3) := by
    have := put_f (k := k) (l := []) (d.size : Int) 3 (by simp) hk
    rw [s3, List.nil_append] at this; exact this
  have p2 : num_Put.f k (be (d.size : Int) 3 ++ [a, b]) c 4 = some (be (d.size : Int) 3 ++ [a, b] ++ be c 4) := by
    have := put_f (k := k) (l := be (d.size : Int) 3 ++ [a, b]) c 4 (by rw [List.length_append, l3]; simp) hk
    rw [s4] at this; exact this
  have e0 : (⟨#[]⟩ : ByteArray) ++ strOfNums (be (d.size : Int) 3) = strOfNums (be (d.size : Int) 3) := by
    apply bytesOf_inj; rw [bytesOf_append, bytesOf_empty, List.nil_append]
  have q1 : nuncioref01_Put.f k (⟨#[]⟩ : ByteArray) (d.size : Int) 3 = some (strOfNums (be (d.size : Int) 3)) := by
    have := rput_f (k := k) (s := (⟨#[]⟩ : ByteArray)) (n := (d.size : Int)) 3 (by omega) (by omega) (by decide) (by omega) hk
    rw [e0] at this; exact this
  have z1 : (strOfNums (be (d.size : Int) 3)).size = 3 := by rw [strOfNums_size, l3]
  have z2 : (strOfNums [a, b]).size = 2 := by rw [strOfNums_size]; rfl
  have z3 : (strOfNums (be (d.size : Int) 3) ++ strOfNums [a, b]).size = 5 := by rw [ByteArray.size_append, z1, z2]
  have q2 : nuncioref01_Put.f k (strOfNums (be (d.size : Int) 3) ++ strOfNums [a, b]) c 4 = some (strOfNums (be (d.size : Int) 3) ++ strOfNums [a, b] ++ strOfNums (be c 4)) :=
    rput_f (k := k) 4 hc.1 (by omega) (by omega) (by omega) hk
  have z4 : (strOfNums (be (d.size : Int) 3) ++ strOfNums [a, b] ++ strOfNums (be c 4)).size = 9 := by rw [ByteArray.size_append, z3, strOfNums_size, l4]
  have l5 : (be (d.size : Int) 3 ++ [a, b] ++ be c 4).length = 9 := by rw [List.length_append, List.length_append, l3, l4]; rfl
  have fin : strOfNums (be (d.size : Int) 3 ++ [a, b] ++ be c 4 ++ bytesOf d) = strOfNums (be (d.size : Int) 3) ++ strOfNums [a, b] ++ strOfNums (be c 4) ++ d := by
    have h3 := be_bytes (d.size : Int) 3
    have h4 := be_bytes c 4
    rw [str_append ((h3.append hab).append h4) (bytesOf_bytes d), str_append (h3.append hab) h4, str_append h3 hab, str_bytesOf]
  rw [hz, hw, p1, q1, Option.bind_some, Option.bind_some, Option.bind_some, Option.bind_some, if_pos (by rw [l3]; show 3 + 2 < 140737488355328; decide), if_pos (by rw [z1, z2]; decide), p2, q2, Option.bind_some, Option.bind_some, if_pos (by rw [l5]; omega), if_pos (by rw [z4]; omega), fin]
  exact ⟨_, rfl, rfl⟩
theorem parse_same {k : Nat} {s : ByteArray} (hs : s.size ≤ 40000) (hk : 20 < k) : ∃ r, frame_Parse.f k s = some r ∧ nuncioref14_Parse.f k s = some r := by
  unfold frame_Parse.f nuncioref14_Parse.f
  by_cases h9 : (s.size : Int) < 9
  · rw [if_pos h9, part_no (by omega) (by omega), Option.bind_some, if_neg (by simp)]
    exact ⟨_, rfl, rfl⟩
  have hl := size_bytesOf s
  have hsz : (s.extract (0 : Int).toNat (0 + 9 : Int).toNat).size = 9 := by rw [ByteArray.size_extract]; show min 9 s.size - 0 = 9; omega
  have hx : bytesOf (s.extract (0 : Int).toNat (0 + 9 : Int).toNat) = (bytesOf s).take 9 := by
    rw [bytesOf_extract]; show ((bytesOf s).drop 0).take 9 = _; rw [List.drop_zero]
  have t3 : (((bytesOf s).take 9).drop 0).take 3 = (bytesOf s).take 3 := by rw [List.drop_zero, List.take_take]; rfl
  have t4 : (((bytesOf s).take 9).drop 5).take 4 = ((bytesOf s).drop 5).take 4 := by rw [List.drop_take, List.take_take]; rfl
  have g1 : num_Get.f k (s.extract (0 : Int).toNat (0 + 9 : Int).toNat) 0 3 = some (beVal 0 ((bytesOf s).take 3), true) := by
    have := get_yes (k := k) (s := s.extract (0 : Int).toNat (0 + 9 : Int).toNat) (at_ := 0) (n := 3) (by omega) (by omega) (by omega) (by omega) (by omega) (by omega)
    rw [hx] at this; rw [this]; show some (beVal 0 ((((bytesOf s).take 9).drop 0).take 3), true) = _; rw [t3]
  have g2 : num_Get.f k (s.extract (0 : Int).toNat (0 + 9 : Int).toNat) 5 4 = some (beVal 0 (((bytesOf s).drop 5).take 4), true) := by
    have := get_yes (k := k) (s := s.extract (0 : Int).toNat (0 + 9 : Int).toNat) (at_ := 5) (n := 4) (by omega) (by omega) (by omega) (by omega) (by omega) (by omega)
    rw [hx] at this; rw [this]; show some (beVal 0 ((((bytesOf s).take 9).drop 5).take 4), true) = _; rw [t4]
  have b3 := beVal_range ((bytesOf_bytes s).take 3)
  have b4 := beVal_range (((bytesOf_bytes s).drop 5).take 4)
  rw [show ((bytesOf s).take 3).length = 3 by rw [List.length_take]; omega, show (256 : Int) ^ 3 = 16777216 by decide] at b3
  rw [show (((bytesOf s).drop 5).take 4).length = 4 by rw [List.length_take, List.length_drop]; omega, show (256 : Int) ^ 4 = 4294967296 by decide] at b4
  generalize hn : beVal 0 ((bytesOf s).take 3) = n at *
  generalize hm : beVal 0 (((bytesOf s).drop 5).take 4) = m at *
  have r1 : nuncioref14_get.f k s 0 3 = some n := by
    unfold nuncioref14_get.f
    rw [rget_yes (by omega) (by omega) (by omega) (by omega) (by omega) (by omega), Option.bind_some]
    show some (wrap64 (beVal 0 (((bytesOf s).drop 0).take 3))) = some n
    rw [List.drop_zero, hn, w64 (x := n) (by omega) (by omega)]
  have r2 : nuncioref14_get.f k s 5 4 = some m := by
    unfold nuncioref14_get.f
    rw [rget_yes (by omega) (by omega) (by omega) (by omega) (by omega) (by omega), Option.bind_some]
    show some (wrap64 (beVal 0 (((bytesOf s).drop 5).take 4))) = some m
    rw [hm, w64 (x := m) (by omega) (by omega)]
  have at3 : bt (s.extract (0 : Int).toNat (0 + 9 : Int).toNat) 3 = bt s 3 := by
    rw [bt_eq, bt_eq, hx]
    show rd ((bytesOf s).take 9) ((3 : Nat) : Int) = rd (bytesOf s) ((3 : Nat) : Int)
    rw [rd_nat (by rw [List.length_take]; omega), rd_nat (by omega), List.getElem_take]
  have at4 : bt (s.extract (0 : Int).toNat (0 + 9 : Int).toNat) 4 = bt s 4 := by
    rw [bt_eq, bt_eq, hx]
    show rd ((bytesOf s).take 9) ((4 : Nat) : Int) = rd (bytesOf s) ((4 : Nat) : Int)
    rw [rd_nat (by rw [List.length_take]; omega), rd_nat (by omega), List.getElem_take]
  rw [if_neg h9, part_yes (s := s) (at_ := 0) (n := 9) (by omega) (by omega) (by omega) (by omega), Option.bind_some, if_pos rfl, g1, r1, Option.bind_some, Option.bind_some]
  by_cases h1 : n > 16384
  · rw [if_pos h1, if_pos h1]; exact ⟨_, rfl, rfl⟩
  rw [if_neg h1, if_neg h1, g2, Option.bind_some, w64 (x := n) (by omega) (by omega), w64 (x := (s.size : Int) - 9) (by omega) (by omega)]
  by_cases h2 : (s.size : Int) - 9 < n
  · rw [if_pos h2, part_no (by omega) (by omega), Option.bind_some, if_neg (by simp)]
    exact ⟨_, rfl, rfl⟩
  rw [if_neg h2, part_yes (s := s) (at_ := 9) (n := n) (by omega) (by omega) (by omega) (by omega), Option.bind_some, if_pos rfl, if_pos (by rw [hsz]; decide), if_pos (by rw [hsz]; decide), if_pos (by omega), if_pos (by omega), r2, Option.bind_some,
    w64 (x := 9 + n) (by omega) (by omega), if_pos (by omega), if_pos (by omega), at3, at4, and31 b4.1 b4.2, tmod_pos 2147483648 b4.1, Int.emod_eq_of_lt (a := m % 2147483648) (by omega) (by omega)]
  exact ⟨_, rfl, rfl⟩
theorem awake14 {k : Nat} (hk : 200 ≤ k) : nunciolaw14_awake.f k = some true := by
  have h : nunciolaw14_awake.f 200 = some true := by decide +kernel
  exact leO_ge (nunciolaw14_awake.mono) h hk
theorem fparses_t (s : ByteArray) (a b c : Int) (d : ByteArray) : nunciolaw14_FrameParses.j0 (299 + 1) s true a b c d = some true := by
  simp only [nunciolaw14_FrameParses.j0, if_true]
theorem fparses_f {s : ByteArray} {a b c : Int} {d : ByteArray} (hs : s.size ≤ 40000) (ha : 0 ≤ a ∧ a ≤ 255) (hb : 0 ≤ b ∧ b ≤ 255) (hc : 0 ≤ c ∧ c ≤ 4294967295) : nunciolaw14_FrameParses.j0 (299 + 1) s false a b c d = some true := by
  obtain ⟨r, h1, h2⟩ := parse_same (k := 299) hs (by omega)
  obtain ⟨q, h3, h4⟩ := print_same (k := 299) (d := d) ha hb hc (by omega)
  simp only [nunciolaw14_FrameParses.j0]
  rw [if_neg (by simp), h1, h2, h3, h4, Option.bind_some, Option.bind_some, Option.bind_some, Option.bind_some]
  simp
theorem FrameParses : nunciolaw14_FrameParses.Pure := by
  intro s a b c d _ ha hb hc _
  refine ⟨299 + 1, ?_⟩
  unfold nunciolaw14_FrameParses.f
  rw [awake14 (by omega), Option.bind_some, if_pos rfl]
  by_cases h1 : (s.size : Int) > 40000
  · rw [if_pos h1]; exact fparses_t s a b c d
  rw [if_neg h1]
  by_cases h2 : (d.size : Int) > 40000
  · rw [decide_eq_true h2]; exact fparses_t s a b c d
  · rw [decide_eq_false h2]; exact fparses_f (by omega) (b_u8 ha) (b_u8 hb) (b_u32 hc)
end Go.Proofs.Ytimhhacnpjcjnaa.Pure
