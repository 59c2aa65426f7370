import Derived.Test.YtkcgenilgboimaaMinex13
import Derived.Test.YtkcgenilgboimaaMinex6
import Derived.Test.YtkcgenilgboimaaMinex9
import Derived.Test.YtkcgenilgboimaaMinex10
import Derived.Test.YtkcgenilgboimaaMinex5
import Derived.Test.YtkcgenilgboimaaMinex12
import Derived.Test.YtkcgenilgboimaaLRefGet
namespace Go.Proofs.Ytkcgenilgboimaa.Pure
open Go.RowKit Go.Proofs.Ytkcgenilgboimaa.Mine Go.Proofs.YtkcgenilgboimaaW.PrintWords Go.Proofs.YtkcgenilgboimaaW.PrintLast Go.Proofs.YtkcgenilgboimaaW.PrintMore

/-- The settings that bytes are. -/
def ps : Nat → List Int → List S42
  | 0, _ => []
  | n + 1, b => ⟨beVal 0 (b.take 2), beVal 0 ((b.drop 2).take 4)⟩ :: ps n (b.drop 6)
theorem two_bytes {b : List Int} (hb : Bytes b) : IntKind.u16.wrap (beVal 0 (b.take 2)) = beVal 0 (b.take 2) := by
  have h := beVal_range (hb.take 2)
  have h2 : (256 : Int) ^ (b.take 2).length ≤ 256 ^ 2 := pow256_le (by rw [List.length_take]; omega)
  have h3 : (256 : Int) ^ 2 = 65536 := by decide
  rw [wu16]; exact Int.emod_eq_of_lt h.1 (by omega)
theorem four_bytes {b : List Int} (hb : Bytes b) : beVal 0 (b.take 4) % 4294967296 = beVal 0 (b.take 4) := by
  have h := beVal_range (hb.take 4)
  have h2 : (256 : Int) ^ (b.take 4).length ≤ 256 ^ 4 := pow256_le (by rw [List.length_take]; omega)
  have h3 : (256 : Int) ^ 4 = 4294967296 := by decide
  exact Int.emod_eq_of_lt h.1 (by omega)
theorem parse_l0 : ∀ (n k : Nat) (s : ByteArray) (acc : List S42), s.size / 6 = n → n + 10 < k → s.size ≤ 1000000000 → acc.length + n ≤ 1000000000 →
    settings_Parse.l0 k s acc = some (acc ++ ps n (bytesOf s))
  | 0, k, s, acc, hn, hk, hs, ha => by
    obtain ⟨k, rfl⟩ : ∃ m, k = m + 1 := ⟨k - 1, by omega⟩
    simp only [settings_Parse.l0]
    rw [if_neg (by omega)]
    simp [ps]
  | n + 1, k, s, acc, hn, hk, hs, ha => by
    obtain ⟨k, rfl⟩ : ∃ m, k = m + 1 := ⟨k - 1, by omega⟩
    have hsz : (s.extract 6 s.size).size = s.size - 6 := by simp
    have hb : bytesOf (s.extract 6 s.size) = (bytesOf s).drop 6 := by
      have hl := size_bytesOf s
      rw [bytesOf_extract, List.take_of_length_le (by rw [List.length_drop]; omega)]
    simp only [settings_Parse.l0]
    rw [if_pos (by omega), get_yes (by omega) (by omega) (by omega) (by omega) (by omega) (by omega)]
    simp only [Option.bind_some]
    rw [get_yes (by omega) (by omega) (by omega) (by omega) (by omega) (by omega)]
    simp only [Option.bind_some]
    rw [if_pos (by omega), if_pos (by omega), parse_l0 n k _ _ (by rw [hsz]; omega) (by omega) (by rw [hsz]; omega) (by rw [List.length_append, List.length_singleton]; omega), hb]
    have e1 := two_bytes (bytesOf_bytes s)
    have e2 := four_bytes ((bytesOf_bytes s).drop 2)
    show some (acc ++ [(⟨IntKind.u16.wrap (beVal 0 (((bytesOf s).drop 0).take 2)), beVal 0 (((bytesOf s).drop 2).take 4) % 4294967296⟩ : S42)] ++ ps n ((bytesOf s).drop 6)) = _
    rw [List.drop_zero, e1, e2, List.append_assoc]
    rfl
theorem rparse_l0 (s : ByteArray) (hs : s.size ≤ 1000000000) : ∀ (n k i : Nat) (acc : List S42), (s.size - i) / 6 = n → i ≤ s.size → n + 10 < k → acc.length + n ≤ 1000000000 →
    nuncioref16_Parse.l0 k s acc (i : Int) = some (acc ++ ps n ((bytesOf s).drop i))
  | 0, k, i, acc, hn, hi, hk, ha => by
    obtain ⟨k, rfl⟩ : ∃ m, k = m + 1 := ⟨k - 1, by omega⟩
    simp only [nuncioref16_Parse.l0]
    rw [w64 (x := (s.size : Int) - (i : Int)) (by omega) (by omega), if_neg (by omega)]
    simp [ps]
  | n + 1, k, i, acc, hn, hi, hk, ha => by
    obtain ⟨k, rfl⟩ : ∃ m, k = m + 1 := ⟨k - 1, by omega⟩
    simp only [nuncioref16_Parse.l0]
    rw [w64 (x := (s.size : Int) - (i : Int)) (by omega) (by omega), if_pos (by omega), rget_yes (by omega) (by omega) (by omega) (by omega) (by omega) (by omega)]
    simp only [Option.bind_some]
    rw [w64 (x := (i : Int) + 2) (by omega) (by omega), rget_yes (by omega) (by omega) (by omega) (by omega) (by omega) (by omega)]
    simp only [Option.bind_some]
    have e0 : wrap64 ((i : Int) + 6) = ((i + 6 : Nat) : Int) := by rw [w64 (by omega) (by omega)]; omega
    rw [if_pos (by omega), e0, rparse_l0 s hs n k (i + 6) _ (by omega) (by omega) (by omega) (by rw [List.length_append, List.length_singleton]; omega)]
    have hb := (bytesOf_bytes s).drop i
    have e1 := two_bytes hb
    have e2 := four_bytes (hb.drop 2)
    have e3 : ((i : Int) + 2).toNat = i + 2 := by omega
    rw [Int.toNat_natCast, e3, ← List.drop_drop, ← List.drop_drop]
    show some (acc ++ [(⟨IntKind.u16.wrap (beVal 0 (((bytesOf s).drop i).take 2)), beVal 0 ((((bytesOf s).drop i).drop 2).take 4) % 4294967296⟩ : S42)] ++ ps n (((bytesOf s).drop i).drop 6)) = _
    rw [e1, e2, List.append_assoc]
    rfl
theorem list_l0 (l : List S42) (hl : l.length ≤ 1000000000) : ∀ (d k i : Nat), i + d = l.length → d < k → nunciolaw16_list.l0 k l l (i : Int) = some true
  | 0, k, i, hd, hk => by
    obtain ⟨k, rfl⟩ : ∃ m, k = m + 1 := ⟨k - 1, by omega⟩
    simp only [nunciolaw16_list.l0]
    rw [if_neg (by omega)]
  | d + 1, k, i, hd, hk => by
    obtain ⟨k, rfl⟩ : ∃ m, k = m + 1 := ⟨k - 1, by omega⟩
    have e0 : wrap64 ((i : Int) + 1) = ((i + 1 : Nat) : Int) := by rw [w64 (by omega) (by omega)]; omega
    simp only [nunciolaw16_list.l0]
    rw [if_pos (by omega), if_pos (by omega), if_pos (by omega), if_neg (by simp), e0]
    exact list_l0 l hl d k (i + 1) (by omega) (by omega)
theorem list_f {l : List S42} {k : Nat} (hl : l.length ≤ 1000000000) (hk : l.length < k) : nunciolaw16_list.f k l l = some true := by
  unfold nunciolaw16_list.f
  rw [if_pos rfl]
  exact list_l0 l hl l.length k 0 (by omega) hk
/-- The bytes that settings are. -/
def es : List S42 → List Int
  | [] => []
  | x :: l => be x.f0 2 ++ (be x.f1 4 ++ es l)
theorem es_length : ∀ l, (es l).length = 6 * l.length
  | [] => rfl
  | x :: l => by simp only [es, List.length_append, be_length, es_length l, List.length_cons]; omega
theorem es_bytes : ∀ l, Bytes (es l)
  | [] => Bytes.nil
  | x :: l => (be_bytes x.f0 2).append ((be_bytes x.f1 4).append (es_bytes l))
theorem ps_es : ∀ {l : List S42}, (∀ x ∈ l, k42_wf x) → ps l.length (es l) = l
  | [], _ => rfl
  | x :: l, h => by
    obtain ⟨h1, h2⟩ := h x List.mem_cons_self
    have h1 := b_u16 h1
    have h2 := b_u32 h2
    have e1 : (es (x :: l)).take 2 = be x.f0 2 := by
      rw [es, List.take_append_of_le_length (by rw [be_length]; omega), List.take_of_length_le (by rw [be_length]; omega)]
    have e2 : (es (x :: l)).drop 2 = be x.f1 4 ++ es l := by
      rw [es, List.drop_append_of_le_length (by rw [be_length]; omega), List.drop_eq_nil_of_le (by rw [be_length]; omega), List.nil_append]
    have e3 : ((es (x :: l)).drop 2).take 4 = be x.f1 4 := by
      rw [e2, List.take_append_of_le_length (by rw [be_length]; omega), List.take_of_length_le (by rw [be_length]; omega)]
    have e4 : (es (x :: l)).drop 6 = es l := by
      rw [show 6 = 2 + 4 from rfl, ← List.drop_drop, e2, List.drop_append_of_le_length (by rw [be_length]; omega), List.drop_eq_nil_of_le (by rw [be_length]; omega), List.nil_append]
    have p2 : (256 : Int) ^ 2 = 65536 := by decide
    have p4 : (256 : Int) ^ 4 = 4294967296 := by decide
    have e5 : beVal 0 (be x.f0 2) = x.f0 := by rw [beVal_be, p2]; exact Int.emod_eq_of_lt h1.1 (by omega)
    have e6 : beVal 0 (be x.f1 4) = x.f1 := by rw [beVal_be, p4]; exact Int.emod_eq_of_lt h2.1 (by omega)
    rw [List.length_cons, ps, e1, e3, e4, e5, e6, ps_es (fun y hy => h y (List.mem_cons_of_mem _ hy))]
theorem fset_l0 (l : List S42) (hl : l.length ≤ 1000000) (hw : ∀ x ∈ l, k42_wf x) : ∀ (d k i : Nat) (acc : List Int), i + d = l.length → d + 10 < k → acc.length + 6 * d ≤ 100000000 →
    frame_Settings.l0 k acc l (l.length : Int) (i : Int) = some (4, 0, 0, strOfNums (acc ++ es (l.drop i)))
  | 0, k, i, acc, hd, hk, ha => by
    obtain ⟨k, rfl⟩ : ∃ m, k = m + 1 := ⟨k - 1, by omega⟩
    simp only [frame_Settings.l0]
    rw [if_neg (by omega), List.drop_eq_nil_of_le (by omega)]
    simp [es]
  | d + 1, k, i, acc, hd, hk, ha => by
    obtain ⟨k, rfl⟩ : ∃ m, k = m + 1 := ⟨k - 1, by omega⟩
    have hi : i < l.length := by omega
    have e0 : wrap64 ((i : Int) + 1) = ((i + 1 : Nat) : Int) := by rw [w64 (by omega) (by omega)]; omega
    have e2 : rd_T42 l (i : Int) = l[i] := by unfold rd_T42; rw [Int.toNat_natCast]; simp [hi]
    obtain ⟨h1, h2⟩ := hw l[i] (List.getElem_mem hi)
    have h1 := b_u16 h1
    have h2 := b_u32 h2
    have s2 : szOf 2 = 2 := by decide
    have s4 : szOf 4 = 4 := by decide
    have p1 : num_Put.f k acc (IntKind.u64.wrap (l[i]).f0) 2 = some (acc ++ be (l[i]).f0 2) := by
      have := put_f (k := k) (l := acc) (l[i]).f0 2 (by omega) (by omega)
      rw [s2] at this
      rw [wu64_id (n := (l[i]).f0) h1.1 (by omega)]; exact this
    have p2 : num_Put.f k (acc ++ be (l[i]).f0 2) (IntKind.u64.wrap (l[i]).f1) 4 = some (acc ++ be (l[i]).f0 2 ++ be (l[i]).f1 4) := by
      have := put_f (k := k) (l := acc ++ be (l[i]).f0 2) (l[i]).f1 4 (by rw [List.length_append, be_length]; omega) (by omega)
      rw [s4] at this
      rw [wu64_id (n := (l[i]).f1) h2.1 (by omega)]; exact this
    have ih := fset_l0 l hl hw d k (i + 1) (acc ++ be (l[i]).f0 2 ++ be (l[i]).f1 4) (by omega) (by omega) (by rw [List.length_append, List.length_append, be_length, be_length]; omega)
    have e5 : acc ++ be (l[i]).f0 2 ++ be (l[i]).f1 4 ++ es (l.drop (i + 1)) = acc ++ es (l.drop i) := by
      rw [List.drop_eq_getElem_cons hi, es, List.append_assoc, List.append_assoc]
    rw [e5] at ih
    simp only [frame_Settings.l0]
    rw [if_pos (by omega), if_pos (by omega), if_pos (by omega), e2, p1]
    rw [Option.bind_some]
    rw [p2]
    rw [Option.bind_some]
    rw [e0]
    exact ih
theorem parse_j0t (s : ByteArray) (l : List S42) : nunciolaw16_SettingsParse.j0 (3999 + 1) s l true = some true := by
  simp only [nunciolaw16_SettingsParse.j0, if_true]
theorem awake16p {k : Nat} (hk : 100 ≤ k) : nunciolaw16_awake.f k = some true := by
  have h : nunciolaw16_awake.f 100 = some true := by decide +kernel
  exact leO_ge (nunciolaw16_awake.mono) h hk
theorem SettingsParse : nunciolaw16_SettingsParse.Pure := by
  intro s l _ hl
  refine ⟨4000, ?_⟩
  unfold nunciolaw16_SettingsParse.f
  rw [awake16p (by omega)]
  simp only [Option.bind_some, if_true]
  by_cases h1 : (s.size : Int) > 20000
  · rw [if_pos h1]; exact parse_j0t s l
  rw [if_neg h1]
  by_cases h2 : (l.length : Int) > 2000
  · rw [decide_eq_true h2]; exact parse_j0t s l
  rw [decide_eq_false h2]
  show nunciolaw16_SettingsParse.j0 (3999 + 1) s l false = some true
  simp only [nunciolaw16_SettingsParse.j0]
  have hps : ∀ n b, (ps n b).length = n := by
    intro n
    induction n with
    | zero => intro b; rfl
    | succ n ih => intro b; rw [ps, List.length_cons, ih]
  have e1 : settings_Parse.f 3999 s = some (ps (s.size / 6) (bytesOf s)) := by
    have := parse_l0 (s.size / 6) 3999 s [] rfl (by omega) (by omega) (by simp; omega)
    rw [List.nil_append] at this
    unfold settings_Parse.f; exact this
  have e2 : nuncioref16_Parse.f 3999 s = some (ps (s.size / 6) (bytesOf s)) := by
    have := rparse_l0 s (by omega) (s.size / 6) 3999 0 [] (by simp) (by omega) (by omega) (by simp; omega)
    rw [List.drop_zero, List.nil_append] at this
    unfold nuncioref16_Parse.f; exact this
  have e3 : frame_Settings.f 3999 l = some (4, 0, 0, strOfNums (es l)) := by
    have := fset_l0 l (by omega) hl.2.2 l.length 3999 0 [] (by omega) (by omega) (by simp; omega)
    rw [List.drop_zero, List.nil_append] at this
    unfold frame_Settings.f; exact this
  have e4 : settings_Parse.f 3999 (strOfNums (es l)) = some l := by
    have hz : (strOfNums (es l)).size = 6 * l.length := by rw [strOfNums_size, es_length]
    have := parse_l0 l.length 3999 (strOfNums (es l)) [] (by rw [hz]; omega) (by omega) (by rw [hz]; omega) (by simp; omega)
    rw [bytesOf_str (es_bytes l), ps_es hl.2.2, List.nil_append] at this
    unfold settings_Parse.f; exact this
  rw [if_neg (by simp), e1]
  rw [Option.bind_some]
  rw [e2]
  rw [Option.bind_some]
  rw [list_f (by rw [hps]; omega) (by rw [hps]; omega)]
  rw [Option.bind_some, if_pos rfl]
  rw [e3]
  rw [Option.bind_some]
  show ((settings_Parse.f 3999 (strOfNums (es l))).bind fun t305 => (nunciolaw16_list.f 3999 t305 l).bind fun t308 => some t308) = some true
  rw [e4]
  rw [Option.bind_some]
  rw [list_f (by omega) (by omega)]
  rfl
end Go.Proofs.Ytkcgenilgboimaa.Pure
