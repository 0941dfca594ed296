/- Plain laws of records: a record is cut as it was, by the program and by its reference. -/
import Derived.Test.YthlgjipbpgaobaaDoorPaxM
import Derived.Lib.AtoiAllCases
namespace Go.Proofs.YthlgjipbpgaobaaDoor

theorem dec_small {n : Nat} (h : n < 10) : dec n = [UInt8.ofNat (48 + n)] := Lib.decDigits_one h
theorem dec_big {n : Nat} (h : ¬ n < 10) : dec n = dec (n / 10) ++ [UInt8.ofNat (48 + n % 10)] := by
  show Lib.decDigits n = Lib.decDigits (n / 10) ++ _
  rw [Lib.decDigits, dif_neg h]
theorem digit_nat : ∀ d : Fin 10, (UInt8.ofNat (48 + d.val)).toNat = 48 + d.val := by decide
theorem digit_nat' {d : Nat} (h : d < 10) : (UInt8.ofNat (48 + d)).toNat = 48 + d := digit_nat ⟨d, h⟩
theorem isDig_digit {d : Nat} (h : d < 10) : isDig (UInt8.ofNat (48 + d)) = true := by
  simp only [isDig, digit_nat' h, Bool.and_eq_true, decide_eq_true_eq]; omega

/-- What holds of 'dec' at every number. -/
theorem dec_ind {C : Nat → List UInt8 → Prop} (h0 : ∀ n, n < 10 → C n [UInt8.ofNat (48 + n)])
    (h1 : ∀ n l, 0 < n → C n l → ∀ d, d < 10 → C (10 * n + d) (l ++ [UInt8.ofNat (48 + d)])) : ∀ n, C n (dec n) := by
  intro n
  induction n using Nat.strongRecOn with
  | _ n ih =>
    by_cases h : n < 10
    · rw [dec_small h]; exact h0 n h
    · rw [dec_big h]
      have := h1 (n / 10) _ (by omega) (ih (n / 10) (by omega)) (n % 10) (by omega)
      rwa [show 10 * (n / 10) + n % 10 = n from by omega] at this

theorem dec_digits (n : Nat) : ∀ c ∈ dec n, isDig c = true := by
  refine dec_ind (C := fun _ l => ∀ c ∈ l, isDig c = true) (fun n hn c hc => ?_) (fun n l _ ih d hd c hc => ?_) n
  · simp only [List.mem_cons, List.not_mem_nil, or_false] at hc; subst hc; exact isDig_digit hn
  · rcases List.mem_append.1 hc with hc | hc
    · exact ih c hc
    · simp only [List.mem_cons, List.not_mem_nil, or_false] at hc; subst hc; exact isDig_digit hd
theorem valD_dec (n : Nat) : valD (dec n) = n := by
  refine dec_ind (C := fun n l => valD l = n) (fun n hn => ?_) (fun n l _ ih d hd => ?_) n
  · show 10 * 0 + ((UInt8.ofNat (48 + n)).toNat - 48) = n
    rw [digit_nat' hn]; omega
  · rw [valD_snoc, ih, digit_nat' hd]; omega
theorem dec_ne (n : Nat) : dec n ≠ [] := by
  intro h
  have := Lib.nDigits_pos n
  rw [← dec_length, h] at this
  simp at this
theorem dec_head (n : Nat) : 0 < n → (dec n).head? ≠ some 48 := by
  refine (dec_ind (C := fun n l => l ≠ [] ∧ (0 < n → l.head? ≠ some 48)) (fun n hn => ⟨by simp, fun h0 h => ?_⟩) (fun n l hn0 ih d hd => ⟨by simp, fun _ => ?_⟩) n).2
  · simp only [List.head?_cons, Option.some.injEq] at h
    have := congrArg UInt8.toNat h
    rw [digit_nat' hn] at this
    have e : (48 : UInt8).toNat = 48 := rfl
    omega
  · have h := ih.2 hn0
    cases l with
    | nil => exact absurd rfl ih.1
    | cons c r => simpa using h
theorem parse_valD : ∀ (l : List UInt8) (acc : Nat), (∀ c ∈ l, isDig c = true) → l.foldl (fun a c => 10 * a + (c.toNat - 48)) acc < 1000000000 → Lib.parseUint10 acc l = .ok (l.foldl (fun a c => 10 * a + (c.toNat - 48)) acc)
  | [], acc, _, _ => rfl
  | c :: r, acc, hd, hl => by
    have hc := hd c (List.mem_cons_self ..)
    simp only [isDig, Bool.and_eq_true, decide_eq_true_eq] at hc
    simp only [List.foldl_cons] at hl ⊢
    have hle : ∀ (l : List UInt8) (a : Nat), a ≤ l.foldl (fun a c => 10 * a + (c.toNat - 48)) a := by
      intro l
      induction l with
      | nil => intro a; exact Nat.le_refl _
      | cons x y ih => intro a; exact Nat.le_trans (show a ≤ 10 * a + (x.toNat - 48) by omega) (ih _)
    have h1 := hle r (10 * acc + (c.toNat - 48))
    rw [Lib.parseUint10, if_pos hc, if_neg (by omega), if_neg (by omega), show acc * 10 + (c.toNat - 48) = 10 * acc + (c.toNat - 48) from by omega]
    exact parse_valD r _ (fun c hc => hd c (List.mem_cons_of_mem _ hc)) hl
theorem atoi_dec (n : Nat) (hn : n < 1000000000) : Lib.atoiAll (dec n) = .ok (n : Int) := by
  have hd := dec_digits n
  have hv := valD_dec n
  have hne := dec_ne n
  have hp := parse_valD (dec n) 0 hd (by show valD (dec n) < _; omega)
  have hp' : Lib.parseMag (dec n) = .ok n := by
    rw [Lib.parseMag, if_neg hne, hp]
    exact congrArg _ hv
  cases hl : dec n with
  | nil => exact absurd hl hne
  | cons c r =>
    rw [hl] at hp' hd
    have hc := hd c (List.mem_cons_self ..)
    simp only [isDig, Bool.and_eq_true, decide_eq_true_eq] at hc
    unfold Lib.atoiAll
    simp only
    rw [if_neg (by omega), hp']
    simp only
    rw [if_neg (by omega), if_neg (by omega), if_neg (by omega)]

theorem not_mem_digits {l : List UInt8} (h : ∀ c ∈ l, isDig c = true) {x : UInt8} (hx : isDig x = false) : x ∉ l := fun hm => by rw [h x hm] at hx; cases hx

theorem cut1_hit (c : UInt8) : ∀ (T r : List UInt8), c ∉ T → cut1 c (T ++ c :: r) = (T, r, true)
  | [], r, _ => by simp [cut1]
  | x :: T, r, h => by
    have hx : (x == c) = false := by rw [beq_eq_false_iff_ne]; rintro rfl; exact h (List.mem_cons_self ..)
    have ih := cut1_hit c T r (fun hm => h (List.mem_cons_of_mem _ hm))
    simp [cut1, hx, ih]
theorem cut1_found (c : UInt8) : ∀ s : List UInt8, (cut1 c s).2.2 = true → s = (cut1 c s).1 ++ c :: (cut1 c s).2.1 ∧ c ∉ (cut1 c s).1
  | [], h => by simp [cut1] at h
  | x :: r, h => by
    by_cases hx : x = c
    · subst hx; simp [cut1]
    · have hx' : (x == c) = false := by simpa using hx
      simp only [cut1, hx', Bool.false_eq_true, if_false] at h ⊢
      obtain ⟨h1, h2⟩ := cut1_found c r h
      refine ⟨by rw [List.cons_append, ← h1], ?_⟩
      intro hm
      rcases List.mem_cons.1 hm with rfl | hm
      · exact hx rfl
      · exact h2 hm
theorem digs_hit : ∀ (T : List UInt8) (x : UInt8) (r : List UInt8), (∀ c ∈ T, isDig c = true) → isDig x = false → digs (T ++ x :: r) = T.length
  | [], x, r, _, hx => by simp [digs, hx]
  | c :: T, x, r, h, hx => by
    have ih := digs_hit T x r (fun c hc => h c (List.mem_cons_of_mem _ hc)) hx
    simp [digs, h c (List.mem_cons_self ..), ih]

theorem suffix_ten {body : List UInt8} (h : Lib.hasSuffix body [10] = true) : body = Lib.trimSuffix body [10] ++ [10] := by
  have h1 : [10] <:+ body := by simpa [Lib.hasSuffix] using h
  obtain ⟨t, ht⟩ := h1
  have e : Lib.trimSuffix body [10] = t := by
    unfold Lib.trimSuffix
    rw [if_pos h, ← ht]
    simp
  rw [e, ht]
theorem suffix_mk (t : List UInt8) : Lib.hasSuffix (t ++ [10]) [10] = true ∧ Lib.trimSuffix (t ++ [10]) [10] = t := by
  have h : Lib.hasSuffix (t ++ [10]) [10] = true := by simp [Lib.hasSuffix]
  refine ⟨h, ?_⟩
  unfold Lib.trimSuffix
  rw [if_pos h]
  simp

theorem contains_false {l : List UInt8} {c : UInt8} (h : c ∉ l) : l.contains c = false := by simpa using h

theorem numM_some {s T : List UInt8} {n : Nat} (h : numM s T = some n) : T = dec n ∧ T.length ≤ 9 ∧ n ≤ s.length ∧ T.length + 1 < n ∧ lenM (n - T.length) = n := by
  unfold numM at h
  split at h
  · split at h
    · rename_i v _ hc
      simp only [Option.some.injEq] at h
      obtain ⟨h1, h2, h3, h4, h5⟩ := hc
      obtain ⟨m, rfl⟩ : ∃ m : Nat, v = m := ⟨v.toNat, by omega⟩
      simp only [Int.toNat_natCast] at h h5
      subst h
      rw [Lib.itoa_nonneg] at h1
      exact ⟨h1.symm, h2, by omega, by omega, h5⟩
    · cases h
  · cases h

/-- What is cut is a record. -/
theorem cut_rec {s : List UInt8} {p : List UInt8 × List UInt8} {rest : List UInt8} (h : cutM s = some (p, rest)) : keyOk p.1 = true ∧ s = recM p ++ rest := by
  unfold cutM cutAt at h
  split at h
  · rename_i his
    obtain ⟨hs, hT⟩ := cut1_found 32 s his
    generalize (cut1 32 s).1 = T at h hs hT
    generalize (cut1 32 s).2.1 = after at hs
    cases hn : numM s T with
    | none => simp [hn] at h
    | some n =>
      obtain ⟨rfl, h9, hns, hTn, hlen⟩ := numM_some hn
      simp only [hn, Option.bind_some] at h
      cases hb : bodyM (((s.drop ((dec n).length + 1)).take (n - ((dec n).length + 1)))) with
      | none => simp [hb] at h
      | some q =>
        simp only [hb, Option.map_some, Option.some.injEq, Prod.mk.injEq] at h
        obtain ⟨rfl, rfl⟩ := h
        unfold bodyM at hb
        split at hb
        · rename_i hc
          simp only [Option.some.injEq] at hb
          subst hb
          simp only [Bool.and_eq_true, Bool.not_eq_true', beq_eq_false_iff_ne] at hc
          obtain ⟨⟨c1, c2⟩, c3⟩ := hc
          have e1 := suffix_ten c1
          obtain ⟨e2, e3⟩ := cut1_found 61 _ c2
          generalize hbody : (s.drop ((dec n).length + 1)).take (n - ((dec n).length + 1)) = body at *
          generalize (cut1 61 (Lib.trimSuffix body [10])).1 = key at *
          generalize (cut1 61 (Lib.trimSuffix body [10])).2.1 = value at *
          have hk : keyOk key = true := by
            simp only [keyOk, contains_false e3, Bool.not_false, Bool.and_true]
            simpa using c3
          refine ⟨hk, ?_⟩
          have eb : body = key ++ 61 :: value ++ [10] := by rw [e1, e2]
          have hbl : body.length = n - ((dec n).length + 1) := by
            rw [← hbody, List.length_take, List.length_drop]; omega
          have hrest : restM (key, value) = 32 :: body := by rw [eb]; simp [restM]
          have hrl : (restM (key, value)).length = n - (dec n).length := by rw [hrest]; simp only [List.length_cons]; omega
          have hst : s.take n = dec n ++ 32 :: body := by
            have hd : s.drop ((dec n).length + 1) = after := by rw [hs]; simp
            rw [← hbody, hd]
            rw [hs]
            rw [List.take_append]
            rw [List.take_of_length_le (by omega)]
            congr 1
            obtain ⟨m, hm⟩ : ∃ m, n - (dec n).length = m + 1 := ⟨n - (dec n).length - 1, by omega⟩
            rw [hm, List.take_succ_cons, show n - ((dec n).length + 1) = m from by omega]
          have : recM (key, value) = s.take n := by rw [hst, recM, hrl, hlen, hrest]
          rw [this, List.take_append_drop]
        · cases hb
  · cases h

theorem restM_length (p : List UInt8 × List UInt8) : (restM p).length = p.1.length + p.2.length + 3 := by
  simp only [restM, List.length_append, List.length_cons, List.length_nil]; omega
theorem recM_length {p : List UInt8 × List UInt8} (h : (recM p).length ≤ 100000000) : (recM p).length = lenM (restM p).length ∧ lenM (restM p).length < 1000000000 ∧ (restM p).length + 10 < 1000000000 := by
  have h1 : (recM p).length = (dec (lenM (restM p).length)).length + (restM p).length := by simp [recM]
  have h2 := (lenM_fix (restM p).length (by omega)).1
  rw [← dec_length] at h2
  have h3 := lenM_le (restM p).length
  omega

/-- A record is cut as it was. -/
theorem rec_cut {p : List UInt8 × List UInt8} (rest : List UInt8) (hk : keyOk p.1 = true) (hl : (recM p).length ≤ 100000000) : cutM (recM p ++ rest) = some (p, rest) := by
  obtain ⟨key, value⟩ := p
  obtain ⟨h1, h2, h3⟩ := recM_length hl
  have hfix := (lenM_fix (restM (key, value)).length h3).1
  have hrl := restM_length (key, value)
  have hlr : (dec (lenM (restM (key, value)).length)).length + (restM (key, value)).length = lenM (restM (key, value)).length := by rw [dec_length]; exact hfix
  have hrec : recM (key, value) = dec (lenM (restM (key, value)).length) ++ 32 :: (key ++ 61 :: value ++ [10]) := by simp [recM, restM]
  generalize hn : lenM (restM (key, value)).length = n at *
  have hdig := dec_digits n
  have h32 : (32 : UInt8) ∉ dec n := not_mem_digits hdig (by decide)
  have h61 : (61 : UInt8) ∉ key := by simp only [keyOk, Bool.and_eq_true, Bool.not_eq_true'] at hk; simpa using hk.2
  have hkne : key ≠ [] := by simp only [keyOk, Bool.and_eq_true, Bool.not_eq_true'] at hk; simpa using hk.1
  have hd9 : (dec n).length ≤ 9 := by
    rw [dec_length]
    exact nDigits_le n 9 (by have e9 : (10 : Nat) ^ 9 = 1000000000 := by decide
                             omega) (by omega)
  simp only at hrl
  have hc : cut1 32 (recM (key, value) ++ rest) = (dec n, key ++ 61 :: value ++ [10] ++ rest, true) := by
    rw [hrec, List.append_assoc, List.cons_append]
    exact cut1_hit 32 (dec n) _ h32
  unfold cutM cutAt
  rw [hc]
  simp only [if_true]
  have hnum : numM (recM (key, value) ++ rest) (dec n) = some n := by
    unfold numM
    rw [atoi_dec n h2]
    simp only [Int.toNat_natCast]
    rw [if_pos]
    refine ⟨Lib.itoa_nonneg n, hd9, ?_, ?_, ?_⟩
    · simp only [List.length_append]; omega
    · omega
    · rw [show n - (dec n).length = (restM (key, value)).length from by omega]; exact hn
  rw [hnum]
  simp only [Option.bind_some]
  have hdrop : (recM (key, value) ++ rest).drop ((dec n).length + 1) = key ++ 61 :: value ++ [10] ++ rest := by
    rw [hrec]; simp
  have htake : (key ++ 61 :: value ++ [10] ++ rest).take (n - ((dec n).length + 1)) = key ++ 61 :: value ++ [10] := by
    rw [List.take_append_of_le_length (by simp only [List.length_append, List.length_cons, List.length_nil]; omega)]
    exact List.take_of_length_le (by simp only [List.length_append, List.length_cons, List.length_nil]; omega)
  rw [hdrop, htake]
  have hbody : bodyM (key ++ 61 :: value ++ [10]) = some (key, value) := by
    unfold bodyM
    obtain ⟨s1, s2⟩ := suffix_mk (key ++ 61 :: value)
    rw [s1, s2, cut1_hit 61 key value h61]
    simp [hkne]
  rw [hbody]
  simp only [Option.map_some, Option.some.injEq, Prod.mk.injEq, true_and]
  rw [← h1]
  simp

theorem scan_rec {s : List UInt8} {k n : Nat} {p : List UInt8 × List UInt8} {m : Nat} : ∀ f i, oneScan s k n f i = some (p, m) → keyOk p.1 = true ∧ recM p = s.take n ∧ m = n
  | 0, i, h => by cases h
  | f + 1, i, h => by
    simp only [oneScan] at h
    split at h
    · rename_i hc
      simp only [Bool.and_eq_true] at hc
      split at h
      · rename_i he
        simp only [Option.some.injEq, Prod.mk.injEq] at h
        obtain ⟨rfl, rfl⟩ := h
        exact ⟨hc.2, eq_of_beq he, rfl⟩
      · cases h
    · exact scan_rec f (i + 1) h
/-- What the reference finds is a record. -/
theorem one_rec {s : List UInt8} {p : List UInt8 × List UInt8} {n : Nat} (h : oneM s = some (p, n)) : keyOk p.1 = true ∧ recM p = s.take n ∧ n ≤ s.length := by
  unfold oneM at h
  split at h
  · cases h
  · unfold oneAt at h
    split at h
    · cases h
    · rename_i hc
      obtain ⟨h1, h2, h3⟩ := scan_rec _ _ h
      subst h3
      exact ⟨h1, h2, by omega⟩

theorem piece_mid (a b c : List UInt8) : piece (a ++ b ++ c) a.length (a.length + b.length) = b := by simp [piece]

theorem scan_hit {s key value tail : List UInt8} {T : List UInt8} {n : Nat} (hs : s = T ++ 32 :: (key ++ 61 :: value ++ [10] ++ tail)) (hn : n = T.length + 1 + key.length + 1 + value.length + 1) (h61 : (61 : UInt8) ∉ key) (hk : keyOk key = true)
    (hr : recM (key, value) = s.take n) : ∀ f i, T.length + 2 ≤ i → i ≤ T.length + 1 + key.length → f + i = n - 1 → oneScan s T.length n f i = some ((key, value), n)
  | 0, i, h1, h2, h3 => by omega
  | f + 1, i, h1, h2, h3 => by
    simp only [oneScan]
    by_cases hi : i = T.length + 1 + key.length
    · subst hi
      have hget : s[T.length + 1 + key.length]? = some 61 := by
        rw [hs, List.getElem?_append_right (by omega)]
        rw [show T.length + 1 + key.length - T.length = key.length + 1 from by omega, List.getElem?_cons_succ]
        rw [List.append_assoc, List.append_assoc, List.getElem?_append_right (Nat.le_refl _)]
        simp
      have hp1 : piece s (T.length + 1) (T.length + 1 + key.length) = key := by
        have := piece_mid (T ++ [32]) key (61 :: value ++ [10] ++ tail)
        rw [hs]
        simpa using this
      have hp2 : piece s (T.length + 1 + key.length + 1) (n - 1) = value := by
        have := piece_mid (T ++ [32] ++ key ++ [61]) value ([10] ++ tail)
        rw [hs, hn]
        simp only [List.length_append, List.length_cons, List.length_nil, Nat.zero_add] at this
        rw [show T.length + 1 + key.length + 1 + value.length + 1 - 1 = T.length + 1 + key.length + 1 + value.length from by omega]
        simpa using this
      rw [hget, hp1, hp2, hk, hr]
      simp
    · have hlt : i < T.length + 1 + key.length := by omega
      have hget : s[i]? = some (key[i - (T.length + 1)]'(by omega)) := by
        rw [hs, List.getElem?_append_right (by omega)]
        obtain ⟨d, hd⟩ : ∃ d, i - T.length = d + 1 := ⟨i - T.length - 1, by omega⟩
        rw [hd, List.getElem?_cons_succ, List.append_assoc, List.append_assoc, List.getElem?_append_left (by omega)]
        rw [List.getElem?_eq_getElem (by omega)]
        congr 2
        omega
      have hne : (key[i - (T.length + 1)]'(by omega)) ≠ 61 := fun e => h61 (e ▸ List.getElem_mem _)
      rw [hget, if_neg (by simp [hne])]
      exact scan_hit hs hn h61 hk hr f (i + 1) (by omega) (by omega) (by omega)

/-- The reference finds a record. -/
theorem rec_one {p : List UInt8 × List UInt8} (rest : List UInt8) (hk : keyOk p.1 = true) (hl : (recM p).length ≤ 100000000) : oneM (recM p ++ rest) = some (p, (recM p).length) := by
  obtain ⟨key, value⟩ := p
  obtain ⟨h1, h2, h3⟩ := recM_length hl
  have hfix := (lenM_fix (restM (key, value)).length h3).1
  have hrl := restM_length (key, value)
  have hlr : (dec (lenM (restM (key, value)).length)).length + (restM (key, value)).length = lenM (restM (key, value)).length := by rw [dec_length]; exact hfix
  have hrec : recM (key, value) = dec (lenM (restM (key, value)).length) ++ 32 :: (key ++ 61 :: value ++ [10]) := by simp [recM, restM]
  generalize hn : lenM (restM (key, value)).length = n at *
  have hdig := dec_digits n
  have h61 : (61 : UInt8) ∉ key := by simp only [keyOk, Bool.and_eq_true, Bool.not_eq_true'] at hk; simpa using hk.2
  have hkne : key ≠ [] := by simp only [keyOk, Bool.and_eq_true, Bool.not_eq_true'] at hk; simpa using hk.1
  have hkl : 1 ≤ key.length := by cases key with | nil => exact absurd rfl hkne | cons _ _ => simp
  have hd9 : (dec n).length ≤ 9 := by
    rw [dec_length]
    exact nDigits_le n 9 (by have e9 : (10 : Nat) ^ 9 = 1000000000 := by decide
                             omega) (by omega)
  simp only at hrl
  have hs : recM (key, value) ++ rest = dec n ++ 32 :: (key ++ 61 :: value ++ [10] ++ rest) := by rw [hrec]; simp
  have hdg : digs (recM (key, value) ++ rest) = (dec n).length := by rw [hs]; exact digs_hit _ _ _ hdig (by decide)
  have hpos : 0 < (dec n).length := by rw [dec_length]; exact Lib.nDigits_pos n
  have htk : (recM (key, value) ++ rest).take (dec n).length = dec n := by rw [hs]; simp
  unfold oneM
  rw [hdg, htk, valD_dec]
  have hhead : (recM (key, value) ++ rest)[0]? ≠ some 48 := by
    have := dec_head n (by omega)
    rw [hs]
    cases hd : dec n with
    | nil => simp [hd] at hpos
    | cons c r => rw [hd] at this; simpa using this
  rw [if_neg (by rintro (h | h | h); · omega
                 · omega
                 · exact hhead h)]
  unfold oneAt
  have hsl : (recM (key, value) ++ rest).length = n + rest.length := by rw [List.length_append, h1]
  rw [if_neg]
  · rw [h1]
    refine scan_hit hs (by omega) h61 hk ?_ _ _ (Nat.le_refl _) (by omega) (by omega)
    rw [← h1]; simp
  · rintro (h | h | h | h)
    · omega
    · omega
    · apply h
      rw [hs, List.getElem?_append_right (Nat.le_refl _)]
      simp
    · apply h
      rw [List.getElem?_append_left (by omega), hrec]
      have hln : ((dec n) ++ 32 :: (key ++ 61 :: value)).length = n - 1 := by simp only [List.length_append, List.length_cons]; omega
      have e : dec n ++ 32 :: (key ++ 61 :: value ++ [10]) = (dec n ++ 32 :: (key ++ 61 :: value)) ++ [10] := by simp
      rw [e, ← hln]
      simp

/-- The program and its reference agree on a text's first record. -/
theorem cut_one_eq {s : List UInt8} (hs : s.length ≤ 100000000) : cutM s = (oneM s).map fun q => (q.1, s.drop q.2) := by
  cases h : oneM s with
  | some q =>
    obtain ⟨p, n⟩ := q
    obtain ⟨h1, h2, h3⟩ := one_rec h
    have e : s = recM p ++ s.drop n := by rw [h2, List.take_append_drop]
    have hl : (recM p).length = n := by rw [h2, List.length_take]; omega
    have := rec_cut (s.drop n) h1 (by omega)
    rw [← e] at this
    exact this
  | none =>
    cases hc : cutM s with
    | none => rfl
    | some q =>
      obtain ⟨p, rest⟩ := q
      obtain ⟨h1, h2⟩ := cut_rec hc
      have := rec_one rest h1 (by rw [h2] at hs; simp only [List.length_append] at hs; omega)
      rw [← h2, h] at this
      cases this

end Go.Proofs.YthlgjipbpgaobaaDoor
