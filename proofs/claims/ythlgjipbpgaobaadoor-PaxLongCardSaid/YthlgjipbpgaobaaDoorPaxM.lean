/- Plain functions: what the walked functions of package pax and of its reference compute. No program in sight. -/
import Derived.Lib.ItoaNum
import Derived.Lib.ItoaMem
import Derived.Lib.AtoiAll
import Derived.Lib.IndexMore
import Derived.Lib.Strings
namespace Go.Proofs.YthlgjipbpgaobaaDoor

/-- A row of decimal digits of a number from 0 on. -/
abbrev dec (n : Nat) : List UInt8 := Lib.decDigits n

/-- strings.Cut at one byte. -/
def cut1 (c : UInt8) : List UInt8 → List UInt8 × List UInt8 × Bool
  | [] => ([], [], false)
  | x :: r => if x == c then ([], r, true) else (x :: (cut1 c r).1, (cut1 c r).2.1, (cut1 c r).2.2)

theorem index_cons_eq (c : UInt8) (r : List UInt8) : Lib.index (c :: r) [c] = 0 := by simp [Lib.index]
theorem index_cons_ne {x c : UInt8} (r : List UInt8) (h : (x == c) = false) : Lib.index (x :: r) [c] = if Lib.index r [c] == -1 then -1 else Lib.index r [c] + 1 := by
  have h' : (c == x) = false := by rw [beq_eq_false_iff_ne] at *; exact fun e => h e.symm
  have hp : List.isPrefixOf [c] (x :: r) = false := by simp [List.isPrefixOf, h']
  rw [Lib.index, hp]; simp
theorem cut_one (c : UInt8) : ∀ s : List UInt8, Lib.cut s [c] = cut1 c s
  | [] => by simp [Lib.cut, Lib.index, cut1]
  | x :: r => by
    have ih := cut_one c r
    have hge := Lib.index_ge r [c]
    cases h : x == c with
    | true =>
      obtain rfl := eq_of_beq h
      simp [Lib.cut, cut1, index_cons_eq]
    | false =>
      simp only [cut1, h]
      rw [← ih]
      unfold Lib.cut
      rw [index_cons_ne r h]
      by_cases h1 : Lib.index r [c] = -1
      · simp [h1]
      · have h2 : (Lib.index r [c] == -1) = false := by simpa using h1
        rw [h2]
        have h3 : 0 ≤ Lib.index r [c] := by omega
        obtain ⟨k, hk⟩ : ∃ k : Nat, Lib.index r [c] = k := ⟨_, (Int.toNat_of_nonneg h3).symm⟩
        rw [hk]
        have e1 : ((k : Int) + 1).toNat = k + 1 := by omega
        have p1 : (0 : Int) ≤ (k : Int) + 1 := by omega
        simp [e1, p1]

theorem indexByte_ge (c : UInt8) : ∀ l : List UInt8, -1 ≤ Lib.indexByte l c
  | [] => by simp [Lib.indexByte]
  | b :: l => by
    have := indexByte_ge c l
    unfold Lib.indexByte
    split
    · omega
    · split <;> omega
theorem indexByte_mem (c : UInt8) : ∀ l : List UInt8, decide (0 ≤ Lib.indexByte l c) = l.contains c
  | [] => by simp [Lib.indexByte]
  | b :: l => by
    have ih := indexByte_mem c l
    have hge := indexByte_ge c l
    unfold Lib.indexByte
    rw [List.contains_cons]
    cases h : b == c with
    | true => have h' : (c == b) = true := by rw [beq_iff_eq] at *; exact h.symm
              simp [h']
    | false =>
      have h' : (c == b) = false := by rw [beq_eq_false_iff_ne] at *; exact fun e => h e.symm
      rw [h', Bool.false_or, ← ih]
      by_cases h1 : Lib.indexByte l c = -1
      · simp [h1]
      · have h2 : (Lib.indexByte l c == -1) = false := by simpa using h1
        simp only [h2]
        rw [if_neg (by simp), if_neg (by simp)]
        apply decide_eq_decide.2
        omega

/-- The value of a key. -/
def findM (l : List (List UInt8 × List UInt8)) (key : List UInt8) : List UInt8 × Bool :=
  match l.find? (fun p => p.1 == key) with
  | some p => (p.2, true)
  | none => ([], false)

theorem findM_nil (key : List UInt8) : findM [] key = ([], false) := rfl
theorem findM_cons_eq {p : List UInt8 × List UInt8} {l : List (List UInt8 × List UInt8)} {key : List UInt8} (h : (p.1 == key) = true) : findM (p :: l) key = (p.2, true) := by
  simp [findM, h]
theorem findM_cons_ne {p : List UInt8 × List UInt8} {l : List (List UInt8 × List UInt8)} {key : List UInt8} (h : (p.1 == key) = false) : findM (p :: l) key = findM l key := by
  simp [findM, h]

/-- May a key be? -/
def keyOk (k : List UInt8) : Bool := !(k == []) && !k.contains 61
/-- Are keys there once? -/
def onceM : List (List UInt8 × List UInt8) → Bool
  | [] => true
  | p :: r => !(r.any (fun q => q.1 == p.1)) && onceM r
/-- pax.keys. -/
def rightM (l : List (List UInt8 × List UInt8)) : Bool := l.all (fun p => keyOk p.1)
def cnt (l : List (List UInt8 × List UInt8)) (k : List UInt8) : Nat := l.countP (fun p => p.1 == k)
theorem rightM_snoc (l : List (List UInt8 × List UInt8)) (p : List UInt8 × List UInt8) : rightM (l ++ [p]) = (rightM l && keyOk p.1) := by simp [rightM]
theorem cnt_snoc (l : List (List UInt8 × List UInt8)) (p : List UInt8 × List UInt8) (k : List UInt8) : cnt (l ++ [p]) k = cnt l k + if p.1 == k then 1 else 0 := by
  simp [cnt, List.countP_append, List.countP_cons]
theorem cnt_step {l m : List (List UInt8 × List UInt8)} {p : List UInt8 × List UInt8} (h : m = l ++ [p]) (key : List UInt8) : cnt m key = if key == p.1 then cnt l p.1 + 1 else cnt l key := by
  rw [h, cnt_snoc]
  by_cases hk : key = p.1
  · subst hk; simp
  · have h1 : (p.1 == key) = false := by simpa using fun e => hk e.symm
    have h2 : (key == p.1) = false := by simpa using hk
    simp [h1, h2]
theorem any_cnt (l : List (List UInt8 × List UInt8)) (k : List UInt8) : l.any (fun q => q.1 == k) = !(cnt l k == 0) := by
  induction l with
  | nil => rfl
  | cons p r ih =>
    simp only [List.any_cons, ih, cnt, List.countP_cons]
    cases h : p.1 == k <;> simp
theorem onceM_snoc (p : List UInt8 × List UInt8) : ∀ l : List (List UInt8 × List UInt8), onceM (l ++ [p]) = (onceM l && !(l.any (fun q => q.1 == p.1)))
  | [] => by simp [onceM]
  | q :: r => by
    have ih := onceM_snoc p r
    simp only [List.cons_append, onceM, ih, List.any_append, List.any_cons, List.any_nil]
    have hc : (p.1 == q.1) = (q.1 == p.1) := by rw [Bool.eq_iff_iff, beq_iff_eq, beq_iff_eq]; exact eq_comm
    rw [hc]
    cases r.any (fun z => z.1 == q.1) <;> cases (q.1 == p.1) <;> cases onceM r <;> cases r.any (fun z => z.1 == p.1) <;> rfl
theorem once_step (l : List (List UInt8 × List UInt8)) (p : List UInt8 × List UInt8) : onceM (l ++ [p]) = (onceM l && (cnt (l ++ [p]) p.1 == 1)) := by
  rw [onceM_snoc, any_cnt, cnt_snoc]
  congr 1
  simp

/-- pax.length from round d on. -/
def lenAux (rest : Nat) : Nat → Nat → Nat
  | 0, d => rest + d
  | f + 1, d => if (dec (rest + 1 + d)).length = 1 + d then rest + 1 + d else lenAux rest f (d + 1)
/-- pax.length. -/
def lenM (rest : Nat) : Nat := lenAux rest 9 0

/-- Of a text ahead of the first blank: the number of a record, if it may be. -/
def numM (s text : List UInt8) : Option Nat :=
  match Lib.atoiAll text with
  | .ok v =>
    if Lib.itoa v = text ∧ text.length ≤ 9 ∧ v ≤ (s.length : Int) ∧ (text.length : Int) + 1 < v ∧ lenM (v.toNat - text.length) = v.toNat then some v.toNat else none
  | _ => none
/-- The pair of a record's body, its feed too. -/
def bodyM (body : List UInt8) : Option (List UInt8 × List UInt8) :=
  if Lib.hasSuffix body [10] && (cut1 61 (Lib.trimSuffix body [10])).2.2 && !((cut1 61 (Lib.trimSuffix body [10])).1 == []) then some ((cut1 61 (Lib.trimSuffix body [10])).1, (cut1 61 (Lib.trimSuffix body [10])).2.1) else none
/-- pax.cut, from what stands ahead of the first blank. -/
def cutAt (s text : List UInt8) (is : Bool) : Option ((List UInt8 × List UInt8) × List UInt8) :=
  if is then (numM s text).bind fun n => (bodyM ((s.drop (text.length + 1)).take (n - (text.length + 1)))).map fun p => (p, s.drop n) else none
/-- pax.cut. -/
def cutM (s : List UInt8) : Option ((List UInt8 × List UInt8) × List UInt8) := cutAt s (cut1 32 s).1 (cut1 32 s).2.2
theorem cut1_len2 (c : UInt8) : ∀ s : List UInt8, (cut1 c s).2.1.length ≤ s.length
  | [] => by simp [cut1]
  | x :: r => by
    have := cut1_len2 c r
    unfold cut1
    split <;> simp <;> omega
theorem cut1_len (c : UInt8) : ∀ s : List UInt8, (cut1 c s).1.length ≤ s.length
  | [] => by simp [cut1]
  | x :: r => by
    have := cut1_len c r
    unfold cut1
    split <;> simp <;> omega

theorem trimSuffix_le (a b : List UInt8) : (Lib.trimSuffix a b).length ≤ a.length := by
  unfold Lib.trimSuffix
  split
  · simp
  · exact Nat.le_refl _
theorem cutM_some {s : List UInt8} {p : List UInt8 × List UInt8} {rest : List UInt8} (h : cutM s = some (p, rest)) : rest.length < s.length ∧ p.1.length ≤ s.length ∧ p.2.length ≤ s.length := by
  unfold cutM cutAt at h
  split at h
  · generalize (cut1 32 s).1 = text at h
    cases hn : numM s text with
    | none => simp [hn] at h
    | some n =>
      simp only [hn, Option.bind_some] at h
      have hn2 : 1 ≤ n ∧ n ≤ s.length := by
        unfold numM at hn
        split at hn
        · split at hn
          · rename_i hc
            simp only [Option.some.injEq] at hn
            omega
          · cases hn
        · cases hn
      unfold bodyM at h
      split at h
      · simp only [Option.map_some, Option.some.injEq, Prod.mk.injEq] at h
        obtain ⟨rfl, rfl⟩ := h
        have h1 := cut1_len 61 (Lib.trimSuffix (List.take (n - (text.length + 1)) (List.drop (text.length + 1) s)) [10])
        have h2 := trimSuffix_le (List.take (n - (text.length + 1)) (List.drop (text.length + 1) s)) [10]
        have h3 := cut1_len2 61 (Lib.trimSuffix (List.take (n - (text.length + 1)) (List.drop (text.length + 1) s)) [10])
        simp only [List.length_take, List.length_drop] at h2 ⊢
        omega
      · simp at h
  · cases h

/-- The pairs of records, in at most f of them. -/
def parseF : Nat → List UInt8 → Option (List (List UInt8 × List UInt8))
  | 0, s => if s = [] then some [] else none
  | f + 1, s => if s = [] then some [] else match cutM s with
    | none => none
    | some (p, rest) => (parseF f rest).map (p :: ·)
theorem parseF_nil (f : Nat) : parseF f [] = some [] := by cases f <;> simp [parseF]
theorem parseF_no {f : Nat} {c : UInt8} {r : List UInt8} (h : cutM (c :: r) = none) : parseF (f + 1) (c :: r) = none := by simp [parseF, h]
theorem parseF_yes {f : Nat} {c : UInt8} {r rest : List UInt8} {p : List UInt8 × List UInt8} (h : cutM (c :: r) = some (p, rest)) : parseF (f + 1) (c :: r) = (parseF f rest).map (p :: ·) := by simp [parseF, h]
/-- pax.Parse: the pairs, and the error's number. -/
def parseM (s : List UInt8) : List (List UInt8 × List UInt8) × Nat :=
  match parseF s.length s with
  | none => ([], 3)
  | some ps => if onceM ps then (ps, 0) else ([], 7)

/-- What stands behind a record's number. -/
def restM (p : List UInt8 × List UInt8) : List UInt8 := [32] ++ p.1 ++ [61] ++ p.2 ++ [10]
/-- A pair's record. -/
def recM (p : List UInt8 × List UInt8) : List UInt8 := dec (lenM (restM p).length) ++ restM p
/-- pax.Print. -/
def printM (l : List (List UInt8 × List UInt8)) : List UInt8 := l.flatMap recM
def printOk (l : List (List UInt8 × List UInt8)) : Bool := rightM l && onceM l
theorem lenAux_le (r : Nat) : ∀ f d, d + f = 9 → lenAux r f d ≤ r + 9
  | 0, d, h => by simp [lenAux]; omega
  | f + 1, d, h => by
    have := lenAux_le r f (d + 1) (by omega)
    simp only [lenAux]
    split <;> omega
theorem lenM_le (r : Nat) : lenM r ≤ r + 9 := lenAux_le r 9 0 rfl
theorem nDigits_le (n : Nat) : ∀ k, n < 10 ^ k → 1 ≤ k → Lib.nDigits n ≤ k := by
  intro k
  induction k generalizing n with
  | zero => intro _ h; omega
  | succ k ih =>
    intro h _
    by_cases h10 : n < 10
    · rw [Lib.nDigits_small h10]; omega
    · rw [Lib.nDigits_big h10]
      have : n / 10 < 10 ^ k := by rw [Nat.pow_succ] at h; omega
      have hk : 1 ≤ k := by
        rcases k with _ | k
        · simp at h; omega
        · omega
      have := ih (n / 10) this hk
      omega
theorem dec_len (n : Nat) (h : n < 10000000000) : (dec n).length ≤ 10 := by
  show (Lib.decDigits n).length ≤ 10
  rw [Lib.decDigits_length]
  exact nDigits_le n 10 (by simpa using h) (by omega)
theorem recM_len (p : List UInt8 × List UInt8) (h : p.1.length + p.2.length ≤ 1000000000) : (recM p).length ≤ p.1.length + p.2.length + 13 := by
  have hr : (restM p).length = p.1.length + p.2.length + 3 := by simp [restM]; omega
  have h1 := lenM_le (restM p).length
  have h2 := dec_len (lenM (restM p).length) (by omega)
  simp only [recM, List.length_append]
  omega

theorem printM_take (l : List (List UInt8 × List UInt8)) {k : Nat} (h : k < l.length) : printM (l.take (k + 1)) = printM (l.take k) ++ recM l[k] := by
  rw [List.take_succ_eq_append_getElem h]
  unfold printM
  rw [List.flatMap_append, List.flatMap_singleton]
/-- How many bytes pairs have at most as records. -/
def bulk (l : List (List UInt8 × List UInt8)) : Nat := (l.map fun p => p.1.length + p.2.length + 13).sum
theorem bulk_len : ∀ l : List (List UInt8 × List UInt8), l.length ≤ bulk l
  | [] => Nat.zero_le _
  | p :: r => by have := bulk_len r; simp only [bulk, List.map_cons, List.sum_cons, List.length_cons] at *; omega
theorem bulk_mem : ∀ (l : List (List UInt8 × List UInt8)), ∀ p ∈ l, p.1.length + p.2.length ≤ bulk l
  | [], p, h => by cases h
  | q :: r, p, h => by
    simp only [bulk, List.map_cons, List.sum_cons]
    rcases List.mem_cons.1 h with rfl | h
    · omega
    · have := bulk_mem r p h; simp only [bulk] at this; omega
theorem printM_len : ∀ (l : List (List UInt8 × List UInt8)), bulk l ≤ 1000000000 → (printM l).length ≤ bulk l
  | [], _ => by simp [printM]
  | p :: r, h => by
    simp only [bulk, List.map_cons, List.sum_cons] at h ⊢
    have h1 := recM_len p (by omega)
    have h2 := printM_len r (by simp only [bulk]; omega)
    simp only [bulk] at h2
    simp only [printM, List.flatMap_cons, List.length_append] at h2 ⊢
    omega
theorem bulk_take (l : List (List UInt8 × List UInt8)) (k : Nat) : bulk (l.take k) ≤ bulk l := by
  have h : bulk l = bulk (l.take k) + bulk (l.drop k) := by
    simp only [bulk]
    rw [← List.sum_append, ← List.map_append, List.take_append_drop]
  omega

theorem nDigits_mono : ∀ (a b : Nat), a ≤ b → Lib.nDigits a ≤ Lib.nDigits b := by
  intro a
  induction a using Nat.strongRecOn with
  | _ a ih =>
    intro b hab
    by_cases ha : a < 10
    · rw [Lib.nDigits_small ha]; exact Lib.nDigits_pos b
    · rw [Lib.nDigits_big ha, Lib.nDigits_big (by omega : ¬ b < 10)]
      have := ih (a / 10) (by omega) (b / 10) (by omega)
      omega
theorem dec_length (n : Nat) : (dec n).length = Lib.nDigits n := Lib.decDigits_length n
/-- From round d on the length is found, and nothing ahead of it fits. -/
theorem lenAux_fix (r : Nat) : ∀ f d, d + f = 9 → r + 10 < 1000000000 → (∀ m, r ≤ m → m < r + 1 + d → Lib.nDigits m + r ≠ m) → d ≤ Lib.nDigits (r + 1 + d) - 1 →
    Lib.nDigits (lenAux r f d) + r = lenAux r f d ∧ ∀ m, r ≤ m → m < lenAux r f d → Lib.nDigits m + r ≠ m
  | 0, d, h, hr, hm, hd => by
    exfalso
    have e9 : (10 : Nat) ^ 9 = 1000000000 := by decide
    have h9 := nDigits_le (r + 1 + d) 9 (by rw [e9]; omega) (by omega)
    omega
  | f + 1, d, h, hr, hm, hd => by
    have hp := Lib.nDigits_pos (r + 1 + d)
    simp only [lenAux]
    rw [dec_length]
    by_cases hc : Lib.nDigits (r + 1 + d) = 1 + d
    · rw [if_pos hc]
      exact ⟨by omega, fun m h1 h2 => hm m h1 h2⟩
    · rw [if_neg hc]
      have hmono := nDigits_mono (r + 1 + d) (r + 1 + (d + 1)) (by omega)
      refine lenAux_fix r f (d + 1) (by omega) hr (fun m h1 h2 => ?_) (by omega)
      by_cases he : m = r + 1 + d
      · subst he; omega
      · exact hm m h1 (by omega)
theorem lenM_fix (r : Nat) (hr : r + 10 < 1000000000) : Lib.nDigits (lenM r) + r = lenM r ∧ ∀ m, r ≤ m → m < lenM r → Lib.nDigits m + r ≠ m := by
  refine lenAux_fix r 9 0 rfl hr (fun m h1 h2 => ?_) (Nat.zero_le _)
  obtain rfl : m = r := by omega
  have := Lib.nDigits_pos m
  omega

/-- Is a byte a digit? -/
def isDig (c : UInt8) : Bool := 48 ≤ c.toNat && c.toNat ≤ 57
/-- How many digits a text begins with. -/
def digs : List UInt8 → Nat
  | [] => 0
  | c :: r => if isDig c then digs r + 1 else 0
theorem digs_le : ∀ s : List UInt8, digs s ≤ s.length
  | [] => Nat.le_refl _
  | c :: r => by have := digs_le r; unfold digs; split <;> simp <;> omega
theorem digs_in : ∀ (s : List UInt8) (k : Nat) (h : k < digs s), isDig (s[k]'(Nat.lt_of_lt_of_le h (digs_le s))) = true
  | [], k, h => by simp [digs] at h
  | c :: r, k, h => by
    unfold digs at h
    split at h
    · cases k with
      | zero => simpa
      | succ k => simp only [List.getElem_cons_succ]; exact digs_in r k (by omega)
    · omega
theorem digs_end : ∀ (s : List UInt8) (h : digs s < s.length), isDig (s[digs s]'h) = false
  | [], h => by simp at h
  | c :: r, h => by
    by_cases hc : isDig c
    · have e : digs (c :: r) = digs r + 1 := by simp [digs, hc]
      simp only [e, List.getElem_cons_succ]
      exact digs_end r (by simp [e] at h; omega)
    · have e : digs (c :: r) = 0 := by simp [digs, hc]
      simp only [e, List.getElem_cons_zero]
      simpa using hc
/-- The number that digits spell. -/
def valD (l : List UInt8) : Nat := l.foldl (fun a c => 10 * a + (c.toNat - 48)) 0
theorem valD_snoc (l : List UInt8) (c : UInt8) : valD (l ++ [c]) = 10 * valD l + (c.toNat - 48) := by simp [valD]
theorem valD_lt : ∀ (n : Nat) (l : List UInt8), l.length = n → (∀ c ∈ l, isDig c = true) → valD l < 10 ^ n
  | 0, l, h, _ => by obtain rfl := List.eq_nil_of_length_eq_zero h; simp [valD]
  | n + 1, l, h, hd => by
    have hne : l ≠ [] := by intro e; subst e; simp at h
    have hl : l = l.dropLast ++ [l.getLast hne] := (List.dropLast_concat_getLast hne).symm
    have ih := valD_lt n l.dropLast (by simp; omega) (fun c hc => hd c (List.dropLast_subset l hc))
    have hc := hd _ (List.getLast_mem hne)
    rw [hl, valD_snoc]
    simp only [isDig, Bool.and_eq_true, decide_eq_true_eq] at hc
    rw [Nat.pow_succ]
    omega
/-- What stands from place a on, up to place b. -/
def piece (s : List UInt8) (a b : Nat) : List UInt8 := (s.drop a).take (b - a)
/-- The reference's search for a key's end. -/
def oneScan (s : List UInt8) (k n : Nat) : Nat → Nat → Option ((List UInt8 × List UInt8) × Nat)
  | 0, _ => none
  | f + 1, i => if s[i]? == some 61 && keyOk (piece s (k + 1) i) then
      (if recM (piece s (k + 1) i, piece s (i + 1) (n - 1)) == s.take n then some ((piece s (k + 1) i, piece s (i + 1) (n - 1)), n) else none)
    else oneScan s k n f (i + 1)
/-- The reference's one, from the digits' number k on. -/
def oneAt (s : List UInt8) (k n : Nat) : Option ((List UInt8 × List UInt8) × Nat) :=
  if s.length < n ∨ n < k + 4 ∨ s[k]? ≠ some 32 ∨ s[n - 1]? ≠ some 10 then none else oneScan s k n (n - 1 - (k + 2)) (k + 2)
def oneM (s : List UInt8) : Option ((List UInt8 × List UInt8) × Nat) :=
  if digs s = 0 ∨ 9 < digs s ∨ s[0]? = some 48 then none else oneAt s (digs s) (valD (s.take (digs s)))

end Go.Proofs.YthlgjipbpgaobaaDoor
