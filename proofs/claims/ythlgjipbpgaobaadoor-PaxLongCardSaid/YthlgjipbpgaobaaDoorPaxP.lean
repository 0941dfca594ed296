/- Plain laws of rows of records. -/
import Derived.Test.YthlgjipbpgaobaaDoorPaxN
namespace Go.Proofs.YthlgjipbpgaobaaDoor

theorem parseF_rec {p : List UInt8 × List UInt8} {f : Nat} (rest : List UInt8) (hk : keyOk p.1 = true) (hl : (recM p).length ≤ 100000000) : parseF (f + 1) (recM p ++ rest) = (parseF f rest).map (p :: ·) := by
  have h := rec_cut rest hk hl
  cases hs : recM p ++ rest with
  | nil => have := congrArg List.length hs; simp [recM, restM] at this
  | cons c r => rw [hs] at h; exact parseF_yes h

theorem parseF_fuel : ∀ (f : Nat) (s : List UInt8), s.length ≤ f → parseF f s = parseF s.length s := by
  intro f
  induction f using Nat.strongRecOn with
  | _ f ih =>
    intro s hs
    cases s with
    | nil => rw [parseF_nil, parseF_nil]
    | cons c r =>
      cases f with
      | zero => simp at hs
      | succ f =>
        cases hc : cutM (c :: r) with
        | none => rw [parseF_no hc, List.length_cons, parseF_no hc]
        | some q =>
          obtain ⟨p, rest⟩ := q
          have hl := (cutM_some hc).1
          simp only [List.length_cons] at hs hl
          rw [parseF_yes hc, List.length_cons, parseF_yes hc, ih f (by omega) rest (by omega)]
          rcases Nat.lt_or_ge r.length (f + 1) with h | h
          · rw [ih r.length (by omega) rest (by omega)]
          · omega

/-- The pairs of a text, if it is records. -/
def pairsOf (s : List UInt8) : Option (List (List UInt8 × List UInt8)) := parseF s.length s
theorem parseM_eq (s : List UInt8) : parseM s = (match pairsOf s with | none => ([], 3) | some ps => if onceM ps then (ps, 0) else ([], 7)) := rfl

theorem parseM_some {s : List UInt8} {ps : List (List UInt8 × List UInt8)} (h : pairsOf s = some ps) : parseM s = if onceM ps then (ps, 0) else ([], 7) := by rw [parseM_eq, h]
theorem parseM_none {s : List UInt8} (h : pairsOf s = none) : parseM s = ([], 3) := by rw [parseM_eq, h]
theorem once_of_ok {s : List UInt8} {ps : List (List UInt8 × List UInt8)} (h : pairsOf s = some ps) (h0 : (parseM s).2 = 0) : onceM ps = true := by
  rw [parseM_some h] at h0
  cases ho : onceM ps with
  | true => rfl
  | false => rw [ho] at h0; simp at h0
theorem once_of_bad {s : List UInt8} {ps : List (List UInt8 × List UInt8)} (h : pairsOf s = some ps) (h0 : (parseM s).2 ≠ 0) : onceM ps = false := by
  rw [parseM_some h] at h0
  cases ho : onceM ps with
  | false => rfl
  | true => rw [ho] at h0; simp at h0
theorem rightM_cons (p : List UInt8 × List UInt8) (l : List (List UInt8 × List UInt8)) : rightM (p :: l) = (keyOk p.1 && rightM l) := by simp [rightM]
theorem rightM_append (l m : List (List UInt8 × List UInt8)) : rightM (l ++ m) = (rightM l && rightM m) := by simp [rightM]
theorem printM_cons (p : List UInt8 × List UInt8) (l : List (List UInt8 × List UInt8)) : printM (p :: l) = recM p ++ printM l := by simp [printM]
theorem printM_append (l m : List (List UInt8 × List UInt8)) : printM (l ++ m) = printM l ++ printM m := by simp [printM]

/-- Records, and what stands behind them. -/
theorem pairs_app : ∀ (l : List (List UInt8 × List UInt8)) (b : List UInt8), rightM l = true → (printM l ++ b).length ≤ 100000000 → pairsOf (printM l ++ b) = (pairsOf b).map (l ++ ·)
  | [], b, _, _ => by simp [printM, pairsOf]
  | p :: l, b, hr, hl => by
    rw [rightM_cons, Bool.and_eq_true] at hr
    rw [printM_cons, List.append_assoc] at hl ⊢
    have hl' := hl
    rw [List.length_append] at hl
    have ih := pairs_app l b hr.2 (by omega)
    have hp : 0 < (recM p).length := by simp [recM, restM]; omega
    have e := parseF_rec (f := (recM p ++ (printM l ++ b)).length - 1) (printM l ++ b) hr.1 (by omega)
    rw [show (recM p ++ (printM l ++ b)).length - 1 + 1 = (recM p ++ (printM l ++ b)).length from by rw [List.length_append]; omega] at e
    unfold pairsOf at ih ⊢
    rw [e, parseF_fuel _ _ (by rw [List.length_append (as := recM p)]; omega), ih]
    cases parseF b.length b <;> simp
theorem pairs_print {l : List (List UInt8 × List UInt8)} (hr : rightM l = true) (hl : (printM l).length ≤ 100000000) : pairsOf (printM l) = some l := by
  have := pairs_app l [] hr (by simpa using hl)
  simpa [pairsOf, parseF_nil] using this

/-- What is parsed is records. -/
theorem parse_rec : ∀ (f : Nat) (s : List UInt8) (ps : List (List UInt8 × List UInt8)), parseF f s = some ps → s = printM ps ∧ rightM ps = true
  | 0, s, ps, h => by
    simp only [parseF] at h
    split at h
    · simp only [Option.some.injEq] at h; subst h; rename_i hs; subst hs; exact ⟨rfl, rfl⟩
    · cases h
  | f + 1, [], ps, h => by
    rw [parseF_nil] at h
    simp only [Option.some.injEq] at h; subst h; exact ⟨rfl, rfl⟩
  | f + 1, c :: r, ps, h => by
    cases hc : cutM (c :: r) with
    | none => rw [parseF_no hc] at h; cases h
    | some q =>
      obtain ⟨p, rest⟩ := q
      rw [parseF_yes hc] at h
      cases hp : parseF f rest with
      | none => rw [hp] at h; cases h
      | some qs =>
        rw [hp] at h
        simp only [Option.map_some, Option.some.injEq] at h
        subst h
        obtain ⟨h1, h2⟩ := parse_rec f rest qs hp
        obtain ⟨h3, h4⟩ := cut_rec hc
        exact ⟨by rw [h4, printM_cons, ← h1], by rw [rightM_cons, h3, h2]; rfl⟩
theorem pairs_rec {s : List UInt8} {ps : List (List UInt8 × List UInt8)} (h : pairsOf s = some ps) : s = printM ps ∧ rightM ps = true := parse_rec _ _ _ h

theorem find_any (l : List (List UInt8 × List UInt8)) (k : List UInt8) : (findM l k).2 = l.any (fun q => q.1 == k) := by
  induction l with
  | nil => rfl
  | cons p r ih =>
    cases h : p.1 == k with
    | true => rw [findM_cons_eq h]; simp [h]
    | false => rw [findM_cons_ne h, ih]; simp [h]
theorem once_append : ∀ (l m : List (List UInt8 × List UInt8)), onceM (l ++ m) = (onceM l && onceM m && l.all (fun p => !m.any (fun q => q.1 == p.1)))
  | [], m => by simp [onceM]
  | p :: l, m => by
    simp only [List.cons_append, onceM, once_append l m, List.any_append, List.all_cons]
    cases l.any (fun q => q.1 == p.1) <;> cases m.any (fun q => q.1 == p.1) <;> cases onceM l <;> cases onceM m <;> simp
theorem find_mem : ∀ (l : List (List UInt8 × List UInt8)), onceM l = true → ∀ p ∈ l, findM l p.1 = (p.2, true)
  | [], _, p, h => by cases h
  | q :: l, ho, p, hp => by
    simp only [onceM, Bool.and_eq_true, Bool.not_eq_true'] at ho
    rcases List.mem_cons.1 hp with rfl | hp
    · exact findM_cons_eq (by simp)
    · have hne : (q.1 == p.1) = false := by
        rw [beq_eq_false_iff_ne]
        intro e
        have : l.any (fun z => z.1 == q.1) = true := List.any_eq_true.2 ⟨p, hp, by rw [e]; simp⟩
        rw [ho.1] at this; cases this
      rw [findM_cons_ne hne]
      exact find_mem l ho.2 p hp
theorem find_equals {l : List (List UInt8 × List UInt8)} (hr : rightM l = true) : (findM l [61]).2 = false := by
  rw [find_any, List.any_eq_false]
  intro p hp
  have := List.all_eq_true.1 hr p hp
  simp only [keyOk, Bool.and_eq_true, Bool.not_eq_true'] at this
  intro e
  have e2 := eq_of_beq e
  rw [e2] at this
  simp at this

/-- Parse behind Print. -/
theorem parse_print {l : List (List UInt8 × List UInt8)} (h : printOk l = true) (hl : (printM l).length ≤ 100000000) : parseM (printM l) = (l, 0) := by
  simp only [printOk, Bool.and_eq_true] at h
  rw [parseM_eq, pairs_print h.1 hl]
  simp [h.2]

/-- The law of parts: what is parsed of two texts, and of both. -/
theorem parts_bad {a b : List UInt8} (hl : (a ++ b).length ≤ 100000000) (h : (parseM a).2 ≠ 0 ∨ (parseM b).2 ≠ 0) : (parseM (a ++ b)).2 ≠ 0 ∨ ((parseM a).2 ≠ 0 ∧ (parseM b).2 ≠ 0) ∨ (parseM a).2 = 3 := by
  cases ha : pairsOf a with
  | none => exact .inr (.inr (by rw [parseM_none ha]))
  | some xs =>
    obtain ⟨e1, r1⟩ := pairs_rec ha
    have happ := pairs_app xs b r1 (by rw [← e1]; exact hl)
    rw [← e1] at happ
    by_cases hA : (parseM a).2 = 0
    · left
      have hB : (parseM b).2 ≠ 0 := by
        rcases h with h | h
        · exact absurd hA h
        · exact h
      cases hb : pairsOf b with
      | none =>
        rw [hb] at happ
        rw [parseM_none happ]; simp
      | some ys =>
        have ho := once_of_bad hb hB
        rw [hb] at happ
        rw [parseM_some happ]
        simp [once_append, ho]
    · by_cases hB : (parseM b).2 = 0
      · left
        have ho := once_of_bad ha hA
        cases hb : pairsOf b with
        | none => rw [parseM_none hb] at hB; cases hB
        | some ys =>
          rw [hb] at happ
          rw [parseM_some happ]
          simp [once_append, ho]
      · exact .inr (.inl ⟨hA, hB⟩)
theorem parts_good {a b : List UInt8} (hl : (a ++ b).length ≤ 100000000) (hA : (parseM a).2 = 0) (hB : (parseM b).2 = 0) :
    parseM (a ++ b) = if (parseM a).1.all (fun p => !(findM (parseM b).1 p.1).2) then ((parseM a).1 ++ (parseM b).1, 0) else ([], 7) := by
  cases ha : pairsOf a with
  | none => rw [parseM_none ha] at hA; cases hA
  | some xs =>
    cases hb : pairsOf b with
    | none => rw [parseM_none hb] at hB; cases hB
    | some ys =>
      obtain ⟨e1, r1⟩ := pairs_rec ha
      have happ := pairs_app xs b r1 (by rw [← e1]; exact hl)
      rw [← e1, hb] at happ
      have ho1 := once_of_ok ha hA
      have ho2 := once_of_ok hb hB
      rw [parseM_some happ, parseM_some ha, parseM_some hb]
      simp only [ho1, ho2, if_true, once_append, Bool.true_and, find_any]

end Go.Proofs.YthlgjipbpgaobaaDoor
