/- Walks: the reference's one. -/
import Derived.Test.YthlgjipbpgaobaaDoorPaxG
import Derived.Deep.DeepCutAuto
import Derived.Deep.CutBlock
namespace Go.Proofs.YthlgjipbpgaobaaDoor
open Go.RowKit

/-- What the reference's one hands back. -/
def OnePost (s : Str) (w : World) (e : Ending) (w' : World) : Prop :=
  ∃ (p : Str × Str) (n : Nat), e = .returned (.tuple #[.agg #[S p.1, S p.2], .int .i64 n]) ∧ oneM s = (if n = 0 then none else some (p, n)) ∧ n ≤ s.length ∧ Below w.heap.size w w'
theorem OnePost.fail {s : Str} {w w' : World} {e : Ending} (h1 : oneM s = none) (h2 : e = .returned (.tuple #[.agg #[S [], S []], .int .i64 0])) (h3 : Below w.heap.size w w') : OnePost s w e w' :=
  ⟨([], []), 0, h2, by simpa using h1, Nat.zero_le _, h3⟩

theorem int_eq {a b : Int} (h : a = b) : Value.int .i64 a = Value.int .i64 b := by rw [h]
theorem byte48 {c : UInt8} (h : ((c.toNat : Int) == 48) = true) : c = 48 := by
  have := eq_of_beq h
  exact UInt8.toNat_inj.1 (by show c.toNat = 48; omega)
theorem byte48_ne {c : UInt8} (h : ((c.toNat : Int) == 48) = false) : c ≠ 48 := by
  rintro rfl; simp at h
theorem byte_bne {c d : UInt8} (h : ((c.toNat : Int) != (d.toNat : Int)) = true) : c ≠ d := by
  rintro rfl; simp at h
theorem byte_beq {c d : UInt8} (h : ((c.toNat : Int) != (d.toNat : Int)) = false) : c = d := by
  simp only [bne_eq_false_iff_eq] at h
  exact UInt8.toNat_inj.1 (by omega)
theorem valD_bd {s : Str} {D k : Nat} (h : k ≤ D) (hD : D ≤ s.length) (h9 : D ≤ 9) (hd : ∀ k (h : k < s.length), k < D → isDig s[k] = true) : valD (s.take k) ≤ 999999999 := by
  have h1 := valD_lt k (s.take k) (by simp; omega) (fun c hc => by
    obtain ⟨i, hi, rfl⟩ := List.getElem_of_mem hc
    simp only [List.length_take] at hi
    rw [List.getElem_take]
    exact hd i (by omega) (by omega))
  have h2 : (10 : Nat) ^ k ≤ 10 ^ 9 := Nat.pow_le_pow_right (by omega) (by omega)
  have e9 : (10 : Nat) ^ 9 = 1000000000 := by decide
  omega

theorem dig_lo {c : UInt8} (h : isDig c = true) : 48 ≤ c.toNat ∧ c.toNat ≤ 57 := by simpa [isDig] using h


set_option maxHeartbeats 2000000 in
set_option maxRecDepth 100000 in
theorem one_calls (w : World) (s : Str) (hs : s.length ≤ 100000000) :
    Calls Tryd.prog 16 #[S s] w (OnePost s w) := by
  have HDI : Hid (∀ k (h : k < s.length), k < digs s → isDig s[k] = true) := fun k _ h => digs_in s k h
  have HDE : Hid (∀ k (h : k < s.length), k = digs s → isDig s[k] = false) := by rintro k h rfl; exact digs_end s h
  have hdl := digs_le s
  have HM : Hid (oneM s = if digs s = 0 ∨ 9 < digs s ∨ s[0]? = some 48 then none else oneAt s (digs s) (valD (s.take (digs s)))) := rfl
  generalize digs s = D at HDI HDE hdl HM
  go_enter Tryd.func16, Tryd.ntmps16
  go_upto_block 0 with (fail)
  have HW0 : Hid (Below w.heap.size w (w.alloc (.cells #[S [], S []] 33)) ∧ (w.alloc (.cells #[S [], S []] 33)).heap[w.heap.size]? = some (.cells #[S [], S []] 33 (0, 0))) := ⟨below_new w _, blk_new w _⟩
  generalize w.alloc (.cells #[S [], S []] 33) = wc at HW0
  have HB : Hid (Below w.heap.size w wc) := HW0.out.1
  have HP : Hid (wc.heap[w.heap.size]? = some (.cells #[S [], S []] 33 (0, 0))) := HW0.out.2
  clear HW0
  go_cut [4] (fun v4 wr => v4 = .int .i64 D ∧ wr = wc)
  case first =>
    go_wp2_with fail
    go_loopg [4] D (fun g v4 wr => ∃ k : Nat, g + k = D ∧ v4 = .int .i64 k ∧ Hid (wr = wc))
    case atStart => exact ⟨0, by simp, rfl, rfl⟩
    case round =>
      obtain ⟨k, hk, rfl, HW⟩ := hrel
      obtain rfl := HW.out
      clear HW
      cases gk with
      | succ g1 =>
        have hlt : k < D := by omega
        have HG : Hid (g1 + 1 + k = D) := hk
        clear hk
        have hks : k < s.length := by omega
        have hdg := dig_lo (HDI.out k hks hlt)
        have i1 : decide ((48 : Int) ≤ ((s[k]).toNat : Int)) = true := by simp; omega
        have i2 : decide (((s[k]).toNat : Int) ≤ 57) = true := by simp; omega
        clear hdg
        go_wp2_with fail
        go_roundg g1
        case measure => omega
        case rel => exact ⟨k + 1, by have := HG.out; omega, by go_num, rfl⟩
      | zero =>
        obtain rfl : k = D := by omega
        clear hk
        by_cases hks : k < s.length
        · have hdg := HDE.out k hks rfl
          by_cases h48 : 48 ≤ (s[k]).toNat
          · have h57 : ¬ (s[k]).toNat ≤ 57 := by intro h; simp [isDig, h48, h] at hdg
            have i1 : decide ((48 : Int) ≤ ((s[k]).toNat : Int)) = true := by simp; omega
            have i2 : decide (((s[k]).toNat : Int) ≤ 57) = false := by simp; omega
            go_wp2_with fail
            go_meet
            exact ⟨rfl, rfl⟩
          · have i1 : decide ((48 : Int) ≤ ((s[k]).toNat : Int)) = false := by simp; omega
            go_wp2_with fail
            go_meet
            exact ⟨rfl, rfl⟩
        · go_wp2_with fail
          go_meet
          exact ⟨rfl, rfl⟩
  case rest =>
    obtain ⟨rfl, rfl⟩ := hcut
    cases t1 : ((D : Int) == 0) with
    | true =>
      have HN : Hid (oneM s = none) := Lib.hid (by rw [HM.out, if_pos (Or.inl (by have := eq_of_beq t1; omega))])
      have c0 := blk_cell HP.out 0
      have c1 := blk_cell HP.out 1
      have f0 := blk_free HP.out 0
      have f1 := blk_free HP.out 1
      dsimp at c0 c1
      go_wp2_with fail
      obtain ⟨w3, hw3⟩ : ∃ w3, w3 = (wc.setCell ⟨w.heap.size, 0, none⟩ (S [])).setCell ⟨w.heap.size, 1, none⟩ (S []) := ⟨_, rfl⟩
      obtain ⟨h3, hb3⟩ := set_two HP.out (S []) (S []) (Nat.le_refl _) HB.out
      rw [← hw3] at h3 hb3 ⊢
      have d0 := blk_cell h3 0
      have d1 := blk_cell h3 1
      dsimp at d0 d1
      exact bodyPost_ret (v := .tuple #[.agg #[S [], S []], .int .i64 0]) (by simp [results, Tryd.results16, go_sem, d0, d1]) rfl (OnePost.fail HN.out rfl hb3)
    | false =>
      have hD1 : 1 ≤ D := by have := ne_of_beq_false t1; omega
      cases t2 : decide ((9 : Int) < (D : Int)) with
      | true =>
        have HN : Hid (oneM s = none) := Lib.hid (by rw [HM.out, if_pos (Or.inr (Or.inl (by have := of_decide_eq_true t2; omega)))])
        have c0 := blk_cell HP.out 0
        have c1 := blk_cell HP.out 1
        have f0 := blk_free HP.out 0
        have f1 := blk_free HP.out 1
        dsimp at c0 c1
        go_wp2_with fail
        obtain ⟨w3, hw3⟩ : ∃ w3, w3 = (wc.setCell ⟨w.heap.size, 0, none⟩ (S [])).setCell ⟨w.heap.size, 1, none⟩ (S []) := ⟨_, rfl⟩
        obtain ⟨h3, hb3⟩ := set_two HP.out (S []) (S []) (Nat.le_refl _) HB.out
        rw [← hw3] at h3 hb3 ⊢
        have d0 := blk_cell h3 0
        have d1 := blk_cell h3 1
        dsimp at d0 d1
        exact bodyPost_ret (v := .tuple #[.agg #[S [], S []], .int .i64 0]) (by simp [results, Tryd.results16, go_sem, d0, d1]) rfl (OnePost.fail HN.out rfl hb3)
      | false =>
        have hD9 : D ≤ 9 := by have := of_decide_eq_false t2; omega
        have hs0 : 0 < s.length := by omega
        have HS0 : Hid (s[0]? = some s[0]) := List.getElem?_eq_getElem hs0
        cases t3 : (((s[0]).toNat : Int) == 48) with
        | true =>
          have HN : Hid (oneM s = none) := Lib.hid (by rw [HM.out, if_pos (Or.inr (Or.inr (by rw [HS0.out, byte48 t3])))])
          have c0 := blk_cell HP.out 0
          have c1 := blk_cell HP.out 1
          have f0 := blk_free HP.out 0
          have f1 := blk_free HP.out 1
          dsimp at c0 c1
          go_wp2_with fail
          obtain ⟨w3, hw3⟩ : ∃ w3, w3 = (wc.setCell ⟨w.heap.size, 0, none⟩ (S [])).setCell ⟨w.heap.size, 1, none⟩ (S []) := ⟨_, rfl⟩
          obtain ⟨h3, hb3⟩ := set_two HP.out (S []) (S []) (Nat.le_refl _) HB.out
          rw [← hw3] at h3 hb3 ⊢
          have d0 := blk_cell h3 0
          have d1 := blk_cell h3 1
          dsimp at d0 d1
          exact bodyPost_ret (v := .tuple #[.agg #[S [], S []], .int .i64 0]) (by simp [results, Tryd.results16, go_sem, d0, d1]) rfl (OnePost.fail HN.out rfl hb3)
        | false =>
          have HM2 : Hid (oneM s = oneAt s D (valD (s.take D))) := Lib.hid (by
            rw [HM.out, if_neg]
            rintro (h | h | h)
            · omega
            · omega
            · rw [HS0.out] at h
              simp only [Option.some.injEq] at h
              rw [h] at t3
              simp at t3)
          clear HM HDE
          clear t1 t2
          have HT3 := Lib.hid t3
          clear t3
          have t1 : ((D : Int) == 0) = false := by simp; omega
          have t2 : decide ((9 : Int) < (D : Int)) = false := by simp; omega
          have t3 := HT3.out
          go_upto_block 2 with (fail)
          clear t1 t2 t3
          go_cut [5] (fun v5 wr => v5 = .int .i64 (valD (s.take D)) ∧ wr = wc)
          case first =>
            go_wp2_with fail
            go_loopg [5, 6] D (fun g v5 v6 wr => ∃ k : Nat, g + k = D ∧ v6 = .int .i64 k ∧ v5 = .int .i64 (valD (s.take k)) ∧ Hid (wr = wc))
            case atStart => exact ⟨0, by simp, rfl, rfl, rfl⟩
            case round =>
              obtain ⟨k, hk, rfl, rfl, HW⟩ := hrel
              obtain rfl := HW.out
              clear HW
              cases gk with
              | succ g1 =>
                have hlt : k < D := by omega
                have HG : Hid (g1 + 1 + k = D) := hk
                clear hk
                have hks : k < s.length := by omega
                have hdg := dig_lo (HDI.out k hks hlt)
                have hvb := valD_bd (s := s) (D := D) (k := k) (by omega) hdl hD9 HDI.out
                have HV : Hid (valD (s.take (k + 1)) = 10 * valD (s.take k) + ((s[k]).toNat - 48)) := Lib.hid (by rw [List.take_succ_eq_append_getElem hks, valD_snoc])
                generalize valD (s.take k) = V at hvb HV
                go_wp2_with fail
                go_roundg g1
                case measure => omega
                case rel => exact ⟨k + 1, by have := HG.out; omega, by go_num, int_eq (by rw [HV.out]; omega), rfl⟩
              | zero =>
                obtain rfl : k = D := by omega
                clear hk
                go_wp2_with fail
                go_meet
                exact ⟨rfl, rfl⟩
          case rest =>
            obtain ⟨rfl, rfl⟩ := hcut
            have hvb := valD_bd (s := s) (D := D) (k := D) (Nat.le_refl _) hdl hD9 HDI.out
            generalize valD (s.take D) = V at hvb HM2
            clear HDI HT3 HS0
            cases t1 : decide (s.length < V) with
            | true =>
              have HN : Hid (oneM s = none) := Lib.hid (by rw [HM2.out, oneAt, if_pos (Or.inl (by have := of_decide_eq_true t1; omega))])
              have c0 := blk_cell HP.out 0
              have c1 := blk_cell HP.out 1
              have f0 := blk_free HP.out 0
              have f1 := blk_free HP.out 1
              dsimp at c0 c1
              go_wp2_with fail
              obtain ⟨w3, hw3⟩ : ∃ w3, w3 = (wc.setCell ⟨w.heap.size, 0, none⟩ (S [])).setCell ⟨w.heap.size, 1, none⟩ (S []) := ⟨_, rfl⟩
              obtain ⟨h3, hb3⟩ := set_two HP.out (S []) (S []) (Nat.le_refl _) HB.out
              rw [← hw3] at h3 hb3 ⊢
              have d0 := blk_cell h3 0
              have d1 := blk_cell h3 1
              dsimp at d0 d1
              exact bodyPost_ret (v := .tuple #[.agg #[S [], S []], .int .i64 0]) (by simp [results, Tryd.results16, go_sem, d0, d1]) rfl (OnePost.fail HN.out rfl hb3)
            | false =>
              have hVs : V ≤ s.length := by have := of_decide_eq_false t1; omega
              cases t2 : decide ((V : Int) < (D : Int) + 4) with
              | true =>
                have HN : Hid (oneM s = none) := Lib.hid (by rw [HM2.out, oneAt, if_pos (Or.inr (Or.inl (by have := of_decide_eq_true t2; omega)))])
                have c0 := blk_cell HP.out 0
                have c1 := blk_cell HP.out 1
                have f0 := blk_free HP.out 0
                have f1 := blk_free HP.out 1
                dsimp at c0 c1
                go_wp2_with fail
                obtain ⟨w3, hw3⟩ : ∃ w3, w3 = (wc.setCell ⟨w.heap.size, 0, none⟩ (S [])).setCell ⟨w.heap.size, 1, none⟩ (S []) := ⟨_, rfl⟩
                obtain ⟨h3, hb3⟩ := set_two HP.out (S []) (S []) (Nat.le_refl _) HB.out
                rw [← hw3] at h3 hb3 ⊢
                have d0 := blk_cell h3 0
                have d1 := blk_cell h3 1
                dsimp at d0 d1
                exact bodyPost_ret (v := .tuple #[.agg #[S [], S []], .int .i64 0]) (by simp [results, Tryd.results16, go_sem, d0, d1]) rfl (OnePost.fail HN.out rfl hb3)
              | false =>
                have hVD : D + 4 ≤ V := by have := of_decide_eq_false t2; omega
                have hDs : D < s.length := by omega
                have HSD : Hid (s[D]? = some s[D]) := List.getElem?_eq_getElem hDs
                cases t3 : (((s[D]).toNat : Int) != 32) with
                | true =>
                  have t3n : ¬ ((s[D]).toNat : Int) = 32 := by simpa using t3
                  have HN : Hid (oneM s = none) := Lib.hid (by rw [HM2.out, oneAt, if_pos (Or.inr (Or.inr (Or.inl (by rw [HSD.out]; simp only [ne_eq, Option.some.injEq]; exact byte_bne (d := 32) t3))))])
                  have c0 := blk_cell HP.out 0
                  have c1 := blk_cell HP.out 1
                  have f0 := blk_free HP.out 0
                  have f1 := blk_free HP.out 1
                  dsimp at c0 c1
                  go_wp2_with fail
                  obtain ⟨w3, hw3⟩ : ∃ w3, w3 = (wc.setCell ⟨w.heap.size, 0, none⟩ (S [])).setCell ⟨w.heap.size, 1, none⟩ (S []) := ⟨_, rfl⟩
                  obtain ⟨h3, hb3⟩ := set_two HP.out (S []) (S []) (Nat.le_refl _) HB.out
                  rw [← hw3] at h3 hb3 ⊢
                  have d0 := blk_cell h3 0
                  have d1 := blk_cell h3 1
                  dsimp at d0 d1
                  exact bodyPost_ret (v := .tuple #[.agg #[S [], S []], .int .i64 0]) (by simp [results, Tryd.results16, go_sem, d0, d1]) rfl (OnePost.fail HN.out rfl hb3)
                | false =>
                  have t3n : ((s[D]).toNat : Int) = 32 := by simpa using t3
                  obtain ⟨N, rfl⟩ : ∃ N, V = N + 1 := ⟨V - 1, by omega⟩
                  have hNs : N < s.length := by omega
                  have HSN : Hid (s[N]? = some s[N]) := List.getElem?_eq_getElem hNs
                  have e1 : ((N + 1 : Nat) : Int) = (N : Int) + 1 := by omega
                  rw [e1] at t2
                  cases t4 : (((s[N]).toNat : Int) != 10) with
                  | true =>
                    have HN : Hid (oneM s = none) := Lib.hid (by rw [HM2.out, oneAt, if_pos (Or.inr (Or.inr (Or.inr (by rw [show N + 1 - 1 = N from rfl, HSN.out]; simp only [ne_eq, Option.some.injEq]; exact byte_bne (d := 10) t4))))])
                    have c0 := blk_cell HP.out 0
                    have c1 := blk_cell HP.out 1
                    have f0 := blk_free HP.out 0
                    have f1 := blk_free HP.out 1
                    dsimp at c0 c1
                    go_wp2_with fail
                    obtain ⟨w3, hw3⟩ : ∃ w3, w3 = (wc.setCell ⟨w.heap.size, 0, none⟩ (S [])).setCell ⟨w.heap.size, 1, none⟩ (S []) := ⟨_, rfl⟩
                    obtain ⟨h3, hb3⟩ := set_two HP.out (S []) (S []) (Nat.le_refl _) HB.out
                    rw [← hw3] at h3 hb3 ⊢
                    have d0 := blk_cell h3 0
                    have d1 := blk_cell h3 1
                    dsimp at d0 d1
                    exact bodyPost_ret (v := .tuple #[.agg #[S [], S []], .int .i64 0]) (by simp [results, Tryd.results16, go_sem, d0, d1]) rfl (OnePost.fail HN.out rfl hb3)
                  | false =>
                    have HM3 : Hid (oneM s = oneScan s D (N + 1) (N - (D + 2)) (D + 2)) := Lib.hid (by
                      rw [HM2.out, oneAt, if_neg]
                      · rfl
                      · rintro (h | h | h | h)
                        · omega
                        · omega
                        · rw [HSD.out] at h; exact h (congrArg some (byte_beq (d := 32) t3))
                        · rw [show N + 1 - 1 = N from rfl, HSN.out] at h; exact h (congrArg some (byte_beq (d := 10) t4)))
                    have t1' : decide ((s.length : Int) < (N : Int) + 1) = false := by simp; omega
                    go_wp2_with fail
                    clear t1 t1' t2 t3 t3n t4 HM2
                    go_loopg [7] (N - (D + 2)) (fun g v7 wr => ∃ i : Nat, g + i = N ∧ D + 2 ≤ i ∧ v7 = .int .i64 i ∧ Hid (oneM s = oneScan s D (N + 1) g i) ∧ Hid (Below w.heap.size w wr) ∧ Hid (wr.heap[w.heap.size]? = some (.cells #[S [], S []] 33 (0, 0))))
                    case atStart => exact ⟨D + 2, by omega, Nat.le_refl _, by simp, HM3, HB, HP⟩
                    case round =>
                      clear HB HP HM3
                      obtain ⟨i, hi, hDi, rfl, HM3, HB, HP⟩ := hrel
                      cases gk with
                      | zero =>
                        obtain rfl : i = N := by omega
                        clear hi
                        have HN : Hid (oneM s = none) := Lib.hid (by rw [HM3.out]; rfl)
                        obtain ⟨wc, hwc⟩ : ∃ wc, wc = wr := ⟨_, rfl⟩
                        subst hwc
                        have c0 := blk_cell HP.out 0
                        have c1 := blk_cell HP.out 1
                        have f0 := blk_free HP.out 0
                        have f1 := blk_free HP.out 1
                        dsimp at c0 c1
                        go_wp2_with fail
                        obtain ⟨w3, hw3⟩ : ∃ w3, w3 = (wc.setCell ⟨w.heap.size, 0, none⟩ (S [])).setCell ⟨w.heap.size, 1, none⟩ (S []) := ⟨_, rfl⟩
                        obtain ⟨h3, hb3⟩ := set_two HP.out (S []) (S []) (Nat.le_refl _) HB.out
                        rw [← hw3] at h3 hb3 ⊢
                        have d0 := blk_cell h3 0
                        have d1 := blk_cell h3 1
                        dsimp at d0 d1
                        exact bodyPost_ret (v := .tuple #[.agg #[S [], S []], .int .i64 0]) (by simp [results, Tryd.results16, go_sem, d0, d1]) rfl (OnePost.fail HN.out rfl hb3)
                      | succ g1 =>
                        have hlt : i < N := by omega
                        have HG : Hid (g1 + 1 + i = N) := hi
                        clear hi
                        have his : i < s.length := by omega
                        have HSI : Hid (s[i]? = some s[i]) := List.getElem?_eq_getElem his
                        cases t1 : (((s[i]).toNat : Int) == 61) with
                        | false =>
                          have HM4 : Hid (oneM s = oneScan s D (N + 1) g1 (i + 1)) := Lib.hid (by
                            rw [HM3.out, oneScan, HSI.out, if_neg]
                            have := byte_ne t1
                            simp only [Option.some_beq_some]
                            rw [show (s[i] == 61) = false from by rw [beq_eq_false_iff_ne] at *; exact fun e => this e.symm]
                            simp)
                          go_wp2_with fail
                          go_roundg g1
                          case measure => omega
                          case rel => exact ⟨i + 1, by have := HG.out; omega, by omega, by go_num, HM4, HB, HP⟩
                        | true =>
                          have h61 := byte_eq t1
                          go_wp2_with fail
                          rw [extract_S]
                          refine (key_calls _ (piece s (D + 1) i) (by simp [piece]; omega)).mono ?_
                          rintro e w1 ⟨rfl, rfl⟩
                          cases hk : keyOk (piece s (D + 1) i) with
                          | false =>
                            have HM4 : Hid (oneM s = oneScan s D (N + 1) g1 (i + 1)) := Lib.hid (by
                              rw [HM3.out, oneScan, HSI.out, if_neg]
                              rw [hk]; simp)
                            go_wp2_with fail
                            go_roundg g1
                            case measure => omega
                            case rel => exact ⟨i + 1, by have := HG.out; omega, by omega, by go_num, HM4, HB, HP⟩
                          | true =>
                            have HM4 : Hid (oneM s = if recM (piece s (D + 1) i, piece s (i + 1) N) == s.take (N + 1) then some ((piece s (D + 1) i, piece s (i + 1) N), N + 1) else none) := Lib.hid (by
                              rw [HM3.out, oneScan, HSI.out, h61, hk]
                              simp)
                            clear HM3 hk t1 h61
                            go_wp2_with fail
                            go_region
                            go_wp2_with fail
                            simp only [extract_S]
                            rw [show ((s.drop (D + 1)).take (i - (D + 1))) = piece s (D + 1) i from rfl, show ((s.drop (i + 1)).take (N - (i + 1))) = piece s (i + 1) N from rfl]
                            have hpl : (piece s (D + 1) i).length + (piece s (i + 1) N).length ≤ 900000000 := by simp [piece]; omega
                            generalize piece s (D + 1) i = ek at HM4 hpl
                            generalize piece s (i + 1) N = ev at HM4 hpl
                            obtain ⟨w2, hw2⟩ : ∃ w2, w2 = (wr.alloc (.cells #[S ek, S ev] 33)).drew := ⟨_, rfl⟩
                            have HB2 : Hid (Below w.heap.size w w2) := Lib.hid (by rw [hw2]; exact (HB.out.alloc HB.out.size _).drew)
                            have HP2 : Hid (w2.heap[w.heap.size]? = some (.cells #[S [], S []] 33 (0, 0))) := Lib.hid (by rw [hw2]; exact blk_ext HP.out (below_new wr _).drew)
                            have HQ2 : Hid (w2.heap[wr.heap.size]? = some (.cells #[S ek, S ev] 33 (0, 0))) := Lib.hid (by rw [hw2]; exact blk_new wr _)
                            rw [← hw2]
                            clear hw2
                            have q0 := blk_cell HQ2.out 0
                            have q1 := blk_cell HQ2.out 1
                            dsimp at q0 q1
                            go_region_with (go_at_call 26; refine (record_calls _ ek ev hpl).mono ?_; rintro e wc ⟨rfl, hb3⟩)
                            all_goals
                              rw [extract_take]
                              have hb3' := below_drew hb3
                              clear hb3 q0 q1
                              have HB : Hid (Below w.heap.size w wc) := below_then HB2.out hb3'
                              have HP := Lib.hid (blk_ext HP2.out hb3')
                              have HQ := Lib.hid (blk_ext HQ2.out hb3')
                              clear hb3'
                              cases hc : (recM (ek, ev) == s.take (N + 1)) with
                              | false =>
                                have HN : Hid (oneM s = none) := Lib.hid (by rw [HM4.out, hc]; rfl)
                                clear hc HM4
                                have c0 := blk_cell HP.out 0
                                have c1 := blk_cell HP.out 1
                                have f0 := blk_free HP.out 0
                                have f1 := blk_free HP.out 1
                                dsimp at c0 c1
                                go_wp2_with fail
                                obtain ⟨w3, hw3⟩ : ∃ w3, w3 = (wc.setCell ⟨w.heap.size, 0, none⟩ (S [])).setCell ⟨w.heap.size, 1, none⟩ (S []) := ⟨_, rfl⟩
                                obtain ⟨h3, hb3⟩ := set_two HP.out (S []) (S []) (Nat.le_refl _) HB.out
                                rw [← hw3] at h3 hb3 ⊢
                                have d0 := blk_cell h3 0
                                have d1 := blk_cell h3 1
                                dsimp at d0 d1
                                exact bodyPost_ret (v := .tuple #[.agg #[S [], S []], .int .i64 0]) (by simp [results, Tryd.results16, go_sem, d0, d1]) rfl (OnePost.fail HN.out rfl hb3)
                              | true =>
                                have HN : Hid (oneM s = some ((ek, ev), N + 1)) := Lib.hid (by rw [HM4.out, hc]; rfl)
                                clear hc HM4
                                have q0 := blk_cell HQ.out 0
                                have q1 := blk_cell HQ.out 1
                                dsimp at q0 q1
                                have c0 := blk_cell HP.out 0
                                have c1 := blk_cell HP.out 1
                                have f0 := blk_free HP.out 0
                                have f1 := blk_free HP.out 1
                                dsimp at c0 c1
                                go_wp2_with fail
                                obtain ⟨w3, hw3⟩ : ∃ w3, w3 = (wc.setCell ⟨w.heap.size, 0, none⟩ (S ek)).setCell ⟨w.heap.size, 1, none⟩ (S ev) := ⟨_, rfl⟩
                                obtain ⟨h3, hb3⟩ := set_two HP.out (S ek) (S ev) (Nat.le_refl _) HB.out
                                rw [← hw3] at h3 hb3 ⊢
                                have d0 := blk_cell h3 0
                                have d1 := blk_cell h3 1
                                dsimp at d0 d1
                                exact bodyPost_ret (v := .tuple #[.agg #[S ek, S ev], .int .i64 ((N : Int) + 1)]) (by simp [results, Tryd.results16, go_sem, d0, d1]) rfl ⟨(ek, ev), N + 1, by simp, by rw [HN.out]; simp, by omega, hb3⟩
end Go.Proofs.YthlgjipbpgaobaaDoor
