/- Walks: pax.cut. -/
import Derived.Test.YthlgjipbpgaobaaDoorPaxA
import Derived.Test.YthlgjipbpgaobaaDoorCnt
import Derived.Lib.AtoiAllCases
import Derived.RegionTactic
import Derived.ChangeAlike
namespace Go.Proofs.YthlgjipbpgaobaaDoor
open Go.RowKit

/-- What pax.cut hands back. -/
def CutPost (s : Str) (w : World) (e : Ending) (w' : World) : Prop :=
  ∃ (p : Str × Str) (rest : Str) (ok : Bool), e = .returned (.tuple #[.agg #[S p.1, S p.2], S rest, .bool ok]) ∧ cutM s = (if ok then some (p, rest) else none) ∧ Below w.heap.size w w'

theorem CutPost.done {s : Str} {w w' : World} {e : Ending} {key value rest : Str} (ok : Bool) (h1 : cutM s = (if ok then some ((key, value), rest) else none)) (h2 : e = .returned (.tuple #[.agg #[S key, S value], S rest, .bool ok])) (h3 : Below w.heap.size w w') : CutPost s w e w' :=
  ⟨(key, value), rest, ok, h2, h1, h3⟩
theorem CutPost.fail {s : Str} {w w' : World} {e : Ending} (h1 : cutM s = none) (h2 : e = .returned (.tuple #[.agg #[S [], S []], S [], .bool false])) (h3 : Below w.heap.size w w') : CutPost s w e w' :=
  ⟨([], []), [], false, h2, by simpa using h1, h3⟩

theorem len_no {n t : Nat} {v : Int} (hv : v = n) (h5 : (((lenM (n - t) : Nat) : Int) != v) = true) (h : lenM (v.toNat - t) = v.toNat) : False := by
  subst hv
  simp only [Int.toNat_natCast] at h
  rw [h] at h5
  simp at h5
theorem len_yes {n t : Nat} {v : Int} (hv : v = n) (h5 : (((lenM (n - t) : Nat) : Int) != v) = false) : lenM (v.toNat - t) = v.toNat := by
  subst hv
  simp only [Int.toNat_natCast]
  simp only [bne_eq_false_iff_eq] at h5
  omega



set_option maxHeartbeats 1000000 in
set_option maxRecDepth 100000 in
theorem cut_calls (w : World) (hg : GL w) (s : Str) (hs : s.length ≤ 1000000000) :
    Calls Tryd.prog 14 #[S s] w (CutPost s w) := by
  have HS := Lib.hid hs
  clear hs
  go_enter Tryd.func14, Tryd.ntmps14
  go_wp2_with fail
  have HP := Lib.hid (blk_new w (.cells #[S [], S []] 33))
  have HB : Hid (Below w.heap.size w (w.alloc (.cells #[S [], S []] 33))) := below_new w _
  refine (cut1_calls _ (hg.ext HB.out) _ _ HS.out).mono ?_
  rintro e wc ⟨rfl, hbc⟩
  replace HP := Lib.hid (blk_ext HP.out hbc)
  replace HB : Hid (Below w.heap.size w wc) := below_then HB.out hbc
  clear hbc
  have HC : Hid (cutM s = cutAt s (cut1 32 s).1 (cut1 32 s).2.2) := rfl
  have HTL : Hid ((cut1 32 s).1.length ≤ s.length) := cut1_len 32 s
  generalize cut1 32 s = q at HC HTL
  obtain ⟨text, rest0, is⟩ := q
  dsimp only at HC HTL
  have htl : text.length ≤ 1000000000 := Nat.le_trans HTL.out HS.out
  rcases hat : Lib.atoiAll text with v | _ | _
  ·
    have hv := Lib.atoiAll_bounds hat
    have HAT := Lib.hid hat
    clear hat
    go_wp2_with fail
    refine (atoi_ok_calls _ text htl v HAT.out).mono ?_
    rintro e wc ⟨rfl, hbc⟩
    replace HP := Lib.hid (blk_ext HP.out hbc)
    replace HB : Hid (Below w.heap.size w wc) := below_then HB.out hbc
    clear hbc
    cases is with
    | false =>
      have HN : Hid (cutM s = none) := Lib.hid (by rw [HC.out]; simp [cutAt])
      have c0 := blk_cell HP.out 0
      have c1 := blk_cell HP.out 1
      have f0 := blk_free HP.out 0
      have f1 := blk_free HP.out 1
      dsimp at c0 c1
      go_wp2_with fail
      obtain ⟨w3, hw3⟩ : ∃ w3, w3 = (wc.setCell ⟨w.heap.size, 0, none⟩ (S [])).setCell ⟨w.heap.size, 1, none⟩ (S []) := ⟨_, rfl⟩
      obtain ⟨h3, hb3⟩ := set_two HP.out (S []) (S []) (Nat.le_refl _) HB.out
      rw [← hw3] at h3 hb3 ⊢
      have d0 := blk_cell h3 0
      have d1 := blk_cell h3 1
      dsimp at d0 d1
      exact bodyPost_ret (v := .tuple #[.agg #[S [], S []], S [], .bool false]) (by simp [results, Tryd.results14, go_sem, d0, d1]) rfl (CutPost.fail HN.out rfl hb3)
    | true =>
      have HC2 : Hid (cutM s = (numM s text).bind fun n => (bodyM ((s.drop (text.length + 1)).take (n - (text.length + 1)))).map fun p => (p, s.drop n)) := Lib.hid (by rw [HC.out]; simp [cutAt])
      clear HC
      have HNUM : Hid (numM s text = if Lib.itoa v = text ∧ text.length ≤ 9 ∧ v ≤ (s.length : Int) ∧ (text.length : Int) + 1 < v ∧ lenM (v.toNat - text.length) = v.toNat then some v.toNat else none) := Lib.hid (by rw [numM, HAT.out])
      clear HAT
      go_wp2_with fail
      refine (itoaZ_calls _ (hg.ext HB.out) v hv.1 hv.2).mono ?_
      rintro e wc ⟨rfl, hbc⟩
      replace HP := Lib.hid (blk_ext HP.out hbc)
      replace HB : Hid (Below w.heap.size w wc) := below_then HB.out hbc
      clear hbc
      by_cases h1 : Lib.itoa v = text
      · cases h2 : decide ((9 : Int) < (text.length : Int)) with
        | true =>
          have HN : Hid (cutM s = none) := Lib.hid (by rw [HC2.out, HNUM.out, if_neg (fun h => by have := of_decide_eq_true h2; have := h.2.1; omega)]; rfl)
          have c0 := blk_cell HP.out 0
          have c1 := blk_cell HP.out 1
          have f0 := blk_free HP.out 0
          have f1 := blk_free HP.out 1
          dsimp at c0 c1
          go_wp2_with fail
          obtain ⟨w3, hw3⟩ : ∃ w3, w3 = (wc.setCell ⟨w.heap.size, 0, none⟩ (S [])).setCell ⟨w.heap.size, 1, none⟩ (S []) := ⟨_, rfl⟩
          obtain ⟨h3, hb3⟩ := set_two HP.out (S []) (S []) (Nat.le_refl _) HB.out
          rw [← hw3] at h3 hb3 ⊢
          have d0 := blk_cell h3 0
          have d1 := blk_cell h3 1
          dsimp at d0 d1
          exact bodyPost_ret (v := .tuple #[.agg #[S [], S []], S [], .bool false]) (by simp [results, Tryd.results14, go_sem, d0, d1]) rfl (CutPost.fail HN.out rfl hb3)
        | false =>
          cases h3 : decide ((s.length : Int) < v) with
          | true =>
            have HN : Hid (cutM s = none) := Lib.hid (by rw [HC2.out, HNUM.out, if_neg (fun h => by have := of_decide_eq_true h3; have := h.2.2.1; omega)]; rfl)
            have c0 := blk_cell HP.out 0
            have c1 := blk_cell HP.out 1
            have f0 := blk_free HP.out 0
            have f1 := blk_free HP.out 1
            dsimp at c0 c1
            go_wp2_with fail
            obtain ⟨w3, hw3⟩ : ∃ w3, w3 = (wc.setCell ⟨w.heap.size, 0, none⟩ (S [])).setCell ⟨w.heap.size, 1, none⟩ (S []) := ⟨_, rfl⟩
            obtain ⟨h3, hb3⟩ := set_two HP.out (S []) (S []) (Nat.le_refl _) HB.out
            rw [← hw3] at h3 hb3 ⊢
            have d0 := blk_cell h3 0
            have d1 := blk_cell h3 1
            dsimp at d0 d1
            exact bodyPost_ret (v := .tuple #[.agg #[S [], S []], S [], .bool false]) (by simp [results, Tryd.results14, go_sem, d0, d1]) rfl (CutPost.fail HN.out rfl hb3)
          | false =>
            cases h4 : decide (v ≤ (text.length : Int) + 1) with
            | true =>
              have HN : Hid (cutM s = none) := Lib.hid (by rw [HC2.out, HNUM.out, if_neg (fun h => by have := of_decide_eq_true h4; have := h.2.2.2.1; omega)]; rfl)
              have c0 := blk_cell HP.out 0
              have c1 := blk_cell HP.out 1
              have f0 := blk_free HP.out 0
              have f1 := blk_free HP.out 1
              dsimp at c0 c1
              go_wp2_with fail
              obtain ⟨w3, hw3⟩ : ∃ w3, w3 = (wc.setCell ⟨w.heap.size, 0, none⟩ (S [])).setCell ⟨w.heap.size, 1, none⟩ (S []) := ⟨_, rfl⟩
              obtain ⟨h3, hb3⟩ := set_two HP.out (S []) (S []) (Nat.le_refl _) HB.out
              rw [← hw3] at h3 hb3 ⊢
              have d0 := blk_cell h3 0
              have d1 := blk_cell h3 1
              dsimp at d0 d1
              exact bodyPost_ret (v := .tuple #[.agg #[S [], S []], S [], .bool false]) (by simp [results, Tryd.results14, go_sem, d0, d1]) rfl (CutPost.fail HN.out rfl hb3)
            | false =>
              have i2 : text.length ≤ 9 := by have := of_decide_eq_false h2; omega
              have i3 : v ≤ (s.length : Int) := by have := of_decide_eq_false h3; omega
              have i4 : (text.length : Int) + 1 < v := by have := of_decide_eq_false h4; omega
              go_wp2_with fail
              obtain ⟨n, hn⟩ : ∃ n : Nat, v = n := ⟨v.toNat, by omega⟩
              rw [show (v - (text.length : Int)) = ((n - text.length : Nat) : Int) from by omega]
              have HNV := Lib.hid hn
              refine (length_calls _ (hg.ext HB.out) (n - text.length) (by have := HS.out; omega)).mono ?_
              clear hn
              rintro e wc ⟨rfl, hbc⟩
              replace HP := Lib.hid (blk_ext HP.out hbc)
              replace HB : Hid (Below w.heap.size w wc) := below_then HB.out hbc
              clear hbc
              cases h5 : (((lenM (n - text.length) : Nat) : Int) != v) with
              | true =>
                have HN : Hid (cutM s = none) := Lib.hid (by rw [HC2.out, HNUM.out, if_neg (fun h => len_no HNV.out h5 h.2.2.2.2)]; rfl)
                have c0 := blk_cell HP.out 0
                have c1 := blk_cell HP.out 1
                have f0 := blk_free HP.out 0
                have f1 := blk_free HP.out 1
                dsimp at c0 c1
                go_wp2_with fail
                obtain ⟨w3, hw3⟩ : ∃ w3, w3 = (wc.setCell ⟨w.heap.size, 0, none⟩ (S [])).setCell ⟨w.heap.size, 1, none⟩ (S []) := ⟨_, rfl⟩
                obtain ⟨h3, hb3⟩ := set_two HP.out (S []) (S []) (Nat.le_refl _) HB.out
                rw [← hw3] at h3 hb3 ⊢
                have d0 := blk_cell h3 0
                have d1 := blk_cell h3 1
                dsimp at d0 d1
                exact bodyPost_ret (v := .tuple #[.agg #[S [], S []], S [], .bool false]) (by simp [results, Tryd.results14, go_sem, d0, d1]) rfl (CutPost.fail HN.out rfl hb3)
              | false =>
                go_wp2_with fail
                rw [extract_S]
                refine (cutSuffix_calls _ _ [10] (by have := HS.out; simp; omega)).mono ?_
                rintro e wc ⟨rfl, hbc⟩
                replace HP := Lib.hid (blk_ext HP.out hbc)
                replace HB : Hid (Below w.heap.size w wc) := below_then HB.out hbc
                clear hbc
                have HBODY : Hid (cutM s = (bodyM ((s.drop (text.length + 1)).take (v.toNat - (text.length + 1)))).map fun p => (p, s.drop v.toNat)) := Lib.hid (by rw [HC2.out, HNUM.out, if_pos ⟨h1, i2, i3, i4, len_yes HNV.out h5⟩]; rfl)
                have hbl : ((s.drop (text.length + 1)).take (v.toNat - (text.length + 1))).length ≤ 1000000000 := by have := HS.out; simp; omega
                generalize (s.drop (text.length + 1)).take (v.toNat - (text.length + 1)) = body at HBODY hbl
                have htr : (Lib.trimSuffix body [10]).length ≤ 1000000000 := by exact Nat.le_trans (trimSuffix_le _ _) hbl
                have HBM : Hid (bodyM body = if Lib.hasSuffix body [10] && (cut1 61 (Lib.trimSuffix body [10])).2.2 && !((cut1 61 (Lib.trimSuffix body [10])).1 == []) then some ((cut1 61 (Lib.trimSuffix body [10])).1, (cut1 61 (Lib.trimSuffix body [10])).2.1) else none) := rfl
                generalize Lib.trimSuffix body [10] = trim at HBM htr
                generalize Lib.hasSuffix body [10] = ended at HBM
                go_wp2_with fail
                refine (cut1_calls _ (hg.ext HB.out) _ _ htr).mono ?_
                rintro e wc ⟨rfl, hbc⟩
                replace HP := Lib.hid (blk_ext HP.out hbc)
                replace HB : Hid (Below w.heap.size w wc) := below_then HB.out hbc
                clear hbc
                generalize cut1 61 trim = q at HBM
                obtain ⟨key, value, is⟩ := q
                dsimp only at HBM
                have c0 := blk_cell HP.out 0
                have c1 := blk_cell HP.out 1
                have f0 := blk_free HP.out 0
                have f1 := blk_free HP.out 1
                dsimp at c0 c1
                go_wp2_with fail
                obtain ⟨w4, hw4⟩ : ∃ w4, w4 = (wc.setCell ⟨w.heap.size, 0, none⟩ (S key)).setCell ⟨w.heap.size, 1, none⟩ (S value) := ⟨_, rfl⟩
                obtain ⟨h4', hb4⟩ := set_two HP.out (S key) (S value) (Nat.le_refl _) HB.out
                rw [← hw4] at h4' hb4 ⊢
                have HP4 := Lib.hid h4'
                have HB4 := Lib.hid hb4
                clear hw4 h4' hb4 c0 c1 f0 f1 h1 h2 h3 h4 h5
                have c0 := blk_cell HP4.out 0
                have c1 := blk_cell HP4.out 1
                have f0 := blk_free HP4.out 0
                have f1 := blk_free HP4.out 1
                dsimp at c0 c1
                cases ended
                ·
                  go_region
                  all_goals
                    obtain ⟨w5, hw5⟩ : ∃ w5, w5 = ((w4.setCell ⟨w.heap.size, 0, none⟩ (S key)).setCell ⟨w.heap.size, 1, none⟩ (S value)).drew := ⟨_, rfl⟩
                    obtain ⟨h5', hb5⟩ := set_two HP4.out (S key) (S value) (Nat.le_refl _) HB4.out
                    have h5d : w5.heap[w.heap.size]? = some (.cells #[S key, S value] 33 (0, 0)) := by rw [hw5]; exact h5'
                    have hb5d : Below w.heap.size w w5 := by rw [hw5]; exact hb5.drew
                    rw [← hw5]
                    clear hw5 h5' hb5
                    go_wp2_with fail
                    have d0 := blk_cell h5d 0
                    have d1 := blk_cell h5d 1
                    dsimp at d0 d1
                    refine bodyPost_ret (v := .tuple #[.agg #[S key, S value], .string ((⟨s.toArray⟩ : ByteArray).extract v.toNat s.length), .bool false]) (by simp [results, Tryd.results14, go_sem, d0, d1]) rfl ?_
                    rw [extract_end]
                    exact CutPost.done false (by rw [HBODY.out, HBM.out]; simp) rfl hb5d
                · cases is
                  ·
                    go_region
                    all_goals
                      obtain ⟨w5, hw5⟩ : ∃ w5, w5 = ((w4.setCell ⟨w.heap.size, 0, none⟩ (S key)).setCell ⟨w.heap.size, 1, none⟩ (S value)).drew := ⟨_, rfl⟩
                      obtain ⟨h5', hb5⟩ := set_two HP4.out (S key) (S value) (Nat.le_refl _) HB4.out
                      have h5d : w5.heap[w.heap.size]? = some (.cells #[S key, S value] 33 (0, 0)) := by rw [hw5]; exact h5'
                      have hb5d : Below w.heap.size w w5 := by rw [hw5]; exact hb5.drew
                      rw [← hw5]
                      clear hw5 h5' hb5
                      go_wp2_with fail
                      have d0 := blk_cell h5d 0
                      have d1 := blk_cell h5d 1
                      dsimp at d0 d1
                      refine bodyPost_ret (v := .tuple #[.agg #[S key, S value], .string ((⟨s.toArray⟩ : ByteArray).extract v.toNat s.length), .bool false]) (by simp [results, Tryd.results14, go_sem, d0, d1]) rfl ?_
                      rw [extract_end]
                      exact CutPost.done false (by rw [HBODY.out, HBM.out]; simp) rfl hb5d
                  · cases key with
                    | nil =>
                      go_region
                      all_goals
                        obtain ⟨w5, hw5⟩ : ∃ w5, w5 = ((w4.setCell ⟨w.heap.size, 0, none⟩ (S [])).setCell ⟨w.heap.size, 1, none⟩ (S value)).drew := ⟨_, rfl⟩
                        obtain ⟨h5', hb5⟩ := set_two HP4.out (S []) (S value) (Nat.le_refl _) HB4.out
                        have h5d : w5.heap[w.heap.size]? = some (.cells #[S [], S value] 33 (0, 0)) := by rw [hw5]; exact h5'
                        have hb5d : Below w.heap.size w w5 := by rw [hw5]; exact hb5.drew
                        rw [← hw5]
                        clear hw5 h5' hb5
                        go_wp2_with fail
                        have d0 := blk_cell h5d 0
                        have d1 := blk_cell h5d 1
                        dsimp at d0 d1
                        refine bodyPost_ret (v := .tuple #[.agg #[S [], S value], .string ((⟨s.toArray⟩ : ByteArray).extract v.toNat s.length), .bool false]) (by simp [results, Tryd.results14, go_sem, d0, d1]) rfl ?_
                        rw [extract_end]
                        exact CutPost.done false (by rw [HBODY.out, HBM.out]; simp) rfl hb5d
                    | cons kc kr =>
                      go_region
                      all_goals
                        obtain ⟨w5, hw5⟩ : ∃ w5, w5 = ((w4.setCell ⟨w.heap.size, 0, none⟩ (S (kc::kr))).setCell ⟨w.heap.size, 1, none⟩ (S value)).drew := ⟨_, rfl⟩
                        obtain ⟨h5', hb5⟩ := set_two HP4.out (S (kc::kr)) (S value) (Nat.le_refl _) HB4.out
                        have h5d : w5.heap[w.heap.size]? = some (.cells #[S (kc::kr), S value] 33 (0, 0)) := by rw [hw5]; exact h5'
                        have hb5d : Below w.heap.size w w5 := by rw [hw5]; exact hb5.drew
                        rw [← hw5]
                        clear hw5 h5' hb5
                        go_wp2_with fail
                        have d0 := blk_cell h5d 0
                        have d1 := blk_cell h5d 1
                        dsimp at d0 d1
                        refine bodyPost_ret (v := .tuple #[.agg #[S (kc::kr), S value], .string ((⟨s.toArray⟩ : ByteArray).extract v.toNat s.length), .bool true]) (by simp [results, Tryd.results14, go_sem, d0, d1]) rfl ?_
                        rw [extract_end]
                        exact CutPost.done true (by rw [HBODY.out, HBM.out]; simp) rfl hb5d
      · have HN : Hid (cutM s = none) := Lib.hid (by rw [HC2.out, HNUM.out, if_neg (fun h => h1 h.1)]; rfl)
        have c0 := blk_cell HP.out 0
        have c1 := blk_cell HP.out 1
        have f0 := blk_free HP.out 0
        have f1 := blk_free HP.out 1
        dsimp at c0 c1
        go_wp2_with fail
        obtain ⟨w3, hw3⟩ : ∃ w3, w3 = (wc.setCell ⟨w.heap.size, 0, none⟩ (S [])).setCell ⟨w.heap.size, 1, none⟩ (S []) := ⟨_, rfl⟩
        obtain ⟨h3, hb3⟩ := set_two HP.out (S []) (S []) (Nat.le_refl _) HB.out
        rw [← hw3] at h3 hb3 ⊢
        have d0 := blk_cell h3 0
        have d1 := blk_cell h3 1
        dsimp at d0 d1
        exact bodyPost_ret (v := .tuple #[.agg #[S [], S []], S [], .bool false]) (by simp [results, Tryd.results14, go_sem, d0, d1]) rfl (CutPost.fail HN.out rfl hb3)
  ·
    have HN : Hid (cutM s = none) := Lib.hid (by rw [HC.out]; cases is <;> simp [cutAt, numM, hat])
    have hbad : ∀ v, Lib.atoiAll text ≠ .ok v := by rw [hat]; intro v; simp
    have HBAD := Lib.hid hbad
    clear hat hbad
    go_wp2_with fail
    refine (atoi_bad_calls _ (hg.ext HB.out) text htl HBAD.out).mono ?_
    rintro e wc ⟨nb, xb, rfl, hbc⟩
    replace HP := Lib.hid (blk_ext HP.out hbc)
    replace HB : Hid (Below w.heap.size w wc) := below_then HB.out hbc
    clear hbc
    cases is
    ·
      have c0 := blk_cell HP.out 0
      have c1 := blk_cell HP.out 1
      have f0 := blk_free HP.out 0
      have f1 := blk_free HP.out 1
      dsimp at c0 c1
      go_wp2_with fail
      obtain ⟨w3, hw3⟩ : ∃ w3, w3 = (wc.setCell ⟨w.heap.size, 0, none⟩ (S [])).setCell ⟨w.heap.size, 1, none⟩ (S []) := ⟨_, rfl⟩
      obtain ⟨h3, hb3⟩ := set_two HP.out (S []) (S []) (Nat.le_refl _) HB.out
      rw [← hw3] at h3 hb3 ⊢
      have d0 := blk_cell h3 0
      have d1 := blk_cell h3 1
      dsimp at d0 d1
      exact bodyPost_ret (v := .tuple #[.agg #[S [], S []], S [], .bool false]) (by simp [results, Tryd.results14, go_sem, d0, d1]) rfl (CutPost.fail HN.out rfl hb3)
    ·
      have c0 := blk_cell HP.out 0
      have c1 := blk_cell HP.out 1
      have f0 := blk_free HP.out 0
      have f1 := blk_free HP.out 1
      dsimp at c0 c1
      go_wp2_with fail
      obtain ⟨w3, hw3⟩ : ∃ w3, w3 = (wc.setCell ⟨w.heap.size, 0, none⟩ (S [])).setCell ⟨w.heap.size, 1, none⟩ (S []) := ⟨_, rfl⟩
      obtain ⟨h3, hb3⟩ := set_two HP.out (S []) (S []) (Nat.le_refl _) HB.out
      rw [← hw3] at h3 hb3 ⊢
      have d0 := blk_cell h3 0
      have d1 := blk_cell h3 1
      dsimp at d0 d1
      exact bodyPost_ret (v := .tuple #[.agg #[S [], S []], S [], .bool false]) (by simp [results, Tryd.results14, go_sem, d0, d1]) rfl (CutPost.fail HN.out rfl hb3)
  ·
    have HN : Hid (cutM s = none) := Lib.hid (by rw [HC.out]; cases is <;> simp [cutAt, numM, hat])
    have hbad : ∀ v, Lib.atoiAll text ≠ .ok v := by rw [hat]; intro v; simp
    have HBAD := Lib.hid hbad
    clear hat hbad
    go_wp2_with fail
    refine (atoi_bad_calls _ (hg.ext HB.out) text htl HBAD.out).mono ?_
    rintro e wc ⟨nb, xb, rfl, hbc⟩
    replace HP := Lib.hid (blk_ext HP.out hbc)
    replace HB : Hid (Below w.heap.size w wc) := below_then HB.out hbc
    clear hbc
    cases is
    ·
      have c0 := blk_cell HP.out 0
      have c1 := blk_cell HP.out 1
      have f0 := blk_free HP.out 0
      have f1 := blk_free HP.out 1
      dsimp at c0 c1
      go_wp2_with fail
      obtain ⟨w3, hw3⟩ : ∃ w3, w3 = (wc.setCell ⟨w.heap.size, 0, none⟩ (S [])).setCell ⟨w.heap.size, 1, none⟩ (S []) := ⟨_, rfl⟩
      obtain ⟨h3, hb3⟩ := set_two HP.out (S []) (S []) (Nat.le_refl _) HB.out
      rw [← hw3] at h3 hb3 ⊢
      have d0 := blk_cell h3 0
      have d1 := blk_cell h3 1
      dsimp at d0 d1
      exact bodyPost_ret (v := .tuple #[.agg #[S [], S []], S [], .bool false]) (by simp [results, Tryd.results14, go_sem, d0, d1]) rfl (CutPost.fail HN.out rfl hb3)
    ·
      have c0 := blk_cell HP.out 0
      have c1 := blk_cell HP.out 1
      have f0 := blk_free HP.out 0
      have f1 := blk_free HP.out 1
      dsimp at c0 c1
      go_wp2_with fail
      obtain ⟨w3, hw3⟩ : ∃ w3, w3 = (wc.setCell ⟨w.heap.size, 0, none⟩ (S [])).setCell ⟨w.heap.size, 1, none⟩ (S []) := ⟨_, rfl⟩
      obtain ⟨h3, hb3⟩ := set_two HP.out (S []) (S []) (Nat.le_refl _) HB.out
      rw [← hw3] at h3 hb3 ⊢
      have d0 := blk_cell h3 0
      have d1 := blk_cell h3 1
      dsimp at d0 d1
      exact bodyPost_ret (v := .tuple #[.agg #[S [], S []], S [], .bool false]) (by simp [results, Tryd.results14, go_sem, d0, d1]) rfl (CutPost.fail HN.out rfl hb3)

end Go.Proofs.YthlgjipbpgaobaaDoor
