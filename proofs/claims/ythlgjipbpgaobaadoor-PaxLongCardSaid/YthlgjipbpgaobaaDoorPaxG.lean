/- Walks: the reference's record, Same; law 07's Few. -/
import Derived.Test.YthlgjipbpgaobaaDoorPaxF
import Derived.Test.YthlgjipbpgaobaaDoorEq
namespace Go.Proofs.YthlgjipbpgaobaaDoor
open Go.RowKit

theorem list_ne_len {α : Type} [BEq α] [LawfulBEq α] {l m : List α} (h : l.length ≠ m.length) : (l == m) = false := by
  rw [beq_eq_false_iff_ne]; rintro rfl; exact h rfl
theorem list_ne_at {α : Type} [BEq α] [LawfulBEq α] {l m : List α} {k : Nat} (h1 : k < l.length) (h2 : k < m.length) (h : l[k] ≠ m[k]) : (l == m) = false := by
  rw [beq_eq_false_iff_ne]; rintro rfl; exact h rfl

set_option maxHeartbeats 1000000 in
set_option maxRecDepth 100000 in
theorem record_calls (w : World) (k v : Str) (hs : k.length + v.length ≤ 900000000) :
    Calls Tryd.prog 26 #[.agg #[S k, S v]] w fun e w' => e = .returned (S (recM (k, v))) ∧ Below w.heap.size w w' := by
  go_enter Tryd.func26, Tryd.ntmps26
  go_wp2_with fail
  simp only [append_S, List.append_assoc, List.cons_append, List.nil_append]
  rw [show (32 :: (k ++ 61 :: (v ++ [10]))) = restM (k, v) from by simp [restM]]
  have HRL : Hid ((restM (k, v)).length = 1 + k.length + 1 + v.length + 1) := Lib.hid (by simp [restM]; omega)
  rw [show (1 + (k.length : Int) + 1 + (v.length : Int) + 1) = (((restM (k, v)).length : Nat) : Int) from by rw [HRL.out]; omega]
  have hrl : (restM (k, v)).length ≤ 900000003 := by rw [HRL.out]; omega
  have HREC : Hid (recM (k, v) = dec (lenM (restM (k, v)).length) ++ restM (k, v)) := rfl
  generalize restM (k, v) = r at HRL hrl HREC
  have HFX := Lib.hid (lenM_fix r.length (by omega))
  have hlm := lenM_le r.length
  generalize hM : lenM r.length = M at HREC HFX hlm
  clear hM
  go_loopg [4] (M - r.length) (fun g v4 wr => ∃ n : Nat, g + n = M ∧ r.length ≤ n ∧ v4 = .int .i64 n ∧ Hid (Below w.heap.size w wr))
  case atStart =>
    have hle : r.length ≤ M := by have := HFX.out.1; omega
    exact ⟨r.length, by omega, Nat.le_refl _, rfl, below_new w _⟩
  case round =>
    obtain ⟨n, hn, hrn, rfl, HB⟩ := hrel
    go_wp2_with fail
    refine (text_calls n _ (by omega)).mono ?_
    rintro e w1 ⟨rfl, hb1⟩
    have HB1 : Hid (Below w.heap.size w w1) := below_then HB.out hb1
    clear hb1 HB
    have hdl := dec_len20 n (by omega)
    cases gk with
    | zero =>
      obtain rfl : n = M := by omega
      clear hn
      have hstop : (((dec n).length : Int) + (r.length : Int) != (n : Int)) = false := by
        have := HFX.out.1
        rw [← dec_length] at this
        simp only [bne_eq_false_iff_eq]
        omega
      go_wp2_with fail
      refine (text_calls n _ (by omega)).mono ?_
      rintro e w2 ⟨rfl, hb2⟩
      have HB2 : Hid (Below w.heap.size w w2) := below_then HB1.out hb2
      clear hb2
      go_wp2_with fail
      simp only [append_S]
      go_ret
      exact ⟨ret_eq (congrArg S HREC.out.symm), HB2.out⟩
    | succ g1 =>
      have HG : Hid (g1 + 1 + n = M) := hn
      have hlt : n < M := by omega
      clear hn
      have hgo : (((dec n).length : Int) + (r.length : Int) != (n : Int)) = true := by
        have := HFX.out.2 n hrn hlt
        rw [← dec_length] at this
        rw [bne_iff_ne]
        omega
      go_wp2_with fail
      go_roundg g1
      case measure => omega
      case rel => exact ⟨n + 1, by have := HG.out; omega, by omega, by go_num, HB1⟩

end Go.Proofs.YthlgjipbpgaobaaDoor
