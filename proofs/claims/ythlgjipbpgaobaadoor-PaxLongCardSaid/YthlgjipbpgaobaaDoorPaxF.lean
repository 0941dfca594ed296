/- Walks: the reference's Text, key, record, Same. -/
import Derived.Test.YthlgjipbpgaobaaDoorPaxM
import Derived.Test.YthlgjipbpgaobaaDoorOwn
import Derived.Test.YthlgjipbpgaobaaDoorBuf
import Derived.Laws.StructEq
namespace Go.Proofs.YthlgjipbpgaobaaDoor
open Go.RowKit

theorem digit_piece : ∀ n : Fin 10, (([48,49,50,51,52,53,54,55,56,57] : List UInt8).drop n.val).take 1 = Lib.decDigits n.val := by
  intro n
  rw [Lib.decDigits_one n.isLt]
  revert n
  decide

theorem byte_eq {c : UInt8} (h : ((c.toNat : Int) == 61) = true) : c = 61 := by
  have := eq_of_beq h
  have h2 : c.toNat = 61 := by omega
  exact UInt8.toNat_inj.1 (by rw [h2]; rfl)
theorem byte_ne {c : UInt8} (h : ((c.toNat : Int) == 61) = false) : (61 == c) = false := by
  rw [beq_eq_false_iff_ne]
  rintro rfl
  simp at h
theorem dec_len20 (n : Nat) (h : n ≤ 9223372036854775807) : (dec n).length ≤ 20 := by
  show (Lib.decDigits n).length ≤ 20
  rw [Lib.decDigits_length]
  exact nDigits_le n 20 (by omega) (by omega)
theorem ret_eq {v v' : Value} (h : v = v') : Ending.returned v = .returned v' := by rw [h]
theorem dec_step {n : Nat} (h : ¬ n < 10) : dec n = dec (n / 10) ++ dec (n % 10) := by
  show Lib.decDigits n = Lib.decDigits (n / 10) ++ Lib.decDigits (n % 10)
  rw [Lib.decDigits, dif_neg h, Lib.decDigits_one (Nat.mod_lt n (by omega))]

set_option maxHeartbeats 1000000 in
set_option maxRecDepth 100000 in
theorem text_calls (n : Nat) : ∀ (w : World), n ≤ 9223372036854775000 →
    Calls Tryd.prog 34 #[.int .i64 n] w fun e w' => e = .returned (S (dec n)) ∧ Below w.heap.size w w' := by
  induction n using Nat.strongRecOn with
  | _ n ih =>
    intro w hn
    have HI := Lib.hid ih
    clear ih
    by_cases h : n < 10
    · go_enter Tryd.func34, Tryd.ntmps34
      go_wp2_with fail
      rw [extract_S]
      go_ret
      exact ⟨ret_eq (congrArg S (by have := digit_piece ⟨n, h⟩; rw [show n + 1 - n = 1 from by omega]; exact this)), Below.refl _ _⟩
    · go_enter Tryd.func34, Tryd.ntmps34
      have l1 := dec_len20 (n / 10) (by omega)
      have l2 := dec_len20 (n % 10) (by omega)
      have HD : Hid (dec n = dec (n / 10) ++ dec (n % 10)) := Lib.hid (dec_step h)
      go_wp2_with fail
      rw [show ((n : Int) / 10) = ((n / 10 : Nat) : Int) from by omega]
      refine (HI.out (n / 10) (by omega) w (by omega)).mono ?_
      rintro e w1 ⟨rfl, hb1⟩
      have HB1 := Lib.hid hb1
      clear hb1
      go_wp2_with fail
      rw [show ((n : Int) % 10) = ((n % 10 : Nat) : Int) from by omega]
      refine (HI.out (n % 10) (by omega) w1 (by omega)).mono ?_
      rintro e w2 ⟨rfl, hb2⟩
      have HB2 : Hid (Below w.heap.size w w2) := below_then HB1.out hb2
      clear hb2
      go_wp2_with fail
      rw [append_S]
      go_ret
      exact ⟨ret_eq (congrArg S HD.out.symm), HB2.out⟩

set_option maxHeartbeats 1000000 in
set_option maxRecDepth 100000 in
theorem key_calls (w : World) (s : Str) (hs : s.length ≤ 1000000000) :
    Calls Tryd.prog 25 #[S s] w fun e w' => e = .returned (.bool (keyOk s)) ∧ w = w' := by
  go_enter Tryd.func25, Tryd.ntmps25
  go_wp2
  go_loopg [3] s.length (fun g v3 wr => ∃ k : Nat, g + k = s.length ∧ v3 = .int .i64 k ∧ Hid (keyOk s = (!(s == []) && !(s.drop k).contains 61)) ∧ Hid (w = wr))
  case atStart => exact ⟨0, by simp, rfl, rfl, rfl⟩
  case round =>
    obtain ⟨k, hk, rfl, HF, HB⟩ := hrel
    obtain rfl := HB.out
    cases gk with
    | zero =>
      have hge : s.length ≤ k := by omega
      clear hk
      go_wp2
      go_ret
      refine ⟨ret_eq (congrArg Value.bool ?_), rfl⟩
      rw [HF.out, List.drop_eq_nil_of_le hge]
      cases s <;> rfl
    | succ g1 =>
      have hlt : k < s.length := by omega
      have HG : Hid (g1 + 1 + k = s.length) := hk
      clear hk
      have HD : Hid (s.drop k = s[k] :: s.drop (k + 1)) := List.drop_eq_getElem_cons hlt
      go_wp2
      · have ht : (((s[k]).toNat : Int) == 61) = true := by assumption
        go_ret
        refine ⟨ret_eq (congrArg Value.bool ?_), rfl⟩
        have h61 : s[k] = 61 := byte_eq ht
        rw [HF.out, HD.out, h61]
        simp
      · have ht : (((s[k]).toNat : Int) == 61) = false := by assumption
        have h61 : (61 == s[k]) = false := byte_ne ht
        go_roundg g1
        case measure => omega
        case rel => exact ⟨k + 1, by have := HG.out; omega, by go_num, Lib.hid (by rw [HF.out, HD.out, List.contains_cons, h61, Bool.false_or]), rfl⟩
end Go.Proofs.YthlgjipbpgaobaaDoor
