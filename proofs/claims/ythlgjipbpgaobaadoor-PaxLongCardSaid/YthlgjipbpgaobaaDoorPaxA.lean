/- Walks: pax.length, pax.Find. -/
import Derived.Test.YthlgjipbpgaobaaDoorLib
namespace Go.Proofs.YthlgjipbpgaobaaDoor
open Go.RowKit

theorem lenAux_step_eq {rest f d : Nat} (h : (dec (rest + 1 + d)).length = 1 + d) : lenAux rest (f + 1) d = rest + 1 + d := by simp only [lenAux]; rw [if_pos h]
theorem lenAux_step_ne {rest f d : Nat} (h : ¬ (dec (rest + 1 + d)).length = 1 + d) : lenAux rest (f + 1) d = lenAux rest f (d + 1) := by simp only [lenAux]; rw [if_neg h]
theorem ret_i64 {a b : Int} (h : a = b) : Ending.returned (.int .i64 a) = .returned (.int .i64 b) := by rw [h]

set_option maxHeartbeats 400000 in
theorem length_calls (w : World) (hg : GL w) (r : Nat) (hr : r ≤ 1000000000) :
    Calls Tryd.prog 19 #[.int .i64 r] w fun e w' => e = .returned (.int .i64 (lenM r)) ∧ Below w.heap.size w w' := by
  go_enter Tryd.func19, Tryd.ntmps19
  go_wp2
  go_step3
  go_wp2
  go_step3
  go_wp2
  go_loopg [3, 6] 9 (fun g v3 v6 wr => ∃ d : Nat, g + d = 9 ∧ v6 = .int .i64 d ∧ v3 = .int .i64 (r + d) ∧ Hid (lenM r = lenAux r g d) ∧ Hid (Below w.heap.size w wr))
  case atStart => exact ⟨0, rfl, rfl, by simp, rfl, Below.refl _ _⟩
  case round =>
    obtain ⟨d, hd, rfl, rfl, HL, HB⟩ := hrel
    cases gk with
    | zero =>
      obtain rfl : d = 9 := by omega
      clear hd
      go_wp2
      rw [Exit.noGoto_ret]
      go_ret
      exact ⟨ret_i64 (by rw [HL.out]; simp [lenAux]), HB.out⟩
    | succ g1 =>
      have hd9 : d < 9 := by omega
      have hgd : Hid (g1 + 1 + d = 9) := hd
      clear hd
      go_wp2_with fail
      rw [show ((r : Int) + 1 + (d : Int)) = ((r + 1 + d : Nat) : Int) from by omega]
      refine (itoa_calls wr (hg.ext HB.out) (r + 1 + d) (by omega)).mono ?_
      rintro e w1 ⟨rfl, hb1⟩
      have HB1 : Hid (Below w.heap.size w w1) := HB.out.trans (hb1.mono HB.out.size)
      clear HB hb1
      go_wp2
      · have ht : (((dec (r + 1 + d)).length : Int) == 1 + (d : Int)) = true := by assumption
        rw [Exit.noGoto_ret]
        go_ret
        refine ⟨ret_i64 ?_, HB1.out⟩
        have := eq_of_beq ht
        rw [HL.out, lenAux_step_eq (by omega)]
        omega
      · have ht : (((dec (r + 1 + d)).length : Int) == 1 + (d : Int)) = false := by assumption
        go_roundg g1
        case measure => omega
        case rel =>
          have := ne_of_beq_false ht
          refine ⟨d + 1, by have := hgd.out; omega, by go_num, by go_num, ?_, HB1⟩
          have e := HL.out
          rw [lenAux_step_ne (by omega)] at e
          exact e

set_option maxHeartbeats 400000 in
theorem find_calls (w : World) (a : Option Addr) (cap : Nat) (l : List (Str × Str)) (key : Str) (hr : RowAt prC 2 w a l) (hl : l.length ≤ 1000000000) :
    Calls Tryd.prog 12 #[.slice a l.length cap, S key] w fun e w' => e = .returned (.tuple #[S (findM l key).1, .bool (findM l key).2]) ∧ Below w.heap.size w w' := by
  have HR := Lib.hid hr
  clear hr
  go_enter Tryd.func12, Tryd.ntmps12
  go_wp2
  go_loopg [10] l.length (fun g v10 wr => ∃ k : Nat, g + k = l.length ∧ v10 = .int .i64 k ∧ Hid (findM l key = findM (l.drop k) key) ∧ Hid (Below w.heap.size w wr))
  case atStart => exact ⟨0, by simp, rfl, by simp [Hid], Below.refl _ _⟩
  case round =>
    obtain ⟨k, hk, rfl, HF, HB⟩ := hrel
    cases gk with
    | zero =>
      have hge : l.length ≤ k := by omega
      clear hk
      go_wp2
      go_ret2
      refine ⟨?_, HB.out⟩
      rw [HF.out, List.drop_eq_nil_of_le hge]
      rfl
    | succ g1 =>
      have hlt : k < l.length := by omega
      have HK : Hid (g1 + 1 + k = l.length) := hk
      clear hk
      obtain ⟨b, o, rfl, c1, c2⟩ := (HR.out.ext HB.out).pr hlt
      have HD : Hid (l.drop k = l[k] :: l.drop (k + 1)) := List.drop_eq_getElem_cons hlt
      generalize l[k] = x at c1 c2 HD
      go_wp2
      · have ht : (x.fst == key) = true := by assumption
        go_ret2
        refine ⟨?_, HB.out.alloc HB.out.size _⟩
        rw [HF.out, HD.out, findM_cons_eq ht]; rfl
      · have ht : (x.fst == key) = false := by assumption
        go_roundg g1
        case measure => omega
        case rel => exact ⟨k + 1, by have := HK.out; omega, by go_num, by have := HF.out; rw [HD.out, findM_cons_ne ht] at this; exact this, HB.out.alloc HB.out.size _⟩
end Go.Proofs.YthlgjipbpgaobaaDoor
