/- Law 07: the reference's Same, walked. -/
import Derived.Test.YthlgjipbpgaobaaDoorPaxG
namespace Go.Proofs.YthlgjipbpgaobaaDoor
open Go.RowKit

set_option maxHeartbeats 1000000 in
set_option maxRecDepth 100000 in
theorem same_calls (w : World) (a1 a2 : Option Addr) (c1 c2 : Nat) (l m : List (Str × Str)) (h1 : RowAt prC 2 w a1 l) (h2 : RowAt prC 2 w a2 m) (hl : l.length ≤ 1000000000) (_hm : m.length ≤ 1000000000) :
    Calls Tryd.prog 10 #[.slice a1 l.length c1, .slice a2 m.length c2] w fun e w' => e = .returned (.bool (l == m)) ∧ Below w.heap.size w w' := by
  have H1 := Lib.hid h1
  have H2 := Lib.hid h2
  clear h1 h2
  cases hlen : (((l.length : Nat) : Int) != (m.length : Int)) with
  | true =>
    go_enter Tryd.func10, Tryd.ntmps10
    go_wp2
    go_ret
    refine ⟨ret_eq (congrArg Value.bool ?_), Below.refl _ _⟩
    exact (list_ne_len (by rw [bne_iff_ne] at hlen; omega)).symm
  | false =>
    have HLEN : Hid (l.length = m.length) := Lib.hid (by simp only [bne_eq_false_iff_eq] at hlen; omega)
    go_enter Tryd.func10, Tryd.ntmps10
    go_wp2
    clear hlen
    go_loopg [5] l.length (fun g v5 wr => ∃ k : Nat, g + k = l.length ∧ v5 = .int .i64 k ∧ Hid (l.take k = m.take k) ∧ Hid (Below w.heap.size w wr))
    case atStart => exact ⟨0, by simp, rfl, rfl, Below.refl _ _⟩
    case round =>
      obtain ⟨k, hk, rfl, HF, HB⟩ := hrel
      cases gk with
      | zero =>
        have hge : l.length ≤ k := by omega
        clear hk
        go_wp2
        go_ret
        refine ⟨ret_eq (congrArg Value.bool ?_), HB.out⟩
        have h := HF.out
        rw [List.take_of_length_le hge, List.take_of_length_le (by have := HLEN.out; omega)] at h
        rw [h]; exact (beq_self_eq_true m).symm
      | succ g1 =>
        have hlt : k < l.length := by omega
        have hlt2 : k < m.length := by have := HLEN.out; omega
        have HG : Hid (g1 + 1 + k = l.length) := hk
        clear hk
        obtain ⟨b1, o1, rfl, x1, x2⟩ := (H1.out.ext HB.out).pr hlt
        obtain ⟨b2, o2, rfl, y1, y2⟩ := (H2.out.ext HB.out).pr hlt2
        have i1 : (0 : Int) ≤ (k : Int) := by omega
        have i2 : (k : Int) < (l.length : Int) := by omega
        have i3 : (k : Int) < (m.length : Int) := by omega
        have HT : Hid (l.take (k + 1) = l.take k ++ [l[k]] ∧ m.take (k + 1) = m.take k ++ [m[k]]) := Lib.hid ⟨List.take_succ_eq_append_getElem hlt, List.take_succ_eq_append_getElem hlt2⟩
        have HNE : Hid (l[k] ≠ m[k] → (l == m) = false) := Lib.hid (fun h => list_ne_at hlt hlt2 h)
        generalize l[k] = x at x1 x2 HT HNE
        generalize m[k] = y at y1 y2 HT HNE
        obtain ⟨xa, xb⟩ := x
        obtain ⟨ya, yb⟩ := y
        dsimp only at x1 x2 y1 y2
        have heq := pair_neq xa xb ya yb
        cases hxy : ((xa, xb) != (ya, yb)) with
        | true =>
          rw [hxy] at heq
          go_wp2_with fail
          go_quiet (fail)
          go_wp2_with fail
          go_ret
          refine ⟨ret_eq (congrArg Value.bool (HNE.out (by simpa using hxy)).symm), HB.out.trans ((below_drewN _ _).mono HB.out.size)⟩
        | false =>
          rw [hxy] at heq
          have HXY : Hid ((xa, xb) = (ya, yb)) := Lib.hid (by simpa using hxy)
          clear hxy
          go_wp2_with fail
          go_quiet (fail)
          go_wp2_with fail
          go_roundg g1
          case measure => omega
          case rel => exact ⟨k + 1, by have := HG.out; omega, by go_num, Lib.hid (by rw [HT.out.1, HT.out.2, HF.out, HXY.out]), HB.out.trans ((below_drewN _ _).mono HB.out.size)⟩
end Go.Proofs.YthlgjipbpgaobaaDoor
