/- Law 07: what is parsed, walked. -/
import Derived.Test.YthlgjipbpgaobaaDoorPaxS
import Derived.Test.YthlgjipbpgaobaaDoorPaxG2
namespace Go.Proofs.YthlgjipbpgaobaaDoor
open Go.RowKit

theorem print_ge : ∀ l : List (Str × Str), l.length ≤ (printM l).length
  | [] => Nat.le_refl _
  | p :: l => by
    have ih := print_ge l
    rw [printM_cons, List.length_append, List.length_cons]
    have h : 1 ≤ (recM p).length := by simp [recM, restM]; omega
    omega
theorem parse_len (s : Str) : (parseM s).1.length ≤ s.length := by
  cases h : pairsOf s with
  | none => rw [parseM_none h]; exact Nat.zero_le _
  | some ps =>
    have hp := (pairs_rec h).1
    have hl := print_ge ps
    rw [parseM_some h]
    split
    · rw [hp]; exact hl
    · exact Nat.zero_le _

set_option maxHeartbeats 1000000 in
set_option maxRecDepth 100000 in
theorem paxParses_calls (w : World) (hg : GL w) (a : Option Addr) (cap : Nat) (s : Str) (hr : RowAt byC 1 w a s) (hn : a = none → s = []) :
    Calls Tryd.prog 3 #[.slice a s.length cap] w fun e w' => e = .returned (.bool true) ∧ Below w.heap.size w w' := by
  have HR := Lib.hid hr
  have HN := Lib.hid hn
  have HB0 := Lib.hid (Below.refl w.heap.size w)
  clear hr hn
  go_enter Tryd.func3, Tryd.ntmps3
  go_wp2_with fail
  refine (small_calls w hg).mono ?_
  rintro e w1 ⟨rfl, hb1⟩
  replace HR := Lib.hid (HR.out.ext hb1)
  have HB : Hid (Below w.heap.size w w1) := Lib.hid hb1
  clear hb1 HB0
  by_cases hs : 3000 < s.length
  · have hd : decide ((3000 : Int) < (s.length : Int)) = true := decide_eq_true (by omega)
    go_wp2_with fail
    go_ret
    exact ⟨rfl, HB.out⟩
  · have hd : decide ((3000 : Int) < (s.length : Int)) = false := decide_eq_false (by omega)
    have hs1 : s.length ≤ 100000000 := by omega
    go_wp2_with fail
    clear hd
    refine (parse_calls w1 (hg.ext HB.out) a cap s HR.out HN.out hs1).mono ?_
    rintro e w2 ⟨v2, rfl, ho, hb⟩
    obtain ⟨a2, c2, rfl, hr2, hn2, hc2⟩ := ho.sl prC_len
    have hl2 := parse_len s
    have HR2 := Lib.hid hr2
    replace HR := Lib.hid (HR.out.ext hb)
    replace HB : Hid (Below w.heap.size w w2) := below_then HB.out hb
    clear ho hb hr2 hn2 hc2
    go_wp2_with fail
    refine (refParse_calls w2 a cap s HR.out HN.out hs1).mono ?_
    rintro e w3 ⟨v3, rfl, ho, hb⟩
    obtain ⟨a3, c3, rfl, hr3, hn3, hc3⟩ := ho.sl prC_len
    have HR3 := Lib.hid hr3
    replace HR2 := Lib.hid (HR2.out.ext hb)
    replace HB : Hid (Below w.heap.size w w3) := below_then HB.out hb
    clear ho hb hr3 hn3 hc3
    generalize parseM s = m at HR2 HR3 hl2
    go_wp2_with fail
    refine (same_calls w3 a2 a3 c2 c3 m.1 m.1 HR2.out HR3.out (by omega) (by omega)).mono ?_
    rintro e w4 ⟨rfl, hb⟩
    replace HB : Hid (Below w.heap.size w w4) := below_then HB.out hb
    have hmm : (m.1 == m.1) = true := by simp
    have hee : ((m.2 : Int) == (m.2 : Int)) = true := by simp
    go_wp2_with fail
    go_ret
    exact ⟨rfl, HB.out⟩
end Go.Proofs.YthlgjipbpgaobaaDoor
