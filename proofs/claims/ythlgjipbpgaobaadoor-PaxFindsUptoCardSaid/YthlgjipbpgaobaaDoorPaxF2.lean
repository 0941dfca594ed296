/- Law 07: the bound on pairs walked; each key of records has its value, walked. -/
import Derived.Test.YthlgjipbpgaobaaDoorPaxU
namespace Go.Proofs.YthlgjipbpgaobaaDoor
open Go.RowKit

/-- How many bytes keys and values have. -/
def sumM (l : List (Str × Str)) : Nat := (l.map fun p => p.1.length + p.2.length).sum
theorem sum_take {l : List (Str × Str)} {k : Nat} (h : k < l.length) : sumM (l.take (k + 1)) = sumM (l.take k) + l[k].1.length + l[k].2.length := by
  rw [List.take_succ_eq_append_getElem h]
  simp only [sumM, List.map_append, List.sum_append, List.map_cons, List.map_nil, List.sum_cons, List.sum_nil]
  omega
theorem sum_le : ∀ l : List (Str × Str), sumM l ≤ bulk l
  | [] => Nat.le_refl _
  | p :: r => by have := sum_le r; simp only [sumM, bulk, List.map_cons, List.sum_cons] at *; omega

set_option maxHeartbeats 1000000 in
set_option maxRecDepth 100000 in
theorem few_calls (w : World) (a : Option Addr) (cap : Nat) (l : List (Str × Str)) (hr : RowAt prC 2 w a l) (hl : bulk l ≤ 100000000) :
    Calls Tryd.prog 13 #[.slice a l.length cap] w fun e w' => (∃ b : Bool, e = .returned (.bool b)) ∧ Below w.heap.size w w' := by
  have HR := Lib.hid hr
  have HL := Lib.hid hl
  have hll : l.length ≤ 100000000 := Nat.le_trans (bulk_len l) hl
  clear hr hl
  go_enter Tryd.func13, Tryd.ntmps13
  go_wp2_with fail
  go_loopg [3, 4] l.length (fun g v3 v4 wr => ∃ k : Nat, g + k = l.length ∧ v3 = .int .i64 (sumM (l.take k) : Nat) ∧ v4 = .int .i64 k ∧ sumM (l.take k) ≤ 100000000 ∧ Hid (Below w.heap.size w wr))
  case atStart => exact ⟨0, by simp, rfl, rfl, by simp [sumM], Below.refl _ _⟩
  case round =>
    obtain ⟨k, hk, rfl, rfl, hsum, HB⟩ := hrel
    cases gk with
    | zero =>
      have hge : l.length ≤ k := by omega
      clear hk
      by_cases h40 : l.length ≤ 40
      · have hd : decide ((l.length : Int) ≤ 40) = true := decide_eq_true (by omega)
        go_wp2_with fail
        go_ret
        exact ⟨⟨_, rfl⟩, HB.out⟩
      · have hd : decide ((l.length : Int) ≤ 40) = false := decide_eq_false (by omega)
        go_wp2_with fail
        go_ret
        exact ⟨⟨_, rfl⟩, HB.out⟩
    | succ g1 =>
      have hlt : k < l.length := by omega
      have HG : Hid (g1 + 1 + k = l.length) := hk
      clear hk
      obtain ⟨b, o, rfl, c1, c2⟩ := (HR.out.ext HB.out).pr hlt
      have HS := Lib.hid (sum_take hlt)
      have hle : sumM (l.take (k + 1)) ≤ 100000000 := by
        have h1 := sum_le (l.take (k + 1))
        have h2 := bulk_take l (k + 1)
        have h3 := HL.out
        omega
      have HLE := Lib.hid hle
      clear hle
      have hx1 : (l[k]).1.length + (l[k]).2.length ≤ 100000000 := by have := HS.out; have := HLE.out; omega
      generalize l[k] = x at c1 c2 HS hx1
      go_wp2_with fail
      go_quiet (fail)
      go_wp2_with fail
      go_roundg g1
      case measure => omega
      case rel => exact ⟨k + 1, by have := HG.out; omega, by rw [HS.out]; push_cast; rfl, by go_num, HLE.out, below_then HB.out (below_drewN _ _)⟩

set_option maxHeartbeats 2000000 in
set_option maxRecDepth 100000 in
theorem paxFinds_calls (w : World) (hg : GL w) (a : Option Addr) (cap : Nat) (l : List (Str × Str)) (hr : RowAt prC 2 w a l) (hl : bulk l ≤ 100000000) :
    Calls Tryd.prog 6 #[.slice a l.length cap] w fun e w' => e = .returned (.bool true) ∧ Below w.heap.size w w' := by
  have HR := Lib.hid hr
  have HL := Lib.hid hl
  have hll : l.length ≤ 100000000 := Nat.le_trans (bulk_len l) hl
  have HPL : Hid ((printM l).length ≤ 100000000) := Lib.hid (Nat.le_trans (printM_len l (by omega)) hl)
  clear hr hl
  go_enter Tryd.func6, Tryd.ntmps6
  go_wp2_with fail
  refine (small_calls w hg).mono ?_
  rintro e w1 ⟨rfl, hb⟩
  replace HR := Lib.hid (HR.out.ext hb)
  have HB : Hid (Below w.heap.size w w1) := Lib.hid hb
  clear hb
  go_wp2_with fail
  refine (few_calls w1 a cap l HR.out HL.out).mono ?_
  rintro e w2 ⟨⟨few, rfl⟩, hb⟩
  replace HR := Lib.hid (HR.out.ext hb)
  replace HB : Hid (Below w.heap.size w w2) := below_then HB.out hb
  clear hb
  go_wp2_with fail
  refine (print_calls w2 (hg.ext HB.out) a cap l HR.out HL.out).mono ?_
  rintro e w3 ⟨v3, rfl, hsl, hb⟩
  replace HR := Lib.hid (HR.out.ext hb)
  replace HB : Hid (Below w.heap.size w w3) := below_then HB.out hb
  clear hb
  cases few with
  | false =>
    go_wp2_with fail
    go_ret
    exact ⟨rfl, HB.out⟩
  | true =>
    cases hok : printOk l with
    | false =>
      go_wp2_with fail
      go_ret
      exact ⟨rfl, HB.out⟩
    | true =>
      rw [hok] at hsl
      simp only [if_true] at hsl
      obtain ⟨a3, c3, rfl, hr3, hn3, _⟩ := hsl
      have HR3 := Lib.hid hr3
      have HN3 := Lib.hid hn3
      have HOK := Lib.hid hok
      clear hr3 hn3 hok
      have HON : Hid (onceM l = true) := Lib.hid (by have := HOK.out; simp only [printOk, Bool.and_eq_true] at this; exact this.2)
      have HRT : Hid (rightM l = true) := Lib.hid (by have := HOK.out; simp only [printOk, Bool.and_eq_true] at this; exact this.1)
      go_wp2_with fail
      refine (parse_calls w3 (hg.ext HB.out) a3 c3 (printM l) HR3.out HN3.out HPL.out).mono ?_
      rintro e w4 ⟨v4, rfl, ho, hb⟩
      rw [parse_print HOK.out HPL.out] at ho ⊢
      obtain ⟨a4, c4, rfl, hr4, _, _⟩ := ho.sl prC_len
      dsimp only at hr4
      have HR4 := Lib.hid hr4
      replace HR := Lib.hid (HR.out.ext hb)
      replace HB : Hid (Below w.heap.size w w4) := below_then HB.out hb
      clear hb ho hr4 HR3 HN3
      have hne : ((l.length : Int) != (l.length : Int)) = false := by simp
      go_wp2_with fail
      go_loopg [9] l.length (fun g v9 wr => ∃ k : Nat, g + k = l.length ∧ v9 = .int .i64 k ∧ Hid (Below w.heap.size w wr) ∧ Hid (Below w4.heap.size w4 wr))
      case atStart => exact ⟨0, by simp, rfl, HB, Below.refl _ _⟩
      case round =>
        obtain ⟨k, hk, rfl, HBr, HBs⟩ := hrel
        cases gk with
        | zero =>
          have hge : l.length ≤ k := by omega
          clear hk
          go_wp2_with fail
          refine (find_calls wr a4 c4 l [61] (HR4.out.ext HBs.out) (by omega)).mono ?_
          rintro e w5 ⟨rfl, hb⟩
          rw [find_equals HRT.out]
          replace HBr : Hid (Below w.heap.size w w5) := below_then HBr.out hb
          clear hb
          go_wp2_with fail
          go_ret
          exact ⟨rfl, HBr.out⟩
        | succ g1 =>
          have hlt : k < l.length := by omega
          have HG : Hid (g1 + 1 + k = l.length) := hk
          clear hk
          have HF : Hid (findM l (l[k]).1 = ((l[k]).2, true)) := Lib.hid (find_mem l HON.out _ (List.getElem_mem hlt))
          have HP := Lib.hid ((HR.out.ext HBs.out).pr hlt)
          have HRr := Lib.hid (HR4.out.ext HBs.out)
          generalize l[k] = x at HF HP
          obtain ⟨b, o, rfl, c1, c2⟩ := HP.out
          clear HP
          go_wp2_with fail
          refine (find_calls wr a4 c4 l x.1 HRr.out (by omega)).mono ?_
          rintro e w5 ⟨rfl, hb⟩
          rw [HF.out]
          replace c1 := cell_ext hb c1
          replace c2 := cell_ext hb c2
          replace HBr : Hid (Below w.heap.size w w5) := below_then HBr.out hb
          replace HBs : Hid (Below w4.heap.size w4 w5) := below_then HBs.out hb
          clear hb
          have hxx : (x.2 != x.2) = false := by simp
          go_wp2_with fail
          go_roundg g1
          case measure => omega
          case rel => exact ⟨k + 1, by have := HG.out; omega, by go_num, HBr, HBs⟩
end Go.Proofs.YthlgjipbpgaobaaDoor
