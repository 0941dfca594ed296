/- Walks: pax.keys. -/
import Derived.Test.YthlgjipbpgaobaaDoorLib
import Derived.Test.YthlgjipbpgaobaaDoorCnt
namespace Go.Proofs.YthlgjipbpgaobaaDoor
open Go.RowKit Go.WideMaps Go.Maps

theorem beq_cast (c : Nat) : (((c : Int) + 1) == 1) = (true && (c + 1 == 1)) := by
  rw [Bool.true_and, Bool.eq_iff_iff, beq_iff_eq, beq_iff_eq]; omega

set_option maxHeartbeats 400000 in
set_option maxRecDepth 100000 in
theorem keys_calls (w : World) (a : Option Addr) (cap : Nat) (l : List (Str × Str)) (hr : RowAt prC 2 w a l) (hl : l.length ≤ 1000000000) (hk : ∀ p ∈ l, p.1.length ≤ 1000000000) :
    Calls Tryd.prog 15 #[.slice a l.length cap] w fun e w' => e = .returned (.tuple #[.bool (rightM l), .bool (onceM l)]) ∧ Below w.heap.size w w' := by
  have HR := Lib.hid hr
  have HK := Lib.hid hk
  clear hr hk
  have hmm := @run_makeMap Tryd.prog
  go_enter Tryd.func15, Tryd.ntmps15
  go_wp2
  go_loopg [2, 3, 10] l.length (fun g v2 v3 v10 wr => ∃ k : Nat, ∃ r o : Bool, g + k = l.length ∧ v10 = .int .i64 k ∧ v2 = .bool r ∧ v3 = .bool o ∧ Hid (r = rightM (l.take k) ∧ o = onceM (l.take k)) ∧
    Hid (CntMap wr w.heap.size k (cnt (l.take k))) ∧ Hid (Below w.heap.size w wr))
  case atStart => exact ⟨0, true, true, by simp, rfl, rfl, rfl, ⟨rfl, rfl⟩, CntMap.made _, (Below.refl _ _).alloc (Nat.le_refl _) _⟩
  case round =>
    obtain ⟨k, r, on, hk, rfl, rfl, rfl, HF, HC, HB⟩ := hrel
    cases gk with
    | zero =>
      have hge : l.length ≤ k := by omega
      clear hk
      go_wp2
      go_ret2
      have hk : l.take k = l := List.take_of_length_le hge
      have HF' := HF.out
      rw [hk] at HF'
      rw [← HF'.1, ← HF'.2]
      exact ⟨rfl, HB.out⟩
    | succ g1 =>
      have hlt : k < l.length := by omega
      have HG : Hid (g1 + 1 + k = l.length) := hk
      clear hk
      obtain ⟨b, o, rfl, c1, c2⟩ := (HR.out.ext HB.out).pr hlt
      have HD : Hid (l.take (k + 1) = l.take k ++ [l[k]]) := by simp [Hid]
      have hks : (l[k]).1.length ≤ 1000000000 := HK.out _ (List.getElem_mem hlt)
      generalize l[k] = x at c1 c2 HD hks
      have HF2 : Hid (rightM (l.take (k + 1)) = (r && keyOk x.1) ∧ onceM (l.take (k + 1)) = (on && (cnt (l.take (k + 1)) x.1 == 1))) := by
        rw [HD.out, rightM_snoc, once_step, HF.out.1, HF.out.2]
        exact ⟨rfl, rfl⟩
      have hcn : cnt (l.take k) x.1 ≤ 1000000000 := by
        have h1 : cnt (l.take k) x.1 ≤ (l.take k).length := List.countP_le_length
        rw [List.length_take] at h1
        omega
      have HFF := Lib.hid (cnt_step HD.out)
      clear HD HF
      obtain ⟨xk, xv⟩ := x
      have HKS := Lib.hid hks
      clear hks
      dsimp only at c1 c2 hcn HF2 HFF
      have HC1 := Lib.hid (HC.out.alloc (.cells #[S xk, S xv] 33))
      have hlook := HC1.out.look HKS.out
      dsimp only at hlook
      generalize cnt (l.take k) xk = c0 at hlook hcn HFF
      have HCC : Hid (cnt (l.take (k + 1)) xk = c0 + 1) := Lib.hid (by have := HFF.out xk; simpa using this)
      rw [HCC.out] at HF2
      have hcells : (wr.alloc (.cells #[S xk, S xv] 33)).cell? ⟨wr.heap.size, 0, none⟩ = some (S xk) := cell_new _ _ _ _ rfl
      have HCE := Lib.hid hcells
      clear hcells
      have hne : some wr.heap.size ≠ some w.heap.size := by
        have h1 := HC.out.lt
        have h2 := HB.out.size
        intro e
        simp only [Option.some.injEq] at e
        omega
      have HNE := Lib.hid hne
      have hbase : w.heap.size ≤ wr.heap.size + 1 := by have := HB.out.size; omega
      clear hne HC
      cases xk with
      | nil =>
        cases r <;> cases on
        all_goals
          go_wp2_with (first | (at_mapUpdate; refine wpList_cnt_up rfl rfl _ _ _ rfl _ k _ rfl HC1.out (by omega) [] (c0 + 1) rfl (by go_num) (by simp) (by omega) _ HFF.out ?_))
          intro w' hC' hg'
          have HC2 := Lib.hid hC'
          have HB2 : Hid (Below w.heap.size w w') := (HB.out.alloc HB.out.size _).grown hg' (by simp; exact hbase) (fun j hj => by cases hj; exact Nat.le_refl _)
          have hlook2 := HC2.out.look HKS.out
          rw [HCC.out] at hlook2
          have hcell2 := grown_cell hg' HCE.out HNE.out
          clear hC' hg' hlook
          go_wp2
          go_roundg g1
          case measure => omega
          case rel => exact ⟨k + 1, _, _, by have := HG.out; omega, by go_num, rfl, rfl, ⟨by rw [HF2.out.1]; rfl, by rw [HF2.out.2]; first | rfl | exact beq_cast c0⟩, HC2, HB2⟩
      | cons c rest =>
        cases r <;> cases on
        all_goals
          go_wp2_with (first | (go_at_call 24; refine (contains1_calls _ _ _).mono ?_; rintro e w' ⟨rfl, rfl⟩) | (at_mapUpdate; refine wpList_cnt_up rfl rfl _ _ _ rfl _ k _ rfl HC1.out (by omega) (c :: rest) (c0 + 1) rfl (by go_num) HKS.out (by omega) _ HFF.out ?_))
          intro w' hC' hg'
          have HC2 := Lib.hid hC'
          have HB2 : Hid (Below w.heap.size w w') := (HB.out.alloc HB.out.size _).grown hg' (by simp; exact hbase) (fun j hj => by cases hj; exact Nat.le_refl _)
          have hlook2 := HC2.out.look HKS.out
          rw [HCC.out] at hlook2
          have hcell2 := grown_cell hg' HCE.out HNE.out
          clear hC' hg' hlook
          go_wp2
          go_roundg g1
          case measure => omega
          case rel => exact ⟨k + 1, _, _, by have := HG.out; omega, by go_num, rfl, rfl, ⟨by rw [HF2.out.1]; first | rfl | simp [keyOk], by rw [HF2.out.2]; first | rfl | exact beq_cast c0⟩, HC2, HB2⟩
end Go.Proofs.YthlgjipbpgaobaaDoor
