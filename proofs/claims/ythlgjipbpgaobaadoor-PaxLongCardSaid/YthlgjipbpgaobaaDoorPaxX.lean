/- Law 07: a record's number is how many bytes it has, walked. -/
import Derived.Test.YthlgjipbpgaobaaDoorPaxU
import Derived.Laws.MakeOwn
namespace Go.Proofs.YthlgjipbpgaobaaDoor
open Go.RowKit

theorem info_byte1 : (Tryd.prog.info? 5).map (fun i => (i.zero, i.size, i.bytes)) = some (some (.int .u8 0), 1, 1) := by kernel_rfl

theorem valD_app (l : List UInt8) : ∀ m : List UInt8, valD l ≤ valD (l ++ m) := by
  intro m
  have h : ∀ (m : List UInt8) (a : Nat), a ≤ m.foldl (fun a c => 10 * a + (c.toNat - 48)) a := by
    intro m
    induction m with
    | nil => intro a; exact Nat.le_refl _
    | cons c m ih => intro a; exact Nat.le_trans (by omega) (ih (10 * a + (c.toNat - 48)))
  unfold valD
  rw [List.foldl_append]
  exact h m _
theorem valD_take {l : List UInt8} {j k : Nat} (h : j ≤ k) : valD (l.take j) ≤ valD (l.take k) := by
  have e : l.take j = (l.take k).take j := by rw [List.take_take, Nat.min_eq_left h]
  have h2 := valD_app ((l.take k).take j) ((l.take k).drop j)
  rw [List.take_append_drop] at h2
  rw [e]; exact h2

/-- What the law reads off the records of one pair. -/
theorem long_facts {N : Nat} (hN : N ≤ 1200) {v : Str} (hv : v.length = N) {P : Str} (hP : P = printM [([107], v)]) :
    ∃ D, D ≤ 10 ∧ P.length = D + (N + 4) ∧ valD (P.take D) = P.length ∧ (∀ k (h : k < P.length), k < D → 48 ≤ (P[k]).toNat ∧ (P[k]).toNat ≤ 57) ∧ (∀ h : D < P.length, (P[D]).toNat = 32) ∧
      (∀ k (h : k < P.length), valD (P.take (k + 1)) = 10 * valD (P.take k) + ((P[k]).toNat - 48)) ∧ (∀ k, k ≤ D → valD (P.take k) ≤ 2000) := by
  have hr : (restM ([107], v)).length = N + 4 := by rw [restM_length]; simp [hv]; omega
  have hfix := (lenM_fix (N + 4) (by omega)).1
  have hle := lenM_le (N + 4)
  have e : P = dec (lenM (N + 4)) ++ restM ([107], v) := by rw [hP, printM_cons]; simp [recM, hr, printM]
  have hdl := dec_len (lenM (N + 4)) (by omega)
  have hdd := dec_digits (lenM (N + 4))
  have hvd := valD_dec (lenM (N + 4))
  rw [← dec_length] at hfix
  generalize dec (lenM (N + 4)) = T at e hfix hdl hdd hvd
  have hlen : P.length = T.length + (N + 4) := by rw [e, List.length_append, hr]
  have htake : P.take T.length = T := by rw [e, List.take_left']; rfl
  refine ⟨T.length, hdl, hlen, ?_, ?_, ?_, ?_, ?_⟩
  · rw [htake, hvd, hlen]; omega
  · intro k h hk
    have : P[k] = T[k] := by simp only [e]; rw [List.getElem_append_left hk]
    rw [this]
    have := hdd _ (List.getElem_mem hk)
    simpa [isDig] using this
  · intro h
    have : P[T.length] = (restM ([107], v))[0]'(by rw [hr]; omega) := by simp only [e]; rw [List.getElem_append_right (Nat.le_refl _)]; simp
    rw [this]; rfl
  · intro k h
    rw [List.take_succ_eq_append_getElem h, valD_snoc]
  · intro k hk
    have := valD_take (l := P) hk
    rw [htake, hvd] at this
    omega

set_option maxHeartbeats 4000000 in
set_option maxRecDepth 100000 in
theorem paxLong_calls (w : World) (hg : GL w) (n c : Int) (hc : (Lit.int .u8 c).wf = true) :
    Calls Tryd.prog 4 #[.int .i64 n, .int .u8 c] w fun e w' => e = .returned (.bool true) ∧ Below w.heap.size w w' := by
  obtain ⟨i0, hi, hz0, hz1, hz2⟩ := info_parts info_byte1
  have HI := Lib.hid hi
  have HZ0 := Lib.hid hz0
  have HZ1 := Lib.hid hz1
  have HZ2 := Lib.hid hz2
  clear hi hz0 hz1 hz2
  have hc0 : 0 ≤ c ∧ c ≤ 255 := by
    simp only [Lit.wf, Bool.and_eq_true, decide_eq_true_eq] at hc
    exact hc
  clear hc
  obtain ⟨u, hu⟩ : ∃ u : UInt8, c = (u.toNat : Int) := ⟨UInt8.ofNat c.toNat, by rw [UInt8.toNat_ofNat_of_lt' (by show c.toNat < 256; omega)]; omega⟩
  subst hu
  clear hc0
  go_enter Tryd.func4, Tryd.ntmps4
  go_wp2_with fail
  refine (small_calls w hg).mono ?_
  rintro e w1 ⟨rfl, hb⟩
  have HB : Hid (Below w.heap.size w w1) := Lib.hid hb
  clear hb
  by_cases h0 : n < 0
  · have hd : decide (n < 0) = true := decide_eq_true h0
    go_wp2_with fail
    go_ret
    exact ⟨rfl, HB.out⟩
  by_cases h1 : 1200 < n
  · have hd : decide (n < 0) = false := decide_eq_false h0
    have hd2 : decide (1200 < n) = true := decide_eq_true h1
    go_wp2_with fail
    go_ret
    exact ⟨rfl, HB.out⟩
  obtain ⟨N, rfl⟩ : ∃ N : Nat, n = (N : Int) := ⟨n.toNat, by omega⟩
  have hN : N ≤ 1200 := by omega
  have hd : decide ((N : Int) < 0) = false := decide_eq_false h0
  have hd2 : decide ((1200 : Int) < (N : Int)) = false := decide_eq_false h1
  clear h0 h1
  have hmk : (Instr.makeSlice 22 (.int .i64 (N : Int)) (.int .i64 (N : Int))).run Tryd.prog w1 = .ok (.slice (some ⟨w1.heap.size, 0, none⟩) N N) (w1.alloc (.cells (madeCells #[.int .u8 0] N) 5)) := by
    have h := run_make (P := Tryd.prog) w1 22 5 i0 (.int .u8 0) Tryd.underlying22 HI.out HZ0.out .i64 .i64 (N : Int) (N : Int) (by omega) (Int.le_refl _) (by rw [HZ2.out]; omega) (by omega)
    have e : ((N : Int)).toNat = N := by omega
    rw [e, HZ1.out] at h
    simpa [Value.cells] using h
  go_wp2_with fail
  clear hd hd2 hmk
  have HP0 : Hid ((w1.alloc (.cells (madeCells #[.int .u8 0] N) 5)).heap[w1.heap.size]? = some (.cells (madeCells #[.int .u8 0] N) 5 (0, 0))) := blk_new w1 _
  have HB1 : Hid (Below w1.heap.size w1 (w1.alloc (.cells (madeCells #[.int .u8 0] N) 5))) := below_new w1 _
  have hms : (madeCells #[.int .u8 0] N).size = N := size_madeCells _ _
  have HMS := Lib.hid hms
  clear hms
  generalize w1.alloc (.cells (madeCells #[.int .u8 0] N) 5) = wm at HP0 HB1
  go_loopg [7] N (fun g v7 wr => ∃ (k : Nat) (cur : Array Value), g + k = N ∧ v7 = .int .i64 k ∧ Hid (wr.heap[w1.heap.size]? = some (.cells cur 5 (0, 0))) ∧ Hid (cur.size = N) ∧ Hid (∀ j, j < k → cur[j]? = some (.int .u8 u.toNat)) ∧ Hid (Below w1.heap.size w1 wr))
  case atStart => exact ⟨0, _, by simp, rfl, HP0, HMS, fun j hj => absurd hj (by omega), HB1⟩
  case round =>
    obtain ⟨k, cur, hk, rfl, HP, HS, HC, HBr⟩ := hrel
    cases gk with
    | succ g1 =>
      have hlt : k < N := by omega
      have HG : Hid (g1 + 1 + k = N) := hk
      clear hk
      have hks : k < cur.size := by rw [HS.out]; exact hlt
      have d0 := blk_cell HP.out k
      rw [Array.getElem?_eq_getElem hks] at d0
      have f0 := blk_free HP.out k
      go_wp2_with fail
      go_roundg g1
      case measure => omega
      case rel =>
        refine ⟨k + 1, cur.setIfInBounds k (.int .u8 u.toNat), by have := HG.out; omega, by go_num, ?_, ?_, ?_, ?_⟩
        · exact Lib.hid (heap_set HP.out k _)
        · exact Lib.hid (by rw [Array.size_setIfInBounds]; exact HS.out)
        · intro j hj
          rw [Array.getElem?_setIfInBounds]
          by_cases hjk : k = j
          · subst hjk; simp [hks]
          · rw [if_neg hjk]; exact HC.out j (by omega)
        · exact HBr.out.setCell (p := ⟨w1.heap.size, k, none⟩) (Nat.le_refl _) _
    | zero =>
      have hge : N ≤ k := by omega
      clear hk
      obtain ⟨v, hv⟩ : ∃ v : Str, v = List.replicate N u := ⟨_, rfl⟩
      have hvl : v.length = N := by rw [hv]; simp
      have hrv : RowAt byC 1 wr (some ⟨w1.heap.size, 0, none⟩) v := by
        intro i x hx
        have hi : i < N := by have := (List.getElem?_eq_some_iff.1 hx).1; omega
        have hxu : x = u := by rw [hv] at hx; rw [List.getElem?_replicate, if_pos hi] at hx; exact (Option.some.inj hx).symm
        refine ⟨_, _, rfl, fun j y hy => ?_⟩
        match j, hy with
        | 0, hy =>
          simp only [byC, List.getElem?_cons_zero, Option.some.injEq] at hy
          subst hy
          rw [blk_cell HP.out, hxu]
          have := HC.out i (by omega)
          simpa using this
        | j + 1, hy => simp [byC] at hy
      have hconv := bytes_text hrv N (fun h => by cases h)
      rw [hvl] at hconv
      have HVL := Lib.hid hvl
      replace HB : Hid (Below w.heap.size w wr) := below_then HB.out HBr.out
      clear hv hvl hrv HP HS HC HBr
      go_wp2_with fail
      obtain ⟨w2, hw2⟩ : ∃ w2, w2 = wr.alloc (.cells #[S [107], S v] 33) := ⟨_, rfl⟩
      have hr2 : RowAt prC 2 w2 (some ⟨wr.heap.size, 0, none⟩) [([107], v)] := by rw [hw2]; exact row_lit prC_len (blk_new wr _)
      replace HB : Hid (Below w.heap.size w w2) := below_then HB.out (by rw [hw2]; exact below_new wr _)
      rw [← hw2]
      clear hw2 hconv
      refine (print_calls w2 (hg.ext HB.out) _ 1 [([107], v)] hr2 (by simp [bulk, HVL.out]; omega)).mono ?_
      rintro e w3 ⟨v3, rfl, hsl, hb⟩
      have hok : printOk [([107], v)] = true := rfl
      rw [hok] at hsl ⊢
      simp only [if_true] at hsl
      obtain ⟨P, hP⟩ : ∃ P, P = printM [([107], v)] := ⟨_, rfl⟩
      rw [← hP] at hsl
      obtain ⟨D, hD10, hPL, hPV, hPD, hPE, hPS, hPB⟩ := long_facts hN HVL.out hP
      obtain ⟨a3, c3, rfl, hr3, _, _⟩ := hsl
      have HR3 := Lib.hid hr3
      have HPL := Lib.hid hPL
      have HPV := Lib.hid hPV
      have HPD := Lib.hid hPD
      have HPE := Lib.hid hPE
      have HPS := Lib.hid hPS
      have HPB := Lib.hid hPB
      have hp2 : P.length ≤ 1214 := by omega
      replace HB : Hid (Below w.heap.size w w3) := below_then HB.out hb
      clear hb hr2 hr3 hok hP hPL hPV hPD hPE hPS hPB
      go_wp2_with fail
      go_loopg [10, 11] D (fun g v10 v11 wx => ∃ j : Nat, g + j = D ∧ v10 = .int .i64 j ∧ v11 = .int .i64 (valD (P.take j) : Nat) ∧ Hid (wx = w3))
      case atStart => exact ⟨0, by simp, rfl, rfl, rfl⟩
      case round =>
        obtain ⟨j, hj, rfl, rfl, HW⟩ := hrel
        obtain rfl := HW.out
        clear HW
        cases gk with
        | succ g2 =>
          have hlt : j < D := by omega
          have HG : Hid (g2 + 1 + j = D) := hj
          clear hj
          have hjl : j < P.length := by rw [HPL.out]; omega
          have hdg := HPD.out j hjl hlt
          have hvb := HPB.out j (by omega)
          have HV := Lib.hid (HPS.out j hjl)
          obtain ⟨b, o, rfl, d0⟩ := HR3.out.by hjl
          generalize P[j] = x at hdg HV d0
          have i1 : decide ((48 : Int) ≤ (x.toNat : Int)) = true := by simp; omega
          have i2 : decide ((x.toNat : Int) ≤ 57) = true := by simp; omega
          go_wp2_with fail
          go_roundg g2
          case measure => omega
          case rel => exact ⟨j + 1, by have := HG.out; omega, by go_num, by rw [HV.out]; go_num, rfl⟩
        | zero =>
          obtain rfl : j = D := by omega
          clear hj
          have hjl : j < P.length := by rw [HPL.out]; omega
          have hdg := HPE.out hjl
          obtain ⟨b, o, rfl, d0⟩ := HR3.out.by hjl
          generalize P[j] = x at hdg d0
          have i1 : decide ((48 : Int) ≤ (x.toNat : Int)) = false := by simp; omega
          rw [HPV.out]
          have e1 : ((P.length : Int) == (P.length : Int)) = true := by simp
          have e2 : ((P.length : Int) == (j : Int) + (N : Int) + 4) = true := by rw [beq_iff_eq, HPL.out]; omega
          go_wp2_with fail
          go_ret
          exact ⟨rfl, HB.out⟩
end Go.Proofs.YthlgjipbpgaobaaDoor
