/- Law 07: records behind records, walked. -/
import Derived.Test.YthlgjipbpgaobaaDoorPaxU
import Derived.Test.YthlgjipbpgaobaaDoorRow
namespace Go.Proofs.YthlgjipbpgaobaaDoor
open Go.RowKit

theorem info_byte : (Tryd.prog.info? 5).map (fun i => (i.zero, i.size, i.bytes)) = some (some (.int .u8 0), 1, 1) := by kernel_rfl

/-- The three parses, told apart. -/
theorem parts_ways {s t : Str} (hl : (s ++ t).length ≤ 100000000) : ((parseM s).2 = 0 ∧ (parseM t).2 = 0) ∨ (((parseM s).2 ≠ 0 ∨ (parseM t).2 ≠ 0) ∧ ((parseM (s ++ t)).2 ≠ 0 ∨ ((parseM s).2 ≠ 0 ∧ (parseM t).2 ≠ 0) ∨ (parseM s).2 = 3)) := by
  by_cases h : (parseM s).2 = 0 ∧ (parseM t).2 = 0
  · exact .inl h
  · have h' : (parseM s).2 ≠ 0 ∨ (parseM t).2 ≠ 0 := by
      rcases Nat.decEq (parseM s).2 0 with h1 | h1
      · exact .inl h1
      · exact .inr fun h2 => h ⟨h1, h2⟩
    exact .inr ⟨h', parts_bad hl h'⟩

set_option maxHeartbeats 4000000 in
set_option maxRecDepth 100000 in
theorem paxParts_calls (w : World) (hg : GL w) (a b : Option Addr) (ca cb : Nat) (s t : Str) (hr1 : RowAt byC 1 w a s) (hn1 : a = none → s = []) (hr2 : RowAt byC 1 w b t) (hn2 : b = none → t = []) :
    Calls Tryd.prog 5 #[.slice a s.length ca, .slice b t.length cb] w fun e w' => e = .returned (.bool true) ∧ Below w.heap.size w w' := by
  have HR1 := Lib.hid hr1
  have HN1 := Lib.hid hn1
  have HR2 := Lib.hid hr2
  have HN2 := Lib.hid hn2
  clear hr1 hn1 hr2 hn2
  obtain ⟨i0, hi, hz0, hz1, hz2⟩ := info_parts info_byte
  have HI := Lib.hid hi
  have HZ0 := Lib.hid hz0
  have HZ1 := Lib.hid hz1
  have HZ2 := Lib.hid hz2
  clear hi hz0 hz1 hz2
  obtain ⟨j0, hj, hy0, hy1, hy2⟩ := info_parts info_pair
  have HJ := Lib.hid hj
  have HY0 := Lib.hid hy0
  have HY1 := Lib.hid hy1
  have HY2 := Lib.hid hy2
  clear hj hy0 hy1 hy2
  go_enter Tryd.func5, Tryd.ntmps5
  go_wp2_with fail
  refine (small_calls w hg).mono ?_
  rintro e w1 ⟨rfl, hb⟩
  replace HR1 := Lib.hid (HR1.out.ext hb)
  replace HR2 := Lib.hid (HR2.out.ext hb)
  have HB : Hid (Below w.heap.size w w1) := Lib.hid hb
  clear hb
  by_cases hs : 1500 < s.length
  · have hd : decide ((1500 : Int) < (s.length : Int)) = true := decide_eq_true (by omega)
    go_wp2_with fail
    go_ret
    exact ⟨rfl, HB.out⟩
  by_cases ht : 1500 < t.length
  · have hd : decide ((1500 : Int) < (s.length : Int)) = false := decide_eq_false (by omega)
    have hd2 : decide ((1500 : Int) < (t.length : Int)) = true := decide_eq_true (by omega)
    go_wp2_with fail
    go_ret
    exact ⟨rfl, HB.out⟩
  have hd : decide ((1500 : Int) < (s.length : Int)) = false := decide_eq_false (by omega)
  have hd2 : decide ((1500 : Int) < (t.length : Int)) = false := decide_eq_false (by omega)
  have hsl : s.length ≤ 1500 := by omega
  have htl : t.length ≤ 1500 := by omega
  have hst : (s ++ t).length ≤ 100000000 := by rw [List.length_append]; omega
  have HST := Lib.hid hst
  clear hs ht hst
  go_wp2_with fail
  clear hd hd2
  refine (parse_calls w1 (hg.ext HB.out) a ca s HR1.out HN1.out (by omega)).mono ?_
  rintro e w2 ⟨v2, rfl, ho, hb⟩
  obtain ⟨a2, c2, rfl, hp2, hq2, _⟩ := ho.sl prC_len
  have HP2 := Lib.hid hp2
  have HQ2 := Lib.hid hq2
  replace HR1 := Lib.hid (HR1.out.ext hb)
  replace HR2 := Lib.hid (HR2.out.ext hb)
  replace HB : Hid (Below w.heap.size w w2) := below_then HB.out hb
  clear hb ho hp2 hq2
  go_wp2_with fail
  refine (parse_calls w2 (hg.ext HB.out) b cb t HR2.out HN2.out (by omega)).mono ?_
  rintro e w3 ⟨v3, rfl, ho, hb⟩
  obtain ⟨a3, c3, rfl, hp3, hq3, _⟩ := ho.sl prC_len
  have HP3 := Lib.hid hp3
  have HQ3 := Lib.hid hq3
  replace HP2 := Lib.hid (HP2.out.ext hb)
  replace HR1 := Lib.hid (HR1.out.ext hb)
  replace HR2 := Lib.hid (HR2.out.ext hb)
  replace HB : Hid (Below w.heap.size w w3) := below_then HB.out hb
  clear hb ho hp3 hq3
  -- both rows, one behind the other
  have HE := Lib.hid (own_empty byC (T := 5) 1 w3.heap.size w3 (Nat.le_refl _))
  go_wp2_with (at_builtin; refine wpList_append_row rfl _ _ 22 rfl w3.heap.size 5 1 1 i0 (.int .u8 0) Tryd.underlying22 HI.out HZ0.out HZ1.out HZ2.out rfl (by decide) byC_len byC_one _ [] rfl HE.out a _ ca s rfl rfl (HR1.out.ext (below_new w3 _)) HN1.out ?c1 ?c2 ?c3 ?_)
  case c1 => unfold maxLen; simp; omega
  case c2 => simp; omega
  case c3 => simp
  intro v4 w4 ho4 hg4
  have hb4 : Below w3.heap.size w3 w4 := (below_new w3 _).grown hg4 (by simp) (fun j hj => (World.ownsRow.lt HE.out j hj).1)
  have HO4 := Lib.hid ho4
  have hsz4 := hb4.size
  have hr4 := HR2.out.ext hb4
  have hws := HB.out.size
  replace HB : Hid (Below w.heap.size w w4) := below_then HB.out hb4
  have HB34 := Lib.hid hb4
  clear hb4 hg4 ho4 HE HR1 HR2
  go_wp2_with (at_builtin; refine wpList_append_row rfl _ _ 22 rfl w3.heap.size 5 1 1 i0 (.int .u8 0) Tryd.underlying22 HI.out HZ0.out HZ1.out HZ2.out rfl (by decide) byC_len byC_one _ s rfl HO4.out b _ cb t rfl rfl hr4 HN2.out ?c1 ?c2 ?c3 ?_)
  case c1 => unfold maxLen; omega
  case c2 => omega
  case c3 => omega
  intro v5 w5 ho5 hg5
  have hb5 : Below w3.heap.size w4 w5 := (Below.refl _ _).grown hg5 hsz4 (fun j hj => (World.ownsRow.lt HO4.out j hj).1)
  replace HB : Hid (Below w.heap.size w w5) := HB.out.trans (hb5.mono hws)
  have HLS : Hid ((s ++ t).length = s.length + t.length) := Lib.hid List.length_append
  have hways := parts_ways HST.out
  have HGOOD := Lib.hid (parts_good HST.out)
  have hul := HST.out
  generalize s ++ t = u at ho5 HLS hways HGOOD hul
  obtain ⟨a5, c5, rfl, hn5, _⟩ := ho5.val
  have HR5 := Lib.hid (ho5.row byC_len)
  have HN5 : Hid (a5 = none → u = []) := Lib.hid (fun h => (hn5 h).1)
  have hP2 : RowAt prC 2 w5 a2 (parseM s).1 := HP2.out.ext (HB34.out.trans hb5)
  have hP3 : RowAt prC 2 w5 a3 (parseM t).1 := HP3.out.ext (HB34.out.trans hb5)
  replace HP2 := Lib.hid hP2
  replace HP3 := Lib.hid hP3
  clear hP2 hP3 hws hb5 hg5 ho5 hn5 HO4 HB34 hsz4 hr4
  go_wp2_with fail
  refine (parse_calls w5 (hg.ext HB.out) a5 c5 u HR5.out HN5.out hul).mono ?_
  rintro e w6 ⟨v6, rfl, ho, hb⟩
  obtain ⟨a6, c6, rfl, hp6, _, _⟩ := ho.sl prC_len
  have HP6 := Lib.hid hp6
  replace HP2 := Lib.hid (HP2.out.ext hb)
  replace HP3 := Lib.hid (HP3.out.ext hb)
  replace HB : Hid (Below w.heap.size w w6) := below_then HB.out hb
  have hl2 := parse_len s
  have hl3 := parse_len t
  have hl6 := parse_len u
  clear hb ho hp6 HR5 HN5
  rw [HLS.out] at hl6
  clear HLS hul
  generalize parseM u = N at HP6 hl6 hways HGOOD
  generalize parseM s = L at HP2 hl2 hways HGOOD HQ2
  generalize parseM t = M at HP3 hl3 hways HGOOD HQ3
  obtain ⟨L, e1⟩ := L
  obtain ⟨M, e2⟩ := M
  obtain ⟨N, e3⟩ := N
  dsimp only at HP2 HP3 HP6 hl2 hl3 hl6 hways HQ2 HQ3
  rcases hways with ⟨rfl, rfl⟩ | ⟨h1, h2⟩
  · have HG := Lib.hid (HGOOD.out rfl rfl)
    clear HGOOD
    go_wp2_with fail
    go_loopg [12] L.length (fun g v12 wr => ∃ k : Nat, g + k = L.length ∧ v12 = .int .i64 k ∧ Hid ((L.take k).all (fun p => !(findM M p.1).2) = true) ∧ Hid (Below w.heap.size w wr) ∧ Hid (Below w6.heap.size w6 wr))
    case atStart => exact ⟨0, by simp, rfl, by simp [Hid], HB, Below.refl _ _⟩
    case round =>
      obtain ⟨k, hk, rfl, HA, HBr, HBs⟩ := hrel
      cases gk with
      | zero =>
        have hge : L.length ≤ k := by omega
        clear hk
        have HN : Hid (N = L ++ M ∧ e3 = 0) := Lib.hid (by
          have h1 := HA.out
          rw [List.take_of_length_le hge] at h1
          have h2 := HG.out
          rw [if_pos h1] at h2
          simpa using h2)
        obtain ⟨hn, he⟩ := HN.out
        have HNE := Lib.hid hn
        subst he
        clear hn HN HG HA
        have HE := Lib.hid (own_empty prC (T := 33) 2 wr.heap.size wr (Nat.le_refl _))
        have hr2 := (HP2.out.ext HBs.out).ext (below_new wr (.cells #[] 33))
        go_wp2_with (at_builtin; refine wpList_append_row rfl _ _ 24 rfl wr.heap.size 33 2 32 j0 (.agg #[S [], S []]) Tryd.underlying24 HJ.out HY0.out HY1.out HY2.out rfl (by decide) prC_len prC_one _ [] rfl HE.out a2 _ c2 L rfl rfl hr2 HQ2.out ?c1 ?c2 ?c3 ?_)
        case c1 => unfold maxLen; simp; omega
        case c2 => simp; omega
        case c3 => simp
        intro v7 w7 ho7 hg7
        have hb7 : Below wr.heap.size wr w7 := (below_new wr _).grown hg7 (by simp) (fun j hj => (World.ownsRow.lt HE.out j hj).1)
        have HO7 := Lib.hid ho7
        have hsz7 := hb7.size
        have hr3 := (HP3.out.ext HBs.out).ext hb7
        have HB7 := Lib.hid hb7
        clear hb7 hg7 ho7 HE hr2
        go_wp2_with (at_builtin; refine wpList_append_row rfl _ _ 24 rfl wr.heap.size 33 2 32 j0 (.agg #[S [], S []]) Tryd.underlying24 HJ.out HY0.out HY1.out HY2.out rfl (by decide) prC_len prC_one _ L rfl HO7.out a3 _ c3 M rfl rfl hr3 HQ3.out ?c1 ?c2 ?c3 ?_)
        case c1 => unfold maxLen; omega
        case c2 => omega
        case c3 => omega
        intro v8 w8 ho8 hg8
        have hb8 : Below wr.heap.size wr w8 := HB7.out.trans ((Below.refl _ _).grown hg8 hsz7 (fun j hj => (World.ownsRow.lt HO7.out j hj).1))
        have ho8' : Own prC 33 2 wr.heap.size w8 v8 N := by rw [HNE.out]; exact ho8
        obtain ⟨a8, c8, rfl, _, _⟩ := ho8'.val
        have HR8 := Lib.hid (ho8'.row prC_len)
        have HR6 := Lib.hid ((HP6.out.ext HBs.out).ext hb8)
        replace HBr : Hid (Below w.heap.size w w8) := below_then HBr.out hb8
        clear ho8 ho8' hg8 hb8 HO7 HB7 hr3 hsz7
        go_wp2_with fail
        refine (same_calls w8 a6 a8 c6 c8 N N HR6.out HR8.out (by omega) (by omega)).mono ?_
        rintro e w9 ⟨rfl, hb⟩
        replace HBr : Hid (Below w.heap.size w w9) := below_then HBr.out hb
        have hnn : (N == N) = true := by simp
        go_wp2_with fail
        go_ret
        exact ⟨rfl, HBr.out⟩
      | succ g1 =>
        have hlt : k < L.length := by omega
        have HK : Hid (g1 + 1 + k = L.length) := hk
        clear hk
        have HT : Hid (L.take (k + 1) = L.take k ++ [L[k]]) := Lib.hid (List.take_succ_eq_append_getElem hlt)
        have HMEM : Hid (L[k] ∈ L) := List.getElem_mem hlt
        have HP := Lib.hid ((HP2.out.ext HBs.out).pr hlt)
        have HRr := Lib.hid (HP3.out.ext HBs.out)
        generalize L[k] = x at HT HMEM HP
        obtain ⟨b', o', rfl, d1, d2⟩ := HP.out
        clear HP
        go_wp2_with fail
        refine (find_calls wr a3 c3 M x.1 HRr.out (by omega)).mono ?_
        rintro e w7 ⟨rfl, hb⟩
        replace HBr : Hid (Below w.heap.size w w7) := below_then HBr.out hb
        replace HBs : Hid (Below w6.heap.size w6 w7) := below_then HBs.out hb
        clear hb d1 d2
        cases hf : (findM M x.1).2 with
        | true =>
          have HN : Hid (N = [] ∧ e3 = 7) := Lib.hid (by
            have h2 := HG.out
            rw [if_neg (fun hall => by
              have := List.all_eq_true.1 hall x HMEM.out
              rw [hf] at this
              cases this)] at h2
            simpa using h2)
          obtain ⟨hn, he⟩ := HN.out
          subst hn
          subst he
          clear hf
          go_wp2_with fail
          go_ret
          exact ⟨rfl, HBr.out⟩
        | false =>
          have HA2 : Hid ((L.take (k + 1)).all (fun p => !(findM M p.1).2) = true) := Lib.hid (by
            rw [HT.out, List.all_append, HA.out]
            simp [hf])
          clear hf
          go_wp2_with fail
          go_roundg g1
          case measure => omega
          case rel => exact ⟨k + 1, by have := HK.out; omega, by go_num, HA2, HBr, HBs⟩
  · have hall : (((e1 : Int) != 0) = true ∧ ((e3 : Int) != 0) = true) ∨ (((e1 : Int) != 0) = true ∧ ((e3 : Int) != 0) = false ∧ ((e2 : Int) != 0) = true) ∨
        (((e1 : Int) != 0) = true ∧ ((e3 : Int) != 0) = false ∧ ((e2 : Int) != 0) = false ∧ ((e1 : Int) == 3) = true) ∨ (((e1 : Int) != 0) = false ∧ ((e2 : Int) != 0) = true ∧ ((e3 : Int) != 0) = true) := by
      simp only [bne_iff_ne, beq_iff_eq, bne_eq_false_iff_eq]
      omega
    clear h1 h2 HGOOD
    rcases hall with ⟨hx1, hx2⟩ | ⟨hx1, hx2, hx3⟩ | ⟨hx1, hx2, hx3, hx4⟩ | ⟨hx1, hx2, hx3⟩
    · go_wp2_with fail
      go_ret
      exact ⟨rfl, HB.out⟩
    · go_wp2_with fail
      go_ret
      exact ⟨rfl, HB.out⟩
    · go_wp2_with fail
      go_ret
      exact ⟨rfl, HB.out⟩
    · go_wp2_with fail
      go_ret
      exact ⟨rfl, HB.out⟩
end Go.Proofs.YthlgjipbpgaobaaDoor
