/- Walks: the reference's Parse. -/
import Derived.Test.YthlgjipbpgaobaaDoorPaxH
import Derived.Test.YthlgjipbpgaobaaDoorPaxN
import Derived.Test.YthlgjipbpgaobaaDoorPaxD
namespace Go.Proofs.YthlgjipbpgaobaaDoor
open Go.RowKit

theorem map_map_snoc {α : Type} (x : Option (List α)) (p : α) (ps : List α) : (x.map (p :: ·)).map (ps ++ ·) = x.map ((ps ++ [p]) ++ ·) := by cases x <;> simp
def anyKey (l : List (Str × Str)) (k : Str) : Bool := l.any (fun q => q.1 == k)
theorem anyKey_snoc (l : List (Str × Str)) (p : Str × Str) (k : Str) : anyKey (l ++ [p]) k = (anyKey l k || p.1 == k) := by simp [anyKey]
theorem once_any (l : List (Str × Str)) (p : Str × Str) : onceM (l ++ [p]) = (onceM l && !anyKey l p.1) := onceM_snoc p l

theorem parseF_one {f : Nat} {c : UInt8} {r : List UInt8} (hs : (c :: r).length ≤ 100000000) : parseF (f + 1) (c :: r) = (match oneM (c :: r) with | none => none | some q => (parseF f ((c :: r).drop q.2)).map (q.1 :: ·)) := by
  simp only [parseF, List.cons_ne_nil, if_false, cut_one_eq hs]
  cases oneM (c :: r) <;> rfl

set_option maxHeartbeats 1000000 in
set_option maxRecDepth 100000 in
theorem refParse_calls (w : World) (a : Option Addr) (cap : Nat) (s : Str) (hr : RowAt byC 1 w a s) (hn : a = none → s = []) (hs : s.length ≤ 100000000) :
    Calls Tryd.prog 9 #[.slice a s.length cap] w (ParsePost s w) := by
  have hconv := bytes_text hr cap hn
  obtain ⟨i0, hi, hz0, hz1, hz2⟩ := info_parts info_pair
  have HI := Lib.hid hi
  have HZ0 := Lib.hid hz0
  have HZ1 := Lib.hid hz1
  have HZ2 := Lib.hid hz2
  clear hi hz0 hz1 hz2 hr hn
  have HS := Lib.hid hs
  clear hs
  go_enter Tryd.func9, Tryd.ntmps9
  go_wp2
  clear hconv
  go_loopg [4, 5, 6] s.length (fun g v4 v5 v6 wr => ∃ (ps : List (Str × Str)) (rest : Str) (tw : Bool), v5 = S rest ∧ v6 = .bool tw ∧ Hid (tw = !onceM ps) ∧ Hid (Own prC 33 2 w.heap.size wr v4 ps) ∧ rest.length ≤ g ∧ ps.length + rest.length ≤ s.length ∧
    Hid (parseF s.length s = (parseF g rest).map (ps ++ ·)) ∧ Hid (Below w.heap.size w wr))
  case atStart => exact ⟨[], s, false, rfl, rfl, rfl, Own.nil _ _ _ _ _, Nat.le_refl _, by simp, by simp [Hid], Below.refl _ _⟩
  case round =>
    obtain ⟨ps, rest, tw, rfl, rfl, HTW, HO, hrg, hps, HF, HB⟩ := hrel
    cases rest with
    | nil =>
      have HFE : Hid (parseF s.length s = some ps) := Lib.hid (by rw [HF.out, parseF_nil]; simp)
      cases tw with
      | false =>
        have HP : Hid (parseM s = (ps, 0)) := Lib.hid (by have := HTW.out; simp [parseM, HFE.out]; simpa using this)
        go_wp2_with fail
        go_ret2
        exact ⟨_, by rw [HP.out]; rfl, by rw [HP.out]; exact HO.out, HB.out⟩
      | true =>
        have HP : Hid (parseM s = ([], 7)) := Lib.hid (by have := HTW.out; simp [parseM, HFE.out]; simpa using this)
        go_wp2_with fail
        go_ret2
        exact ⟨_, by rw [HP.out]; rfl, by rw [HP.out]; exact Own.nil _ _ _ _ _, HB.out⟩
    | cons c r =>
      cases gk with
      | zero => simp at hrg
      | succ g1 =>
        go_wp2_with fail
        refine (one_calls _ (c :: r) (by have := HS.out; omega)).mono ?_
        rintro e w1 ⟨p, n, rfl, hone, hns, hb1⟩
        have HO1 := Lib.hid (HO.out.ext hb1)
        have HB1 : Hid (Below w.heap.size w w1) := below_then HB.out hb1
        have HF1 : Hid (parseF s.length s = (match oneM (c :: r) with | none => none | some q => (parseF g1 ((c :: r).drop q.2)).map (q.1 :: ·)).map (ps ++ ·)) := Lib.hid (by rw [HF.out, parseF_one (by have := HS.out; omega)])
        clear hb1 HF HO HB
        cases hn0 : ((n : Int) == 0) with
        | true =>
          have hn : n = 0 := by have := eq_of_beq hn0; omega
          have HFE : Hid (parseF s.length s = none) := Lib.hid (by rw [HF1.out, hone, hn]; rfl)
          have HP : Hid (parseM s = ([], 3)) := Lib.hid (by simp [parseM, HFE.out])
          clear hn hone
          go_wp2_with fail
          go_ret2
          exact ⟨_, by rw [HP.out]; rfl, by rw [HP.out]; exact Own.nil _ _ _ _ _, HB1.out.alloc HB1.out.size _⟩
        | false =>
          have hn : n ≠ 0 := by have := ne_of_beq_false hn0; omega
          have HFE : Hid (parseF s.length s = (parseF g1 ((c :: r).drop n)).map ((ps ++ [p]) ++ ·)) := Lib.hid (by
            rw [HF1.out, hone, if_neg hn]
            exact map_map_snoc _ _ _)
          have hpl : ps.length ≤ 100000000 := by have := HS.out; omega
          have hsz := HB1.out.size
          have hns' : n ≤ r.length + 1 := by simpa using hns
          have i1 : ((c :: r).drop n).length ≤ g1 := by simp only [List.length_drop]; omega
          have i2 : (ps ++ [p]).length + ((c :: r).drop n).length ≤ s.length := by simp only [List.length_append, List.length_cons, List.length_nil, List.length_drop] at *; omega
          clear hone HF1
          obtain ⟨ao, co, rfl, _, _⟩ := HO1.out.val
          have HR := Lib.hid (HO1.out.row prC_len)
          go_wp2_with fail
          obtain ⟨w2, hw2⟩ : ∃ w2, w2 = w1.alloc (.cells #[S p.1, S p.2] 33) := ⟨_, rfl⟩
          have HB2 : Hid (Below w.heap.size w w2) := Lib.hid (by rw [hw2]; exact HB1.out.alloc hsz _)
          have HP2 : Hid (w2.heap[w1.heap.size]? = some (.cells #[S p.1, S p.2] 33 (0, 0))) := Lib.hid (by rw [hw2]; exact blk_new w1 _)
          have HR2 : Hid (RowAt prC 2 w2 ao ps) := Lib.hid (by rw [hw2]; exact HR.out.ext (below_new w1 _))
          have HO2 : Hid (Own prC 33 2 w.heap.size w2 (.slice ao ps.length co) ps) := Lib.hid (by rw [hw2]; exact HO1.out.alloc _)
          rw [← hw2]
          clear hw2 HO1 HR HB1
          go_loopg [6, 9] ps.length (fun g v6 v9 wr => ∃ (j : Nat) (t : Bool), g + j = ps.length ∧ v9 = .int .i64 j ∧ v6 = .bool t ∧ Hid (t = (tw || anyKey (ps.take j) p.1)) ∧ Hid (Below w2.heap.size w2 wr))
          case atStart => exact ⟨0, tw, by simp, rfl, rfl, by simp [Hid, anyKey], Below.refl _ _⟩
          case round =>
            obtain ⟨j, t, hj, rfl, rfl, HT, HBI⟩ := hrel
            cases gk with
            | zero =>
              have hge : ps.length ≤ j := by omega
              clear hj
              have HT2 : Hid (t = !onceM (ps ++ [p])) := Lib.hid (by
                rw [once_any, HT.out, HTW.out, List.take_of_length_le hge]
                cases onceM ps <;> cases anyKey ps p.1 <;> rfl)
              have HO3 := Lib.hid (HO2.out.ext HBI.out)
              have HB3 : Hid (Below w.heap.size w wr) := below_then HB2.out HBI.out
              have HP3 := Lib.hid (blk_ext HP2.out HBI.out)
              have c0 := blk_cell HP3.out 0
              have c1 := blk_cell HP3.out 1
              dsimp at c0 c1
              have hsz3 := HB3.out.size
              clear HT HBI HO2 HB2 HP2 HR2
              go_wp2_with (at_builtin; refine wpList_append_one rfl _ _ 24 rfl w.heap.size 33 2 32 i0 (.agg #[S [], S []]) Tryd.underlying24 HI.out HZ0.out HZ1.out HZ2.out rfl (by decide) prC_len prC_one _ ps rfl (HO3.out.alloc _) p _ 1 rfl ?c1 ?c2 ?c3 ?c4 ?_)
              case c1 => intro j u hu; exact cell_new_at (cs := [S p.1, S p.2]) rfl hu
              case c2 => unfold maxLen; omega
              case c3 => omega
              case c4 => simp; omega
              intro v' w' ho' hg'
              have HO4 := Lib.hid ho'
              have HB4 : Hid (Below w.heap.size w w') := (HB3.out.alloc hsz3 _).grown hg' (by simp; omega) (fun j hj => (World.ownsRow.lt HO3.out j hj).1)
              clear ho' hg' HO3 HB3
              go_wp2
              go_roundg g1
              case measure => omega
              case rel => exact ⟨ps ++ [p], (c :: r).drop n, t, congrArg Value.string (extract_end (c :: r) n), rfl, HT2, HO4, i1, i2, HFE, HB4⟩
            | succ g2 =>
              have hlt : j < ps.length := by omega
              have HG : Hid (g2 + 1 + j = ps.length) := hj
              clear hj
              obtain ⟨b, o, rfl, x1, x2⟩ := (HR2.out.ext HBI.out).pr hlt
              have HP3 := Lib.hid (blk_ext HP2.out HBI.out)
              have c0 := blk_cell HP3.out 0
              dsimp at c0
              have HTK : Hid (anyKey (ps.take (j + 1)) p.1 = (anyKey (ps.take j) p.1 || ps[j].1 == p.1)) := Lib.hid (by rw [List.take_succ_eq_append_getElem hlt, anyKey_snoc])
              generalize ps[j] = x at x1 x2 HTK
              have i1 : (0 : Int) ≤ (j : Int) := by omega
              have i2 : (j : Int) < (ps.length : Int) := by omega
              cases t with
              | true =>
                have ht : decide (true = false) = false := rfl
                go_wp2_with fail
                go_quiet (fail)
                go_wp2_with fail
                go_roundg g2
                case measure => omega
                case rel => exact ⟨j + 1, true, by have := HG.out; omega, by go_num, rfl, Lib.hid (by rw [HTK.out, ← Bool.or_assoc, ← HT.out]; rfl), HBI.out.trans ((below_drewN _ _).mono HBI.out.size)⟩
              | false =>
                go_wp2_with fail
                go_quiet (fail)
                go_wp2_with fail
                go_roundg g2
                case measure => omega
                case rel => exact ⟨j + 1, x.1 == p.1, by have := HG.out; omega, by go_num, rfl, Lib.hid (by rw [HTK.out, ← Bool.or_assoc, ← HT.out]; rfl), HBI.out.trans ((below_drewN _ _).mono HBI.out.size)⟩
end Go.Proofs.YthlgjipbpgaobaaDoor
