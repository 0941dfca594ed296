/- Walks: pax.Parse. -/
import Derived.Test.YthlgjipbpgaobaaDoorPaxB
import Derived.Test.YthlgjipbpgaobaaDoorPaxC
import Derived.Test.YthlgjipbpgaobaaDoorOwn
namespace Go.Proofs.YthlgjipbpgaobaaDoor
open Go.RowKit

theorem info_pair : (Tryd.prog.info? 33).map (fun i => (i.zero, i.size, i.bytes)) = some (some (.agg #[S [], S []]), 2, 32) := by kernel_rfl

/-- What pax.Parse hands back. -/
def ParsePost (s : Str) (w : World) (e : Ending) (w' : World) : Prop :=
  ∃ v, e = .returned (.tuple #[v, .int .i64 (parseM s).2]) ∧ Own prC 33 2 w.heap.size w' v (parseM s).1 ∧ Below w.heap.size w w'

set_option maxHeartbeats 1000000 in
set_option maxRecDepth 100000 in
theorem parse_calls (w : World) (hg : GL w) (a : Option Addr) (cap : Nat) (s : Str) (hr : RowAt byC 1 w a s) (hn : a = none → s = []) (hs : s.length ≤ 100000000) :
    Calls Tryd.prog 8 #[.slice a s.length cap] w (ParsePost s w) := by
  have hconv := bytes_text hr cap hn
  obtain ⟨i0, hi, hz0, hz1, hz2⟩ := info_parts info_pair
  have HI := Lib.hid hi
  have HZ0 := Lib.hid hz0
  have HZ1 := Lib.hid hz1
  have HZ2 := Lib.hid hz2
  clear hi hz0 hz1 hz2 hr hn
  have HS := Lib.hid hs
  clear hs
  go_enter Tryd.func8, Tryd.ntmps8
  go_wp2
  clear hconv
  go_loopg [4, 5] s.length (fun g v4 v5 wr => ∃ (ps : List (Str × Str)) (rest : Str), v5 = S rest ∧ Hid (Own prC 33 2 w.heap.size wr v4 ps) ∧ rest.length ≤ g ∧ ps.length + rest.length ≤ s.length ∧
    Hid (∀ p ∈ ps, p.1.length ≤ s.length) ∧ Hid (parseF s.length s = (parseF g rest).map (ps ++ ·)) ∧ Hid (Below w.heap.size w wr))
  case atStart => exact ⟨[], s, rfl, Own.nil _ _ _ _ _, Nat.le_refl _, by simp, fun p hp => (by cases hp), by simp [Hid], Below.refl _ _⟩
  case round =>
    obtain ⟨ps, rest, rfl, HO, hrg, hps, HK, HF, HB⟩ := hrel
    cases rest with
    | nil =>
      obtain ⟨ao, co, rfl, hz, _⟩ := HO.out.val
      have HFE : Hid (parseF s.length s = some ps) := Lib.hid (by rw [HF.out, parseF_nil]; simp)
      clear hz
      go_wp2_with fail
      refine (keys_calls _ _ _ ps (HO.out.row prC_len) (by have := HS.out; omega) (fun p hp => by have := HK.out p hp; have := HS.out; omega)).mono ?_
      rintro e w1 ⟨rfl, hb1⟩
      have HO1 := Lib.hid (HO.out.ext hb1)
      have HB1 : Hid (Below w.heap.size w w1) := below_then HB.out hb1
      clear hb1
      cases ho : onceM ps with
      | true =>
        have HP : Hid (parseM s = (ps, 0)) := Lib.hid (by simp [parseM, HFE.out, ho])
        go_wp2_with fail
        go_ret2
        exact ⟨_, by rw [HP.out]; rfl, by rw [HP.out]; exact HO1.out, HB1.out⟩
      | false =>
        have HP : Hid (parseM s = ([], 7)) := Lib.hid (by simp [parseM, HFE.out, ho])
        go_wp2_with fail
        go_ret2
        exact ⟨_, by rw [HP.out]; rfl, by rw [HP.out]; exact Own.nil _ _ _ _ _, HB1.out⟩
    | cons c r =>
      cases gk with
      | zero => simp at hrg
      | succ g1 =>
        go_wp2_with fail
        refine (cut_calls _ (hg.ext HB.out) (c :: r) (by have := HS.out; omega)).mono ?_
        rintro e w1 ⟨p, rest', ok, rfl, hcut, hb1⟩
        have HO1 := Lib.hid (HO.out.ext hb1)
        have HB1 : Hid (Below w.heap.size w w1) := below_then HB.out hb1
        clear hb1
        cases ok with
        | false =>
          have HFE : Hid (parseF s.length s = none) := Lib.hid (by rw [HF.out, parseF_no (by simpa using hcut)]; rfl)
          clear hcut
          have HP : Hid (parseM s = ([], 3)) := Lib.hid (by simp [parseM, HFE.out])
          go_wp2_with fail
          go_ret2
          exact ⟨_, by rw [HP.out]; rfl, by rw [HP.out]; exact Own.nil _ _ _ _ _, HB1.out.alloc HB1.out.size _⟩
        | true =>
          have hc : cutM (c :: r) = some (p, rest') := by simpa using hcut
          have hlen := cutM_some hc
          have HFE : Hid (parseF s.length s = (parseF g1 rest').map ((ps ++ [p]) ++ ·)) := Lib.hid (by rw [HF.out, parseF_yes hc]; cases parseF g1 rest' <;> simp)
          have i1 : rest'.length ≤ g1 := by omega
          have i2 : (ps ++ [p]).length + rest'.length ≤ s.length := by simp only [List.length_append, List.length_cons, List.length_nil]; omega
          have HK2 : Hid (∀ q ∈ ps ++ [p], q.1.length ≤ s.length) := by
            intro q hq
            rcases List.mem_append.1 hq with hq | hq
            · exact HK.out q hq
            · simp only [List.mem_cons, List.not_mem_nil, or_false] at hq; subst hq; omega
          have hpl : ps.length ≤ 100000000 := by have := HS.out; omega
          have hsz := HB1.out.size
          clear hcut hc hlen HK HF HO HB
          go_wp2_with (at_builtin; refine wpList_append_one rfl _ _ 24 rfl w.heap.size 33 2 32 i0 (.agg #[S [], S []]) Tryd.underlying24 HI.out HZ0.out HZ1.out HZ2.out rfl (by decide) prC_len prC_one _ ps rfl ((HO1.out.alloc _).alloc _) p _ 1 rfl ?c1 ?c2 ?c3 ?c4 ?_)
          case c1 => intro j u hu; exact cell_new_at (cs := [S p.1, S p.2]) (by simp) hu
          case c2 => unfold maxLen; omega
          case c3 => omega
          case c4 => simp; omega
          intro v' w' ho' hg'
          have HO2 := Lib.hid ho'
          have HB2 : Hid (Below w.heap.size w w') := ((HB1.out.alloc hsz _).alloc (by simp; omega) _).grown hg' (by simp; omega) (fun j hj => (World.ownsRow.lt HO1.out j hj).1)
          clear ho' hg' HO1 HB1
          go_wp2
          go_roundg g1
          case measure => omega
          case rel => exact ⟨ps ++ [p], rest', rfl, HO2, i1, i2, HK2, HFE, HB2⟩
end Go.Proofs.YthlgjipbpgaobaaDoor
