/- Walks: pax.Print. -/
import Derived.Test.YthlgjipbpgaobaaDoorPaxD
import Derived.Test.YthlgjipbpgaobaaDoorBuf
namespace Go.Proofs.YthlgjipbpgaobaaDoor
open Go.RowKit

def PrintPost (l : List (Str × Str)) (w : World) (e : Ending) (w' : World) : Prop :=
  ∃ v, e = .returned (.tuple #[v, .bool (printOk l)]) ∧ Sl byC 1 w' v (if printOk l then printM l else []) ∧ Below w.heap.size w w'

set_option maxHeartbeats 1000000 in
set_option maxRecDepth 100000 in
theorem print_calls (w : World) (hg : GL w) (a : Option Addr) (cap : Nat) (l : List (Str × Str)) (hr : RowAt prC 2 w a l) (hl : bulk l ≤ 100000000) :
    Calls Tryd.prog 11 #[.slice a l.length cap] w (PrintPost l w) := by
  have HR := Lib.hid hr
  have HL := Lib.hid hl
  have hll : l.length ≤ 100000000 := Nat.le_trans (bulk_len l) hl
  have hpl : ∀ p ∈ l, p.1.length + p.2.length ≤ 100000000 := fun p hp => Nat.le_trans (bulk_mem l p hp) hl
  have HPL := Lib.hid hpl
  clear hr hl hpl
  go_enter Tryd.func11, Tryd.ntmps11
  go_wp2_with fail
  refine (keys_calls _ _ _ l HR.out (by omega) (fun p hp => by have := HPL.out p hp; omega)).mono ?_
  rintro e w1 ⟨rfl, hb1⟩
  have HB1 : Hid (Below w.heap.size w w1) := hb1
  clear hb1
  cases hrt : rightM l with
  | false =>
    have HP : Hid (printOk l = false) := Lib.hid (by simp [printOk, hrt])
    go_wp2_with fail
    go_ret2
    exact ⟨_, by rw [HP.out]; rfl, by rw [HP.out]; exact Sl.nil _ _ _, HB1.out⟩
  | true =>
    cases hon : onceM l with
    | false =>
      have HP : Hid (printOk l = false) := Lib.hid (by simp [printOk, hon])
      go_wp2_with fail
      go_ret2
      exact ⟨_, by rw [HP.out]; rfl, by rw [HP.out]; exact Sl.nil _ _ _, HB1.out⟩
    | true =>
      have HP : Hid (printOk l = true) := Lib.hid (by simp [printOk, hon, hrt])
      clear hrt hon
      go_wp2_with fail
      go_loopg [23] l.length (fun g v23 wr => ∃ k : Nat, g + k = l.length ∧ v23 = .int .i64 k ∧ Hid (Bld w1.heap.size w1.heap.size (printM (l.take k)) wr) ∧ Hid (Below w.heap.size w wr) ∧ w1.heap.size ≤ wr.heap.size)
      case atStart => exact ⟨0, by simp, rfl, Bld.fresh _, HB1.out.alloc HB1.out.size _, by simp⟩
      case round =>
        obtain ⟨k, hk, rfl, HBL, HB, hsz⟩ := hrel
        cases gk with
        | zero =>
          have hge : l.length ≤ k := by omega
          clear hk
          have HBL2 : Hid (Bld w1.heap.size w1.heap.size (printM l) wr) := by have := HBL.out; rw [List.take_of_length_le hge] at this; exact this
          go_wp2_with fail
          refine (builderString_calls _ _ _ _ HBL2.out hsz).mono ?_
          rintro e w2 ⟨rfl, hb2⟩
          have HB2 : Hid (Below w.heap.size w w2) := HB.out.trans (hb2.mono HB1.out.size)
          clear hb2
          obtain ⟨cap', hconv, hsl⟩ := text_bytes w2 (printM l)
          have HSL := Lib.hid hsl
          clear hsl
          go_wp2_with fail
          go_ret2
          exact ⟨_, by rw [HP.out]; rfl, by rw [HP.out]; exact HSL.out, below_then HB2.out (below_bytesWorld _ _ _)⟩
        | succ g1 =>
          have hlt : k < l.length := by omega
          have HG : Hid (g1 + 1 + k = l.length) := hk
          clear hk
          obtain ⟨b, o, rfl, c1, c2⟩ := (HR.out.ext HB.out).pr hlt
          have HD : Hid (printM (l.take (k + 1)) = printM (l.take k) ++ recM l[k]) := Lib.hid (printM_take l hlt)
          have hxl := HPL.out _ (List.getElem_mem hlt)
          generalize l[k] = x at c1 c2 HD hxl
          have hpk : (printM (l.take k)).length ≤ 100000000 := by
            have h1 := bulk_take l k
            have h2 := HL.out
            exact Nat.le_trans (printM_len (l.take k) (by omega)) (by omega)
          have HRL : Hid ((restM x).length = 1 + x.1.length + 1 + x.2.length + 1) := Lib.hid (by simp [restM]; omega)
          have hrl : (restM x).length ≤ 100000003 := by rw [HRL.out]; omega
          go_wp2_with fail
          rw [show (1 + (x.1.length : Int) + 1 + (x.2.length : Int) + 1) = (((restM x).length : Nat) : Int) from by rw [HRL.out]; omega]
          have HB2 : Hid (Below w.heap.size w (wr.alloc (.cells #[S x.1, S x.2] 33))) := HB.out.alloc HB.out.size _
          refine (length_calls _ (hg.ext HB2.out) (restM x).length (by omega)).mono ?_
          rintro e w2 ⟨rfl, hb2⟩
          have HB3 : Hid (Below w.heap.size w w2) := below_then HB2.out hb2
          have HBL2 := Lib.hid ((HBL.out.ext (below_new wr _)).ext hb2)
          have hsz2 : w1.heap.size ≤ w2.heap.size := by have := hb2.size; simp at this; omega
          have hlm := lenM_le (restM x).length
          clear hb2
          go_wp2_with fail
          refine (itoa_calls _ (hg.ext HB3.out) (lenM (restM x).length) (by omega)).mono ?_
          rintro e w3 ⟨rfl, hb3⟩
          have HB4 : Hid (Below w.heap.size w w3) := below_then HB3.out hb3
          have HBL3 := Lib.hid (HBL2.out.ext hb3)
          have hsz3 : w1.heap.size ≤ w3.heap.size := by have := hb3.size; omega
          have hdl := dec_len (lenM (restM x).length) (by omega)
          clear hb3
          go_wp2_with fail
          refine (writeString_calls _ _ _ (dec (lenM (restM x).length)) _ HBL3.out (by omega) hsz3).mono ?_
          rintro e w4 ⟨⟨n4, rfl⟩, hbl4, hb4⟩
          have HB5 : Hid (Below w.heap.size w w4) := HB4.out.trans (hb4.mono HB1.out.size)
          have HBL4 := Lib.hid hbl4
          have hsz4 : w1.heap.size ≤ w4.heap.size := by have := hb4.size; omega
          clear hbl4 hb4
          go_wp2_with fail
          simp only [append_S]
          refine (writeString_calls _ _ _ _ _ HBL4.out (by simp only [List.length_append, List.length_cons, List.length_nil]; omega) hsz4).mono ?_
          rintro e w5 ⟨⟨n5, rfl⟩, hbl5, hb5⟩
          have HB6 : Hid (Below w.heap.size w w5) := HB5.out.trans (hb5.mono HB1.out.size)
          have HBL5 : Hid (Bld w1.heap.size w1.heap.size (printM (l.take (k + 1))) w5) := Lib.hid (by rw [HD.out, recM, ← List.append_assoc]; exact hbl5)
          have hsz5 : w1.heap.size ≤ w5.heap.size := by have := hb5.size; omega
          clear hbl5 hb5
          go_wp2_with fail
          go_roundg g1
          case measure => omega
          case rel => exact ⟨k + 1, by have := HG.out; omega, by go_num, HBL5, HB6, hsz5⟩
end Go.Proofs.YthlgjipbpgaobaaDoor
