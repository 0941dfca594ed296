/- The small case of law 07. -/
import Derived.Test.YthlgjipbpgaobaaDoorPaxE
import Derived.Test.YthlgjipbpgaobaaDoorPaxI
import Derived.Test.YthlgjipbpgaobaaDoorPaxP
import Derived.Lib.SlBytesConst
namespace Go.Proofs.YthlgjipbpgaobaaDoor
open Go.RowKit

/-- A block that holds just these elements. -/
theorem row_lit {α : Type} {enc : α → List Value} {k : Nat} (hk : ∀ x, (enc x).length = k) {w : World} {b T : Nat} {fr : Nat × Nat} {l : List α} (h : w.heap[b]? = some (.cells (flat enc l).toArray T fr)) : RowAt enc k w (some ⟨b, 0, none⟩) l := by
  intro i x hx
  refine ⟨b, 0, rfl, fun j u hu => ?_⟩
  rw [Nat.zero_add, blk_cell h]
  have := flat_at hk l i j x u hx hu
  simpa using this

/-- the case's pairs -/
def smL : List (Str × Str) := [([97], [98]), ([112, 97, 116, 104], [120, 61, 121, 10])]
def smP : Str := [54, 32, 97, 61, 98, 10, 49, 51, 32, 112, 97, 116, 104, 61, 120, 61, 121, 10, 10]

theorem dec6 : dec 6 = [54] := by rw [dec_small (by omega)]; rfl
theorem dec13 : dec 13 = [49, 51] := by rw [dec_big (by omega), dec_small (by omega)]; rfl
theorem len5 : lenM 5 = 6 := by
  have h := lenM_fix 5 (by omega)
  have h6 : Lib.nDigits 6 = 1 := Lib.nDigits_small (by omega)
  have h5 : Lib.nDigits 5 = 1 := Lib.nDigits_small (by omega)
  rcases Nat.lt_trichotomy (lenM 5) 6 with hlt | he | hgt
  · have hp := Lib.nDigits_pos (lenM 5); omega
  · exact he
  · have := h.2 6 (by omega) hgt; omega
theorem len11 : lenM 11 = 13 := by
  have h := lenM_fix 11 (by omega)
  have h13 : Lib.nDigits 13 = 2 := by rw [Lib.nDigits_big (by omega), Lib.nDigits_small (by omega)]
  have h12 : Lib.nDigits 12 = 2 := by rw [Lib.nDigits_big (by omega), Lib.nDigits_small (by omega)]
  rcases Nat.lt_trichotomy (lenM 11) 13 with hlt | he | hgt
  · have hp := Lib.nDigits_pos (lenM 11)
    have : lenM 11 = 12 := by omega
    rw [this] at h; omega
  · exact he
  · have := h.2 13 (by omega) hgt; omega
theorem sm_rec (k v : Str) (n : Nat) (h : (restM (k, v)).length = n) : recM (k, v) = dec (lenM n) ++ restM (k, v) := by rw [recM, h]
theorem sm_print : printM smL = smP := by
  have e1 : recM ([97], [98]) = [54, 32, 97, 61, 98, 10] := by rw [sm_rec _ _ 5 rfl, len5, dec6]; rfl
  have e2 : recM ([112, 97, 116, 104], [120, 61, 121, 10]) = [49, 51, 32, 112, 97, 116, 104, 61, 120, 61, 121, 10, 10] := by rw [sm_rec _ _ 11 rfl, len11, dec13]; rfl
  rw [smL, printM_cons, printM_cons, e1, e2]; rfl
theorem sm_ok : printOk smL = true := by decide
theorem sm_parse : parseM smP = (smL, 0) := by
  rw [← sm_print]
  exact parse_print sm_ok (by rw [sm_print]; decide)
def smF : Str := [55, 32, 97, 61, 98, 10]
theorem sm_form : parseM smF = ([], 3) := by
  have : cutM smF = none := by
    unfold cutM cutAt
    have e : cut1 32 smF = ([55], [97, 61, 98, 10], true) := by decide
    rw [e]
    simp only [if_true]
    have h7 : Lib.atoiAll [55] = .ok 7 := by decide
    have : numM smF [55] = none := by
      unfold numM
      rw [h7]
      simp only
      rw [if_neg (by rintro ⟨_, _, h, _⟩; simp [smF] at h)]
    rw [this]; rfl
  exact parseM_none (by unfold pairsOf; exact parseF_no this)
def smT : Str := [54, 32, 97, 61, 98, 10, 54, 32, 97, 61, 99, 10]
theorem sm_twice : parseM smT = ([], 7) := by
  have e1 : recM ([97], [98]) = [54, 32, 97, 61, 98, 10] := by rw [sm_rec _ _ 5 rfl, len5, dec6]; rfl
  have e2 : recM ([97], [99]) = [54, 32, 97, 61, 99, 10] := by rw [sm_rec _ _ 5 rfl, len5, dec6]; rfl
  have e : smT = printM [([97], [98]), ([97], [99])] := by rw [printM_cons, printM_cons, e1, e2]; rfl
  rw [e, parseM_some (pairs_print (by decide) (by rw [← e]; decide))]
  rfl
theorem sm_eq : printOk [([61], [])] = false := by decide

set_option maxHeartbeats 4000000 in
set_option maxRecDepth 100000 in
theorem small_calls (w : World) (hg : GL w) :
    Calls Tryd.prog 7 #[] w fun e w' => e = .returned (.bool true) ∧ Below w.heap.size w w' := by
  have kc := fun (w : World) (C : Array Value) (n c : Nat) => Lib.run_convert_bytes_const (P := Tryd.prog) w 22 5 C n c Tryd.underlying22 Tryd.underlying5
  go_enter Tryd.func7, Tryd.ntmps7
  go_wp2_with fail
  -- Print of the two pairs
  obtain ⟨w1, hw1⟩ : ∃ w1, w1 = w.alloc (.cells #[S [97], S [98], S [112, 97, 116, 104], S [120, 61, 121, 10]] 33) := ⟨_, rfl⟩
  have hr1 : RowAt prC 2 w1 (some ⟨w.heap.size, 0, none⟩) smL := by rw [hw1]; exact row_lit prC_len (blk_new w _)
  have HB : Hid (Below w.heap.size w w1) := Lib.hid (by rw [hw1]; exact below_new w _)
  rw [← hw1]
  clear hw1
  refine (print_calls w1 (hg.ext HB.out) _ 2 smL hr1 (by decide)).mono ?_
  clear hr1
  rintro e w2 ⟨v1, rfl, hsl, hb⟩
  rw [sm_ok] at hsl ⊢
  simp only [if_true, sm_print] at hsl
  obtain ⟨a1, k1, rfl, hr1, hn1, _⟩ := hsl
  have HR1 := Lib.hid hr1
  have HN1 := Lib.hid hn1
  replace HB : Hid (Below w.heap.size w w2) := below_then HB.out hb
  clear hr1 hn1 hb
  go_wp2_with fail
  -- Parse of that
  refine (parse_calls w2 (hg.ext HB.out) a1 k1 smP HR1.out HN1.out (by decide)).mono ?_
  rintro e w3 ⟨v3, rfl, ho, hb⟩
  rw [sm_parse] at ho ⊢
  dsimp only at ho ⊢
  obtain ⟨a3, k3, rfl, _, _⟩ := ho.val
  have HR3 := Lib.hid (ho.row prC_len)
  replace HR1 := Lib.hid (HR1.out.ext hb)
  replace HB : Hid (Below w.heap.size w w3) := below_then HB.out hb
  clear ho hb
  go_wp2_with fail
  -- Parse of a text that is no record
  obtain ⟨w4, hw4⟩ : ∃ w4, w4 = w3.alloc (.cells #[.int .u8 55, .int .u8 32, .int .u8 97, .int .u8 61, .int .u8 98, .int .u8 10] 5 (6, 7)) := ⟨_, rfl⟩
  have hr4 : RowAt byC 1 w4 (some ⟨w3.heap.size, 0, none⟩) smF := by rw [hw4]; exact row_lit byC_len (blk_new w3 _)
  have hb4 : Below w3.heap.size w3 w4 := by rw [hw4]; exact below_new w3 _
  rw [← hw4]
  clear hw4
  replace HR1 := Lib.hid (HR1.out.ext hb4)
  replace HR3 := Lib.hid (HR3.out.ext hb4)
  replace HB : Hid (Below w.heap.size w w4) := below_then HB.out hb4
  clear hb4
  refine (parse_calls w4 (hg.ext HB.out) _ 6 smF hr4 (fun h => by cases h) (by decide)).mono ?_
  clear hr4
  rintro e w5 ⟨v5, rfl, _, hb⟩
  rw [sm_form]
  replace HR1 := Lib.hid (HR1.out.ext hb)
  replace HR3 := Lib.hid (HR3.out.ext hb)
  replace HB : Hid (Below w.heap.size w w5) := below_then HB.out hb
  clear hb
  go_wp2_with fail
  -- Parse of a key twice
  obtain ⟨w6, hw6⟩ : ∃ w6, w6 = w5.alloc (.cells #[.int .u8 54, .int .u8 32, .int .u8 97, .int .u8 61, .int .u8 98, .int .u8 10, .int .u8 54, .int .u8 32, .int .u8 97, .int .u8 61, .int .u8 99, .int .u8 10] 5 (12, 13)) := ⟨_, rfl⟩
  have hr6 : RowAt byC 1 w6 (some ⟨w5.heap.size, 0, none⟩) smT := by rw [hw6]; exact row_lit byC_len (blk_new w5 _)
  have hb6 : Below w5.heap.size w5 w6 := by rw [hw6]; exact below_new w5 _
  rw [← hw6]
  clear hw6
  replace HR1 := Lib.hid (HR1.out.ext hb6)
  replace HR3 := Lib.hid (HR3.out.ext hb6)
  replace HB : Hid (Below w.heap.size w w6) := below_then HB.out hb6
  clear hb6
  refine (parse_calls w6 (hg.ext HB.out) _ 12 smT hr6 (fun h => by cases h) (by decide)).mono ?_
  clear hr6
  rintro e w7 ⟨v7, rfl, _, hb⟩
  rw [sm_twice]
  replace HR1 := Lib.hid (HR1.out.ext hb)
  replace HR3 := Lib.hid (HR3.out.ext hb)
  replace HB : Hid (Below w.heap.size w w7) := below_then HB.out hb
  clear hb
  go_wp2_with fail
  -- Print of a key that may not be
  obtain ⟨w8, hw8⟩ : ∃ w8, w8 = w7.alloc (.cells #[S [61], S []] 33) := ⟨_, rfl⟩
  have hr8 : RowAt prC 2 w8 (some ⟨w7.heap.size, 0, none⟩) [([61], [])] := by rw [hw8]; exact row_lit prC_len (blk_new w7 _)
  have hb8 : Below w7.heap.size w7 w8 := by rw [hw8]; exact below_new w7 _
  rw [← hw8]
  clear hw8
  replace HR1 := Lib.hid (HR1.out.ext hb8)
  replace HR3 := Lib.hid (HR3.out.ext hb8)
  replace HB : Hid (Below w.heap.size w w8) := below_then HB.out hb8
  clear hb8
  refine (print_calls w8 (hg.ext HB.out) _ 1 [([61], [])] hr8 (by decide)).mono ?_
  clear hr8
  rintro e w9 ⟨v9, rfl, _, hb⟩
  rw [sm_eq]
  replace HR1 := Lib.hid (HR1.out.ext hb)
  replace HR3 := Lib.hid (HR3.out.ext hb)
  replace HB : Hid (Below w.heap.size w w9) := below_then HB.out hb
  clear hb
  go_wp2_with fail
  -- Find
  refine (find_calls w9 a3 k3 smL [112, 97, 116, 104] HR3.out (by decide)).mono ?_
  rintro e w10 ⟨rfl, hb⟩
  rw [show findM smL [112, 97, 116, 104] = ([120, 61, 121, 10], true) from by decide]
  replace HR1 := Lib.hid (HR1.out.ext hb)
  replace HR3 := Lib.hid (HR3.out.ext hb)
  replace HB : Hid (Below w.heap.size w w10) := below_then HB.out hb
  clear hb
  go_wp2_with fail
  refine (find_calls w10 a3 k3 smL [98] HR3.out (by decide)).mono ?_
  rintro e w11 ⟨rfl, hb⟩
  rw [show findM smL [98] = ([], false) from by decide]
  replace HR1 := Lib.hid (HR1.out.ext hb)
  replace HR3 := Lib.hid (HR3.out.ext hb)
  replace HB : Hid (Below w.heap.size w w11) := below_then HB.out hb
  clear hb kc
  have hconv := bytes_text HR1.out k1 HN1.out
  have hlen : ((smL.length : Int) != 2) = false := by decide
  have hlen0 : 0 < smL.length := by decide
  obtain ⟨b, o, rfl, c0, c1⟩ := HR3.out.pr hlen0
  have heq := pair_eql [97] [98] [97] [98]
  rw [show (([97], [98]) == (([97], [98]) : Str × Str)) = true from by decide] at heq
  have e0 : smL[0] = ([97], [98]) := rfl
  rw [e0] at c0 c1
  clear e0
  replace c0 : w11.cell? ⟨b, o, none⟩ = some (S [97]) := c0
  replace c1 : w11.cell? ⟨b, o + 1, none⟩ = some (S [98]) := c1
  have hsp : (smP == [54, 32, 97, 61, 98, 10, 49, 51, 32, 112, 97, 116, 104, 61, 120, 61, 121, 10, 10]) = true := by decide
  go_wp2_with fail
  exact bodyPost_ret (v := .bool true) (by simp [results, Tryd.results7, go_sem]) rfl ⟨rfl, HB.out⟩
end Go.Proofs.YthlgjipbpgaobaaDoor
