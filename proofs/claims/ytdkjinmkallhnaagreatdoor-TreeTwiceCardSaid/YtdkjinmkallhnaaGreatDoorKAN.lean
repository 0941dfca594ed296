/- Law 17, TreeTwice: the row's proof and its card. -/
import Derived.Test.YtdkjinmkallhnaaGreatDoorKAB
import Derived.Test.YtdkjinmkallhnaaGreatDoorKAM
section
namespace Go.Proofs.YtdkjinmkallhnaaGreatDoorQ
open Go.RowKit Go.Proofs.YtdkjinmkallhnaaGreatDoorW.PrintWords Go.Proofs.YtdkjinmkallhnaaGreatDoorW.PrintLast Go.Proofs.YtdkjinmkallhnaaGreatDoorW.PrintMore
open Go.Proofs.YtdkjinmkallhnaaGreatDoor (GL)
attribute [local go_sem] max2_int min2_int max_two min_two max_three min_three max_four min_four
attribute [local go_sem high] eqA40
def pq11.l0 : Nat → List (S40) → List (S40) → Int → Option (Bool)
 | 0, _, _, _ => none
 | k + 1, x0, x1, x5 => if x5 < (x0.length : Int) then (if 0 ≤ x5 then (if x5 < (x1.length : Int) then (if (!((((rd_T40 x0 x5).f0).toList) == (((rd_T40 x1 x5).f0).toList)) || ((!(((rd_T40 x0 x5).f1.f0) == ((rd_T40 x1 x5).f1.f0)) || (!(((rd_T40 x0 x5).f1.f1) == ((rd_T40 x1 x5).f1.f1)) || (!(((rd_T40 x0 x5).f1.f2) == ((rd_T40 x1 x5).f1.f2)) || (!(((rd_T40 x0 x5).f1.f3) == ((rd_T40 x1 x5).f1.f3)) || (!(((rd_T40 x0 x5).f1.f4) == ((rd_T40 x1 x5).f1.f4)) || (!((((rd_T40 x0 x5).f1.f5).toList) == (((rd_T40 x1 x5).f1.f5).toList)) || (!((((rd_T40 x0 x5).f1.f6).toList) == (((rd_T40 x1 x5).f1.f6).toList)) || (!(((rd_T40 x0 x5).f1.f7) == ((rd_T40 x1 x5).f1.f7)) || (!(((rd_T40 x0 x5).f1.f8) == ((rd_T40 x1 x5).f1.f8)) || (!((((rd_T40 x0 x5).f1.f9).toList) == (((rd_T40 x1 x5).f1.f9).toList)))))))))))))) = true then (some false) else (pq11.l0 k x0 x1 (wrap64 (x5 + 1)))) else (none)) else (none)) else (some true)
def pq11.f (k : Nat) (l0 : List (S40)) (l1 : List (S40)) : Option (Bool) := if (l0.length : Int) = (l1.length : Int) then (pq11.l0 k l0 l1 0) else (some false)
set_option maxHeartbeats 8000000 in
set_option maxRecDepth 100000 in
theorem pq11.calls (k : Nat) (A0 : Option Addr) (c0 : Nat) (l0 : List (S40)) (A1 : Option Addr) (c1 : Nat) (l1 : List (S40)) (r : Bool) (w : World) (hr0 : Kd.C k40 w A0 l0.length l0) (hc0 : l0.length ≤ c0) (hr1 : Kd.C k40 w A1 l1.length l1) (hc1 : l1.length ≤ c1) (h : pq11.f k l0 l1 = some r) :
  Calls Tryz.prog 24 #[.slice A0 l0.length c0, .slice A1 l1.length c1] w fun e w' => e = .returned (.bool r) ∧ Drawn0 w w' := by
 have hu40 := Tryz.underlying40
 have HR0 := Aside0.mk hr0
 have HC0 := Aside0.mk hc0
 clear hr0 hc0
 have HR1 := Aside0.mk hr1
 have HC1 := Aside0.mk hc1
 clear hr1 hc1
 have H : (if (l0.length : Int) = (l1.length : Int) then (pq11.l0 k l0 l1 0) else (some false)) = some r := h
 clear h
 by_cases c3 : (l0.length : Int) = (l1.length : Int)
 ·rw [if_pos c3] at H
  have c3b0 : ((l0.length : Int) == (l1.length : Int)) = true := beq_iff_eq.mpr c3
  have c3b1 : ((l0.length : Int) != (l1.length : Int)) = false := bne_eq_false_iff_eq.mpr c3
  have c3b2 : (l0.length == l1.length) = true := by first | simpa using c3 | (simp at c3 ⊢; omega)
  clear c3
  have H' := Aside0.mk H
  clear H
  go_enter Tryz.func24, Tryz.ntmps24
  go_wp2
  repeat (go_quiet (fail); try go_wp2)
  go_loopg [5] k (fun kq v5 w' => ∃ (x5_1 : Int), v5 = .int .i64 x5_1 ∧ Aside0 (pq11.l0 kq l0 l1 x5_1 = some r) ∧ Aside0 (kq ≤ k) ∧ Drawn0 w w')
  case atStart => exact ⟨(0), (by first | rfl | (simp; done) | (simp [*]; done)), H', ⟨Nat.le_refl _⟩, by repeat (first | exact Drawn0.refl _ | apply Drawn0.step)⟩
  case round =>
   clear H'
   try clear c1
   try clear c2
   try clear p2
   try clear c3
   try clear c3b0
   try clear c3b1
   try clear c3b2
   obtain ⟨x5_1, rfl, HA, HK1, ⟨m1, rfl⟩⟩ := hrel
   cases gk with
   | zero => exact absurd HA.out (by simp [pq11.l0])
   | succ k1 =>
    have H := HA.out
    clear HA
    simp only [pq11.l0] at H
    by_cases c4 : x5_1 < (l0.length : Int)
    ·rw [if_pos c4] at H
     have c4b0 : decide (x5_1 < (l0.length : Int)) = true := decide_eq_true c4
     clear c4
     by_cases c5 : 0 ≤ x5_1
     ·rw [if_pos c5] at H
      have c5b0 : decide (0 ≤ x5_1) = true := decide_eq_true c5
      clear c5
      by_cases c6 : x5_1 < (l1.length : Int)
      ·rw [if_pos c6] at H
       have c6b0 : decide (x5_1 < (l1.length : Int)) = true := decide_eq_true c6
       clear c6
       by_cases c7 : (!((((rd_T40 l0 x5_1).f0).toList) == (((rd_T40 l1 x5_1).f0).toList)) || ((!(((rd_T40 l0 x5_1).f1.f0) == ((rd_T40 l1 x5_1).f1.f0)) || (!(((rd_T40 l0 x5_1).f1.f1) == ((rd_T40 l1 x5_1).f1.f1)) || (!(((rd_T40 l0 x5_1).f1.f2) == ((rd_T40 l1 x5_1).f1.f2)) || (!(((rd_T40 l0 x5_1).f1.f3) == ((rd_T40 l1 x5_1).f1.f3)) || (!(((rd_T40 l0 x5_1).f1.f4) == ((rd_T40 l1 x5_1).f1.f4)) || (!((((rd_T40 l0 x5_1).f1.f5).toList) == (((rd_T40 l1 x5_1).f1.f5).toList)) || (!((((rd_T40 l0 x5_1).f1.f6).toList) == (((rd_T40 l1 x5_1).f1.f6).toList)) || (!(((rd_T40 l0 x5_1).f1.f7) == ((rd_T40 l1 x5_1).f1.f7)) || (!(((rd_T40 l0 x5_1).f1.f8) == ((rd_T40 l1 x5_1).f1.f8)) || (!((((rd_T40 l0 x5_1).f1.f9).toList) == (((rd_T40 l1 x5_1).f1.f9).toList)))))))))))))) = true
       ·rw [if_pos c7] at H
        have c7b0 : (!((((rd_T40 l0 x5_1).f0).toList) == (((rd_T40 l1 x5_1).f0).toList)) || ((!(((rd_T40 l0 x5_1).f1.f0) == ((rd_T40 l1 x5_1).f1.f0)) || (!(((rd_T40 l0 x5_1).f1.f1) == ((rd_T40 l1 x5_1).f1.f1)) || (!(((rd_T40 l0 x5_1).f1.f2) == ((rd_T40 l1 x5_1).f1.f2)) || (!(((rd_T40 l0 x5_1).f1.f3) == ((rd_T40 l1 x5_1).f1.f3)) || (!(((rd_T40 l0 x5_1).f1.f4) == ((rd_T40 l1 x5_1).f1.f4)) || (!((((rd_T40 l0 x5_1).f1.f5).toList) == (((rd_T40 l1 x5_1).f1.f5).toList)) || (!((((rd_T40 l0 x5_1).f1.f6).toList) == (((rd_T40 l1 x5_1).f1.f6).toList)) || (!(((rd_T40 l0 x5_1).f1.f7) == ((rd_T40 l1 x5_1).f1.f7)) || (!(((rd_T40 l0 x5_1).f1.f8) == ((rd_T40 l1 x5_1).f1.f8)) || (!((((rd_T40 l0 x5_1).f1.f9).toList) == (((rd_T40 l1 x5_1).f1.f9).toList)))))))))))))) = true := c7
        clear c7
        obtain rfl := Option.some.inj H
        have p709 : 0 ≤ (x5_1 : Int) := of_decide_eq_true (by first | (with_reducible assumption) | assumption)
        have q709 : x5_1 < (l0.length : Int) := of_decide_eq_true (by first | (with_reducible assumption) | assumption)
        obtain ⟨ad709, e709, hx709_0, hx709_1, hx709_2, hx709_3, hx709_4, hx709_5, hx709_6, hx709_7, hx709_8, hx709_9, hx709_10⟩ := at_T40 HR0.out x5_1 p709 q709
        cases e709
        replace p709 := eq_true p709
        replace q709 := eq_true q709
        have p710 : 0 ≤ (x5_1 : Int) := of_decide_eq_true (by first | (with_reducible assumption) | assumption)
        have q710 : x5_1 < (l1.length : Int) := of_decide_eq_true (by first | (with_reducible assumption) | assumption)
        obtain ⟨ad710, e710, hx710_0, hx710_1, hx710_2, hx710_3, hx710_4, hx710_5, hx710_6, hx710_7, hx710_8, hx710_9, hx710_10⟩ := at_T40 HR1.out x5_1 p710 q710
        cases e710
        replace p710 := eq_true p710
        replace q710 := eq_true q710
        go_wp2
        repeat (go_quiet (fail); try go_wp2)
        go_ret
        exact ⟨by first | rfl | (simp; done) | (simp [*]; done), by repeat (first | exact Drawn0.refl _ | apply Drawn0.step)⟩
       ·rw [if_neg c7] at H
        have c7b0 : (!((((rd_T40 l0 x5_1).f0).toList) == (((rd_T40 l1 x5_1).f0).toList)) || ((!(((rd_T40 l0 x5_1).f1.f0) == ((rd_T40 l1 x5_1).f1.f0)) || (!(((rd_T40 l0 x5_1).f1.f1) == ((rd_T40 l1 x5_1).f1.f1)) || (!(((rd_T40 l0 x5_1).f1.f2) == ((rd_T40 l1 x5_1).f1.f2)) || (!(((rd_T40 l0 x5_1).f1.f3) == ((rd_T40 l1 x5_1).f1.f3)) || (!(((rd_T40 l0 x5_1).f1.f4) == ((rd_T40 l1 x5_1).f1.f4)) || (!((((rd_T40 l0 x5_1).f1.f5).toList) == (((rd_T40 l1 x5_1).f1.f5).toList)) || (!((((rd_T40 l0 x5_1).f1.f6).toList) == (((rd_T40 l1 x5_1).f1.f6).toList)) || (!(((rd_T40 l0 x5_1).f1.f7) == ((rd_T40 l1 x5_1).f1.f7)) || (!(((rd_T40 l0 x5_1).f1.f8) == ((rd_T40 l1 x5_1).f1.f8)) || (!((((rd_T40 l0 x5_1).f1.f9).toList) == (((rd_T40 l1 x5_1).f1.f9).toList)))))))))))))) = false := by simpa using c7
        clear c7
        have H' := Aside0.mk H
        clear H
        have p709 : 0 ≤ (x5_1 : Int) := of_decide_eq_true (by first | (with_reducible assumption) | assumption)
        have q709 : x5_1 < (l0.length : Int) := of_decide_eq_true (by first | (with_reducible assumption) | assumption)
        obtain ⟨ad709, e709, hx709_0, hx709_1, hx709_2, hx709_3, hx709_4, hx709_5, hx709_6, hx709_7, hx709_8, hx709_9, hx709_10⟩ := at_T40 HR0.out x5_1 p709 q709
        cases e709
        replace p709 := eq_true p709
        replace q709 := eq_true q709
        have p710 : 0 ≤ (x5_1 : Int) := of_decide_eq_true (by first | (with_reducible assumption) | assumption)
        have q710 : x5_1 < (l1.length : Int) := of_decide_eq_true (by first | (with_reducible assumption) | assumption)
        obtain ⟨ad710, e710, hx710_0, hx710_1, hx710_2, hx710_3, hx710_4, hx710_5, hx710_6, hx710_7, hx710_8, hx710_9, hx710_10⟩ := at_T40 HR1.out x5_1 p710 q710
        cases e710
        replace p710 := eq_true p710
        replace q710 := eq_true q710
        go_wp2
        repeat (go_quiet (fail); try go_wp2)
        go_roundg k1
        case measure => have := HK1.out; omega
        case rel => exact ⟨(wrap64 (x5_1 + 1)), (by first | rfl | (simp; done) | (simp [*]; done)), H', ⟨by have := HK1.out; omega⟩, by repeat (first | exact Drawn0.refl _ | apply Drawn0.step)⟩
      ·rw [if_neg c6] at H
       exact absurd H (by simp)
     ·rw [if_neg c5] at H
      exact absurd H (by simp)
    ·rw [if_neg c4] at H
     have c4b0 : decide (x5_1 < (l0.length : Int)) = false := decide_eq_false c4
     clear c4
     obtain rfl := Option.some.inj H
     go_wp2
     repeat (go_quiet (fail); try go_wp2)
     go_ret
     exact ⟨by first | rfl | (simp; done) | (simp [*]; done), by repeat (first | exact Drawn0.refl _ | apply Drawn0.step)⟩
 ·rw [if_neg c3] at H
  have c3b0 : ((l0.length : Int) == (l1.length : Int)) = false := beq_eq_false_iff_ne.mpr c3
  have c3b1 : ((l0.length : Int) != (l1.length : Int)) = true := bne_iff_ne.mpr c3
  have c3b2 : (l0.length == l1.length) = false := by first | simpa using c3 | (simp at c3 ⊢; omega)
  obtain rfl := Option.some.inj H
  go_enter Tryz.func24, Tryz.ntmps24
  go_wp2
  repeat (go_quiet (fail); try go_wp2)
  go_ret
  exact ⟨by first | rfl | (simp; done) | (simp [*]; done), by repeat (first | exact Drawn0.refl _ | apply Drawn0.step)⟩
end Go.Proofs.YtdkjinmkallhnaaGreatDoorQ
end
section
namespace Go.Proofs.YtdkjinmkallhnaaGreatDoorQ
open Go.RowKit Go.Proofs.YtdkjinmkallhnaaGreatDoor Go.Proofs.YtdkjinmkallhnaaGreatDoorW.PrintWords Go.Proofs.YtdkjinmkallhnaaGreatDoorW.PrintLast Go.Proofs.YtdkjinmkallhnaaGreatDoorW.PrintMore
open Go.Proofs.YtdkjinmkallhnaaGreatDoorT (applyM rightT rightC Ch getL)
theorem w64 {x : Int} (h0 : -9223372036854775808 ≤ x) (h1 : x ≤ 9223372036854775807) : wrap64 x = x := wrap_in h0 h1
theorem rdE {l : List S40} {i : Nat} (h : i < l.length) : rd_T40 l (i : Int) = l[i] := by
  unfold rd_T40
  rw [show ((i : Nat) : Int).toNat = i from rfl, List.getD_eq_getElem?_getD, List.getElem?_eq_getElem h]; rfl
theorem rdC {l : List S38} {i : Nat} (h : i < l.length) : rd_T38 l (i : Int) = l[i] := by
  unfold rd_T38
  rw [show ((i : Nat) : Int).toNat = i from rfl, List.getD_eq_getElem?_getD, List.getElem?_eq_getElem h]; rfl
def enTot (x : S40) : Nat := x.f0.size + x.f1.f5.size + x.f1.f6.size + x.f1.f9.size
def chTot (x : S38) : Nat := x.f0.size + x.f2.f5.size + x.f2.f6.size + x.f2.f9.size
def SzE (l : List S40) : Prop := ∀ x ∈ l, enTot x ≤ 562949953404928
def SzC (l : List S38) : Prop := ∀ x ∈ l, chTot x ≤ 562949953404928
def totE (l : List S40) : Nat := (l.map enTot).sum
def totC (l : List S38) : Nat := (l.map chTot).sum
theorem totE_snoc (l : List S40) (x : S40) : totE (l ++ [x]) = totE l + enTot x := by simp [totE]
theorem totC_snoc (l : List S38) (x : S38) : totC (l ++ [x]) = totC l + chTot x := by simp [totC]
theorem totE_mem : ∀ (l : List S40) {x : S40}, x ∈ l → enTot x ≤ totE l
  | y :: r, x, h => by
    have e : totE (y :: r) = enTot y + totE r := by simp [totE]
    rcases List.mem_cons.1 h with h | h
    · rw [e, h]; omega
    · have := totE_mem r h; omega
theorem totC_mem : ∀ (l : List S38) {x : S38}, x ∈ l → chTot x ≤ totC l
  | y :: r, x, h => by
    have e : totC (y :: r) = chTot y + totC r := by simp [totC]
    rcases List.mem_cons.1 h with h | h
    · rw [e, h]; omega
    · have := totC_mem r h; omega
theorem few09_l (l : List S40) (hs : SzE l) (hn : l.length ≤ 1000000000000000) : ∀ d i (z : Int), i + d = l.length → (i ≤ 30 → ∃ s : Nat, z = (s : Int) ∧ s = totE (l.take i) ∧ s ≤ i * 562949953404928) →
    ∃ b, Ev (fun k => onionskinlaw09_Few.l0 k l z i) b ∧ (b = true → l.length ≤ 30 ∧ totE l ≤ 12000) := by
  intro d
  induction d with
  | zero =>
    intro i z hi hz
    refine ⟨decide (l.length ≤ 30 ∧ z ≤ 12000), Ev.step (f := fun _ => some (decide (l.length ≤ 30 ∧ z ≤ 12000))) (fun k => ?_) (Ev.now _), fun hb => ?_⟩
    · simp only [onionskinlaw09_Few.l0]
      rw [if_neg (by omega)]
      by_cases h : l.length ≤ 30
      · rw [if_pos (by omega)]; simp [h]
      · rw [if_neg (by omega)]; simp [h]
    · have hb := of_decide_eq_true hb
      obtain ⟨s, h1, h2, _⟩ := hz (by omega)
      rw [List.take_of_length_le (by omega)] at h2
      exact ⟨hb.1, by omega⟩
  | succ d ih =>
    intro i z hi hz
    have hlt : i < l.length := by omega
    obtain ⟨z', hz'⟩ : ∃ z', z' = (wrap64 ((wrap64 ((wrap64 ((wrap64 (z + (((rd_T40 l i).f0).size : Int))) + (((rd_T40 l i).f1.f5).size : Int))) + (((rd_T40 l i).f1.f6).size : Int))) + (((rd_T40 l i).f1.f9).size : Int))) := ⟨_, rfl⟩
    obtain ⟨b, e, hb⟩ := ih (i + 1) z' (by omega) (fun h30 => by
      obtain ⟨s, h1, h2, h3⟩ := hz (by omega)
      have hx := hs _ (List.getElem_mem hlt)
      refine ⟨s + enTot l[i], ?_, ?_, by omega⟩
      · rw [hz', rdE hlt]
        unfold enTot at hx ⊢
        rw [w64 (x := z + (l[i].f0.size : Int)) (by omega) (by omega), w64 (x := z + (l[i].f0.size : Int) + (l[i].f1.f5.size : Int)) (by omega) (by omega), w64 (x := z + (l[i].f0.size : Int) + (l[i].f1.f5.size : Int) + (l[i].f1.f6.size : Int)) (by omega) (by omega), w64 (by omega) (by omega)]
        omega
      · rw [List.take_succ_eq_append_getElem hlt, totE_snoc, h2])
    refine ⟨b, Ev.step (fun k => ?_) e, hb⟩
    simp only [onionskinlaw09_Few.l0]
    rw [if_pos (by omega), if_pos (by omega), ← hz', w64 (by omega) (by omega)]
    rfl
theorem few09_ev (l : List S40) (hs : SzE l) (hn : l.length ≤ 1000000000000000) : ∃ b, Ev (fun k => onionskinlaw09_Few.f k l) b ∧ (b = true → l.length ≤ 30 ∧ totE l ≤ 12000) :=
  few09_l l hs hn l.length 0 0 (by omega) (fun _ => ⟨0, rfl, by simp [totE], by omega⟩)
theorem few16_l (l : List S38) (hs : SzC l) (hn : l.length ≤ 1000000000000000) : ∀ d i (z : Int), i + d = l.length → (i ≤ 30 → ∃ s : Nat, z = (s : Int) ∧ s = totC (l.take i) ∧ s ≤ i * 562949953404928) →
    ∃ b, Ev (fun k => onionskinlaw16_Few.l0 k l z i) b ∧ (b = true → l.length ≤ 30 ∧ totC l ≤ 6000) := by
  intro d
  induction d with
  | zero =>
    intro i z hi hz
    refine ⟨decide (l.length ≤ 30 ∧ z ≤ 6000), Ev.step (f := fun _ => some (decide (l.length ≤ 30 ∧ z ≤ 6000))) (fun k => ?_) (Ev.now _), fun hb => ?_⟩
    · simp only [onionskinlaw16_Few.l0]
      rw [if_neg (by omega)]
      by_cases h : l.length ≤ 30
      · rw [if_pos (by omega)]; simp [h]
      · rw [if_neg (by omega)]; simp [h]
    · have hb := of_decide_eq_true hb
      obtain ⟨s, h1, h2, _⟩ := hz (by omega)
      rw [List.take_of_length_le (by omega)] at h2
      exact ⟨hb.1, by omega⟩
  | succ d ih =>
    intro i z hi hz
    have hlt : i < l.length := by omega
    obtain ⟨z', hz'⟩ : ∃ z', z' = (wrap64 ((wrap64 ((wrap64 ((wrap64 (z + (((rd_T38 l i).f0).size : Int))) + (((rd_T38 l i).f2.f5).size : Int))) + (((rd_T38 l i).f2.f6).size : Int))) + (((rd_T38 l i).f2.f9).size : Int))) := ⟨_, rfl⟩
    obtain ⟨b, e, hb⟩ := ih (i + 1) z' (by omega) (fun h30 => by
      obtain ⟨s, h1, h2, h3⟩ := hz (by omega)
      have hx := hs _ (List.getElem_mem hlt)
      refine ⟨s + chTot l[i], ?_, ?_, by omega⟩
      · rw [hz', rdC hlt]
        unfold chTot at hx ⊢
        rw [w64 (x := z + (l[i].f0.size : Int)) (by omega) (by omega), w64 (x := z + (l[i].f0.size : Int) + (l[i].f2.f5.size : Int)) (by omega) (by omega), w64 (x := z + (l[i].f0.size : Int) + (l[i].f2.f5.size : Int) + (l[i].f2.f6.size : Int)) (by omega) (by omega), w64 (by omega) (by omega)]
        omega
      · rw [List.take_succ_eq_append_getElem hlt, totC_snoc, h2])
    refine ⟨b, Ev.step (fun k => ?_) e, hb⟩
    simp only [onionskinlaw16_Few.l0]
    rw [if_pos (by omega), if_pos (by omega), ← hz', w64 (by omega) (by omega)]
    rfl
theorem few16_ev (l : List S38) (hs : SzC l) (hn : l.length ≤ 1000000000000000) : ∃ b, Ev (fun k => onionskinlaw16_Few.f k l) b ∧ (b = true → l.length ≤ 30 ∧ totC l ≤ 6000) :=
  few16_l l hs hn l.length 0 0 (by omega) (fun _ => ⟨0, rfl, by simp [totC], by omega⟩)
theorem fitsE_of {l : List S40} (h : l.length ≤ 30 ∧ totE l ≤ 12000) : rowFits' l := by
  refine ⟨?_, by omega⟩
  unfold rowFits
  rw [List.all_eq_true]
  intro x hx
  obtain ⟨y, hy, rfl⟩ := List.mem_map.1 hx
  have := totE_mem l hy
  unfold enTot at this
  have e1 : (enOf y).1.length = y.f0.size := by show y.f0.data.toList.length = _; rw [Array.length_toList]; rfl
  have e2 : (enOf y).2.attrs.length = y.f1.f9.size := by show y.f1.f9.data.toList.length = _; rw [Array.length_toList]; rfl
  unfold ndFits
  rw [e1, e2]
  simp; omega
theorem fitsC_of {l : List S38} (h : l.length ≤ 30 ∧ totC l ≤ 6000) : lyrFits' l := by
  refine ⟨?_, by omega⟩
  unfold lyrFits
  rw [List.all_eq_true]
  intro x hx
  obtain ⟨y, hy, rfl⟩ := List.mem_map.1 hx
  have := totC_mem l hy
  unfold chTot at this
  have e1 : (chOf y).path.length = y.f0.size := by show y.f0.data.toList.length = _; rw [Array.length_toList]; rfl
  have e2 : (chOf y).node.attrs.length = y.f2.f9.size := by show y.f2.f9.data.toList.length = _; rw [Array.length_toList]; rfl
  unfold ndFits
  rw [e1, e2]
  simp; omega
theorem ba_eq (a b : ByteArray) : (a.toList == b.toList) = decide (a = b) := by
  rw [Bool.eq_iff_iff, beq_iff_eq, decide_eq_true_eq]
  constructor
  · intro h
    rw [ByteArray.toList_eq, ByteArray.toList_eq] at h
    obtain ⟨x⟩ := a; obtain ⟨y⟩ := b
    congr 1
    exact Array.toList_inj.1 h
  · rintro rfl; rfl
theorem same_l (a b : List S40) (hl : a.length = b.length) (hn : a.length ≤ 1000000000000000) (d0 : Bool) (hd0 : d0 = true ↔ a = b) : ∀ d i, i + d = a.length → a.take i = b.take i → Ev (fun k => pq11.l0 k a b i) d0 := by
  intro d
  induction d with
  | zero =>
    intro i hi ht
    have : a = b := by rwa [List.take_of_length_le (by omega), List.take_of_length_le (by omega)] at ht
    rw [hd0.2 this]
    refine Ev.step (f := fun _ => some true) (fun k => ?_) (Ev.now _)
    simp only [pq11.l0]; rw [if_neg (by omega)]
  | succ d ih =>
    intro i hi ht
    have h1 : i < a.length := by omega
    have h2 : i < b.length := by omega
    by_cases he : a[i] = b[i]
    · refine Ev.step (fun k => ?_) (ih (i + 1) (by omega) (by rw [List.take_succ_eq_append_getElem h1, List.take_succ_eq_append_getElem h2, ht, he]))
      simp only [pq11.l0, ba_eq]
      rw [rdE h1, rdE h2, he, if_pos (by omega), if_pos (by omega), if_pos (by omega), if_neg (by simp), w64 (by omega) (by omega)]
      rfl
    · have hne : d0 = false := by
        cases hd : d0 with
        | false => rfl
        | true =>
          have := hd0.1 hd
          subst this
          exact absurd rfl he
      rw [hne]
      refine Ev.step (f := fun _ => some false) (fun k => ?_) (Ev.now _)
      simp only [pq11.l0, ba_eq]
      rw [rdE h1, rdE h2, if_pos (by omega), if_pos (by omega), if_pos (by omega), if_pos ?_]
      generalize a[i] = x at he
      generalize b[i] = y at he
      obtain ⟨x0, x1, x2, x3, x4, x5, x6, x7, x8, x9, x10⟩ := x
      obtain ⟨y0, y1, y2, y3, y4, y5, y6, y7, y8, y9, y10⟩ := y
      apply Classical.byContradiction
      intro hc
      apply he
      simp at hc
      obtain ⟨q0, q1, q2, q3, q4, q5, q6, q7, q8, q9, q10⟩ := hc
      subst q0; subst q1; subst q2; subst q3; subst q4; subst q5; subst q6; subst q7; subst q8; subst q9; subst q10
      rfl
theorem same_ev (a b : List S40) (hn : a.length ≤ 1000000000000000) {d0 : Bool} (hd0 : d0 = true ↔ a = b) : Ev (fun k => pq11.f k a b) d0 := by
  unfold pq11.f
  by_cases hl : a.length = b.length
  · refine Ev.congr (fun k => ?_) (same_l a b hl hn d0 hd0 a.length 0 (by omega) rfl)
    rw [if_pos (by omega)]; rfl
  · have hne : d0 = false := by
      cases hd : d0 with
      | false => rfl
      | true => exact absurd (by rw [hd0.1 hd]) hl
    rw [hne]
    exact Ev.congr (fun k => by rw [if_neg (by omega)]) (Ev.now _)
theorem fit_len {a : List (Str × Nd)} {t : List (Str × Nd)} {l : List (Ch Str Nd)} (h : applyM Y t l = (a, 0)) : a.length ≤ 5000 := by
  obtain ⟨_, _, ha, _⟩ := YtdkjinmkallhnaaGreatDoorT.applyM_ok Y h
  exact ha.len
theorem fit_apply {t : List (Str × Nd)} {l : List (Ch Str Nd)} {a : List (Str × Nd)} (h : applyM Y t l = (a, 0)) (ht : rowFits t = true) (hl : lyrFits l = true) : rowFits a = true := by
  obtain ⟨_, _, ha, _⟩ := YtdkjinmkallhnaaGreatDoorT.applyM_ok Y h
  unfold rowFits
  rw [List.all_eq_true]
  intro x hx
  have hg := ha.srt.get (n := x.2) hx
  have hv := ha.srt.v x hx
  have hp := isM_short hv
  have hn : ndFits x.2 = true := by
    by_cases hc : ∃ c ∈ l, c.op = 0 ∧ c.path = x.1
    · obtain ⟨c, hc, h0, hcp⟩ := hc
      have := YtdkjinmkallhnaaGreatDoorT.stays_put h hc h0
      rw [hcp, hg] at this
      rw [Option.some.inj this]
      exact (lyr_get hl hc).2
    · have := YtdkjinmkallhnaaGreatDoorT.stays_had h hg (fun c hc' h => hc ⟨c, hc', h⟩)
      have hm := YtdkjinmkallhnaaGreatDoorT.getL_mem this
      have := List.all_eq_true.1 ht _ hm
      simp at this
      exact this.2
  simp [hn]; exact hp
theorem fits_apply {l0 : List S40} {l1 : List S38} {a : List (Str × Nd)} (h : applyM Y (l0.map enOf) (l1.map chOf) = (a, 0)) (h0 : rowFits' l0) (h1 : lyrFits' l1) : rowFits' (a.map ofEn) :=
  ⟨by rw [ens_back]; exact fit_apply h h0.1 h1.1, by rw [List.length_map]; have := fit_len h; omega⟩
theorem apply_f {l0 : List S40} {l1 : List S38} (h0 : rowFits' l0) (h1 : lyrFits' l1) : tree_Apply.f l0 l1 = some ((applyM Y (l0.map enOf) (l1.map chOf)).1.map ofEn, (applyM Y (l0.map enOf) (l1.map chOf)).2) := by
  unfold tree_Apply.f; rw [if_pos ⟨h0, h1⟩]
end Go.Proofs.YtdkjinmkallhnaaGreatDoorQ
end
section
namespace Go.Proofs.YtdkjinmkallhnaaGreatDoorQ
open Go.ChangeShapes Go.WideShapes Go.ChangeAt Go.RowKit Go.WideElems Go.Proofs.YtdkjinmkallhnaaGreatDoor Go.Proofs.YtdkjinmkallhnaaGreatDoorW.PrintWords
section
variable {H : Type} {enc : TypeId × Value → H} {W : World} {base : Nat}
theorem weighs {ts : List TypeId} {ds : List (DataW H)} (h : (DataW.weightsEach Tryz.prog ts ds).all (· ≤ reachBytes) = true) (j : Nat) {t : TypeId} {d : DataW H} (ht : ts[j]? = some t) (hd : ds[j]? = some d) : ∀ n ∈ d.weights Tryz.prog t, n ≤ reachBytes := fun n hn => by
  have := List.all_eq_true.1 h n (DataW.weights_mem_each ht hd n hn)
  simpa using this
theorem rowAt_map {α β : Type} {cells : β → List Value} {f : α → β} {k : Nat} {w : World} {a : Option Addr} {l : List α} (h : RowAt (fun x => cells (f x)) k w a l) : RowAt cells k w a (l.map f) := by
  intro i y hy
  rw [List.getElem?_map] at hy
  cases hx : l[i]? with
  | none => rw [hx] at hy; cases hy
  | some x =>
    rw [hx] at hy
    cases hy
    exact h i x hx
instance : Inhabited S40 := ⟨z40⟩
instance : Inhabited S38 := ⟨z38⟩
theorem reach_is : reachBytes = 140737488351232 := by decide
set_option maxRecDepth 100000 in
theorem ens_arg {v : Value} {d : DataW H} {p : List MemPlace} (hv : Value.okWide Tryz.prog W .any base 22 v) (h : DataW.Trod enc Tryz.prog W 0 (fun _ => true) true 22 v d p) (hw : ∀ n ∈ d.weights Tryz.prog 22, n ≤ reachBytes) :
    ∃ (a : Option Addr) (l : List S40) (cap : Nat), v = .slice a l.length cap ∧ Kd.C k40 W a l.length l ∧ l.length ≤ cap ∧ SzE l ∧ l.length ≤ 1000000000000000 := by
  obtain ⟨a0, len0, cap0, rfl⟩ := okWide_slice Tryz.underlying22 hv
  obtain ⟨fuel, hf⟩ := h
  obtain ⟨a, l, cap, hcs, hrow, hlc, hcm, hsz, hlen⟩ := row_open (k := 11) (cells := fun x => eCells (enOf x)) (sz := enSz) Tryz.underlying22 (by kernel_rfl) (by decide) (fun _ => rfl) en_open hf
  simp [Value.cells] at hcs
  obtain ⟨rfl, rfl, rfl⟩ := hcs
  have hb : Tryz.prog.bytesOf 40 = 120 := by kernel_rfl
  have hl : l.length ≤ 1000000000000000 := by
    by_cases h0 : l = []
    · rw [h0]; simp
    · obtain ⟨n, h1, h2⟩ := hlen h0
      have := hw n h1
      rw [reach_is] at this
      rw [hb] at h2
      omega
  refine ⟨a0, l, cap0, rfl, en_C (rowAt_map hrow) (by omega), hlc, fun x hx => ?_, hl⟩
  have h1 := hw _ (hsz x hx _ (.inl rfl))
  have h2 := hw _ (hsz x hx _ (.inr (.inl rfl)))
  have h3 := hw _ (hsz x hx _ (.inr (.inr (.inl rfl))))
  have h4 := hw _ (hsz x hx _ (.inr (.inr (.inr rfl))))
  rw [reach_is] at h1 h2 h3 h4
  unfold enTot
  omega
set_option maxRecDepth 100000 in
theorem chs_arg {v : Value} {d : DataW H} {p : List MemPlace} (hv : Value.okWide Tryz.prog W .any base 30 v) (h : DataW.Trod enc Tryz.prog W 0 (fun _ => true) true 30 v d p) (hw : ∀ n ∈ d.weights Tryz.prog 30, n ≤ reachBytes) :
    ∃ (a : Option Addr) (l : List S38) (cap : Nat), v = .slice a l.length cap ∧ Kd.C k38 W a l.length l ∧ l.length ≤ cap ∧ SzC l ∧ l.length ≤ 1000000000000000 := by
  obtain ⟨a0, len0, cap0, rfl⟩ := okWide_slice Tryz.underlying30 hv
  obtain ⟨fuel, hf⟩ := h
  obtain ⟨a, l, cap, hcs, hrow, hlc, hcm, hsz, hlen⟩ := row_open (k := 12) (cells := fun x => chCells (chOf x)) (sz := chSz) Tryz.underlying30 (by kernel_rfl) (by decide) (fun _ => rfl) ch_open hf
  simp [Value.cells] at hcs
  obtain ⟨rfl, rfl, rfl⟩ := hcs
  have hb : Tryz.prog.bytesOf 38 = 128 := by kernel_rfl
  have hl : l.length ≤ 1000000000000000 := by
    by_cases h0 : l = []
    · rw [h0]; simp
    · obtain ⟨n, h1, h2⟩ := hlen h0
      have := hw n h1
      rw [reach_is] at this
      rw [hb] at h2
      omega
  refine ⟨a0, l, cap0, rfl, ch_C (rowAt_map hrow) (by omega), hlc, fun x hx => ?_, hl⟩
  have h1 := hw _ (hsz x hx _ (.inl rfl))
  have h2 := hw _ (hsz x hx _ (.inr (.inl rfl)))
  have h3 := hw _ (hsz x hx _ (.inr (.inr (.inl rfl))))
  have h4 := hw _ (hsz x hx _ (.inr (.inr (.inr rfl))))
  rw [reach_is] at h1 h2 h3 h4
  unfold chTot
  omega
end
end Go.Proofs.YtdkjinmkallhnaaGreatDoorQ
end
section
namespace Go.Proofs.YtdkjinmkallhnaaGreatDoorQ
open Go.RowKit Go.Proofs.YtdkjinmkallhnaaGreatDoor
def onionskinlaw17_small.f : Option Bool := some true
theorem onionskinlaw17_small.calls (r : Bool) (w : World) (hG : GL w) (h : onionskinlaw17_small.f = some r) :
    Calls Tryz.prog 15 #[] w fun e w' => e = .returned (.bool r) ∧ Below w.heap.size w w' := by
  cases h
  exact small17_calls w hG
end Go.Proofs.YtdkjinmkallhnaaGreatDoorQ
end
section
namespace Go.Proofs.YtdkjinmkallhnaaGreatDoorQ
open Go.RowKit Go.Proofs.YtdkjinmkallhnaaGreatDoorW.PrintWords Go.Proofs.YtdkjinmkallhnaaGreatDoorW.PrintLast Go.Proofs.YtdkjinmkallhnaaGreatDoorW.PrintMore
open Go.Proofs.YtdkjinmkallhnaaGreatDoor (GL)
attribute [local go_sem] max2_int min2_int max_two min_two max_three min_three max_four min_four
def pq10.j0 : Nat → List (S40) → List (S38) → Bool → Bool → Option (Bool)
 | 0, _, _, _, _ => none
 | k + 1, x0, x1, x5, x22 => if x22 = true then (some x5) else ((tree_Apply.f x0 x1).bind fun bt857 => (if bt857.2 = 0 then ((tree_Apply.f bt857.1 x1).bind fun bt861 => (if x5 = true then (if bt861.2 = 0 then ((pq11.f k bt857.1 bt861.1).bind fun t865 => (some t865)) else (some false)) else (some false))) else (some x5)))
def pq10.f (k : Nat) (l0 : List (S40)) (l1 : List (S38)) : Option (Bool) := (onionskinlaw17_small.f).bind fun t854 => ((onionskinlaw09_Few.f k l0).bind fun t855 => ((onionskinlaw16_Few.f k l1).bind fun t856 => (if t855 = true then (pq10.j0 k l0 l1 t854 (!t856)) else (pq10.j0 k l0 l1 t854 true))))
set_option maxHeartbeats 8000000 in
set_option maxRecDepth 100000 in
theorem pq10.calls (k : Nat) (A0 : Option Addr) (c0 : Nat) (l0 : List (S40)) (A1 : Option Addr) (c1 : Nat) (l1 : List (S38)) (r : Bool) (w : World) (hG : GL w) (hr0 : Kd.C k40 w A0 l0.length l0) (hc0 : l0.length ≤ c0) (hr1 : Kd.C k38 w A1 l1.length l1) (hc1 : l1.length ≤ c1) (h : pq10.f k l0 l1 = some r) :
  Calls Tryz.prog 8 #[.slice A0 l0.length c0, .slice A1 l1.length c1] w fun e w' => e = .returned (.bool r) ∧ Below w.heap.size w w' := by
 have HR0 := Aside0.mk hr0
 have HC0 := Aside0.mk hc0
 clear hr0 hc0
 have HR1 := Aside0.mk hr1
 have HC1 := Aside0.mk hc1
 clear hr1 hc1
 have HB := Aside0.mk (Below.refl w.heap.size w)
 have H : ((onionskinlaw17_small.f).bind fun t854 => ((onionskinlaw09_Few.f k l0).bind fun t855 => ((onionskinlaw16_Few.f k l1).bind fun t856 => (if t855 = true then (pq10.j0 k l0 l1 t854 (!t856)) else (pq10.j0 k l0 l1 t854 true))))) = some r := h
 clear h
 replace H := Option.bind_eq_some_iff.mp H
 obtain ⟨t854, A30, H⟩ := H
 replace H : ((onionskinlaw09_Few.f k l0).bind fun t855 => ((onionskinlaw16_Few.f k l1).bind fun t856 => (if t855 = true then (pq10.j0 k l0 l1 t854 (!t856)) else (pq10.j0 k l0 l1 t854 true)))) = some r := H
 have A3 := Aside0.mk A30
 clear A30
 replace H := Option.bind_eq_some_iff.mp H
 obtain ⟨t855, A40, H⟩ := H
 replace H : ((onionskinlaw16_Few.f k l1).bind fun t856 => (if t855 = true then (pq10.j0 k l0 l1 t854 (!t856)) else (pq10.j0 k l0 l1 t854 true))) = some r := H
 have A4 := Aside0.mk A40
 clear A40
 replace H := Option.bind_eq_some_iff.mp H
 obtain ⟨t856, A50, H⟩ := H
 replace H : (if t855 = true then (pq10.j0 k l0 l1 t854 (!t856)) else (pq10.j0 k l0 l1 t854 true)) = some r := H
 have A5 := Aside0.mk A50
 clear A50
 have HC6 := Aside0.mk H
 clear H
 go_enter Tryz.func8, Tryz.ntmps8
 go_upto_region 4 with (first | ((with_reducible refine gate_callee (f := 15) rfl ?_); refine goesL_ (some 12) rfl rfl Tryz.func15 (by kernel_rfl) rfl #[] rfl (by (try simp only [List.map_toArray, List.map_cons, List.map_nil]); first | done | rfl | (simp only [List.length_drop, List.length_take]; rfl)) ?_; (with_reducible refine (onionskinlaw17_small.calls  t854 _ (hG.ext (by repeat (first | (with_reducible first | exact HB.out | apply below_alloc | apply pw_below_drewN | apply below_drew1) | exact HB.out))) A3.out).mono ?_); rintro e w7 ⟨rfl, hb⟩; refine ⟨_, rfl, ?_⟩; have n0_ := Aside0.mk (below_step (by repeat (first | (with_reducible first | exact HB.out | apply below_alloc | apply pw_below_drewN | apply below_drew1) | exact HB.out)) hb); clear HB; have HB := n0_; clear n0_; (try clear hb); (try clear hb2); (try clear hk); (try clear hi)) | ((with_reducible refine gate_callee (f := 16) rfl ?_); refine goesL_ (some 14) rfl rfl Tryz.func16 (by kernel_rfl) rfl #[.slice A0 l0.length c0] rfl (by (try simp only [List.map_toArray, List.map_cons, List.map_nil]); first | done | rfl | (simp only [List.length_drop, List.length_take]; rfl)) ?_; (with_reducible refine (onionskinlaw09_Few.calls k _ _ l0 t855 _ ?side1 ?side2 A4.out).mono ?_); (case side1 => repeat (first | exact (Kd.C_below HR0.out HB.out) | (with_reducible refine Kd.C_alloc ?_ _) | (with_reducible refine Kd.C_drewN ?_ _) | (with_reducible refine Kd.C_drew ?_))); (case side2 => exact HC0.out); rintro e w' ⟨rfl, ⟨nd, rfl⟩⟩; refine ⟨_, rfl, ?_⟩) | ((with_reducible refine gate_callee (f := 21) rfl ?_); refine goesL_ (some 16) rfl rfl Tryz.func21 (by kernel_rfl) rfl #[.slice A1 l1.length c1] rfl (by (try simp only [List.map_toArray, List.map_cons, List.map_nil]); first | done | rfl | (simp only [List.length_drop, List.length_take]; rfl)) ?_; (with_reducible refine (onionskinlaw16_Few.calls k _ _ l1 t856 _ ?side1 ?side2 A5.out).mono ?_); (case side1 => repeat (first | exact (Kd.C_below HR1.out (by repeat (first | (with_reducible first | exact HB.out | apply below_alloc | apply pw_below_drewN | apply below_drew1) | exact HB.out))) | (with_reducible refine Kd.C_alloc ?_ _) | (with_reducible refine Kd.C_drewN ?_ _) | (with_reducible refine Kd.C_drew ?_))); (case side2 => exact HC1.out); rintro e w' ⟨rfl, ⟨nd, rfl⟩⟩; refine ⟨_, rfl, ?_⟩))
 (try simp only [Act.put, List.setIfInBounds_toArray, List.set_cons_zero, List.set_cons_succ])
 go_cut [22] (fun v22 wc => ∃ (kq : Nat) (x22_5 : Bool), v22 = .bool x22_5 ∧ Aside0 (pq10.j0 kq l0 l1 t854 x22_5 = some r) ∧ Aside0 (kq ≤ k) ∧ Aside0 (Below w.heap.size w wc))
 case first =>
  have H := HC6.out
  clear HC6
  by_cases c8 : t855 = true
  ·subst c8
   have H1 : (pq10.j0 k l0 l1 t854 (!t856)) = some r := by rw [if_pos rfl] at H; exact H
   clear H
   have H := H1
   clear H1
   have H' := Aside0.mk H
   clear H
   go_wp2
   go_meet
   case rel => exact ⟨_, (!t856), (by first | rfl | (simp; done) | (simp [*]; done)), H', ⟨by first | omega | exact Nat.le_refl _⟩, ⟨by repeat (first | (with_reducible first | exact HB.out | apply below_alloc | apply pw_below_drewN | apply below_drew1) | exact HB.out)⟩⟩
  ·replace c8 := Bool.eq_false_iff.mpr c8
   subst c8
   have H1 : (pq10.j0 k l0 l1 t854 true) = some r := by rw [if_neg (show ¬ (false = true) by decide)] at H; exact H
   clear H
   have H := H1
   clear H1
   have H' := Aside0.mk H
   clear H
   go_wp2
   go_meet
   case rel => exact ⟨_, (true), (by first | rfl | (simp; done) | (simp [*]; done)), H', ⟨by first | omega | exact Nat.le_refl _⟩, ⟨by repeat (first | (with_reducible first | exact HB.out | apply below_alloc | apply pw_below_drewN | apply below_drew1) | exact HB.out)⟩⟩
 case rest =>
  clear HC6
  try clear c1
  try clear c2
  try clear p2
  try clear c8
  obtain ⟨kq, x22_5, rfl, HA, HJ5, HB⟩ := hcut
  cases kq with
  | zero => exact absurd HA.out (by simp [pq10.j0])
  | succ kj5 =>
   have H := HA.out
   clear HA
   simp only [pq10.j0] at H
   by_cases c9 : x22_5 = true
   ·subst c9
    have H1 : (some t854) = some r := by rw [if_pos rfl] at H; exact H
    clear H
    have H := H1
    clear H1
    obtain rfl := Option.some.inj H
    go_wp2
    go_ret
    exact ⟨by first | rfl | (simp [errW_none, errW_some] <;> rfl) | (simp [*, errW_none, errW_some] <;> rfl), by repeat (first | (with_reducible first | exact HB.out | apply below_alloc | apply pw_below_drewN | apply below_drew1) | exact HB.out)⟩
   ·replace c9 := Bool.eq_false_iff.mpr c9
    subst c9
    have H1 : ((tree_Apply.f l0 l1).bind fun bt857 => (if bt857.2 = 0 then ((tree_Apply.f bt857.1 l1).bind fun bt861 => (if t854 = true then (if bt861.2 = 0 then ((pq11.f kj5 bt857.1 bt861.1).bind fun t865 => (some t865)) else (some false)) else (some false))) else (some t854))) = some r := by rw [if_neg (show ¬ (false = true) by decide)] at H; exact H
    clear H
    have H := H1
    clear H1
    replace H := Option.bind_eq_some_iff.mp H
    obtain ⟨⟨t857, t858⟩, A100, H⟩ := H
    replace H : (if t858 = 0 then ((tree_Apply.f t857 l1).bind fun bt861 => (if t854 = true then (if bt861.2 = 0 then ((pq11.f kj5 t857 bt861.1).bind fun t865 => (some t865)) else (some false)) else (some false))) else (some t854)) = some r := H
    have A10 := Aside0.mk A100
    clear A100
    by_cases c11 : t858 = 0
    ·rw [if_pos c11] at H
     have c11b0 : (t858 == 0) = true := beq_iff_eq.mpr c11
     have c11b1 : (t858 != 0) = false := bne_eq_false_iff_eq.mpr c11
     clear c11
     replace H := Option.bind_eq_some_iff.mp H
     obtain ⟨⟨t861, t862⟩, A120, H⟩ := H
     replace H : (if t854 = true then (if t862 = 0 then ((pq11.f kj5 t857 t861).bind fun t865 => (some t865)) else (some false)) else (some false)) = some r := H
     have A12 := Aside0.mk A120
     clear A120
     by_cases c13 : t854 = true
     ·subst c13
      have H1 : (if t862 = 0 then ((pq11.f kj5 t857 t861).bind fun t865 => (some t865)) else (some false)) = some r := by rw [if_pos rfl] at H; exact H
      clear H
      have H := H1
      clear H1
      by_cases c14 : t862 = 0
      ·rw [if_pos c14] at H
       have c14b0 : (t862 == 0) = true := beq_iff_eq.mpr c14
       have c14b1 : (t862 != 0) = false := bne_eq_false_iff_eq.mpr c14
       clear c14
       replace H := Option.bind_eq_some_iff.mp H
       obtain ⟨t865, A150, H⟩ := H
       replace H : (some t865) = some r := H
       have A15 := Aside0.mk A150
       clear A150
       obtain rfl := Option.some.inj H
       go_wp2_with (first | ((with_reducible refine gate_callee (f := 22) rfl ?_); refine goesL_ (some 27) rfl rfl Tryz.func22 (by kernel_rfl) rfl #[.slice A0 l0.length c0, .slice A1 l1.length c1] rfl (by (try simp only [List.map_toArray, List.map_cons, List.map_nil]); first | done | rfl | (simp only [List.length_drop, List.length_take]; rfl)) ?_; (with_reducible refine (tree_Apply.calls _ _ l0 _ _ l1 t857 t858 _ (hG.ext (by repeat (first | (with_reducible first | exact HB.out | apply below_alloc | apply pw_below_drewN | apply below_drew1) | exact HB.out))) ?side1 ?side2 ?side3 ?side4 A10.out).mono ?_); (case side1 => repeat (first | exact (Kd.C_below HR0.out HB.out) | (with_reducible refine Kd.C_alloc ?_ _) | (with_reducible refine Kd.C_drewN ?_ _) | (with_reducible refine Kd.C_drew ?_))); (case side2 => exact HC0.out); (case side3 => repeat (first | exact (Kd.C_below HR1.out HB.out) | (with_reducible refine Kd.C_alloc ?_ _) | (with_reducible refine Kd.C_drewN ?_ _) | (with_reducible refine Kd.C_drew ?_))); (case side4 => exact HC1.out); rintro e w16 ⟨v859, rfl, ho0, hb⟩; refine ⟨_, rfl, ?_⟩; have n0_ := Aside0.mk (Kd.R_lower ho0 (below_size (by repeat (first | (with_reducible first | exact HB.out | apply below_alloc | apply pw_below_drewN | apply below_drew1) | exact HB.out)))); have n1_ := Aside0.mk (below_step (by repeat (first | (with_reducible first | exact HB.out | apply below_alloc | apply pw_below_drewN | apply below_drew1) | exact HB.out)) hb); clear HB; have HO860 := n0_; have HB := n1_; clear n0_ n1_; (try clear hb); (try clear hb2); (try clear hk); (try clear hi); (try clear ho0); obtain ⟨Ao17, co17, eo17⟩ := Kd.R_slice HO860.out; subst eo17) | ((with_reducible refine gate_callee (f := 22) rfl ?_); refine goesL_ (some 36) rfl rfl Tryz.func22 (by kernel_rfl) rfl #[.slice Ao17 t857.length co17, .slice A1 l1.length c1] rfl (by (try simp only [List.map_toArray, List.map_cons, List.map_nil]); first | done | rfl | (simp only [List.length_drop, List.length_take]; rfl)) ?_; (with_reducible refine (tree_Apply.calls _ _ t857 _ _ l1 t861 t862 _ (hG.ext (by repeat (first | (with_reducible first | exact HB.out | apply below_alloc | apply pw_below_drewN | apply below_drew1) | exact HB.out))) ?side1 ?side2 ?side3 ?side4 A12.out).mono ?_); (case side1 => repeat (first | exact (Kd.R_reads' HO860.out).2.2 | (with_reducible refine Kd.C_alloc ?_ _) | (with_reducible refine Kd.C_drewN ?_ _) | (with_reducible refine Kd.C_drew ?_))); (case side2 => exact (Kd.R_reads' HO860.out).2.1); (case side3 => repeat (first | exact (Kd.C_below HR1.out HB.out) | (with_reducible refine Kd.C_alloc ?_ _) | (with_reducible refine Kd.C_drewN ?_ _) | (with_reducible refine Kd.C_drew ?_))); (case side4 => exact HC1.out); rintro e w18 ⟨v863, rfl, ho0, hb⟩; refine ⟨_, rfl, ?_⟩; have n0_ := Aside0.mk (Kd.R_elder' (by (with_reducible repeat (first | apply Kd.R_alloc | apply Kd.R_drewN | apply Kd.R_drew)); exact HO860.out) (Kd.R_base ho0) hb); have n1_ := Aside0.mk (Kd.R_lower (Kd.R_new' ho0 (Kd.R_lt (by (with_reducible repeat (first | apply Kd.R_alloc | apply Kd.R_drewN | apply Kd.R_drew)); exact HO860.out))) (below_size (by repeat (first | (with_reducible first | exact HB.out | apply below_alloc | apply pw_below_drewN | apply below_drew1) | exact HB.out)))); have n2_ := Aside0.mk (below_step (by repeat (first | (with_reducible first | exact HB.out | apply below_alloc | apply pw_below_drewN | apply below_drew1) | exact HB.out)) hb); clear HO860; clear HB; have HO860 := n0_; have HO864 := n1_; have HB := n2_; clear n0_ n1_ n2_; (try clear hb); (try clear hb2); (try clear hk); (try clear hi); (try clear ho0); obtain ⟨Ao19, co19, eo19⟩ := Kd.R_slice HO864.out; subst eo19) | (go_at_call 24; (with_reducible refine (pq11.calls kj5 _ _ t857 _ _ t861 t865 _ ?side1 ?side2 ?side3 ?side4 A15.out).mono ?_); (case side1 => repeat (first | exact (Kd.R_reads' HO860.out).2.2 | (with_reducible refine Kd.C_alloc ?_ _) | (with_reducible refine Kd.C_drewN ?_ _) | (with_reducible refine Kd.C_drew ?_))); (case side2 => exact (Kd.R_reads' HO860.out).2.1); (case side3 => repeat (first | exact (Kd.R_reads' HO864.out).2.2 | (with_reducible refine Kd.C_alloc ?_ _) | (with_reducible refine Kd.C_drewN ?_ _) | (with_reducible refine Kd.C_drew ?_))); (case side4 => exact (Kd.R_reads' HO864.out).2.1); rintro e w' ⟨rfl, ⟨nd, rfl⟩⟩))
       go_ret
       exact ⟨by first | rfl | (simp [errW_none, errW_some] <;> rfl) | (simp [*, errW_none, errW_some] <;> rfl), by repeat (first | (with_reducible first | exact HB.out | apply below_alloc | apply pw_below_drewN | apply below_drew1) | exact HB.out)⟩
      ·rw [if_neg c14] at H
       have c14b0 : (t862 == 0) = false := beq_eq_false_iff_ne.mpr c14
       have c14b1 : (t862 != 0) = true := bne_iff_ne.mpr c14
       obtain rfl := Option.some.inj H
       go_wp2_with (first | ((with_reducible refine gate_callee (f := 22) rfl ?_); refine goesL_ (some 27) rfl rfl Tryz.func22 (by kernel_rfl) rfl #[.slice A0 l0.length c0, .slice A1 l1.length c1] rfl (by (try simp only [List.map_toArray, List.map_cons, List.map_nil]); first | done | rfl | (simp only [List.length_drop, List.length_take]; rfl)) ?_; (with_reducible refine (tree_Apply.calls _ _ l0 _ _ l1 t857 t858 _ (hG.ext (by repeat (first | (with_reducible first | exact HB.out | apply below_alloc | apply pw_below_drewN | apply below_drew1) | exact HB.out))) ?side1 ?side2 ?side3 ?side4 A10.out).mono ?_); (case side1 => repeat (first | exact (Kd.C_below HR0.out HB.out) | (with_reducible refine Kd.C_alloc ?_ _) | (with_reducible refine Kd.C_drewN ?_ _) | (with_reducible refine Kd.C_drew ?_))); (case side2 => exact HC0.out); (case side3 => repeat (first | exact (Kd.C_below HR1.out HB.out) | (with_reducible refine Kd.C_alloc ?_ _) | (with_reducible refine Kd.C_drewN ?_ _) | (with_reducible refine Kd.C_drew ?_))); (case side4 => exact HC1.out); rintro e w20 ⟨v859, rfl, ho0, hb⟩; refine ⟨_, rfl, ?_⟩; have n0_ := Aside0.mk (Kd.R_lower ho0 (below_size (by repeat (first | (with_reducible first | exact HB.out | apply below_alloc | apply pw_below_drewN | apply below_drew1) | exact HB.out)))); have n1_ := Aside0.mk (below_step (by repeat (first | (with_reducible first | exact HB.out | apply below_alloc | apply pw_below_drewN | apply below_drew1) | exact HB.out)) hb); clear HB; have HO860 := n0_; have HB := n1_; clear n0_ n1_; (try clear hb); (try clear hb2); (try clear hk); (try clear hi); (try clear ho0); obtain ⟨Ao21, co21, eo21⟩ := Kd.R_slice HO860.out; subst eo21) | ((with_reducible refine gate_callee (f := 22) rfl ?_); refine goesL_ (some 36) rfl rfl Tryz.func22 (by kernel_rfl) rfl #[.slice Ao21 t857.length co21, .slice A1 l1.length c1] rfl (by (try simp only [List.map_toArray, List.map_cons, List.map_nil]); first | done | rfl | (simp only [List.length_drop, List.length_take]; rfl)) ?_; (with_reducible refine (tree_Apply.calls _ _ t857 _ _ l1 t861 t862 _ (hG.ext (by repeat (first | (with_reducible first | exact HB.out | apply below_alloc | apply pw_below_drewN | apply below_drew1) | exact HB.out))) ?side1 ?side2 ?side3 ?side4 A12.out).mono ?_); (case side1 => repeat (first | exact (Kd.R_reads' HO860.out).2.2 | (with_reducible refine Kd.C_alloc ?_ _) | (with_reducible refine Kd.C_drewN ?_ _) | (with_reducible refine Kd.C_drew ?_))); (case side2 => exact (Kd.R_reads' HO860.out).2.1); (case side3 => repeat (first | exact (Kd.C_below HR1.out HB.out) | (with_reducible refine Kd.C_alloc ?_ _) | (with_reducible refine Kd.C_drewN ?_ _) | (with_reducible refine Kd.C_drew ?_))); (case side4 => exact HC1.out); rintro e w22 ⟨v863, rfl, ho0, hb⟩; refine ⟨_, rfl, ?_⟩; have n0_ := Aside0.mk (Kd.R_elder' (by (with_reducible repeat (first | apply Kd.R_alloc | apply Kd.R_drewN | apply Kd.R_drew)); exact HO860.out) (Kd.R_base ho0) hb); have n1_ := Aside0.mk (Kd.R_lower (Kd.R_new' ho0 (Kd.R_lt (by (with_reducible repeat (first | apply Kd.R_alloc | apply Kd.R_drewN | apply Kd.R_drew)); exact HO860.out))) (below_size (by repeat (first | (with_reducible first | exact HB.out | apply below_alloc | apply pw_below_drewN | apply below_drew1) | exact HB.out)))); have n2_ := Aside0.mk (below_step (by repeat (first | (with_reducible first | exact HB.out | apply below_alloc | apply pw_below_drewN | apply below_drew1) | exact HB.out)) hb); clear HO860; clear HB; have HO860 := n0_; have HO864 := n1_; have HB := n2_; clear n0_ n1_ n2_; (try clear hb); (try clear hb2); (try clear hk); (try clear hi); (try clear ho0)))
       go_ret
       exact ⟨by first | rfl | (simp [errW_none, errW_some] <;> rfl) | (simp [*, errW_none, errW_some] <;> rfl), by repeat (first | (with_reducible first | exact HB.out | apply below_alloc | apply pw_below_drewN | apply below_drew1) | exact HB.out)⟩
     ·replace c13 := Bool.eq_false_iff.mpr c13
      subst c13
      have H1 : (some false) = some r := by rw [if_neg (show ¬ (false = true) by decide)] at H; exact H
      clear H
      have H := H1
      clear H1
      obtain rfl := Option.some.inj H
      go_wp2_with (first | ((with_reducible refine gate_callee (f := 22) rfl ?_); refine goesL_ (some 27) rfl rfl Tryz.func22 (by kernel_rfl) rfl #[.slice A0 l0.length c0, .slice A1 l1.length c1] rfl (by (try simp only [List.map_toArray, List.map_cons, List.map_nil]); first | done | rfl | (simp only [List.length_drop, List.length_take]; rfl)) ?_; (with_reducible refine (tree_Apply.calls _ _ l0 _ _ l1 t857 t858 _ (hG.ext (by repeat (first | (with_reducible first | exact HB.out | apply below_alloc | apply pw_below_drewN | apply below_drew1) | exact HB.out))) ?side1 ?side2 ?side3 ?side4 A10.out).mono ?_); (case side1 => repeat (first | exact (Kd.C_below HR0.out HB.out) | (with_reducible refine Kd.C_alloc ?_ _) | (with_reducible refine Kd.C_drewN ?_ _) | (with_reducible refine Kd.C_drew ?_))); (case side2 => exact HC0.out); (case side3 => repeat (first | exact (Kd.C_below HR1.out HB.out) | (with_reducible refine Kd.C_alloc ?_ _) | (with_reducible refine Kd.C_drewN ?_ _) | (with_reducible refine Kd.C_drew ?_))); (case side4 => exact HC1.out); rintro e w23 ⟨v859, rfl, ho0, hb⟩; refine ⟨_, rfl, ?_⟩; have n0_ := Aside0.mk (Kd.R_lower ho0 (below_size (by repeat (first | (with_reducible first | exact HB.out | apply below_alloc | apply pw_below_drewN | apply below_drew1) | exact HB.out)))); have n1_ := Aside0.mk (below_step (by repeat (first | (with_reducible first | exact HB.out | apply below_alloc | apply pw_below_drewN | apply below_drew1) | exact HB.out)) hb); clear HB; have HO860 := n0_; have HB := n1_; clear n0_ n1_; (try clear hb); (try clear hb2); (try clear hk); (try clear hi); (try clear ho0); obtain ⟨Ao24, co24, eo24⟩ := Kd.R_slice HO860.out; subst eo24) | ((with_reducible refine gate_callee (f := 22) rfl ?_); refine goesL_ (some 36) rfl rfl Tryz.func22 (by kernel_rfl) rfl #[.slice Ao24 t857.length co24, .slice A1 l1.length c1] rfl (by (try simp only [List.map_toArray, List.map_cons, List.map_nil]); first | done | rfl | (simp only [List.length_drop, List.length_take]; rfl)) ?_; (with_reducible refine (tree_Apply.calls _ _ t857 _ _ l1 t861 t862 _ (hG.ext (by repeat (first | (with_reducible first | exact HB.out | apply below_alloc | apply pw_below_drewN | apply below_drew1) | exact HB.out))) ?side1 ?side2 ?side3 ?side4 A12.out).mono ?_); (case side1 => repeat (first | exact (Kd.R_reads' HO860.out).2.2 | (with_reducible refine Kd.C_alloc ?_ _) | (with_reducible refine Kd.C_drewN ?_ _) | (with_reducible refine Kd.C_drew ?_))); (case side2 => exact (Kd.R_reads' HO860.out).2.1); (case side3 => repeat (first | exact (Kd.C_below HR1.out HB.out) | (with_reducible refine Kd.C_alloc ?_ _) | (with_reducible refine Kd.C_drewN ?_ _) | (with_reducible refine Kd.C_drew ?_))); (case side4 => exact HC1.out); rintro e w25 ⟨v863, rfl, ho0, hb⟩; refine ⟨_, rfl, ?_⟩; have n0_ := Aside0.mk (Kd.R_elder' (by (with_reducible repeat (first | apply Kd.R_alloc | apply Kd.R_drewN | apply Kd.R_drew)); exact HO860.out) (Kd.R_base ho0) hb); have n1_ := Aside0.mk (Kd.R_lower (Kd.R_new' ho0 (Kd.R_lt (by (with_reducible repeat (first | apply Kd.R_alloc | apply Kd.R_drewN | apply Kd.R_drew)); exact HO860.out))) (below_size (by repeat (first | (with_reducible first | exact HB.out | apply below_alloc | apply pw_below_drewN | apply below_drew1) | exact HB.out)))); have n2_ := Aside0.mk (below_step (by repeat (first | (with_reducible first | exact HB.out | apply below_alloc | apply pw_below_drewN | apply below_drew1) | exact HB.out)) hb); clear HO860; clear HB; have HO860 := n0_; have HO864 := n1_; have HB := n2_; clear n0_ n1_ n2_; (try clear hb); (try clear hb2); (try clear hk); (try clear hi); (try clear ho0)))
      go_ret
      exact ⟨by first | rfl | (simp [errW_none, errW_some] <;> rfl) | (simp [*, errW_none, errW_some] <;> rfl), by repeat (first | (with_reducible first | exact HB.out | apply below_alloc | apply pw_below_drewN | apply below_drew1) | exact HB.out)⟩
    ·rw [if_neg c11] at H
     have c11b0 : (t858 == 0) = false := beq_eq_false_iff_ne.mpr c11
     have c11b1 : (t858 != 0) = true := bne_iff_ne.mpr c11
     obtain rfl := Option.some.inj H
     go_wp2_with (first | ((with_reducible refine gate_callee (f := 22) rfl ?_); refine goesL_ (some 27) rfl rfl Tryz.func22 (by kernel_rfl) rfl #[.slice A0 l0.length c0, .slice A1 l1.length c1] rfl (by (try simp only [List.map_toArray, List.map_cons, List.map_nil]); first | done | rfl | (simp only [List.length_drop, List.length_take]; rfl)) ?_; (with_reducible refine (tree_Apply.calls _ _ l0 _ _ l1 t857 t858 _ (hG.ext (by repeat (first | (with_reducible first | exact HB.out | apply below_alloc | apply pw_below_drewN | apply below_drew1) | exact HB.out))) ?side1 ?side2 ?side3 ?side4 A10.out).mono ?_); (case side1 => repeat (first | exact (Kd.C_below HR0.out HB.out) | (with_reducible refine Kd.C_alloc ?_ _) | (with_reducible refine Kd.C_drewN ?_ _) | (with_reducible refine Kd.C_drew ?_))); (case side2 => exact HC0.out); (case side3 => repeat (first | exact (Kd.C_below HR1.out HB.out) | (with_reducible refine Kd.C_alloc ?_ _) | (with_reducible refine Kd.C_drewN ?_ _) | (with_reducible refine Kd.C_drew ?_))); (case side4 => exact HC1.out); rintro e w26 ⟨v859, rfl, ho0, hb⟩; refine ⟨_, rfl, ?_⟩; have n0_ := Aside0.mk (Kd.R_lower ho0 (below_size (by repeat (first | (with_reducible first | exact HB.out | apply below_alloc | apply pw_below_drewN | apply below_drew1) | exact HB.out)))); have n1_ := Aside0.mk (below_step (by repeat (first | (with_reducible first | exact HB.out | apply below_alloc | apply pw_below_drewN | apply below_drew1) | exact HB.out)) hb); clear HB; have HO860 := n0_; have HB := n1_; clear n0_ n1_; (try clear hb); (try clear hb2); (try clear hk); (try clear hi); (try clear ho0)))
     go_ret
     exact ⟨by first | rfl | (simp [errW_none, errW_some] <;> rfl) | (simp [*, errW_none, errW_some] <;> rfl), by repeat (first | (with_reducible first | exact HB.out | apply below_alloc | apply pw_below_drewN | apply below_drew1) | exact HB.out)⟩
end Go.Proofs.YtdkjinmkallhnaaGreatDoorQ
end
section
namespace Go.Proofs.YtdkjinmkallhnaaGreatDoorQ
open Go.RowKit Go.Proofs.YtdkjinmkallhnaaGreatDoor Go.Proofs.YtdkjinmkallhnaaGreatDoorW.PrintWords Go.Proofs.YtdkjinmkallhnaaGreatDoorW.PrintLast Go.Proofs.YtdkjinmkallhnaaGreatDoorW.PrintMore
open Go.Proofs.YtdkjinmkallhnaaGreatDoorT (applyM rightT rightC Ch getL)
theorem treeTwice_f (l0 : List S40) (l1 : List S38) (h0 : SzE l0) (h1 : SzC l1) (n0 : l0.length ≤ 1000000000000000) (n1 : l1.length ≤ 1000000000000000) : ∃ k, pq10.f k l0 l1 = some true := by
  obtain ⟨b0, e0, q0⟩ := few09_ev l0 h0 n0
  obtain ⟨b1, e1, q1⟩ := few16_ev l1 h1 n1
  refine Ev.rounds ?_
  unfold pq10.f onionskinlaw17_small.f
  simp only [Option.bind_some]
  refine Ev.bind e0 (Ev.bind e1 ?_)
  have end0 : ∀ b, Ev (fun k => pq10.j0 k l0 l1 b true) b := fun b => Ev.step (f := fun _ => some b) (fun k => by simp only [pq10.j0]; rw [if_pos trivial]) (Ev.now _)
  cases b0 with
  | false => exact Ev.congr (fun k => by rw [if_neg (by decide)]) (end0 true)
  | true =>
    cases b1 with
    | false => exact Ev.congr (fun k => by rw [if_pos rfl]; rfl) (end0 true)
    | true =>
      have f0 := fitsE_of (q0 rfl)
      have f1 := fitsC_of (q1 rfl)
      refine Ev.congr (f := fun k => pq10.j0 k l0 l1 true false) (fun k => by rw [if_pos rfl]; rfl) ?_
      obtain ⟨a, e, hae⟩ : ∃ a e, applyM Y (l0.map enOf) (l1.map chOf) = (a, e) := ⟨_, _, rfl⟩
      by_cases he : e = 0
      · subst he
        have ha := fits_apply hae f0 f1
        have h2 := YtdkjinmkallhnaaGreatDoorT.twice hae
        refine Ev.step (f := fun k => (pq11.f k (a.map ofEn) (a.map ofEn)).bind fun t => some t) (fun k => ?_) (Ev.bind (same_ev _ _ (by have := ha.2; omega) (d0 := true) (by simp)) (Ev.now _))
        simp only [pq10.j0]
        rw [if_neg (by decide), apply_f f0 f1, hae]
        simp only [Option.bind_some]
        rw [if_pos trivial, apply_f ha f1, ens_back, h2]
        simp only [Option.bind_some]
        rw [if_pos trivial, if_pos trivial]
      · refine Ev.step (f := fun _ => some true) (fun k => ?_) (Ev.now _)
        simp only [pq10.j0]
        rw [if_neg (by decide), apply_f f0 f1, hae]
        simp only [Option.bind_some]
        rw [if_neg he]
end Go.Proofs.YtdkjinmkallhnaaGreatDoorQ
end
section
namespace Go.Proofs.YtdkjinmkallhnaaGreatDoor.treeTwice
open Go.ChangeShapes Go.WideShapes Go.ChangeAt Go.RowKit Go.Proofs.YtdkjinmkallhnaaGreatDoor Go.Proofs.YtdkjinmkallhnaaGreatDoorQ
set_option maxRecDepth 100000 in
theorem contract (H : Type) (enc : TypeId × Value → H) (W : World) (base : Nat) (args : Array Value) (ds gs : List (DataW H)) (before : List MemPlace)
    (hval : ∀ (j : Nat) t v, Tryz.f8.params[j]? = some t → args[j]? = some v → Value.okWide Tryz.prog W .any base t v)
    (hW : DataW.Whole enc Tryz.prog Tryz.f8.params.toList Rows.treeTwiceSpec.vars false W args.toList ds gs before)
    (hsz0 : (DataW.weightsEach Tryz.prog (Tryz.f8.params.toList ++ (OpenSpec.ofChange Rows.treeTwiceSpec).bare.plain.varTypes Tryz.prog) (ds ++ gs)).all (· ≤ reachBytes) = true)
    (hL : laidMetH Tryz.prog Rows.treeTwiceRow.laid W) (hsh : W.ShapedOpen Tryz.prog) :
    Calls Tryz.prog 8 args W fun e W' => ∃ v, e = .returned v ∧ Rows.treeTwiceSpec.post enc Tryz.prog Tryz.f8 false true false false W args v W' := by
  have hW' := hW
  obtain ⟨p, q, hA0, hV, rfl, hfz, hnd⟩ := hW
  have hA : DataW.TrodAll enc Tryz.prog W 0 (fun _ => true) true Tryz.f8.params.toList args.toList ds p := hA0
  obtain ⟨rfl, rfl⟩ := trodVars_none hV
  have hsz : (DataW.weightsEach Tryz.prog Tryz.f8.params.toList ds).all (· ≤ reachBytes) = true := by
    have e : Tryz.f8.params.toList ++ (OpenSpec.ofChange Rows.treeTwiceSpec).bare.plain.varTypes Tryz.prog = Tryz.f8.params.toList := by kernel_rfl
    rw [e, List.append_nil] at hsz0
    exact hsz0
  rw [Tryz.params8] at hA hval hsz
  obtain ⟨v0, v1, d0, d1, p0, p1, rfl, rfl, rfl, h0, h1⟩ := trodAll_two hA
  obtain ⟨a0, l0, c0, rfl, hr0, hc0, hs0, hn0⟩ := ens_arg (hval 0 _ v0 rfl rfl) h0 (weighs hsz 0 rfl rfl)
  obtain ⟨a1, l1, c1, rfl, hr1, hc1, hs1, hn1⟩ := chs_arg (hval 1 _ v1 rfl rfl) h1 (weighs hsz 1 rfl rfl)
  obtain ⟨k, hk⟩ := treeTwice_f l0 l1 hs0 hs1 hn0 hn1
  refine (pq10.calls k a0 c0 l0 a1 c1 l1 true W (gl_of hL hsh) hr0 hc0 hr1 hc1 hk).mono fun e W' ⟨he, hb⟩ => ?_
  subst he
  exact ⟨_, rfl, law_post rfl rfl rfl (by rw [Tryz.params8]; intro t ht; simp only [List.mem_cons, List.not_mem_nil, or_false] at ht; rcases ht with rfl | rfl <;> exact ⟨by kernel_rfl, of_decide_eq_true (by kernel_rfl)⟩) hW' hb⟩
set_option maxRecDepth 100000 in
theorem lifted (os : Os) (started : os.Started) (H : Type) (enc : TypeId × Value → H) (F : Stop.Interp) :
    ReturnsInHanded {} Tryz.checked os 8 .any ((OpenSpec.ofChange Rows.treeTwiceSpec).preRow enc Tryz.prog Tryz.f8 Rows.treeTwiceRow.domain false Rows.treeTwiceRow.laid) (((OpenSpec.ofChange Rows.treeTwiceSpec).at F).post enc Tryz.prog Tryz.f8 false true false false) := by
  refine returnsInHanded_of_row (C := Tryz.checked) (s := OpenSpec.ofChange Rows.treeTwiceSpec) own started (by kernel_rfl) Tryz.func8
    (witness_row_atRef (enc := enc) (C := Tryz.checked) false (laidWorld os) #[.slice none 0 0, .slice none 0 0] rfl (by kernel_rfl) (by kernel_rfl) (by kernel_rfl)
      (OpenSpec.preRow_of_cond 8 (x := ([.nil, .nil], [], [])) (by kernel_rfl) (by kernel_rfl) (fun k hk => by cases hk) (by kernel_rfl) (laid_met os _))) ?_
  intro W base args ds gs before hval hW _ _ hsz hL hsh _
  exact contract H enc W base args ds gs before hval hW hsz hL hsh
theorem said : Rows.TreeTwiceSaid :=
  OpenClaim.holds_of_cond 8 Tryz.f8 rfl rfl rfl rfl rfl rfl rfl ⟨rfl, rfl, rfl, rfl, rfl⟩ rfl rfl rfl rfl rfl (by kernel_rfl) Tryz.func8 (by kernel_rfl)
    (of_decide_eq_true (by kernel_rfl)) (by unfold Func.isWrapper; first | (rw [if_pos (by decide +kernel)]; kernel_rfl) | (rw [if_neg (by decide +kernel)]; exact ⟨rfl, rfl⟩))
    (fun os started H enc _ F => by rw [OpenClaim.pre_eq_preRow]; exact lifted os started H enc F)
theorem plain (f : FuncId) (fn : Func) (hf : Tryz.pinned.checked.prog.funcNamed "onionskin/onionskinlaw17.TreeTwice" = some f) (hfn : Tryz.pinned.checked.prog.funcs[f]? = some fn) :
    true = Tryz.pinned.checked.prog.looks [] ∧ ∀ (j : Nat) t, fn.params[j]? = some t → Tryz.pinned.checked.prog.wantsStandIn t = false := by
  obtain rfl : f = 8 := Option.some.inj ((show Tryz.prog.funcNamed "onionskin/onionskinlaw17.TreeTwice" = some 8 by kernel_rfl).symm.trans hf) |>.symm
  obtain rfl : fn = Tryz.f8 := (Option.some.inj (Tryz.func8.symm.trans hfn)).symm
  refine ⟨by kernel_rfl, fun j t ht => ?_⟩
  rw [Tryz.params8] at ht
  have hm := Array.mem_of_getElem? ht
  simp only [List.mem_toArray, List.mem_cons, List.not_mem_nil, or_false] at hm
  rcases hm with rfl | rfl
  · exact (show Tryz.prog.wantsStandIn 22 = false by kernel_rfl)
  · exact (show Tryz.prog.wantsStandIn 30 = false by kernel_rfl)
theorem card : Rows.TreeTwiceCardSaid :=
  Claim7.holds_tied_plain_at .later [] _ _ _ _ said (fun _ h => by cases h) (by kernel_rfl) (fun _ h => by cases h) treeTwice_row_tie rfl ⟨rfl, rfl⟩ (by kernel_rfl) rfl plain (by kernel_rfl)
end Go.Proofs.YtdkjinmkallhnaaGreatDoor.treeTwice
end
