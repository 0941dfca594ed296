/- A part of a proof of TreeTwiceCardSaid of this seat: what its walks and its laws lean on; joined by a program of this repo (wip/pack.py) out of the texts QPathsIs, QPathsSplit, QPathsMark, QPathsUnmark, QPathsParent, QPathsUnder, XEv1, QChangeTar. -/
import Derived.Test.YtdkjinmkallhnaaGreatDoorKAB
import Derived.Test.YtdkjinmkallhnaaGreatDoorKAC
section
namespace Go.Proofs.YtdkjinmkallhnaaGreatDoorQ
open Go.RowKit Go.Proofs.YtdkjinmkallhnaaGreatDoorW.PrintWords Go.Proofs.YtdkjinmkallhnaaGreatDoorW.PrintLast Go.Proofs.YtdkjinmkallhnaaGreatDoorW.PrintMore
open Go.Proofs.YtdkjinmkallhnaaGreatDoor (GL)
attribute [local go_sem] max2_int min2_int max_two min_two max_three min_three max_four min_four
def paths_is.f (k : Nat) (a0 : ByteArray) : Option (Bool) := (strings_Split.f a0 (⟨#[47]⟩ : ByteArray)).bind fun t270 => (if 0 ≤ (wrap64 ((t270.length : Int) - 1)) then (if (wrap64 ((t270.length : Int) - 1)) < (t270.length : Int) then ((pq12.f (rdOf ByteArray.empty t270 (wrap64 ((t270.length : Int) - 1))) (⟨#[46, 119, 104, 46]⟩ : ByteArray)).bind fun t274 => (if t274 = true then (if (a0.size : Int) ≤ 4096 then (if ((rdOf ByteArray.empty t270 (wrap64 ((t270.length : Int) - 1))).size : Int) ≤ 255 then ((pq2.f k t270 ()).bind fun t275 => (if t275 = true then (some false) else (if (wrap64 ((t270.length : Int) - 1)) ≤ (t270.length : Int) then ((pq1.f k (t270.take ((wrap64 ((t270.length : Int) - 1)) : Int).toNat) ()).bind fun t280 => (some (!t280))) else (none)))) else (some false)) else (some false)) else (if (a0.size : Int) ≤ 4092 then (if ((rdOf ByteArray.empty t270 (wrap64 ((t270.length : Int) - 1))).size : Int) ≤ 251 then ((pq2.f k t270 ()).bind fun t281 => (if t281 = true then (some false) else (if (wrap64 ((t270.length : Int) - 1)) ≤ (t270.length : Int) then ((pq1.f k (t270.take ((wrap64 ((t270.length : Int) - 1)) : Int).toNat) ()).bind fun t286 => (some (!t286))) else (none)))) else (some false)) else (some false)))) else (none)) else (none))
set_option maxHeartbeats 8000000 in
set_option maxRecDepth 100000 in
theorem paths_is.calls (k : Nat) (a0 : ByteArray) (r : Bool) (w : World) (hG : GL w) (h : paths_is.f k a0 = some r) :
  Calls Tryz.prog 92 #[.string a0] w fun e w' => e = .returned (.bool r) ∧ Below w.heap.size w w' := by
 have HB := Aside0.mk (Below.refl w.heap.size w)
 have H : ((strings_Split.f a0 (⟨#[47]⟩ : ByteArray)).bind fun t270 => (if 0 ≤ (wrap64 ((t270.length : Int) - 1)) then (if (wrap64 ((t270.length : Int) - 1)) < (t270.length : Int) then ((pq12.f (rdOf ByteArray.empty t270 (wrap64 ((t270.length : Int) - 1))) (⟨#[46, 119, 104, 46]⟩ : ByteArray)).bind fun t274 => (if t274 = true then (if (a0.size : Int) ≤ 4096 then (if ((rdOf ByteArray.empty t270 (wrap64 ((t270.length : Int) - 1))).size : Int) ≤ 255 then ((pq2.f k t270 ()).bind fun t275 => (if t275 = true then (some false) else (if (wrap64 ((t270.length : Int) - 1)) ≤ (t270.length : Int) then ((pq1.f k (t270.take ((wrap64 ((t270.length : Int) - 1)) : Int).toNat) ()).bind fun t280 => (some (!t280))) else (none)))) else (some false)) else (some false)) else (if (a0.size : Int) ≤ 4092 then (if ((rdOf ByteArray.empty t270 (wrap64 ((t270.length : Int) - 1))).size : Int) ≤ 251 then ((pq2.f k t270 ()).bind fun t281 => (if t281 = true then (some false) else (if (wrap64 ((t270.length : Int) - 1)) ≤ (t270.length : Int) then ((pq1.f k (t270.take ((wrap64 ((t270.length : Int) - 1)) : Int).toNat) ()).bind fun t286 => (some (!t286))) else (none)))) else (some false)) else (some false)))) else (none)) else (none))) = some r := h
 clear h
 replace H := Option.bind_eq_some_iff.mp H
 obtain ⟨t270, A20, H⟩ := H
 replace H : (if 0 ≤ (wrap64 ((t270.length : Int) - 1)) then (if (wrap64 ((t270.length : Int) - 1)) < (t270.length : Int) then ((pq12.f (rdOf ByteArray.empty t270 (wrap64 ((t270.length : Int) - 1))) (⟨#[46, 119, 104, 46]⟩ : ByteArray)).bind fun t274 => (if t274 = true then (if (a0.size : Int) ≤ 4096 then (if ((rdOf ByteArray.empty t270 (wrap64 ((t270.length : Int) - 1))).size : Int) ≤ 255 then ((pq2.f k t270 ()).bind fun t275 => (if t275 = true then (some false) else (if (wrap64 ((t270.length : Int) - 1)) ≤ (t270.length : Int) then ((pq1.f k (t270.take ((wrap64 ((t270.length : Int) - 1)) : Int).toNat) ()).bind fun t280 => (some (!t280))) else (none)))) else (some false)) else (some false)) else (if (a0.size : Int) ≤ 4092 then (if ((rdOf ByteArray.empty t270 (wrap64 ((t270.length : Int) - 1))).size : Int) ≤ 251 then ((pq2.f k t270 ()).bind fun t281 => (if t281 = true then (some false) else (if (wrap64 ((t270.length : Int) - 1)) ≤ (t270.length : Int) then ((pq1.f k (t270.take ((wrap64 ((t270.length : Int) - 1)) : Int).toNat) ()).bind fun t286 => (some (!t286))) else (none)))) else (some false)) else (some false)))) else (none)) else (none)) = some r := H
 have A2 := Aside0.mk A20
 clear A20
 obtain ⟨ji3, hji3⟩ : ∃ j_ : Int, (wrap64 ((t270.length : Int) - 1)) = j_ := ⟨_, rfl⟩
 replace H : (if 0 ≤ (ji3) then (if (ji3) < (t270.length : Int) then ((pq12.f (rdOf ByteArray.empty t270 (ji3)) (⟨#[46, 119, 104, 46]⟩ : ByteArray)).bind fun t274 => (if t274 = true then (if (a0.size : Int) ≤ 4096 then (if ((rdOf ByteArray.empty t270 (ji3)).size : Int) ≤ 255 then ((pq2.f k t270 ()).bind fun t275 => (if t275 = true then (some false) else (if (ji3) ≤ (t270.length : Int) then ((pq1.f k (t270.take ((ji3) : Int).toNat) ()).bind fun t280 => (some (!t280))) else (none)))) else (some false)) else (some false)) else (if (a0.size : Int) ≤ 4092 then (if ((rdOf ByteArray.empty t270 (ji3)).size : Int) ≤ 251 then ((pq2.f k t270 ()).bind fun t281 => (if t281 = true then (some false) else (if (ji3) ≤ (t270.length : Int) then ((pq1.f k (t270.take ((ji3) : Int).toNat) ()).bind fun t286 => (some (!t286))) else (none)))) else (some false)) else (some false)))) else (none)) else (none)) = some r := by first | (rw [hji3] at H; exact H) | (simp only [hji3] at H ⊢; exact H)
 (try rw [hji3] at A2)
 have hji3w : (IntKind.i64.wrap ((t270.length : Int) - 1)) = ji3 := (i64_w _).trans hji3
 by_cases c4 : 0 ≤ (ji3)
 ·rw [if_pos c4] at H
  have c4b0 : decide (0 ≤ (ji3)) = true := decide_eq_true c4
  clear c4
  by_cases c5 : (ji3) < (t270.length : Int)
  ·rw [if_pos c5] at H
   have c5b0 : decide ((ji3) < (t270.length : Int)) = true := decide_eq_true c5
   clear c5
   replace H := Option.bind_eq_some_iff.mp H
   obtain ⟨t274, A60, H⟩ := H
   replace H : (if t274 = true then (if (a0.size : Int) ≤ 4096 then (if ((rdOf ByteArray.empty t270 (ji3)).size : Int) ≤ 255 then ((pq2.f k t270 ()).bind fun t275 => (if t275 = true then (some false) else (if (ji3) ≤ (t270.length : Int) then ((pq1.f k (t270.take ((ji3) : Int).toNat) ()).bind fun t280 => (some (!t280))) else (none)))) else (some false)) else (some false)) else (if (a0.size : Int) ≤ 4092 then (if ((rdOf ByteArray.empty t270 (ji3)).size : Int) ≤ 251 then ((pq2.f k t270 ()).bind fun t281 => (if t281 = true then (some false) else (if (ji3) ≤ (t270.length : Int) then ((pq1.f k (t270.take ((ji3) : Int).toNat) ()).bind fun t286 => (some (!t286))) else (none)))) else (some false)) else (some false))) = some r := H
   have A6 := Aside0.mk A60
   clear A60
   by_cases c7 : t274 = true
   ·subst c7
    have H1 : (if (a0.size : Int) ≤ 4096 then (if ((rdOf ByteArray.empty t270 (ji3)).size : Int) ≤ 255 then ((pq2.f k t270 ()).bind fun t275 => (if t275 = true then (some false) else (if (ji3) ≤ (t270.length : Int) then ((pq1.f k (t270.take ((ji3) : Int).toNat) ()).bind fun t280 => (some (!t280))) else (none)))) else (some false)) else (some false)) = some r := by rw [if_pos rfl] at H; exact H
    clear H
    have H := H1
    clear H1
    by_cases c8 : (a0.size : Int) ≤ 4096
    ·rw [if_pos c8] at H
     have c8b0 : decide ((a0.size : Int) ≤ 4096) = true := decide_eq_true c8
     have c8b1 : decide (a0.size ≤ 4096) = true := decide_eq_true (by omega)
     clear c8
     by_cases c9 : ((rdOf ByteArray.empty t270 (ji3)).size : Int) ≤ 255
     ·rw [if_pos c9] at H
      have c9b0 : decide (((rdOf ByteArray.empty t270 (ji3)).size : Int) ≤ 255) = true := decide_eq_true c9
      have c9b1 : decide ((rdOf ByteArray.empty t270 (ji3)).size ≤ 255) = true := decide_eq_true (by omega)
      clear c9
      replace H := Option.bind_eq_some_iff.mp H
      obtain ⟨t275, A100, H⟩ := H
      replace H : (if t275 = true then (some false) else (if (ji3) ≤ (t270.length : Int) then ((pq1.f k (t270.take ((ji3) : Int).toNat) ()).bind fun t280 => (some (!t280))) else (none))) = some r := H
      have A10 := Aside0.mk A100
      clear A100
      by_cases c11 : t275 = true
      ·subst c11
       have H1 : (some false) = some r := by rw [if_pos rfl] at H; exact H
       clear H
       have H := H1
       clear H1
       obtain rfl := Option.some.inj H
       go_enter Tryz.func92, Tryz.ntmps92
       go_wp2_with (first | ((with_reducible refine gate_callee (f := 119) rfl ?_); refine goesL_ (some 8) rfl rfl Tryz.func119 (by kernel_rfl) rfl #[.string a0, .string (⟨#[47]⟩ : ByteArray)] rfl (by (try simp only [List.map_toArray, List.map_cons, List.map_nil]); first | done | rfl | (simp only [List.length_drop, List.length_take]; rfl)) ?_; (with_reducible refine (strings_Split.calls a0 (⟨#[47]⟩ : ByteArray) t270 _ (hG.ext (by repeat (first | (with_reducible first | exact HB.out | apply below_alloc | apply pw_below_drewN | apply below_drew1) | exact HB.out))) A2.out).mono ?_); rintro e w12 ⟨v271, rfl, ho0, hb⟩; refine ⟨_, rfl, ?_⟩; have n0_ := Aside0.mk (Kd.R_lower ho0 (below_size (by repeat (first | (with_reducible first | exact HB.out | apply below_alloc | apply pw_below_drewN | apply below_drew1) | exact HB.out)))); have n1_ := Aside0.mk (below_step (by repeat (first | (with_reducible first | exact HB.out | apply below_alloc | apply pw_below_drewN | apply below_drew1) | exact HB.out)) hb); clear HB; have HO272 := n0_; have HB := n1_; clear n0_ n1_; (try clear hb); (try clear hb2); (try clear hk); (try clear hi); (try clear ho0); obtain ⟨Ao13, co13, eo13⟩ := Kd.R_slice HO272.out; subst eo13; have p273 : 0 ≤ ((ji3) : Int) := of_decide_eq_true (by first | (with_reducible assumption) | assumption); have q273 : (ji3) < (t270.length : Int) := of_decide_eq_true (by first | (with_reducible assumption) | assumption); obtain ⟨ad273, e273, hx273_0⟩ := Kd.at_string (Kd.R_reads' HO272.out).2.2 (ji3) p273 q273; cases e273; replace p273 := eq_true p273; replace q273 := eq_true q273) | ((with_reducible refine gate_callee (f := 51) rfl ?_); refine goesL_ (some 16) rfl rfl Tryz.func51 (by kernel_rfl) rfl #[.string (rdOf ByteArray.empty t270 (ji3)), .string (⟨#[46, 119, 104, 46]⟩ : ByteArray)] rfl (by (try simp only [List.map_toArray, List.map_cons, List.map_nil]); first | done | (simp only [hji3]; rfl) | rfl | (simp only [List.length_drop, List.length_take]; rfl)) ?_; (with_reducible refine (pq12.calls (rdOf ByteArray.empty t270 (ji3)) (⟨#[46, 119, 104, 46]⟩ : ByteArray) true _ A6.out).mono ?_); rintro e w' ⟨rfl, ⟨nd, rfl⟩⟩; refine ⟨_, rfl, ?_⟩) | (go_at_call 120; (with_reducible refine (pq2.calls k _ _ t270 () true _ ?side1 ?side2 A10.out).mono ?_); (case side1 => repeat (first | exact (Kd.R_reads' HO272.out).2.2 | (with_reducible refine Kd.C_alloc ?_ _) | (with_reducible refine Kd.C_drewN ?_ _) | (with_reducible refine Kd.C_drew ?_))); (case side2 => exact (Kd.R_reads' HO272.out).2.1); rintro e w' ⟨rfl, ⟨nd, rfl⟩⟩))
       go_ret
       exact ⟨by first | rfl | (simp [errW_none, errW_some] <;> rfl) | (simp only [← hji3]; first | rfl | (simp [errW_none, errW_some] <;> rfl)) | (simp [*, errW_none, errW_some] <;> rfl), by repeat (first | (with_reducible first | exact HB.out | apply below_alloc | apply pw_below_drewN | apply below_drew1) | exact HB.out)⟩
      ·replace c11 := Bool.eq_false_iff.mpr c11
       subst c11
       have H1 : (if (ji3) ≤ (t270.length : Int) then ((pq1.f k (t270.take ((ji3) : Int).toNat) ()).bind fun t280 => (some (!t280))) else (none)) = some r := by rw [if_neg (show ¬ (false = true) by decide)] at H; exact H
       clear H
       have H := H1
       clear H1
       have c14b0 := eq_true (of_decide_eq_true (by first | (with_reducible assumption) | assumption) : 0 ≤ (ji3))
       by_cases c15 : (ji3) ≤ (t270.length : Int)
       ·rw [if_pos c15] at H
        have c15b0 := eq_true c15
        have c15b1 : decide ((ji3) ≤ (t270.length : Int)) = true := decide_eq_true c15
        clear c15
        obtain ⟨y276, hy276⟩ : ∃ y_ : List ByteArray, y_ = (t270.take ((ji3) : Int).toNat) := ⟨_, rfl⟩
        replace H : ((pq1.f k y276 ()).bind fun t280 => (some (!t280))) = some r := by first | (rw [hy276]; with_reducible exact H) | (have H2_ := (Option.bind_some _ _).symm.trans H; rw [hy276]; with_reducible exact H2_) | (have H2_ := (Option.bind_some _ _).symm.trans H; with_reducible exact H2_) | with_reducible exact H | (rw [hy276]; exact H) | exact H
        have Ny276 := Aside0.mk hy276
        clear hy276
        replace H := Option.bind_eq_some_iff.mp H
        obtain ⟨t280, A160, H⟩ := H
        replace H : (some (!t280)) = some r := H
        have A16 := Aside0.mk A160
        clear A160
        obtain rfl := Option.some.inj H
        go_enter Tryz.func92, Tryz.ntmps92
        go_wp2_with (first | ((with_reducible refine gate_callee (f := 119) rfl ?_); refine goesL_ (some 8) rfl rfl Tryz.func119 (by kernel_rfl) rfl #[.string a0, .string (⟨#[47]⟩ : ByteArray)] rfl (by (try simp only [List.map_toArray, List.map_cons, List.map_nil]); first | done | rfl | (simp only [List.length_drop, List.length_take]; rfl)) ?_; (with_reducible refine (strings_Split.calls a0 (⟨#[47]⟩ : ByteArray) t270 _ (hG.ext (by repeat (first | (with_reducible first | exact HB.out | apply below_alloc | apply pw_below_drewN | apply below_drew1) | exact HB.out))) A2.out).mono ?_); rintro e w17 ⟨v271, rfl, ho0, hb⟩; refine ⟨_, rfl, ?_⟩; have n0_ := Aside0.mk (Kd.R_lower ho0 (below_size (by repeat (first | (with_reducible first | exact HB.out | apply below_alloc | apply pw_below_drewN | apply below_drew1) | exact HB.out)))); have n1_ := Aside0.mk (below_step (by repeat (first | (with_reducible first | exact HB.out | apply below_alloc | apply pw_below_drewN | apply below_drew1) | exact HB.out)) hb); clear HB; have HO272 := n0_; have HB := n1_; clear n0_ n1_; (try clear hb); (try clear hb2); (try clear hk); (try clear hi); (try clear ho0); obtain ⟨Ao18, co18, eo18⟩ := Kd.R_slice HO272.out; subst eo18; have p273 : 0 ≤ ((ji3) : Int) := of_decide_eq_true (by first | (with_reducible assumption) | assumption); have q273 : (ji3) < (t270.length : Int) := of_decide_eq_true (by first | (with_reducible assumption) | assumption); obtain ⟨ad273, e273, hx273_0⟩ := Kd.at_string (Kd.R_reads' HO272.out).2.2 (ji3) p273 q273; cases e273; replace p273 := eq_true p273; replace q273 := eq_true q273) | ((with_reducible refine gate_callee (f := 51) rfl ?_); refine goesL_ (some 16) rfl rfl Tryz.func51 (by kernel_rfl) rfl #[.string (rdOf ByteArray.empty t270 (ji3)), .string (⟨#[46, 119, 104, 46]⟩ : ByteArray)] rfl (by (try simp only [List.map_toArray, List.map_cons, List.map_nil]); first | done | (simp only [hji3]; rfl) | rfl | (simp only [List.length_drop, List.length_take]; rfl)) ?_; (with_reducible refine (pq12.calls (rdOf ByteArray.empty t270 (ji3)) (⟨#[46, 119, 104, 46]⟩ : ByteArray) true _ A6.out).mono ?_); rintro e w' ⟨rfl, ⟨nd, rfl⟩⟩; refine ⟨_, rfl, ?_⟩) | (go_at_call 120; (with_reducible refine (pq2.calls k _ _ t270 () false _ ?side1 ?side2 A10.out).mono ?_); (case side1 => repeat (first | exact (Kd.R_reads' HO272.out).2.2 | (with_reducible refine Kd.C_alloc ?_ _) | (with_reducible refine Kd.C_drewN ?_ _) | (with_reducible refine Kd.C_drew ?_))); (case side2 => exact (Kd.R_reads' HO272.out).2.1); rintro e w' ⟨rfl, ⟨nd, rfl⟩⟩; have q19 : ((ji3) : Int) ≤ ((t270.length : Int) : Int) := of_decide_eq_true (by first | (with_reducible assumption) | assumption); obtain ⟨i019, hi019, _, hsz19, _⟩ := info_parts info9; have hroom19 : t270.length ≤ co18 := (Kd.R_reads' HO272.out).2.1; have hC19 : Kd.C Kd.string _ (some ad273) t270.length t270 := (Kd.R_reads' HO272.out).2.2; have hcut19 := cut_to (P := Tryz.prog) 65 9 .i64 Tryz.underlying65 hi019 (some ad273) t270.length co18 (ji3) (of_decide_eq_true (by first | (with_reducible assumption) | assumption)) q19 hroom19; have hr19 := Kd.C_take (m := ((ji3) : Int).toNat) hC19 (by omega); have hy19 : y276.length = ((ji3) : Int).toNat := (by rw [Ny276.out, List.length_take]; omega); rw [← Ny276.out] at hr19; rw [← hy19] at hcut19; have HR279 := Aside0.mk hr19; have HC279 := Aside0.mk (show y276.length ≤ co18 from by omega); clear hr19 hC19 hroom19 hi019 hsz19; have KY19 := Aside0.mk hy19; clear hy19; have KL19 := Aside0.mk (show ((ji3) : Int).toNat ≤ t270.length from by omega); replace q19 := eq_true q19) | (go_at_call 120; (with_reducible refine (pq1.calls k _ _ y276 () t280 _ ?side1 ?side2 A16.out).mono ?_); (case side1 => repeat (first | exact (by repeat (first | (with_reducible exact HR279.out) | (with_reducible refine Kd.C_alloc ?_ _) | (with_reducible refine Kd.C_drewN ?_ _) | (with_reducible refine Kd.C_drew ?_) | exact HR279.out)) | (with_reducible refine Kd.C_alloc ?_ _) | (with_reducible refine Kd.C_drewN ?_ _) | (with_reducible refine Kd.C_drew ?_))); (case side2 => exact HC279.out); rintro e w' ⟨rfl, ⟨nd, rfl⟩⟩))
        go_ret
        exact ⟨by first | rfl | (simp [errW_none, errW_some] <;> rfl) | (simp only [← hji3]; first | rfl | (simp [errW_none, errW_some] <;> rfl)) | (simp [*, errW_none, errW_some] <;> rfl), by repeat (first | (with_reducible first | exact HB.out | apply below_alloc | apply pw_below_drewN | apply below_drew1) | exact HB.out)⟩
       ·rw [if_neg c15] at H
        exact absurd H (by simp)
     ·rw [if_neg c9] at H
      have c9b0 : decide (((rdOf ByteArray.empty t270 (ji3)).size : Int) ≤ 255) = false := decide_eq_false c9
      have c9b1 : decide ((rdOf ByteArray.empty t270 (ji3)).size ≤ 255) = false := decide_eq_false (by omega)
      clear c9
      obtain rfl := Option.some.inj H
      go_enter Tryz.func92, Tryz.ntmps92
      go_wp2_with (first | ((with_reducible refine gate_callee (f := 119) rfl ?_); refine goesL_ (some 8) rfl rfl Tryz.func119 (by kernel_rfl) rfl #[.string a0, .string (⟨#[47]⟩ : ByteArray)] rfl (by (try simp only [List.map_toArray, List.map_cons, List.map_nil]); first | done | rfl | (simp only [List.length_drop, List.length_take]; rfl)) ?_; (with_reducible refine (strings_Split.calls a0 (⟨#[47]⟩ : ByteArray) t270 _ (hG.ext (by repeat (first | (with_reducible first | exact HB.out | apply below_alloc | apply pw_below_drewN | apply below_drew1) | exact HB.out))) A2.out).mono ?_); rintro e w20 ⟨v271, rfl, ho0, hb⟩; refine ⟨_, rfl, ?_⟩; have n0_ := Aside0.mk (Kd.R_lower ho0 (below_size (by repeat (first | (with_reducible first | exact HB.out | apply below_alloc | apply pw_below_drewN | apply below_drew1) | exact HB.out)))); have n1_ := Aside0.mk (below_step (by repeat (first | (with_reducible first | exact HB.out | apply below_alloc | apply pw_below_drewN | apply below_drew1) | exact HB.out)) hb); clear HB; have HO272 := n0_; have HB := n1_; clear n0_ n1_; (try clear hb); (try clear hb2); (try clear hk); (try clear hi); (try clear ho0); obtain ⟨Ao21, co21, eo21⟩ := Kd.R_slice HO272.out; subst eo21; have p273 : 0 ≤ ((ji3) : Int) := of_decide_eq_true (by first | (with_reducible assumption) | assumption); have q273 : (ji3) < (t270.length : Int) := of_decide_eq_true (by first | (with_reducible assumption) | assumption); obtain ⟨ad273, e273, hx273_0⟩ := Kd.at_string (Kd.R_reads' HO272.out).2.2 (ji3) p273 q273; cases e273; replace p273 := eq_true p273; replace q273 := eq_true q273) | ((with_reducible refine gate_callee (f := 51) rfl ?_); refine goesL_ (some 16) rfl rfl Tryz.func51 (by kernel_rfl) rfl #[.string (rdOf ByteArray.empty t270 (ji3)), .string (⟨#[46, 119, 104, 46]⟩ : ByteArray)] rfl (by (try simp only [List.map_toArray, List.map_cons, List.map_nil]); first | done | (simp only [hji3]; rfl) | rfl | (simp only [List.length_drop, List.length_take]; rfl)) ?_; (with_reducible refine (pq12.calls (rdOf ByteArray.empty t270 (ji3)) (⟨#[46, 119, 104, 46]⟩ : ByteArray) true _ A6.out).mono ?_); rintro e w' ⟨rfl, ⟨nd, rfl⟩⟩; refine ⟨_, rfl, ?_⟩))
      go_ret
      exact ⟨by first | rfl | (simp [errW_none, errW_some] <;> rfl) | (simp only [← hji3]; first | rfl | (simp [errW_none, errW_some] <;> rfl)) | (simp [*, errW_none, errW_some] <;> rfl), by repeat (first | (with_reducible first | exact HB.out | apply below_alloc | apply pw_below_drewN | apply below_drew1) | exact HB.out)⟩
    ·rw [if_neg c8] at H
     have c8b0 : decide ((a0.size : Int) ≤ 4096) = false := decide_eq_false c8
     have c8b1 : decide (a0.size ≤ 4096) = false := decide_eq_false (by omega)
     clear c8
     obtain rfl := Option.some.inj H
     go_enter Tryz.func92, Tryz.ntmps92
     go_wp2_with (first | ((with_reducible refine gate_callee (f := 119) rfl ?_); refine goesL_ (some 8) rfl rfl Tryz.func119 (by kernel_rfl) rfl #[.string a0, .string (⟨#[47]⟩ : ByteArray)] rfl (by (try simp only [List.map_toArray, List.map_cons, List.map_nil]); first | done | rfl | (simp only [List.length_drop, List.length_take]; rfl)) ?_; (with_reducible refine (strings_Split.calls a0 (⟨#[47]⟩ : ByteArray) t270 _ (hG.ext (by repeat (first | (with_reducible first | exact HB.out | apply below_alloc | apply pw_below_drewN | apply below_drew1) | exact HB.out))) A2.out).mono ?_); rintro e w22 ⟨v271, rfl, ho0, hb⟩; refine ⟨_, rfl, ?_⟩; have n0_ := Aside0.mk (Kd.R_lower ho0 (below_size (by repeat (first | (with_reducible first | exact HB.out | apply below_alloc | apply pw_below_drewN | apply below_drew1) | exact HB.out)))); have n1_ := Aside0.mk (below_step (by repeat (first | (with_reducible first | exact HB.out | apply below_alloc | apply pw_below_drewN | apply below_drew1) | exact HB.out)) hb); clear HB; have HO272 := n0_; have HB := n1_; clear n0_ n1_; (try clear hb); (try clear hb2); (try clear hk); (try clear hi); (try clear ho0); obtain ⟨Ao23, co23, eo23⟩ := Kd.R_slice HO272.out; subst eo23; have p273 : 0 ≤ ((ji3) : Int) := of_decide_eq_true (by first | (with_reducible assumption) | assumption); have q273 : (ji3) < (t270.length : Int) := of_decide_eq_true (by first | (with_reducible assumption) | assumption); obtain ⟨ad273, e273, hx273_0⟩ := Kd.at_string (Kd.R_reads' HO272.out).2.2 (ji3) p273 q273; cases e273; replace p273 := eq_true p273; replace q273 := eq_true q273) | ((with_reducible refine gate_callee (f := 51) rfl ?_); refine goesL_ (some 16) rfl rfl Tryz.func51 (by kernel_rfl) rfl #[.string (rdOf ByteArray.empty t270 (ji3)), .string (⟨#[46, 119, 104, 46]⟩ : ByteArray)] rfl (by (try simp only [List.map_toArray, List.map_cons, List.map_nil]); first | done | (simp only [hji3]; rfl) | rfl | (simp only [List.length_drop, List.length_take]; rfl)) ?_; (with_reducible refine (pq12.calls (rdOf ByteArray.empty t270 (ji3)) (⟨#[46, 119, 104, 46]⟩ : ByteArray) true _ A6.out).mono ?_); rintro e w' ⟨rfl, ⟨nd, rfl⟩⟩; refine ⟨_, rfl, ?_⟩))
     go_ret
     exact ⟨by first | rfl | (simp [errW_none, errW_some] <;> rfl) | (simp only [← hji3]; first | rfl | (simp [errW_none, errW_some] <;> rfl)) | (simp [*, errW_none, errW_some] <;> rfl), by repeat (first | (with_reducible first | exact HB.out | apply below_alloc | apply pw_below_drewN | apply below_drew1) | exact HB.out)⟩
   ·replace c7 := Bool.eq_false_iff.mpr c7
    subst c7
    have H1 : (if (a0.size : Int) ≤ 4092 then (if ((rdOf ByteArray.empty t270 (ji3)).size : Int) ≤ 251 then ((pq2.f k t270 ()).bind fun t281 => (if t281 = true then (some false) else (if (ji3) ≤ (t270.length : Int) then ((pq1.f k (t270.take ((ji3) : Int).toNat) ()).bind fun t286 => (some (!t286))) else (none)))) else (some false)) else (some false)) = some r := by rw [if_neg (show ¬ (false = true) by decide)] at H; exact H
    clear H
    have H := H1
    clear H1
    by_cases c24 : (a0.size : Int) ≤ 4092
    ·rw [if_pos c24] at H
     have c24b0 : decide ((a0.size : Int) ≤ 4092) = true := decide_eq_true c24
     have c24b1 : decide (a0.size ≤ 4092) = true := decide_eq_true (by omega)
     clear c24
     by_cases c25 : ((rdOf ByteArray.empty t270 (ji3)).size : Int) ≤ 251
     ·rw [if_pos c25] at H
      have c25b0 : decide (((rdOf ByteArray.empty t270 (ji3)).size : Int) ≤ 251) = true := decide_eq_true c25
      have c25b1 : decide ((rdOf ByteArray.empty t270 (ji3)).size ≤ 251) = true := decide_eq_true (by omega)
      clear c25
      replace H := Option.bind_eq_some_iff.mp H
      obtain ⟨t281, A260, H⟩ := H
      replace H : (if t281 = true then (some false) else (if (ji3) ≤ (t270.length : Int) then ((pq1.f k (t270.take ((ji3) : Int).toNat) ()).bind fun t286 => (some (!t286))) else (none))) = some r := H
      have A26 := Aside0.mk A260
      clear A260
      by_cases c27 : t281 = true
      ·subst c27
       have H1 : (some false) = some r := by rw [if_pos rfl] at H; exact H
       clear H
       have H := H1
       clear H1
       obtain rfl := Option.some.inj H
       go_enter Tryz.func92, Tryz.ntmps92
       go_wp2_with (first | ((with_reducible refine gate_callee (f := 119) rfl ?_); refine goesL_ (some 8) rfl rfl Tryz.func119 (by kernel_rfl) rfl #[.string a0, .string (⟨#[47]⟩ : ByteArray)] rfl (by (try simp only [List.map_toArray, List.map_cons, List.map_nil]); first | done | rfl | (simp only [List.length_drop, List.length_take]; rfl)) ?_; (with_reducible refine (strings_Split.calls a0 (⟨#[47]⟩ : ByteArray) t270 _ (hG.ext (by repeat (first | (with_reducible first | exact HB.out | apply below_alloc | apply pw_below_drewN | apply below_drew1) | exact HB.out))) A2.out).mono ?_); rintro e w28 ⟨v271, rfl, ho0, hb⟩; refine ⟨_, rfl, ?_⟩; have n0_ := Aside0.mk (Kd.R_lower ho0 (below_size (by repeat (first | (with_reducible first | exact HB.out | apply below_alloc | apply pw_below_drewN | apply below_drew1) | exact HB.out)))); have n1_ := Aside0.mk (below_step (by repeat (first | (with_reducible first | exact HB.out | apply below_alloc | apply pw_below_drewN | apply below_drew1) | exact HB.out)) hb); clear HB; have HO272 := n0_; have HB := n1_; clear n0_ n1_; (try clear hb); (try clear hb2); (try clear hk); (try clear hi); (try clear ho0); obtain ⟨Ao29, co29, eo29⟩ := Kd.R_slice HO272.out; subst eo29; have p273 : 0 ≤ ((ji3) : Int) := of_decide_eq_true (by first | (with_reducible assumption) | assumption); have q273 : (ji3) < (t270.length : Int) := of_decide_eq_true (by first | (with_reducible assumption) | assumption); obtain ⟨ad273, e273, hx273_0⟩ := Kd.at_string (Kd.R_reads' HO272.out).2.2 (ji3) p273 q273; cases e273; replace p273 := eq_true p273; replace q273 := eq_true q273) | ((with_reducible refine gate_callee (f := 51) rfl ?_); refine goesL_ (some 16) rfl rfl Tryz.func51 (by kernel_rfl) rfl #[.string (rdOf ByteArray.empty t270 (ji3)), .string (⟨#[46, 119, 104, 46]⟩ : ByteArray)] rfl (by (try simp only [List.map_toArray, List.map_cons, List.map_nil]); first | done | (simp only [hji3]; rfl) | rfl | (simp only [List.length_drop, List.length_take]; rfl)) ?_; (with_reducible refine (pq12.calls (rdOf ByteArray.empty t270 (ji3)) (⟨#[46, 119, 104, 46]⟩ : ByteArray) false _ A6.out).mono ?_); rintro e w' ⟨rfl, ⟨nd, rfl⟩⟩; refine ⟨_, rfl, ?_⟩) | (go_at_call 120; (with_reducible refine (pq2.calls k _ _ t270 () true _ ?side1 ?side2 A26.out).mono ?_); (case side1 => repeat (first | exact (Kd.R_reads' HO272.out).2.2 | (with_reducible refine Kd.C_alloc ?_ _) | (with_reducible refine Kd.C_drewN ?_ _) | (with_reducible refine Kd.C_drew ?_))); (case side2 => exact (Kd.R_reads' HO272.out).2.1); rintro e w' ⟨rfl, ⟨nd, rfl⟩⟩))
       go_ret
       exact ⟨by first | rfl | (simp [errW_none, errW_some] <;> rfl) | (simp only [← hji3]; first | rfl | (simp [errW_none, errW_some] <;> rfl)) | (simp [*, errW_none, errW_some] <;> rfl), by repeat (first | (with_reducible first | exact HB.out | apply below_alloc | apply pw_below_drewN | apply below_drew1) | exact HB.out)⟩
      ·replace c27 := Bool.eq_false_iff.mpr c27
       subst c27
       have H1 : (if (ji3) ≤ (t270.length : Int) then ((pq1.f k (t270.take ((ji3) : Int).toNat) ()).bind fun t286 => (some (!t286))) else (none)) = some r := by rw [if_neg (show ¬ (false = true) by decide)] at H; exact H
       clear H
       have H := H1
       clear H1
       have c30b0 := eq_true (of_decide_eq_true (by first | (with_reducible assumption) | assumption) : 0 ≤ (ji3))
       by_cases c31 : (ji3) ≤ (t270.length : Int)
       ·rw [if_pos c31] at H
        have c31b0 := eq_true c31
        have c31b1 : decide ((ji3) ≤ (t270.length : Int)) = true := decide_eq_true c31
        clear c31
        obtain ⟨y282, hy282⟩ : ∃ y_ : List ByteArray, y_ = (t270.take ((ji3) : Int).toNat) := ⟨_, rfl⟩
        replace H : ((pq1.f k y282 ()).bind fun t286 => (some (!t286))) = some r := by first | (rw [hy282]; with_reducible exact H) | (have H2_ := (Option.bind_some _ _).symm.trans H; rw [hy282]; with_reducible exact H2_) | (have H2_ := (Option.bind_some _ _).symm.trans H; with_reducible exact H2_) | with_reducible exact H | (rw [hy282]; exact H) | exact H
        have Ny282 := Aside0.mk hy282
        clear hy282
        replace H := Option.bind_eq_some_iff.mp H
        obtain ⟨t286, A320, H⟩ := H
        replace H : (some (!t286)) = some r := H
        have A32 := Aside0.mk A320
        clear A320
        obtain rfl := Option.some.inj H
        go_enter Tryz.func92, Tryz.ntmps92
        go_wp2_with (first | ((with_reducible refine gate_callee (f := 119) rfl ?_); refine goesL_ (some 8) rfl rfl Tryz.func119 (by kernel_rfl) rfl #[.string a0, .string (⟨#[47]⟩ : ByteArray)] rfl (by (try simp only [List.map_toArray, List.map_cons, List.map_nil]); first | done | rfl | (simp only [List.length_drop, List.length_take]; rfl)) ?_; (with_reducible refine (strings_Split.calls a0 (⟨#[47]⟩ : ByteArray) t270 _ (hG.ext (by repeat (first | (with_reducible first | exact HB.out | apply below_alloc | apply pw_below_drewN | apply below_drew1) | exact HB.out))) A2.out).mono ?_); rintro e w33 ⟨v271, rfl, ho0, hb⟩; refine ⟨_, rfl, ?_⟩; have n0_ := Aside0.mk (Kd.R_lower ho0 (below_size (by repeat (first | (with_reducible first | exact HB.out | apply below_alloc | apply pw_below_drewN | apply below_drew1) | exact HB.out)))); have n1_ := Aside0.mk (below_step (by repeat (first | (with_reducible first | exact HB.out | apply below_alloc | apply pw_below_drewN | apply below_drew1) | exact HB.out)) hb); clear HB; have HO272 := n0_; have HB := n1_; clear n0_ n1_; (try clear hb); (try clear hb2); (try clear hk); (try clear hi); (try clear ho0); obtain ⟨Ao34, co34, eo34⟩ := Kd.R_slice HO272.out; subst eo34; have p273 : 0 ≤ ((ji3) : Int) := of_decide_eq_true (by first | (with_reducible assumption) | assumption); have q273 : (ji3) < (t270.length : Int) := of_decide_eq_true (by first | (with_reducible assumption) | assumption); obtain ⟨ad273, e273, hx273_0⟩ := Kd.at_string (Kd.R_reads' HO272.out).2.2 (ji3) p273 q273; cases e273; replace p273 := eq_true p273; replace q273 := eq_true q273) | ((with_reducible refine gate_callee (f := 51) rfl ?_); refine goesL_ (some 16) rfl rfl Tryz.func51 (by kernel_rfl) rfl #[.string (rdOf ByteArray.empty t270 (ji3)), .string (⟨#[46, 119, 104, 46]⟩ : ByteArray)] rfl (by (try simp only [List.map_toArray, List.map_cons, List.map_nil]); first | done | (simp only [hji3]; rfl) | rfl | (simp only [List.length_drop, List.length_take]; rfl)) ?_; (with_reducible refine (pq12.calls (rdOf ByteArray.empty t270 (ji3)) (⟨#[46, 119, 104, 46]⟩ : ByteArray) false _ A6.out).mono ?_); rintro e w' ⟨rfl, ⟨nd, rfl⟩⟩; refine ⟨_, rfl, ?_⟩) | (go_at_call 120; (with_reducible refine (pq2.calls k _ _ t270 () false _ ?side1 ?side2 A26.out).mono ?_); (case side1 => repeat (first | exact (Kd.R_reads' HO272.out).2.2 | (with_reducible refine Kd.C_alloc ?_ _) | (with_reducible refine Kd.C_drewN ?_ _) | (with_reducible refine Kd.C_drew ?_))); (case side2 => exact (Kd.R_reads' HO272.out).2.1); rintro e w' ⟨rfl, ⟨nd, rfl⟩⟩; have q35 : ((ji3) : Int) ≤ ((t270.length : Int) : Int) := of_decide_eq_true (by first | (with_reducible assumption) | assumption); obtain ⟨i035, hi035, _, hsz35, _⟩ := info_parts info9; have hroom35 : t270.length ≤ co34 := (Kd.R_reads' HO272.out).2.1; have hC35 : Kd.C Kd.string _ (some ad273) t270.length t270 := (Kd.R_reads' HO272.out).2.2; have hcut35 := cut_to (P := Tryz.prog) 65 9 .i64 Tryz.underlying65 hi035 (some ad273) t270.length co34 (ji3) (of_decide_eq_true (by first | (with_reducible assumption) | assumption)) q35 hroom35; have hr35 := Kd.C_take (m := ((ji3) : Int).toNat) hC35 (by omega); have hy35 : y282.length = ((ji3) : Int).toNat := (by rw [Ny282.out, List.length_take]; omega); rw [← Ny282.out] at hr35; rw [← hy35] at hcut35; have HR285 := Aside0.mk hr35; have HC285 := Aside0.mk (show y282.length ≤ co34 from by omega); clear hr35 hC35 hroom35 hi035 hsz35; have KY35 := Aside0.mk hy35; clear hy35; have KL35 := Aside0.mk (show ((ji3) : Int).toNat ≤ t270.length from by omega); replace q35 := eq_true q35) | (go_at_call 120; (with_reducible refine (pq1.calls k _ _ y282 () t286 _ ?side1 ?side2 A32.out).mono ?_); (case side1 => repeat (first | exact (by repeat (first | (with_reducible exact HR285.out) | (with_reducible refine Kd.C_alloc ?_ _) | (with_reducible refine Kd.C_drewN ?_ _) | (with_reducible refine Kd.C_drew ?_) | exact HR285.out)) | (with_reducible refine Kd.C_alloc ?_ _) | (with_reducible refine Kd.C_drewN ?_ _) | (with_reducible refine Kd.C_drew ?_))); (case side2 => exact HC285.out); rintro e w' ⟨rfl, ⟨nd, rfl⟩⟩))
        go_ret
        exact ⟨by first | rfl | (simp [errW_none, errW_some] <;> rfl) | (simp only [← hji3]; first | rfl | (simp [errW_none, errW_some] <;> rfl)) | (simp [*, errW_none, errW_some] <;> rfl), by repeat (first | (with_reducible first | exact HB.out | apply below_alloc | apply pw_below_drewN | apply below_drew1) | exact HB.out)⟩
       ·rw [if_neg c31] at H
        exact absurd H (by simp)
     ·rw [if_neg c25] at H
      have c25b0 : decide (((rdOf ByteArray.empty t270 (ji3)).size : Int) ≤ 251) = false := decide_eq_false c25
      have c25b1 : decide ((rdOf ByteArray.empty t270 (ji3)).size ≤ 251) = false := decide_eq_false (by omega)
      clear c25
      obtain rfl := Option.some.inj H
      go_enter Tryz.func92, Tryz.ntmps92
      go_wp2_with (first | ((with_reducible refine gate_callee (f := 119) rfl ?_); refine goesL_ (some 8) rfl rfl Tryz.func119 (by kernel_rfl) rfl #[.string a0, .string (⟨#[47]⟩ : ByteArray)] rfl (by (try simp only [List.map_toArray, List.map_cons, List.map_nil]); first | done | rfl | (simp only [List.length_drop, List.length_take]; rfl)) ?_; (with_reducible refine (strings_Split.calls a0 (⟨#[47]⟩ : ByteArray) t270 _ (hG.ext (by repeat (first | (with_reducible first | exact HB.out | apply below_alloc | apply pw_below_drewN | apply below_drew1) | exact HB.out))) A2.out).mono ?_); rintro e w36 ⟨v271, rfl, ho0, hb⟩; refine ⟨_, rfl, ?_⟩; have n0_ := Aside0.mk (Kd.R_lower ho0 (below_size (by repeat (first | (with_reducible first | exact HB.out | apply below_alloc | apply pw_below_drewN | apply below_drew1) | exact HB.out)))); have n1_ := Aside0.mk (below_step (by repeat (first | (with_reducible first | exact HB.out | apply below_alloc | apply pw_below_drewN | apply below_drew1) | exact HB.out)) hb); clear HB; have HO272 := n0_; have HB := n1_; clear n0_ n1_; (try clear hb); (try clear hb2); (try clear hk); (try clear hi); (try clear ho0); obtain ⟨Ao37, co37, eo37⟩ := Kd.R_slice HO272.out; subst eo37; have p273 : 0 ≤ ((ji3) : Int) := of_decide_eq_true (by first | (with_reducible assumption) | assumption); have q273 : (ji3) < (t270.length : Int) := of_decide_eq_true (by first | (with_reducible assumption) | assumption); obtain ⟨ad273, e273, hx273_0⟩ := Kd.at_string (Kd.R_reads' HO272.out).2.2 (ji3) p273 q273; cases e273; replace p273 := eq_true p273; replace q273 := eq_true q273) | ((with_reducible refine gate_callee (f := 51) rfl ?_); refine goesL_ (some 16) rfl rfl Tryz.func51 (by kernel_rfl) rfl #[.string (rdOf ByteArray.empty t270 (ji3)), .string (⟨#[46, 119, 104, 46]⟩ : ByteArray)] rfl (by (try simp only [List.map_toArray, List.map_cons, List.map_nil]); first | done | (simp only [hji3]; rfl) | rfl | (simp only [List.length_drop, List.length_take]; rfl)) ?_; (with_reducible refine (pq12.calls (rdOf ByteArray.empty t270 (ji3)) (⟨#[46, 119, 104, 46]⟩ : ByteArray) false _ A6.out).mono ?_); rintro e w' ⟨rfl, ⟨nd, rfl⟩⟩; refine ⟨_, rfl, ?_⟩))
      go_ret
      exact ⟨by first | rfl | (simp [errW_none, errW_some] <;> rfl) | (simp only [← hji3]; first | rfl | (simp [errW_none, errW_some] <;> rfl)) | (simp [*, errW_none, errW_some] <;> rfl), by repeat (first | (with_reducible first | exact HB.out | apply below_alloc | apply pw_below_drewN | apply below_drew1) | exact HB.out)⟩
    ·rw [if_neg c24] at H
     have c24b0 : decide ((a0.size : Int) ≤ 4092) = false := decide_eq_false c24
     have c24b1 : decide (a0.size ≤ 4092) = false := decide_eq_false (by omega)
     clear c24
     obtain rfl := Option.some.inj H
     go_enter Tryz.func92, Tryz.ntmps92
     go_wp2_with (first | ((with_reducible refine gate_callee (f := 119) rfl ?_); refine goesL_ (some 8) rfl rfl Tryz.func119 (by kernel_rfl) rfl #[.string a0, .string (⟨#[47]⟩ : ByteArray)] rfl (by (try simp only [List.map_toArray, List.map_cons, List.map_nil]); first | done | rfl | (simp only [List.length_drop, List.length_take]; rfl)) ?_; (with_reducible refine (strings_Split.calls a0 (⟨#[47]⟩ : ByteArray) t270 _ (hG.ext (by repeat (first | (with_reducible first | exact HB.out | apply below_alloc | apply pw_below_drewN | apply below_drew1) | exact HB.out))) A2.out).mono ?_); rintro e w38 ⟨v271, rfl, ho0, hb⟩; refine ⟨_, rfl, ?_⟩; have n0_ := Aside0.mk (Kd.R_lower ho0 (below_size (by repeat (first | (with_reducible first | exact HB.out | apply below_alloc | apply pw_below_drewN | apply below_drew1) | exact HB.out)))); have n1_ := Aside0.mk (below_step (by repeat (first | (with_reducible first | exact HB.out | apply below_alloc | apply pw_below_drewN | apply below_drew1) | exact HB.out)) hb); clear HB; have HO272 := n0_; have HB := n1_; clear n0_ n1_; (try clear hb); (try clear hb2); (try clear hk); (try clear hi); (try clear ho0); obtain ⟨Ao39, co39, eo39⟩ := Kd.R_slice HO272.out; subst eo39; have p273 : 0 ≤ ((ji3) : Int) := of_decide_eq_true (by first | (with_reducible assumption) | assumption); have q273 : (ji3) < (t270.length : Int) := of_decide_eq_true (by first | (with_reducible assumption) | assumption); obtain ⟨ad273, e273, hx273_0⟩ := Kd.at_string (Kd.R_reads' HO272.out).2.2 (ji3) p273 q273; cases e273; replace p273 := eq_true p273; replace q273 := eq_true q273) | ((with_reducible refine gate_callee (f := 51) rfl ?_); refine goesL_ (some 16) rfl rfl Tryz.func51 (by kernel_rfl) rfl #[.string (rdOf ByteArray.empty t270 (ji3)), .string (⟨#[46, 119, 104, 46]⟩ : ByteArray)] rfl (by (try simp only [List.map_toArray, List.map_cons, List.map_nil]); first | done | (simp only [hji3]; rfl) | rfl | (simp only [List.length_drop, List.length_take]; rfl)) ?_; (with_reducible refine (pq12.calls (rdOf ByteArray.empty t270 (ji3)) (⟨#[46, 119, 104, 46]⟩ : ByteArray) false _ A6.out).mono ?_); rintro e w' ⟨rfl, ⟨nd, rfl⟩⟩; refine ⟨_, rfl, ?_⟩))
     go_ret
     exact ⟨by first | rfl | (simp [errW_none, errW_some] <;> rfl) | (simp only [← hji3]; first | rfl | (simp [errW_none, errW_some] <;> rfl)) | (simp [*, errW_none, errW_some] <;> rfl), by repeat (first | (with_reducible first | exact HB.out | apply below_alloc | apply pw_below_drewN | apply below_drew1) | exact HB.out)⟩
  ·rw [if_neg c5] at H
   exact absurd H (by simp)
 ·rw [if_neg c4] at H
  exact absurd H (by simp)
end Go.Proofs.YtdkjinmkallhnaaGreatDoorQ
end
section
namespace Go.Proofs.YtdkjinmkallhnaaGreatDoorQ
open Go.RowKit Go.Proofs.YtdkjinmkallhnaaGreatDoorW.PrintWords Go.Proofs.YtdkjinmkallhnaaGreatDoorW.PrintLast Go.Proofs.YtdkjinmkallhnaaGreatDoorW.PrintMore
open Go.Proofs.YtdkjinmkallhnaaGreatDoor (GL)
attribute [local go_sem] max2_int min2_int max_two min_two max_three min_three max_four min_four
def paths_split.f (a0 : ByteArray) : Option (ByteArray × ByteArray) := (strings_LastIndex.f a0 (⟨#[47]⟩ : ByteArray)).bind fun t106 => (if 0 ≤ (mx t106 0) then (if (mx t106 0) ≤ (a0.size : Int) then (if 0 ≤ (wrap64 (t106 + 1)) then (if (wrap64 (t106 + 1)) ≤ (a0.size : Int) then (some (a0.extract 0 ((mx t106 0) : Int).toNat, a0.extract ((wrap64 (t106 + 1)) : Int).toNat a0.size)) else (none)) else (none)) else (none)) else (none))
set_option maxHeartbeats 8000000 in
set_option maxRecDepth 100000 in
theorem paths_split.calls (a0 : ByteArray) (r1 : ByteArray) (r2 : ByteArray) (w : World) (h : paths_split.f a0 = some (r1, r2)) :
  Calls Tryz.prog 55 #[.string a0] w fun e w' => e = .returned (.tuple #[.string r1, .string r2]) ∧ Below w.heap.size w w' := by
 have HB := Aside0.mk (Below.refl w.heap.size w)
 have H : ((strings_LastIndex.f a0 (⟨#[47]⟩ : ByteArray)).bind fun t106 => (if 0 ≤ (mx t106 0) then (if (mx t106 0) ≤ (a0.size : Int) then (if 0 ≤ (wrap64 (t106 + 1)) then (if (wrap64 (t106 + 1)) ≤ (a0.size : Int) then (some (a0.extract 0 ((mx t106 0) : Int).toNat, a0.extract ((wrap64 (t106 + 1)) : Int).toNat a0.size)) else (none)) else (none)) else (none)) else (none))) = some (r1, r2) := h
 clear h
 replace H := Option.bind_eq_some_iff.mp H
 obtain ⟨t106, A20, H⟩ := H
 replace H : (if 0 ≤ (mx t106 0) then (if (mx t106 0) ≤ (a0.size : Int) then (if 0 ≤ (wrap64 (t106 + 1)) then (if (wrap64 (t106 + 1)) ≤ (a0.size : Int) then (some (a0.extract 0 ((mx t106 0) : Int).toNat, a0.extract ((wrap64 (t106 + 1)) : Int).toNat a0.size)) else (none)) else (none)) else (none)) else (none)) = some (r1, r2) := H
 have A2 := Aside0.mk A20
 clear A20
 obtain ⟨ji3, hji3⟩ : ∃ j_ : Int, (mx t106 0) = j_ := ⟨_, rfl⟩
 replace H : (if 0 ≤ (ji3) then (if (ji3) ≤ (a0.size : Int) then (if 0 ≤ (wrap64 (t106 + 1)) then (if (wrap64 (t106 + 1)) ≤ (a0.size : Int) then (some (a0.extract 0 ((ji3) : Int).toNat, a0.extract ((wrap64 (t106 + 1)) : Int).toNat a0.size)) else (none)) else (none)) else (none)) else (none)) = some (r1, r2) := by first | (rw [hji3] at H; exact H) | (simp only [hji3] at H ⊢; exact H)
 (try rw [hji3] at A2)
 (try (have hji3l : 0 ≤ ji3 := by (rw [← hji3]; unfold mx; (repeat' split) <;> omega)))
 (try (have hji3m : 0 ≤ ji3 := by omega))
 have hji3_ : (if t106 < 0 then 0 else t106) = ji3 := hji3
 by_cases c4 : 0 ≤ (ji3)
 ·rw [if_pos c4] at H
  have c4b0 := eq_true c4
  have c4b1 : decide (0 ≤ (ji3)) = true := decide_eq_true c4
  clear c4
  by_cases c5 : (ji3) ≤ (a0.size : Int)
  ·rw [if_pos c5] at H
   have c5b0 := eq_true c5
   have c5b1 : decide ((ji3) ≤ (a0.size : Int)) = true := decide_eq_true c5
   clear c5
   obtain ⟨ji6, hji6⟩ : ∃ j_ : Int, (wrap64 (t106 + 1)) = j_ := ⟨_, rfl⟩
   replace H : (if 0 ≤ (ji6) then (if (ji6) ≤ (a0.size : Int) then (some (a0.extract 0 ((ji3) : Int).toNat, a0.extract ((ji6) : Int).toNat a0.size)) else (none)) else (none)) = some (r1, r2) := by first | (rw [hji6] at H; exact H) | (simp only [hji6] at H ⊢; exact H)
   (try rw [hji6] at A2)
   have hji6w : (IntKind.i64.wrap (t106 + 1)) = ji6 := (i64_w _).trans hji6
   by_cases c7 : 0 ≤ (ji6)
   ·rw [if_pos c7] at H
    have c7b0 := eq_true c7
    have c7b1 : decide (0 ≤ (ji6)) = true := decide_eq_true c7
    clear c7
    by_cases c8 : (ji6) ≤ (a0.size : Int)
    ·rw [if_pos c8] at H
     have c8b0 := eq_true c8
     have c8b1 : decide ((ji6) ≤ (a0.size : Int)) = true := decide_eq_true c8
     clear c8
     simp only [Option.some.injEq, Prod.mk.injEq] at H
     obtain ⟨rfl, rfl⟩ := H
     go_enter Tryz.func55, Tryz.ntmps55
     go_wp2_with (first | (go_at_call 89; (with_reducible refine (strings_LastIndex.calls a0 (⟨#[47]⟩ : ByteArray) t106 _ A2.out).mono ?_); rintro e w' ⟨rfl, ⟨nd, rfl⟩⟩; (try first | exact ⟨rfl, _, World.drewN_drewN _ _ _⟩ | exact ⟨rfl, _, Eq.trans (World.drewN_drewN _ _ _) (congrArg (World.drewN _) (Nat.add_assoc _ _ _))⟩)))
     repeat (go_quiet (first | (go_at_call 89; (with_reducible refine (strings_LastIndex.calls a0 (⟨#[47]⟩ : ByteArray) t106 _ A2.out).mono ?_); rintro e w' ⟨rfl, ⟨nd, rfl⟩⟩; (try first | exact ⟨rfl, _, World.drewN_drewN _ _ _⟩ | exact ⟨rfl, _, Eq.trans (World.drewN_drewN _ _ _) (congrArg (World.drewN _) (Nat.add_assoc _ _ _))⟩))); try go_wp2_with (first | (go_at_call 89; (with_reducible refine (strings_LastIndex.calls a0 (⟨#[47]⟩ : ByteArray) t106 _ A2.out).mono ?_); rintro e w' ⟨rfl, ⟨nd, rfl⟩⟩; (try first | exact ⟨rfl, _, World.drewN_drewN _ _ _⟩ | exact ⟨rfl, _, Eq.trans (World.drewN_drewN _ _ _) (congrArg (World.drewN _) (Nat.add_assoc _ _ _))⟩))))
     go_ret2
     exact ⟨by first | rfl | (simp [errW_none, errW_some] <;> rfl) | (simp only [← hji3, ← hji6]; first | rfl | (simp [errW_none, errW_some] <;> rfl)) | (simp [*, errW_none, errW_some] <;> rfl), by repeat (first | (with_reducible first | exact HB.out | apply below_alloc | apply pw_below_drewN | apply below_drew1) | exact HB.out)⟩
    ·rw [if_neg c8] at H
     exact absurd H (by simp)
   ·rw [if_neg c7] at H
    exact absurd H (by simp)
  ·rw [if_neg c5] at H
   exact absurd H (by simp)
 ·rw [if_neg c4] at H
  exact absurd H (by simp)
end Go.Proofs.YtdkjinmkallhnaaGreatDoorQ
end
section
namespace Go.Proofs.YtdkjinmkallhnaaGreatDoorQ
open Go.RowKit Go.Proofs.YtdkjinmkallhnaaGreatDoorW.PrintWords Go.Proofs.YtdkjinmkallhnaaGreatDoorW.PrintLast Go.Proofs.YtdkjinmkallhnaaGreatDoorW.PrintMore
open Go.Proofs.YtdkjinmkallhnaaGreatDoor (GL)
attribute [local go_sem] max2_int min2_int max_two min_two max_three min_three max_four min_four
def paths_Mark.f (k : Nat) (a0 : ByteArray) : Option (Int × ByteArray × Bool) := (paths_split.f a0).bind fun bt287 => ((strings_CutPrefix.f bt287.2 (⟨#[46, 119, 104, 46]⟩ : ByteArray)).bind fun bt289 => ((paths_is.f k a0).bind fun t291 => (if t291 = true then (if bt289.2 = true then (if bt287.2.toList = ([46, 119, 104, 46, 46, 119, 104, 46, 46, 111, 112, 113] : List UInt8) then (some (2, bt287.1, true)) else ((pq18.f bt289.1).bind fun t292 => (if t292 = true then (some (0, (⟨#[]⟩ : ByteArray), false)) else ((pq12.f bt289.1 (⟨#[46, 119, 104, 46]⟩ : ByteArray)).bind fun t293 => (if t293 = true then (some (0, (⟨#[]⟩ : ByteArray), false)) else ((paths_below.f bt287.1 bt289.1).bind fun t294 => (some (1, t294, true)))))))) else (some (0, a0, true))) else (some (0, (⟨#[]⟩ : ByteArray), false)))))
set_option maxHeartbeats 8000000 in
set_option maxRecDepth 100000 in
theorem paths_Mark.calls (k : Nat) (a0 : ByteArray) (r1 : Int) (r2 : ByteArray) (r3 : Bool) (w : World) (hG : GL w) (h : paths_Mark.f k a0 = some (r1, r2, r3)) :
  Calls Tryz.prog 58 #[.string a0] w fun e w' => e = .returned (.tuple #[.int .i64 r1, .string r2, .bool r3]) ∧ Below w.heap.size w w' := by
 have HB := Aside0.mk (Below.refl w.heap.size w)
 have H : ((paths_split.f a0).bind fun bt287 => ((strings_CutPrefix.f bt287.2 (⟨#[46, 119, 104, 46]⟩ : ByteArray)).bind fun bt289 => ((paths_is.f k a0).bind fun t291 => (if t291 = true then (if bt289.2 = true then (if bt287.2.toList = ([46, 119, 104, 46, 46, 119, 104, 46, 46, 111, 112, 113] : List UInt8) then (some (2, bt287.1, true)) else ((pq18.f bt289.1).bind fun t292 => (if t292 = true then (some (0, (⟨#[]⟩ : ByteArray), false)) else ((pq12.f bt289.1 (⟨#[46, 119, 104, 46]⟩ : ByteArray)).bind fun t293 => (if t293 = true then (some (0, (⟨#[]⟩ : ByteArray), false)) else ((paths_below.f bt287.1 bt289.1).bind fun t294 => (some (1, t294, true)))))))) else (some (0, a0, true))) else (some (0, (⟨#[]⟩ : ByteArray), false)))))) = some (r1, r2, r3) := h
 clear h
 replace H := Option.bind_eq_some_iff.mp H
 obtain ⟨⟨t287, t288⟩, A20, H⟩ := H
 replace H : ((strings_CutPrefix.f t288 (⟨#[46, 119, 104, 46]⟩ : ByteArray)).bind fun bt289 => ((paths_is.f k a0).bind fun t291 => (if t291 = true then (if bt289.2 = true then (if t288.toList = ([46, 119, 104, 46, 46, 119, 104, 46, 46, 111, 112, 113] : List UInt8) then (some (2, t287, true)) else ((pq18.f bt289.1).bind fun t292 => (if t292 = true then (some (0, (⟨#[]⟩ : ByteArray), false)) else ((pq12.f bt289.1 (⟨#[46, 119, 104, 46]⟩ : ByteArray)).bind fun t293 => (if t293 = true then (some (0, (⟨#[]⟩ : ByteArray), false)) else ((paths_below.f t287 bt289.1).bind fun t294 => (some (1, t294, true)))))))) else (some (0, a0, true))) else (some (0, (⟨#[]⟩ : ByteArray), false))))) = some (r1, r2, r3) := H
 have A2 := Aside0.mk A20
 clear A20
 replace H := Option.bind_eq_some_iff.mp H
 obtain ⟨⟨t289, t290⟩, A30, H⟩ := H
 replace H : ((paths_is.f k a0).bind fun t291 => (if t291 = true then (if t290 = true then (if t288.toList = ([46, 119, 104, 46, 46, 119, 104, 46, 46, 111, 112, 113] : List UInt8) then (some (2, t287, true)) else ((pq18.f t289).bind fun t292 => (if t292 = true then (some (0, (⟨#[]⟩ : ByteArray), false)) else ((pq12.f t289 (⟨#[46, 119, 104, 46]⟩ : ByteArray)).bind fun t293 => (if t293 = true then (some (0, (⟨#[]⟩ : ByteArray), false)) else ((paths_below.f t287 t289).bind fun t294 => (some (1, t294, true)))))))) else (some (0, a0, true))) else (some (0, (⟨#[]⟩ : ByteArray), false)))) = some (r1, r2, r3) := H
 have A3 := Aside0.mk A30
 clear A30
 replace H := Option.bind_eq_some_iff.mp H
 obtain ⟨t291, A40, H⟩ := H
 replace H : (if t291 = true then (if t290 = true then (if t288.toList = ([46, 119, 104, 46, 46, 119, 104, 46, 46, 111, 112, 113] : List UInt8) then (some (2, t287, true)) else ((pq18.f t289).bind fun t292 => (if t292 = true then (some (0, (⟨#[]⟩ : ByteArray), false)) else ((pq12.f t289 (⟨#[46, 119, 104, 46]⟩ : ByteArray)).bind fun t293 => (if t293 = true then (some (0, (⟨#[]⟩ : ByteArray), false)) else ((paths_below.f t287 t289).bind fun t294 => (some (1, t294, true)))))))) else (some (0, a0, true))) else (some (0, (⟨#[]⟩ : ByteArray), false))) = some (r1, r2, r3) := H
 have A4 := Aside0.mk A40
 clear A40
 by_cases c5 : t291 = true
 ·subst c5
  have H1 : (if t290 = true then (if t288.toList = ([46, 119, 104, 46, 46, 119, 104, 46, 46, 111, 112, 113] : List UInt8) then (some (2, t287, true)) else ((pq18.f t289).bind fun t292 => (if t292 = true then (some (0, (⟨#[]⟩ : ByteArray), false)) else ((pq12.f t289 (⟨#[46, 119, 104, 46]⟩ : ByteArray)).bind fun t293 => (if t293 = true then (some (0, (⟨#[]⟩ : ByteArray), false)) else ((paths_below.f t287 t289).bind fun t294 => (some (1, t294, true)))))))) else (some (0, a0, true))) = some (r1, r2, r3) := by rw [if_pos rfl] at H; exact H
  clear H
  have H := H1
  clear H1
  by_cases c6 : t290 = true
  ·subst c6
   have H1 : (if t288.toList = ([46, 119, 104, 46, 46, 119, 104, 46, 46, 111, 112, 113] : List UInt8) then (some (2, t287, true)) else ((pq18.f t289).bind fun t292 => (if t292 = true then (some (0, (⟨#[]⟩ : ByteArray), false)) else ((pq12.f t289 (⟨#[46, 119, 104, 46]⟩ : ByteArray)).bind fun t293 => (if t293 = true then (some (0, (⟨#[]⟩ : ByteArray), false)) else ((paths_below.f t287 t289).bind fun t294 => (some (1, t294, true)))))))) = some (r1, r2, r3) := by rw [if_pos rfl] at H; exact H
   clear H
   have H := H1
   clear H1
   by_cases c7 : t288.toList = ([46, 119, 104, 46, 46, 119, 104, 46, 46, 111, 112, 113] : List UInt8)
   ·rw [if_pos c7] at H
    have c7b0 : (t288.toList == ([46, 119, 104, 46, 46, 119, 104, 46, 46, 111, 112, 113] : List UInt8)) = true := beq_iff_eq.mpr c7
    have c7b1 : (t288.toList != ([46, 119, 104, 46, 46, 119, 104, 46, 46, 111, 112, 113] : List UInt8)) = false := bne_eq_false_iff_eq.mpr c7
    clear c7
    simp only [Option.some.injEq, Prod.mk.injEq] at H
    obtain ⟨rfl, rfl, rfl⟩ := H
    go_enter Tryz.func58, Tryz.ntmps58
    go_wp2_with (first | ((with_reducible refine gate_callee (f := 55) rfl ?_); refine goesL_ (some 11) rfl rfl Tryz.func55 (by kernel_rfl) rfl #[.string a0] rfl (by (try simp only [List.map_toArray, List.map_cons, List.map_nil]); first | done | rfl | (simp only [List.length_drop, List.length_take]; rfl)) ?_; (with_reducible refine (paths_split.calls a0 t287 t288 _ A2.out).mono ?_); rintro e w8 ⟨rfl, hb⟩; refine ⟨_, rfl, ?_⟩; have n0_ := Aside0.mk (below_step (by repeat (first | (with_reducible first | exact HB.out | apply below_alloc | apply pw_below_drewN | apply below_drew1) | exact HB.out)) hb); clear HB; have HB := n0_; clear n0_; (try clear hb); (try clear hb2); (try clear hk); (try clear hi)) | ((with_reducible refine gate_callee (f := 91) rfl ?_); refine goesL_ (some 16) rfl rfl Tryz.func91 (by kernel_rfl) rfl #[.string t288, .string (⟨#[46, 119, 104, 46]⟩ : ByteArray)] rfl (by (try simp only [List.map_toArray, List.map_cons, List.map_nil]); first | done | rfl | (simp only [List.length_drop, List.length_take]; rfl)) ?_; (with_reducible refine (strings_CutPrefix.calls t288 (⟨#[46, 119, 104, 46]⟩ : ByteArray) t289 true _ A3.out).mono ?_); rintro e w' ⟨rfl, ⟨nd, rfl⟩⟩; refine ⟨_, rfl, ?_⟩) | ((with_reducible refine gate_callee (f := 92) rfl ?_); refine goesL_ (some 21) rfl rfl Tryz.func92 (by kernel_rfl) rfl #[.string a0] rfl (by (try simp only [List.map_toArray, List.map_cons, List.map_nil]); first | done | rfl | (simp only [List.length_drop, List.length_take]; rfl)) ?_; (with_reducible refine (paths_is.calls k a0 true _ (hG.ext (by repeat (first | (with_reducible first | exact HB.out | apply below_alloc | apply pw_below_drewN | apply below_drew1) | exact HB.out))) A4.out).mono ?_); rintro e w9 ⟨rfl, hb⟩; refine ⟨_, rfl, ?_⟩; have n0_ := Aside0.mk (below_step (by repeat (first | (with_reducible first | exact HB.out | apply below_alloc | apply pw_below_drewN | apply below_drew1) | exact HB.out)) hb); clear HB; have HB := n0_; clear n0_; (try clear hb); (try clear hb2); (try clear hk); (try clear hi)))
    go_ret3
    exact ⟨by first | rfl | (simp [errW_none, errW_some] <;> rfl) | (simp [*, errW_none, errW_some] <;> rfl), by repeat (first | (with_reducible first | exact HB.out | apply below_alloc | apply pw_below_drewN | apply below_drew1) | exact HB.out)⟩
   ·rw [if_neg c7] at H
    have c7b0 : (t288.toList == ([46, 119, 104, 46, 46, 119, 104, 46, 46, 111, 112, 113] : List UInt8)) = false := beq_eq_false_iff_ne.mpr c7
    have c7b1 : (t288.toList != ([46, 119, 104, 46, 46, 119, 104, 46, 46, 111, 112, 113] : List UInt8)) = true := bne_iff_ne.mpr c7
    replace H := Option.bind_eq_some_iff.mp H
    obtain ⟨t292, A100, H⟩ := H
    replace H : (if t292 = true then (some (0, (⟨#[]⟩ : ByteArray), false)) else ((pq12.f t289 (⟨#[46, 119, 104, 46]⟩ : ByteArray)).bind fun t293 => (if t293 = true then (some (0, (⟨#[]⟩ : ByteArray), false)) else ((paths_below.f t287 t289).bind fun t294 => (some (1, t294, true)))))) = some (r1, r2, r3) := H
    have A10 := Aside0.mk A100
    clear A100
    by_cases c11 : t292 = true
    ·subst c11
     have H1 : (some (0, (⟨#[]⟩ : ByteArray), false)) = some (r1, r2, r3) := by rw [if_pos rfl] at H; exact H
     clear H
     have H := H1
     clear H1
     simp only [Option.some.injEq, Prod.mk.injEq] at H
     obtain ⟨rfl, rfl, rfl⟩ := H
     go_enter Tryz.func58, Tryz.ntmps58
     go_wp2_with (first | ((with_reducible refine gate_callee (f := 55) rfl ?_); refine goesL_ (some 11) rfl rfl Tryz.func55 (by kernel_rfl) rfl #[.string a0] rfl (by (try simp only [List.map_toArray, List.map_cons, List.map_nil]); first | done | rfl | (simp only [List.length_drop, List.length_take]; rfl)) ?_; (with_reducible refine (paths_split.calls a0 t287 t288 _ A2.out).mono ?_); rintro e w12 ⟨rfl, hb⟩; refine ⟨_, rfl, ?_⟩; have n0_ := Aside0.mk (below_step (by repeat (first | (with_reducible first | exact HB.out | apply below_alloc | apply pw_below_drewN | apply below_drew1) | exact HB.out)) hb); clear HB; have HB := n0_; clear n0_; (try clear hb); (try clear hb2); (try clear hk); (try clear hi)) | ((with_reducible refine gate_callee (f := 91) rfl ?_); refine goesL_ (some 16) rfl rfl Tryz.func91 (by kernel_rfl) rfl #[.string t288, .string (⟨#[46, 119, 104, 46]⟩ : ByteArray)] rfl (by (try simp only [List.map_toArray, List.map_cons, List.map_nil]); first | done | rfl | (simp only [List.length_drop, List.length_take]; rfl)) ?_; (with_reducible refine (strings_CutPrefix.calls t288 (⟨#[46, 119, 104, 46]⟩ : ByteArray) t289 true _ A3.out).mono ?_); rintro e w' ⟨rfl, ⟨nd, rfl⟩⟩; refine ⟨_, rfl, ?_⟩) | ((with_reducible refine gate_callee (f := 92) rfl ?_); refine goesL_ (some 21) rfl rfl Tryz.func92 (by kernel_rfl) rfl #[.string a0] rfl (by (try simp only [List.map_toArray, List.map_cons, List.map_nil]); first | done | rfl | (simp only [List.length_drop, List.length_take]; rfl)) ?_; (with_reducible refine (paths_is.calls k a0 true _ (hG.ext (by repeat (first | (with_reducible first | exact HB.out | apply below_alloc | apply pw_below_drewN | apply below_drew1) | exact HB.out))) A4.out).mono ?_); rintro e w13 ⟨rfl, hb⟩; refine ⟨_, rfl, ?_⟩; have n0_ := Aside0.mk (below_step (by repeat (first | (with_reducible first | exact HB.out | apply below_alloc | apply pw_below_drewN | apply below_drew1) | exact HB.out)) hb); clear HB; have HB := n0_; clear n0_; (try clear hb); (try clear hb2); (try clear hk); (try clear hi)) | ((with_reducible refine gate_callee (f := 93) rfl ?_); refine goesL_ (some 33) rfl rfl Tryz.func93 (by kernel_rfl) rfl #[.string t289] rfl (by (try simp only [List.map_toArray, List.map_cons, List.map_nil]); first | done | rfl | (simp only [List.length_drop, List.length_take]; rfl)) ?_; (with_reducible refine (pq18.calls t289 true _ A10.out).mono ?_); rintro e w' ⟨rfl, ⟨nd, rfl⟩⟩; refine ⟨_, rfl, ?_⟩))
     go_ret3
     exact ⟨by first | rfl | (simp [errW_none, errW_some] <;> rfl) | (simp [*, errW_none, errW_some] <;> rfl), by repeat (first | (with_reducible first | exact HB.out | apply below_alloc | apply pw_below_drewN | apply below_drew1) | exact HB.out)⟩
    ·replace c11 := Bool.eq_false_iff.mpr c11
     subst c11
     have H1 : ((pq12.f t289 (⟨#[46, 119, 104, 46]⟩ : ByteArray)).bind fun t293 => (if t293 = true then (some (0, (⟨#[]⟩ : ByteArray), false)) else ((paths_below.f t287 t289).bind fun t294 => (some (1, t294, true))))) = some (r1, r2, r3) := by rw [if_neg (show ¬ (false = true) by decide)] at H; exact H
     clear H
     have H := H1
     clear H1
     replace H := Option.bind_eq_some_iff.mp H
     obtain ⟨t293, A140, H⟩ := H
     replace H : (if t293 = true then (some (0, (⟨#[]⟩ : ByteArray), false)) else ((paths_below.f t287 t289).bind fun t294 => (some (1, t294, true)))) = some (r1, r2, r3) := H
     have A14 := Aside0.mk A140
     clear A140
     by_cases c15 : t293 = true
     ·subst c15
      have H1 : (some (0, (⟨#[]⟩ : ByteArray), false)) = some (r1, r2, r3) := by rw [if_pos rfl] at H; exact H
      clear H
      have H := H1
      clear H1
      simp only [Option.some.injEq, Prod.mk.injEq] at H
      obtain ⟨rfl, rfl, rfl⟩ := H
      go_enter Tryz.func58, Tryz.ntmps58
      go_wp2_with (first | ((with_reducible refine gate_callee (f := 55) rfl ?_); refine goesL_ (some 11) rfl rfl Tryz.func55 (by kernel_rfl) rfl #[.string a0] rfl (by (try simp only [List.map_toArray, List.map_cons, List.map_nil]); first | done | rfl | (simp only [List.length_drop, List.length_take]; rfl)) ?_; (with_reducible refine (paths_split.calls a0 t287 t288 _ A2.out).mono ?_); rintro e w16 ⟨rfl, hb⟩; refine ⟨_, rfl, ?_⟩; have n0_ := Aside0.mk (below_step (by repeat (first | (with_reducible first | exact HB.out | apply below_alloc | apply pw_below_drewN | apply below_drew1) | exact HB.out)) hb); clear HB; have HB := n0_; clear n0_; (try clear hb); (try clear hb2); (try clear hk); (try clear hi)) | ((with_reducible refine gate_callee (f := 91) rfl ?_); refine goesL_ (some 16) rfl rfl Tryz.func91 (by kernel_rfl) rfl #[.string t288, .string (⟨#[46, 119, 104, 46]⟩ : ByteArray)] rfl (by (try simp only [List.map_toArray, List.map_cons, List.map_nil]); first | done | rfl | (simp only [List.length_drop, List.length_take]; rfl)) ?_; (with_reducible refine (strings_CutPrefix.calls t288 (⟨#[46, 119, 104, 46]⟩ : ByteArray) t289 true _ A3.out).mono ?_); rintro e w' ⟨rfl, ⟨nd, rfl⟩⟩; refine ⟨_, rfl, ?_⟩) | ((with_reducible refine gate_callee (f := 92) rfl ?_); refine goesL_ (some 21) rfl rfl Tryz.func92 (by kernel_rfl) rfl #[.string a0] rfl (by (try simp only [List.map_toArray, List.map_cons, List.map_nil]); first | done | rfl | (simp only [List.length_drop, List.length_take]; rfl)) ?_; (with_reducible refine (paths_is.calls k a0 true _ (hG.ext (by repeat (first | (with_reducible first | exact HB.out | apply below_alloc | apply pw_below_drewN | apply below_drew1) | exact HB.out))) A4.out).mono ?_); rintro e w17 ⟨rfl, hb⟩; refine ⟨_, rfl, ?_⟩; have n0_ := Aside0.mk (below_step (by repeat (first | (with_reducible first | exact HB.out | apply below_alloc | apply pw_below_drewN | apply below_drew1) | exact HB.out)) hb); clear HB; have HB := n0_; clear n0_; (try clear hb); (try clear hb2); (try clear hk); (try clear hi)) | ((with_reducible refine gate_callee (f := 93) rfl ?_); refine goesL_ (some 33) rfl rfl Tryz.func93 (by kernel_rfl) rfl #[.string t289] rfl (by (try simp only [List.map_toArray, List.map_cons, List.map_nil]); first | done | rfl | (simp only [List.length_drop, List.length_take]; rfl)) ?_; (with_reducible refine (pq18.calls t289 false _ A10.out).mono ?_); rintro e w' ⟨rfl, ⟨nd, rfl⟩⟩; refine ⟨_, rfl, ?_⟩) | (go_at_call 51; (with_reducible refine (pq12.calls t289 (⟨#[46, 119, 104, 46]⟩ : ByteArray) true _ A14.out).mono ?_); rintro e w' ⟨rfl, ⟨nd, rfl⟩⟩))
      go_ret3
      exact ⟨by first | rfl | (simp [errW_none, errW_some] <;> rfl) | (simp [*, errW_none, errW_some] <;> rfl), by repeat (first | (with_reducible first | exact HB.out | apply below_alloc | apply pw_below_drewN | apply below_drew1) | exact HB.out)⟩
     ·replace c15 := Bool.eq_false_iff.mpr c15
      subst c15
      have H1 : ((paths_below.f t287 t289).bind fun t294 => (some (1, t294, true))) = some (r1, r2, r3) := by rw [if_neg (show ¬ (false = true) by decide)] at H; exact H
      clear H
      have H := H1
      clear H1
      replace H := Option.bind_eq_some_iff.mp H
      obtain ⟨t294, A180, H⟩ := H
      replace H : (some (1, t294, true)) = some (r1, r2, r3) := H
      have A18 := Aside0.mk A180
      clear A180
      simp only [Option.some.injEq, Prod.mk.injEq] at H
      obtain ⟨rfl, rfl, rfl⟩ := H
      go_enter Tryz.func58, Tryz.ntmps58
      go_wp2_with (first | ((with_reducible refine gate_callee (f := 55) rfl ?_); refine goesL_ (some 11) rfl rfl Tryz.func55 (by kernel_rfl) rfl #[.string a0] rfl (by (try simp only [List.map_toArray, List.map_cons, List.map_nil]); first | done | rfl | (simp only [List.length_drop, List.length_take]; rfl)) ?_; (with_reducible refine (paths_split.calls a0 t287 t288 _ A2.out).mono ?_); rintro e w19 ⟨rfl, hb⟩; refine ⟨_, rfl, ?_⟩; have n0_ := Aside0.mk (below_step (by repeat (first | (with_reducible first | exact HB.out | apply below_alloc | apply pw_below_drewN | apply below_drew1) | exact HB.out)) hb); clear HB; have HB := n0_; clear n0_; (try clear hb); (try clear hb2); (try clear hk); (try clear hi)) | ((with_reducible refine gate_callee (f := 91) rfl ?_); refine goesL_ (some 16) rfl rfl Tryz.func91 (by kernel_rfl) rfl #[.string t288, .string (⟨#[46, 119, 104, 46]⟩ : ByteArray)] rfl (by (try simp only [List.map_toArray, List.map_cons, List.map_nil]); first | done | rfl | (simp only [List.length_drop, List.length_take]; rfl)) ?_; (with_reducible refine (strings_CutPrefix.calls t288 (⟨#[46, 119, 104, 46]⟩ : ByteArray) t289 true _ A3.out).mono ?_); rintro e w' ⟨rfl, ⟨nd, rfl⟩⟩; refine ⟨_, rfl, ?_⟩) | ((with_reducible refine gate_callee (f := 92) rfl ?_); refine goesL_ (some 21) rfl rfl Tryz.func92 (by kernel_rfl) rfl #[.string a0] rfl (by (try simp only [List.map_toArray, List.map_cons, List.map_nil]); first | done | rfl | (simp only [List.length_drop, List.length_take]; rfl)) ?_; (with_reducible refine (paths_is.calls k a0 true _ (hG.ext (by repeat (first | (with_reducible first | exact HB.out | apply below_alloc | apply pw_below_drewN | apply below_drew1) | exact HB.out))) A4.out).mono ?_); rintro e w20 ⟨rfl, hb⟩; refine ⟨_, rfl, ?_⟩; have n0_ := Aside0.mk (below_step (by repeat (first | (with_reducible first | exact HB.out | apply below_alloc | apply pw_below_drewN | apply below_drew1) | exact HB.out)) hb); clear HB; have HB := n0_; clear n0_; (try clear hb); (try clear hb2); (try clear hk); (try clear hi)) | ((with_reducible refine gate_callee (f := 93) rfl ?_); refine goesL_ (some 33) rfl rfl Tryz.func93 (by kernel_rfl) rfl #[.string t289] rfl (by (try simp only [List.map_toArray, List.map_cons, List.map_nil]); first | done | rfl | (simp only [List.length_drop, List.length_take]; rfl)) ?_; (with_reducible refine (pq18.calls t289 false _ A10.out).mono ?_); rintro e w' ⟨rfl, ⟨nd, rfl⟩⟩; refine ⟨_, rfl, ?_⟩) | (go_at_call 51; (with_reducible refine (pq12.calls t289 (⟨#[46, 119, 104, 46]⟩ : ByteArray) false _ A14.out).mono ?_); rintro e w' ⟨rfl, ⟨nd, rfl⟩⟩) | ((with_reducible refine gate_callee (f := 83) rfl ?_); refine goesL_ (some 40) rfl rfl Tryz.func83 (by kernel_rfl) rfl #[.string t287, .string t289] rfl (by (try simp only [List.map_toArray, List.map_cons, List.map_nil]); first | done | rfl | (simp only [List.length_drop, List.length_take]; rfl)) ?_; (with_reducible refine (paths_below.calls t287 t289 t294 _ A18.out).mono ?_); rintro e w' ⟨rfl, ⟨nd, rfl⟩⟩; refine ⟨_, rfl, ?_⟩))
      go_ret3
      exact ⟨by first | rfl | (simp [errW_none, errW_some] <;> rfl) | (simp [*, errW_none, errW_some] <;> rfl), by repeat (first | (with_reducible first | exact HB.out | apply below_alloc | apply pw_below_drewN | apply below_drew1) | exact HB.out)⟩
  ·replace c6 := Bool.eq_false_iff.mpr c6
   subst c6
   have H1 : (some (0, a0, true)) = some (r1, r2, r3) := by rw [if_neg (show ¬ (false = true) by decide)] at H; exact H
   clear H
   have H := H1
   clear H1
   simp only [Option.some.injEq, Prod.mk.injEq] at H
   obtain ⟨rfl, rfl, rfl⟩ := H
   go_enter Tryz.func58, Tryz.ntmps58
   go_wp2_with (first | ((with_reducible refine gate_callee (f := 55) rfl ?_); refine goesL_ (some 11) rfl rfl Tryz.func55 (by kernel_rfl) rfl #[.string a0] rfl (by (try simp only [List.map_toArray, List.map_cons, List.map_nil]); first | done | rfl | (simp only [List.length_drop, List.length_take]; rfl)) ?_; (with_reducible refine (paths_split.calls a0 t287 t288 _ A2.out).mono ?_); rintro e w21 ⟨rfl, hb⟩; refine ⟨_, rfl, ?_⟩; have n0_ := Aside0.mk (below_step (by repeat (first | (with_reducible first | exact HB.out | apply below_alloc | apply pw_below_drewN | apply below_drew1) | exact HB.out)) hb); clear HB; have HB := n0_; clear n0_; (try clear hb); (try clear hb2); (try clear hk); (try clear hi)) | ((with_reducible refine gate_callee (f := 91) rfl ?_); refine goesL_ (some 16) rfl rfl Tryz.func91 (by kernel_rfl) rfl #[.string t288, .string (⟨#[46, 119, 104, 46]⟩ : ByteArray)] rfl (by (try simp only [List.map_toArray, List.map_cons, List.map_nil]); first | done | rfl | (simp only [List.length_drop, List.length_take]; rfl)) ?_; (with_reducible refine (strings_CutPrefix.calls t288 (⟨#[46, 119, 104, 46]⟩ : ByteArray) t289 false _ A3.out).mono ?_); rintro e w' ⟨rfl, ⟨nd, rfl⟩⟩; refine ⟨_, rfl, ?_⟩) | ((with_reducible refine gate_callee (f := 92) rfl ?_); refine goesL_ (some 21) rfl rfl Tryz.func92 (by kernel_rfl) rfl #[.string a0] rfl (by (try simp only [List.map_toArray, List.map_cons, List.map_nil]); first | done | rfl | (simp only [List.length_drop, List.length_take]; rfl)) ?_; (with_reducible refine (paths_is.calls k a0 true _ (hG.ext (by repeat (first | (with_reducible first | exact HB.out | apply below_alloc | apply pw_below_drewN | apply below_drew1) | exact HB.out))) A4.out).mono ?_); rintro e w22 ⟨rfl, hb⟩; refine ⟨_, rfl, ?_⟩; have n0_ := Aside0.mk (below_step (by repeat (first | (with_reducible first | exact HB.out | apply below_alloc | apply pw_below_drewN | apply below_drew1) | exact HB.out)) hb); clear HB; have HB := n0_; clear n0_; (try clear hb); (try clear hb2); (try clear hk); (try clear hi)))
   go_ret3
   exact ⟨by first | rfl | (simp [errW_none, errW_some] <;> rfl) | (simp [*, errW_none, errW_some] <;> rfl), by repeat (first | (with_reducible first | exact HB.out | apply below_alloc | apply pw_below_drewN | apply below_drew1) | exact HB.out)⟩
 ·replace c5 := Bool.eq_false_iff.mpr c5
  subst c5
  have H1 : (some (0, (⟨#[]⟩ : ByteArray), false)) = some (r1, r2, r3) := by rw [if_neg (show ¬ (false = true) by decide)] at H; exact H
  clear H
  have H := H1
  clear H1
  simp only [Option.some.injEq, Prod.mk.injEq] at H
  obtain ⟨rfl, rfl, rfl⟩ := H
  go_enter Tryz.func58, Tryz.ntmps58
  go_wp2_with (first | ((with_reducible refine gate_callee (f := 55) rfl ?_); refine goesL_ (some 11) rfl rfl Tryz.func55 (by kernel_rfl) rfl #[.string a0] rfl (by (try simp only [List.map_toArray, List.map_cons, List.map_nil]); first | done | rfl | (simp only [List.length_drop, List.length_take]; rfl)) ?_; (with_reducible refine (paths_split.calls a0 t287 t288 _ A2.out).mono ?_); rintro e w23 ⟨rfl, hb⟩; refine ⟨_, rfl, ?_⟩; have n0_ := Aside0.mk (below_step (by repeat (first | (with_reducible first | exact HB.out | apply below_alloc | apply pw_below_drewN | apply below_drew1) | exact HB.out)) hb); clear HB; have HB := n0_; clear n0_; (try clear hb); (try clear hb2); (try clear hk); (try clear hi)) | ((with_reducible refine gate_callee (f := 91) rfl ?_); refine goesL_ (some 16) rfl rfl Tryz.func91 (by kernel_rfl) rfl #[.string t288, .string (⟨#[46, 119, 104, 46]⟩ : ByteArray)] rfl (by (try simp only [List.map_toArray, List.map_cons, List.map_nil]); first | done | rfl | (simp only [List.length_drop, List.length_take]; rfl)) ?_; (with_reducible refine (strings_CutPrefix.calls t288 (⟨#[46, 119, 104, 46]⟩ : ByteArray) t289 t290 _ A3.out).mono ?_); rintro e w' ⟨rfl, ⟨nd, rfl⟩⟩; refine ⟨_, rfl, ?_⟩) | ((with_reducible refine gate_callee (f := 92) rfl ?_); refine goesL_ (some 21) rfl rfl Tryz.func92 (by kernel_rfl) rfl #[.string a0] rfl (by (try simp only [List.map_toArray, List.map_cons, List.map_nil]); first | done | rfl | (simp only [List.length_drop, List.length_take]; rfl)) ?_; (with_reducible refine (paths_is.calls k a0 false _ (hG.ext (by repeat (first | (with_reducible first | exact HB.out | apply below_alloc | apply pw_below_drewN | apply below_drew1) | exact HB.out))) A4.out).mono ?_); rintro e w24 ⟨rfl, hb⟩; refine ⟨_, rfl, ?_⟩; have n0_ := Aside0.mk (below_step (by repeat (first | (with_reducible first | exact HB.out | apply below_alloc | apply pw_below_drewN | apply below_drew1) | exact HB.out)) hb); clear HB; have HB := n0_; clear n0_; (try clear hb); (try clear hb2); (try clear hk); (try clear hi)))
  go_ret3
  exact ⟨by first | rfl | (simp [errW_none, errW_some] <;> rfl) | (simp [*, errW_none, errW_some] <;> rfl), by repeat (first | (with_reducible first | exact HB.out | apply below_alloc | apply pw_below_drewN | apply below_drew1) | exact HB.out)⟩
end Go.Proofs.YtdkjinmkallhnaaGreatDoorQ
end
section
namespace Go.Proofs.YtdkjinmkallhnaaGreatDoorQ
open Go.RowKit Go.Proofs.YtdkjinmkallhnaaGreatDoorW.PrintWords Go.Proofs.YtdkjinmkallhnaaGreatDoorW.PrintLast Go.Proofs.YtdkjinmkallhnaaGreatDoorW.PrintMore
open Go.Proofs.YtdkjinmkallhnaaGreatDoor (GL)
attribute [local go_sem] max2_int min2_int max_two min_two max_three min_three max_four min_four
def paths_Unmark.f (k : Nat) (a0 : Int) (a1 : ByteArray) : Option (ByteArray × Bool) := if a0 = 1 then ((paths_split.f a1).bind fun bt301 => (if 4 + bt301.2.size ≤ 9223372036854775807 then ((paths_below.f bt301.1 ((⟨#[46, 119, 104, 46]⟩ : ByteArray) ++ bt301.2)).bind fun t303 => ((paths_Mark.f k t303).bind fun bt304 => (if bt304.2.2 = true then (if bt304.1 = a0 then (if bt304.2.1.toList = a1.toList then (some (t303, true)) else (some ((⟨#[]⟩ : ByteArray), false))) else (some ((⟨#[]⟩ : ByteArray), false))) else (some ((⟨#[]⟩ : ByteArray), false))))) else (none))) else (if a0 = 2 then ((paths_below.f a1 (⟨#[46, 119, 104, 46, 46, 119, 104, 46, 46, 111, 112, 113]⟩ : ByteArray)).bind fun t307 => ((paths_Mark.f k t307).bind fun bt308 => (if bt308.2.2 = true then (if bt308.1 = a0 then (if bt308.2.1.toList = a1.toList then (some (t307, true)) else (some ((⟨#[]⟩ : ByteArray), false))) else (some ((⟨#[]⟩ : ByteArray), false))) else (some ((⟨#[]⟩ : ByteArray), false))))) else ((paths_Mark.f k a1).bind fun bt311 => (if bt311.2.2 = true then (if bt311.1 = a0 then (if bt311.2.1.toList = a1.toList then (some (a1, true)) else (some ((⟨#[]⟩ : ByteArray), false))) else (some ((⟨#[]⟩ : ByteArray), false))) else (some ((⟨#[]⟩ : ByteArray), false)))))
set_option maxHeartbeats 8000000 in
set_option maxRecDepth 100000 in
theorem paths_Unmark.calls (k : Nat) (a0 : Int) (a1 : ByteArray) (r1 : ByteArray) (r2 : Bool) (w : World) (hG : GL w) (h : paths_Unmark.f k a0 a1 = some (r1, r2)) :
  Calls Tryz.prog 52 #[.int .i64 a0, .string a1] w fun e w' => e = .returned (.tuple #[.string r1, .bool r2]) ∧ Below w.heap.size w w' := by
 have HB := Aside0.mk (Below.refl w.heap.size w)
 have H : (if a0 = 1 then ((paths_split.f a1).bind fun bt301 => (if 4 + bt301.2.size ≤ 9223372036854775807 then ((paths_below.f bt301.1 ((⟨#[46, 119, 104, 46]⟩ : ByteArray) ++ bt301.2)).bind fun t303 => ((paths_Mark.f k t303).bind fun bt304 => (if bt304.2.2 = true then (if bt304.1 = a0 then (if bt304.2.1.toList = a1.toList then (some (t303, true)) else (some ((⟨#[]⟩ : ByteArray), false))) else (some ((⟨#[]⟩ : ByteArray), false))) else (some ((⟨#[]⟩ : ByteArray), false))))) else (none))) else (if a0 = 2 then ((paths_below.f a1 (⟨#[46, 119, 104, 46, 46, 119, 104, 46, 46, 111, 112, 113]⟩ : ByteArray)).bind fun t307 => ((paths_Mark.f k t307).bind fun bt308 => (if bt308.2.2 = true then (if bt308.1 = a0 then (if bt308.2.1.toList = a1.toList then (some (t307, true)) else (some ((⟨#[]⟩ : ByteArray), false))) else (some ((⟨#[]⟩ : ByteArray), false))) else (some ((⟨#[]⟩ : ByteArray), false))))) else ((paths_Mark.f k a1).bind fun bt311 => (if bt311.2.2 = true then (if bt311.1 = a0 then (if bt311.2.1.toList = a1.toList then (some (a1, true)) else (some ((⟨#[]⟩ : ByteArray), false))) else (some ((⟨#[]⟩ : ByteArray), false))) else (some ((⟨#[]⟩ : ByteArray), false)))))) = some (r1, r2) := h
 clear h
 by_cases c3 : a0 = 1
 ·rw [if_pos c3] at H
  have c3b0 : (a0 == 1) = true := beq_iff_eq.mpr c3
  have c3b1 : (a0 != 1) = false := bne_eq_false_iff_eq.mpr c3
  clear c3
  replace H := Option.bind_eq_some_iff.mp H
  obtain ⟨⟨t301, t302⟩, A40, H⟩ := H
  replace H : (if 4 + t302.size ≤ 9223372036854775807 then ((paths_below.f t301 ((⟨#[46, 119, 104, 46]⟩ : ByteArray) ++ t302)).bind fun t303 => ((paths_Mark.f k t303).bind fun bt304 => (if bt304.2.2 = true then (if bt304.1 = a0 then (if bt304.2.1.toList = a1.toList then (some (t303, true)) else (some ((⟨#[]⟩ : ByteArray), false))) else (some ((⟨#[]⟩ : ByteArray), false))) else (some ((⟨#[]⟩ : ByteArray), false))))) else (none)) = some (r1, r2) := H
  have A4 := Aside0.mk A40
  clear A40
  by_cases c5 : 4 + t302.size ≤ 9223372036854775807
  ·rw [if_pos c5] at H
   have c5b0 := eq_true c5
   have c5b1 : decide (4 + t302.size ≤ 9223372036854775807) = true := decide_eq_true c5
   try have c5b2 : (9223372036854775807 < 4 + t302.size) = False := eq_false (Nat.not_lt.2 c5)
   replace H := Option.bind_eq_some_iff.mp H
   obtain ⟨t303, A60, H⟩ := H
   replace H : ((paths_Mark.f k t303).bind fun bt304 => (if bt304.2.2 = true then (if bt304.1 = a0 then (if bt304.2.1.toList = a1.toList then (some (t303, true)) else (some ((⟨#[]⟩ : ByteArray), false))) else (some ((⟨#[]⟩ : ByteArray), false))) else (some ((⟨#[]⟩ : ByteArray), false)))) = some (r1, r2) := H
   have A6 := Aside0.mk A60
   clear A60
   replace H := Option.bind_eq_some_iff.mp H
   obtain ⟨⟨t304, t305, t306⟩, A70, H⟩ := H
   replace H : (if t306 = true then (if t304 = a0 then (if t305.toList = a1.toList then (some (t303, true)) else (some ((⟨#[]⟩ : ByteArray), false))) else (some ((⟨#[]⟩ : ByteArray), false))) else (some ((⟨#[]⟩ : ByteArray), false))) = some (r1, r2) := H
   have A7 := Aside0.mk A70
   clear A70
   by_cases c8 : t306 = true
   ·subst c8
    have H1 : (if t304 = a0 then (if t305.toList = a1.toList then (some (t303, true)) else (some ((⟨#[]⟩ : ByteArray), false))) else (some ((⟨#[]⟩ : ByteArray), false))) = some (r1, r2) := by rw [if_pos rfl] at H; exact H
    clear H
    have H := H1
    clear H1
    by_cases c9 : t304 = a0
    ·rw [if_pos c9] at H
     have c9b0 : (t304 == a0) = true := beq_iff_eq.mpr c9
     have c9b1 : (t304 != a0) = false := bne_eq_false_iff_eq.mpr c9
     clear c9
     by_cases c10 : t305.toList = a1.toList
     ·rw [if_pos c10] at H
      have c10b0 : (t305.toList == a1.toList) = true := beq_iff_eq.mpr c10
      have c10b1 : (t305.toList != a1.toList) = false := bne_eq_false_iff_eq.mpr c10
      clear c10
      simp only [Option.some.injEq, Prod.mk.injEq] at H
      obtain ⟨rfl, rfl⟩ := H
      go_enter Tryz.func52, Tryz.ntmps52
      go_wp2_with (first | ((with_reducible refine gate_callee (f := 55) rfl ?_); refine goesL_ (some 18) rfl rfl Tryz.func55 (by kernel_rfl) rfl #[.string a1] rfl (by (try simp only [List.map_toArray, List.map_cons, List.map_nil]); first | done | rfl | (simp only [List.length_drop, List.length_take]; rfl)) ?_; (with_reducible refine (paths_split.calls a1 t301 t302 _ A4.out).mono ?_); rintro e w11 ⟨rfl, hb⟩; refine ⟨_, rfl, ?_⟩; have n0_ := Aside0.mk (below_step (by repeat (first | (with_reducible first | exact HB.out | apply below_alloc | apply pw_below_drewN | apply below_drew1) | exact HB.out)) hb); clear HB; have HB := n0_; clear n0_; (try clear hb); (try clear hb2); (try clear hk); (try clear hi)) | ((with_reducible refine gate_callee (f := 83) rfl ?_); refine goesL_ (some 24) rfl rfl Tryz.func83 (by kernel_rfl) rfl #[.string t301, .string ((⟨#[46, 119, 104, 46]⟩ : ByteArray) ++ t302)] rfl (by (try simp only [List.map_toArray, List.map_cons, List.map_nil]); first | done | rfl | (simp only [List.length_drop, List.length_take]; rfl)) ?_; (with_reducible refine (paths_below.calls t301 ((⟨#[46, 119, 104, 46]⟩ : ByteArray) ++ t302) t303 _ A6.out).mono ?_); rintro e w' ⟨rfl, ⟨nd, rfl⟩⟩; refine ⟨_, rfl, ?_⟩) | ((with_reducible refine gate_callee (f := 58) rfl ?_); refine goesL_ (some 31) rfl rfl Tryz.func58 (by kernel_rfl) rfl #[.string t303] rfl (by (try simp only [List.map_toArray, List.map_cons, List.map_nil]); first | done | rfl | (simp only [List.length_drop, List.length_take]; rfl)) ?_; (with_reducible refine (paths_Mark.calls k t303 t304 t305 true _ (hG.ext (by repeat (first | (with_reducible first | exact HB.out | apply below_alloc | apply pw_below_drewN | apply below_drew1) | exact HB.out))) A7.out).mono ?_); rintro e w12 ⟨rfl, hb⟩; refine ⟨_, rfl, ?_⟩; have n0_ := Aside0.mk (below_step (by repeat (first | (with_reducible first | exact HB.out | apply below_alloc | apply pw_below_drewN | apply below_drew1) | exact HB.out)) hb); clear HB; have HB := n0_; clear n0_; (try clear hb); (try clear hb2); (try clear hk); (try clear hi)))
      go_ret2
      exact ⟨by first | rfl | (simp [errW_none, errW_some] <;> rfl) | (simp [*, errW_none, errW_some] <;> rfl), by repeat (first | (with_reducible first | exact HB.out | apply below_alloc | apply pw_below_drewN | apply below_drew1) | exact HB.out)⟩
     ·rw [if_neg c10] at H
      have c10b0 : (t305.toList == a1.toList) = false := beq_eq_false_iff_ne.mpr c10
      have c10b1 : (t305.toList != a1.toList) = true := bne_iff_ne.mpr c10
      simp only [Option.some.injEq, Prod.mk.injEq] at H
      obtain ⟨rfl, rfl⟩ := H
      go_enter Tryz.func52, Tryz.ntmps52
      go_wp2_with (first | ((with_reducible refine gate_callee (f := 55) rfl ?_); refine goesL_ (some 18) rfl rfl Tryz.func55 (by kernel_rfl) rfl #[.string a1] rfl (by (try simp only [List.map_toArray, List.map_cons, List.map_nil]); first | done | rfl | (simp only [List.length_drop, List.length_take]; rfl)) ?_; (with_reducible refine (paths_split.calls a1 t301 t302 _ A4.out).mono ?_); rintro e w13 ⟨rfl, hb⟩; refine ⟨_, rfl, ?_⟩; have n0_ := Aside0.mk (below_step (by repeat (first | (with_reducible first | exact HB.out | apply below_alloc | apply pw_below_drewN | apply below_drew1) | exact HB.out)) hb); clear HB; have HB := n0_; clear n0_; (try clear hb); (try clear hb2); (try clear hk); (try clear hi)) | ((with_reducible refine gate_callee (f := 83) rfl ?_); refine goesL_ (some 24) rfl rfl Tryz.func83 (by kernel_rfl) rfl #[.string t301, .string ((⟨#[46, 119, 104, 46]⟩ : ByteArray) ++ t302)] rfl (by (try simp only [List.map_toArray, List.map_cons, List.map_nil]); first | done | rfl | (simp only [List.length_drop, List.length_take]; rfl)) ?_; (with_reducible refine (paths_below.calls t301 ((⟨#[46, 119, 104, 46]⟩ : ByteArray) ++ t302) t303 _ A6.out).mono ?_); rintro e w' ⟨rfl, ⟨nd, rfl⟩⟩; refine ⟨_, rfl, ?_⟩) | ((with_reducible refine gate_callee (f := 58) rfl ?_); refine goesL_ (some 31) rfl rfl Tryz.func58 (by kernel_rfl) rfl #[.string t303] rfl (by (try simp only [List.map_toArray, List.map_cons, List.map_nil]); first | done | rfl | (simp only [List.length_drop, List.length_take]; rfl)) ?_; (with_reducible refine (paths_Mark.calls k t303 t304 t305 true _ (hG.ext (by repeat (first | (with_reducible first | exact HB.out | apply below_alloc | apply pw_below_drewN | apply below_drew1) | exact HB.out))) A7.out).mono ?_); rintro e w14 ⟨rfl, hb⟩; refine ⟨_, rfl, ?_⟩; have n0_ := Aside0.mk (below_step (by repeat (first | (with_reducible first | exact HB.out | apply below_alloc | apply pw_below_drewN | apply below_drew1) | exact HB.out)) hb); clear HB; have HB := n0_; clear n0_; (try clear hb); (try clear hb2); (try clear hk); (try clear hi)))
      go_ret2
      exact ⟨by first | rfl | (simp [errW_none, errW_some] <;> rfl) | (simp [*, errW_none, errW_some] <;> rfl), by repeat (first | (with_reducible first | exact HB.out | apply below_alloc | apply pw_below_drewN | apply below_drew1) | exact HB.out)⟩
    ·rw [if_neg c9] at H
     have c9b0 : (t304 == a0) = false := beq_eq_false_iff_ne.mpr c9
     have c9b1 : (t304 != a0) = true := bne_iff_ne.mpr c9
     simp only [Option.some.injEq, Prod.mk.injEq] at H
     obtain ⟨rfl, rfl⟩ := H
     go_enter Tryz.func52, Tryz.ntmps52
     go_wp2_with (first | ((with_reducible refine gate_callee (f := 55) rfl ?_); refine goesL_ (some 18) rfl rfl Tryz.func55 (by kernel_rfl) rfl #[.string a1] rfl (by (try simp only [List.map_toArray, List.map_cons, List.map_nil]); first | done | rfl | (simp only [List.length_drop, List.length_take]; rfl)) ?_; (with_reducible refine (paths_split.calls a1 t301 t302 _ A4.out).mono ?_); rintro e w15 ⟨rfl, hb⟩; refine ⟨_, rfl, ?_⟩; have n0_ := Aside0.mk (below_step (by repeat (first | (with_reducible first | exact HB.out | apply below_alloc | apply pw_below_drewN | apply below_drew1) | exact HB.out)) hb); clear HB; have HB := n0_; clear n0_; (try clear hb); (try clear hb2); (try clear hk); (try clear hi)) | ((with_reducible refine gate_callee (f := 83) rfl ?_); refine goesL_ (some 24) rfl rfl Tryz.func83 (by kernel_rfl) rfl #[.string t301, .string ((⟨#[46, 119, 104, 46]⟩ : ByteArray) ++ t302)] rfl (by (try simp only [List.map_toArray, List.map_cons, List.map_nil]); first | done | rfl | (simp only [List.length_drop, List.length_take]; rfl)) ?_; (with_reducible refine (paths_below.calls t301 ((⟨#[46, 119, 104, 46]⟩ : ByteArray) ++ t302) t303 _ A6.out).mono ?_); rintro e w' ⟨rfl, ⟨nd, rfl⟩⟩; refine ⟨_, rfl, ?_⟩) | ((with_reducible refine gate_callee (f := 58) rfl ?_); refine goesL_ (some 31) rfl rfl Tryz.func58 (by kernel_rfl) rfl #[.string t303] rfl (by (try simp only [List.map_toArray, List.map_cons, List.map_nil]); first | done | rfl | (simp only [List.length_drop, List.length_take]; rfl)) ?_; (with_reducible refine (paths_Mark.calls k t303 t304 t305 true _ (hG.ext (by repeat (first | (with_reducible first | exact HB.out | apply below_alloc | apply pw_below_drewN | apply below_drew1) | exact HB.out))) A7.out).mono ?_); rintro e w16 ⟨rfl, hb⟩; refine ⟨_, rfl, ?_⟩; have n0_ := Aside0.mk (below_step (by repeat (first | (with_reducible first | exact HB.out | apply below_alloc | apply pw_below_drewN | apply below_drew1) | exact HB.out)) hb); clear HB; have HB := n0_; clear n0_; (try clear hb); (try clear hb2); (try clear hk); (try clear hi)))
     go_ret2
     exact ⟨by first | rfl | (simp [errW_none, errW_some] <;> rfl) | (simp [*, errW_none, errW_some] <;> rfl), by repeat (first | (with_reducible first | exact HB.out | apply below_alloc | apply pw_below_drewN | apply below_drew1) | exact HB.out)⟩
   ·replace c8 := Bool.eq_false_iff.mpr c8
    subst c8
    have H1 : (some ((⟨#[]⟩ : ByteArray), false)) = some (r1, r2) := by rw [if_neg (show ¬ (false = true) by decide)] at H; exact H
    clear H
    have H := H1
    clear H1
    simp only [Option.some.injEq, Prod.mk.injEq] at H
    obtain ⟨rfl, rfl⟩ := H
    go_enter Tryz.func52, Tryz.ntmps52
    go_wp2_with (first | ((with_reducible refine gate_callee (f := 55) rfl ?_); refine goesL_ (some 18) rfl rfl Tryz.func55 (by kernel_rfl) rfl #[.string a1] rfl (by (try simp only [List.map_toArray, List.map_cons, List.map_nil]); first | done | rfl | (simp only [List.length_drop, List.length_take]; rfl)) ?_; (with_reducible refine (paths_split.calls a1 t301 t302 _ A4.out).mono ?_); rintro e w17 ⟨rfl, hb⟩; refine ⟨_, rfl, ?_⟩; have n0_ := Aside0.mk (below_step (by repeat (first | (with_reducible first | exact HB.out | apply below_alloc | apply pw_below_drewN | apply below_drew1) | exact HB.out)) hb); clear HB; have HB := n0_; clear n0_; (try clear hb); (try clear hb2); (try clear hk); (try clear hi)) | ((with_reducible refine gate_callee (f := 83) rfl ?_); refine goesL_ (some 24) rfl rfl Tryz.func83 (by kernel_rfl) rfl #[.string t301, .string ((⟨#[46, 119, 104, 46]⟩ : ByteArray) ++ t302)] rfl (by (try simp only [List.map_toArray, List.map_cons, List.map_nil]); first | done | rfl | (simp only [List.length_drop, List.length_take]; rfl)) ?_; (with_reducible refine (paths_below.calls t301 ((⟨#[46, 119, 104, 46]⟩ : ByteArray) ++ t302) t303 _ A6.out).mono ?_); rintro e w' ⟨rfl, ⟨nd, rfl⟩⟩; refine ⟨_, rfl, ?_⟩) | ((with_reducible refine gate_callee (f := 58) rfl ?_); refine goesL_ (some 31) rfl rfl Tryz.func58 (by kernel_rfl) rfl #[.string t303] rfl (by (try simp only [List.map_toArray, List.map_cons, List.map_nil]); first | done | rfl | (simp only [List.length_drop, List.length_take]; rfl)) ?_; (with_reducible refine (paths_Mark.calls k t303 t304 t305 false _ (hG.ext (by repeat (first | (with_reducible first | exact HB.out | apply below_alloc | apply pw_below_drewN | apply below_drew1) | exact HB.out))) A7.out).mono ?_); rintro e w18 ⟨rfl, hb⟩; refine ⟨_, rfl, ?_⟩; have n0_ := Aside0.mk (below_step (by repeat (first | (with_reducible first | exact HB.out | apply below_alloc | apply pw_below_drewN | apply below_drew1) | exact HB.out)) hb); clear HB; have HB := n0_; clear n0_; (try clear hb); (try clear hb2); (try clear hk); (try clear hi)))
    go_ret2
    exact ⟨by first | rfl | (simp [errW_none, errW_some] <;> rfl) | (simp [*, errW_none, errW_some] <;> rfl), by repeat (first | (with_reducible first | exact HB.out | apply below_alloc | apply pw_below_drewN | apply below_drew1) | exact HB.out)⟩
  ·rw [if_neg c5] at H
   exact absurd H (by simp)
 ·rw [if_neg c3] at H
  have c3b0 : (a0 == 1) = false := beq_eq_false_iff_ne.mpr c3
  have c3b1 : (a0 != 1) = true := bne_iff_ne.mpr c3
  by_cases c19 : a0 = 2
  ·rw [if_pos c19] at H
   have c19b0 : (a0 == 2) = true := beq_iff_eq.mpr c19
   have c19b1 : (a0 != 2) = false := bne_eq_false_iff_eq.mpr c19
   clear c19
   replace H := Option.bind_eq_some_iff.mp H
   obtain ⟨t307, A200, H⟩ := H
   replace H : ((paths_Mark.f k t307).bind fun bt308 => (if bt308.2.2 = true then (if bt308.1 = a0 then (if bt308.2.1.toList = a1.toList then (some (t307, true)) else (some ((⟨#[]⟩ : ByteArray), false))) else (some ((⟨#[]⟩ : ByteArray), false))) else (some ((⟨#[]⟩ : ByteArray), false)))) = some (r1, r2) := H
   have A20 := Aside0.mk A200
   clear A200
   replace H := Option.bind_eq_some_iff.mp H
   obtain ⟨⟨t308, t309, t310⟩, A210, H⟩ := H
   replace H : (if t310 = true then (if t308 = a0 then (if t309.toList = a1.toList then (some (t307, true)) else (some ((⟨#[]⟩ : ByteArray), false))) else (some ((⟨#[]⟩ : ByteArray), false))) else (some ((⟨#[]⟩ : ByteArray), false))) = some (r1, r2) := H
   have A21 := Aside0.mk A210
   clear A210
   by_cases c22 : t310 = true
   ·subst c22
    have H1 : (if t308 = a0 then (if t309.toList = a1.toList then (some (t307, true)) else (some ((⟨#[]⟩ : ByteArray), false))) else (some ((⟨#[]⟩ : ByteArray), false))) = some (r1, r2) := by rw [if_pos rfl] at H; exact H
    clear H
    have H := H1
    clear H1
    by_cases c23 : t308 = a0
    ·rw [if_pos c23] at H
     have c23b0 : (t308 == a0) = true := beq_iff_eq.mpr c23
     have c23b1 : (t308 != a0) = false := bne_eq_false_iff_eq.mpr c23
     clear c23
     by_cases c24 : t309.toList = a1.toList
     ·rw [if_pos c24] at H
      have c24b0 : (t309.toList == a1.toList) = true := beq_iff_eq.mpr c24
      have c24b1 : (t309.toList != a1.toList) = false := bne_eq_false_iff_eq.mpr c24
      clear c24
      simp only [Option.some.injEq, Prod.mk.injEq] at H
      obtain ⟨rfl, rfl⟩ := H
      go_enter Tryz.func52, Tryz.ntmps52
      go_wp2_with (first | ((with_reducible refine gate_callee (f := 83) rfl ?_); refine goesL_ (some 28) rfl rfl Tryz.func83 (by kernel_rfl) rfl #[.string a1, .string (⟨#[46, 119, 104, 46, 46, 119, 104, 46, 46, 111, 112, 113]⟩ : ByteArray)] rfl (by (try simp only [List.map_toArray, List.map_cons, List.map_nil]); first | done | rfl | (simp only [List.length_drop, List.length_take]; rfl)) ?_; (with_reducible refine (paths_below.calls a1 (⟨#[46, 119, 104, 46, 46, 119, 104, 46, 46, 111, 112, 113]⟩ : ByteArray) t307 _ A20.out).mono ?_); rintro e w' ⟨rfl, ⟨nd, rfl⟩⟩; refine ⟨_, rfl, ?_⟩) | ((with_reducible refine gate_callee (f := 58) rfl ?_); refine goesL_ (some 31) rfl rfl Tryz.func58 (by kernel_rfl) rfl #[.string t307] rfl (by (try simp only [List.map_toArray, List.map_cons, List.map_nil]); first | done | rfl | (simp only [List.length_drop, List.length_take]; rfl)) ?_; (with_reducible refine (paths_Mark.calls k t307 t308 t309 true _ (hG.ext (by repeat (first | (with_reducible first | exact HB.out | apply below_alloc | apply pw_below_drewN | apply below_drew1) | exact HB.out))) A21.out).mono ?_); rintro e w25 ⟨rfl, hb⟩; refine ⟨_, rfl, ?_⟩; have n0_ := Aside0.mk (below_step (by repeat (first | (with_reducible first | exact HB.out | apply below_alloc | apply pw_below_drewN | apply below_drew1) | exact HB.out)) hb); clear HB; have HB := n0_; clear n0_; (try clear hb); (try clear hb2); (try clear hk); (try clear hi)))
      go_ret2
      exact ⟨by first | rfl | (simp [errW_none, errW_some] <;> rfl) | (simp [*, errW_none, errW_some] <;> rfl), by repeat (first | (with_reducible first | exact HB.out | apply below_alloc | apply pw_below_drewN | apply below_drew1) | exact HB.out)⟩
     ·rw [if_neg c24] at H
      have c24b0 : (t309.toList == a1.toList) = false := beq_eq_false_iff_ne.mpr c24
      have c24b1 : (t309.toList != a1.toList) = true := bne_iff_ne.mpr c24
      simp only [Option.some.injEq, Prod.mk.injEq] at H
      obtain ⟨rfl, rfl⟩ := H
      go_enter Tryz.func52, Tryz.ntmps52
      go_wp2_with (first | ((with_reducible refine gate_callee (f := 83) rfl ?_); refine goesL_ (some 28) rfl rfl Tryz.func83 (by kernel_rfl) rfl #[.string a1, .string (⟨#[46, 119, 104, 46, 46, 119, 104, 46, 46, 111, 112, 113]⟩ : ByteArray)] rfl (by (try simp only [List.map_toArray, List.map_cons, List.map_nil]); first | done | rfl | (simp only [List.length_drop, List.length_take]; rfl)) ?_; (with_reducible refine (paths_below.calls a1 (⟨#[46, 119, 104, 46, 46, 119, 104, 46, 46, 111, 112, 113]⟩ : ByteArray) t307 _ A20.out).mono ?_); rintro e w' ⟨rfl, ⟨nd, rfl⟩⟩; refine ⟨_, rfl, ?_⟩) | ((with_reducible refine gate_callee (f := 58) rfl ?_); refine goesL_ (some 31) rfl rfl Tryz.func58 (by kernel_rfl) rfl #[.string t307] rfl (by (try simp only [List.map_toArray, List.map_cons, List.map_nil]); first | done | rfl | (simp only [List.length_drop, List.length_take]; rfl)) ?_; (with_reducible refine (paths_Mark.calls k t307 t308 t309 true _ (hG.ext (by repeat (first | (with_reducible first | exact HB.out | apply below_alloc | apply pw_below_drewN | apply below_drew1) | exact HB.out))) A21.out).mono ?_); rintro e w26 ⟨rfl, hb⟩; refine ⟨_, rfl, ?_⟩; have n0_ := Aside0.mk (below_step (by repeat (first | (with_reducible first | exact HB.out | apply below_alloc | apply pw_below_drewN | apply below_drew1) | exact HB.out)) hb); clear HB; have HB := n0_; clear n0_; (try clear hb); (try clear hb2); (try clear hk); (try clear hi)))
      go_ret2
      exact ⟨by first | rfl | (simp [errW_none, errW_some] <;> rfl) | (simp [*, errW_none, errW_some] <;> rfl), by repeat (first | (with_reducible first | exact HB.out | apply below_alloc | apply pw_below_drewN | apply below_drew1) | exact HB.out)⟩
    ·rw [if_neg c23] at H
     have c23b0 : (t308 == a0) = false := beq_eq_false_iff_ne.mpr c23
     have c23b1 : (t308 != a0) = true := bne_iff_ne.mpr c23
     simp only [Option.some.injEq, Prod.mk.injEq] at H
     obtain ⟨rfl, rfl⟩ := H
     go_enter Tryz.func52, Tryz.ntmps52
     go_wp2_with (first | ((with_reducible refine gate_callee (f := 83) rfl ?_); refine goesL_ (some 28) rfl rfl Tryz.func83 (by kernel_rfl) rfl #[.string a1, .string (⟨#[46, 119, 104, 46, 46, 119, 104, 46, 46, 111, 112, 113]⟩ : ByteArray)] rfl (by (try simp only [List.map_toArray, List.map_cons, List.map_nil]); first | done | rfl | (simp only [List.length_drop, List.length_take]; rfl)) ?_; (with_reducible refine (paths_below.calls a1 (⟨#[46, 119, 104, 46, 46, 119, 104, 46, 46, 111, 112, 113]⟩ : ByteArray) t307 _ A20.out).mono ?_); rintro e w' ⟨rfl, ⟨nd, rfl⟩⟩; refine ⟨_, rfl, ?_⟩) | ((with_reducible refine gate_callee (f := 58) rfl ?_); refine goesL_ (some 31) rfl rfl Tryz.func58 (by kernel_rfl) rfl #[.string t307] rfl (by (try simp only [List.map_toArray, List.map_cons, List.map_nil]); first | done | rfl | (simp only [List.length_drop, List.length_take]; rfl)) ?_; (with_reducible refine (paths_Mark.calls k t307 t308 t309 true _ (hG.ext (by repeat (first | (with_reducible first | exact HB.out | apply below_alloc | apply pw_below_drewN | apply below_drew1) | exact HB.out))) A21.out).mono ?_); rintro e w27 ⟨rfl, hb⟩; refine ⟨_, rfl, ?_⟩; have n0_ := Aside0.mk (below_step (by repeat (first | (with_reducible first | exact HB.out | apply below_alloc | apply pw_below_drewN | apply below_drew1) | exact HB.out)) hb); clear HB; have HB := n0_; clear n0_; (try clear hb); (try clear hb2); (try clear hk); (try clear hi)))
     go_ret2
     exact ⟨by first | rfl | (simp [errW_none, errW_some] <;> rfl) | (simp [*, errW_none, errW_some] <;> rfl), by repeat (first | (with_reducible first | exact HB.out | apply below_alloc | apply pw_below_drewN | apply below_drew1) | exact HB.out)⟩
   ·replace c22 := Bool.eq_false_iff.mpr c22
    subst c22
    have H1 : (some ((⟨#[]⟩ : ByteArray), false)) = some (r1, r2) := by rw [if_neg (show ¬ (false = true) by decide)] at H; exact H
    clear H
    have H := H1
    clear H1
    simp only [Option.some.injEq, Prod.mk.injEq] at H
    obtain ⟨rfl, rfl⟩ := H
    go_enter Tryz.func52, Tryz.ntmps52
    go_wp2_with (first | ((with_reducible refine gate_callee (f := 83) rfl ?_); refine goesL_ (some 28) rfl rfl Tryz.func83 (by kernel_rfl) rfl #[.string a1, .string (⟨#[46, 119, 104, 46, 46, 119, 104, 46, 46, 111, 112, 113]⟩ : ByteArray)] rfl (by (try simp only [List.map_toArray, List.map_cons, List.map_nil]); first | done | rfl | (simp only [List.length_drop, List.length_take]; rfl)) ?_; (with_reducible refine (paths_below.calls a1 (⟨#[46, 119, 104, 46, 46, 119, 104, 46, 46, 111, 112, 113]⟩ : ByteArray) t307 _ A20.out).mono ?_); rintro e w' ⟨rfl, ⟨nd, rfl⟩⟩; refine ⟨_, rfl, ?_⟩) | ((with_reducible refine gate_callee (f := 58) rfl ?_); refine goesL_ (some 31) rfl rfl Tryz.func58 (by kernel_rfl) rfl #[.string t307] rfl (by (try simp only [List.map_toArray, List.map_cons, List.map_nil]); first | done | rfl | (simp only [List.length_drop, List.length_take]; rfl)) ?_; (with_reducible refine (paths_Mark.calls k t307 t308 t309 false _ (hG.ext (by repeat (first | (with_reducible first | exact HB.out | apply below_alloc | apply pw_below_drewN | apply below_drew1) | exact HB.out))) A21.out).mono ?_); rintro e w28 ⟨rfl, hb⟩; refine ⟨_, rfl, ?_⟩; have n0_ := Aside0.mk (below_step (by repeat (first | (with_reducible first | exact HB.out | apply below_alloc | apply pw_below_drewN | apply below_drew1) | exact HB.out)) hb); clear HB; have HB := n0_; clear n0_; (try clear hb); (try clear hb2); (try clear hk); (try clear hi)))
    go_ret2
    exact ⟨by first | rfl | (simp [errW_none, errW_some] <;> rfl) | (simp [*, errW_none, errW_some] <;> rfl), by repeat (first | (with_reducible first | exact HB.out | apply below_alloc | apply pw_below_drewN | apply below_drew1) | exact HB.out)⟩
  ·rw [if_neg c19] at H
   have c19b0 : (a0 == 2) = false := beq_eq_false_iff_ne.mpr c19
   have c19b1 : (a0 != 2) = true := bne_iff_ne.mpr c19
   replace H := Option.bind_eq_some_iff.mp H
   obtain ⟨⟨t311, t312, t313⟩, A290, H⟩ := H
   replace H : (if t313 = true then (if t311 = a0 then (if t312.toList = a1.toList then (some (a1, true)) else (some ((⟨#[]⟩ : ByteArray), false))) else (some ((⟨#[]⟩ : ByteArray), false))) else (some ((⟨#[]⟩ : ByteArray), false))) = some (r1, r2) := H
   have A29 := Aside0.mk A290
   clear A290
   by_cases c30 : t313 = true
   ·subst c30
    have H1 : (if t311 = a0 then (if t312.toList = a1.toList then (some (a1, true)) else (some ((⟨#[]⟩ : ByteArray), false))) else (some ((⟨#[]⟩ : ByteArray), false))) = some (r1, r2) := by rw [if_pos rfl] at H; exact H
    clear H
    have H := H1
    clear H1
    by_cases c31 : t311 = a0
    ·rw [if_pos c31] at H
     have c31b0 : (t311 == a0) = true := beq_iff_eq.mpr c31
     have c31b1 : (t311 != a0) = false := bne_eq_false_iff_eq.mpr c31
     clear c31
     by_cases c32 : t312.toList = a1.toList
     ·rw [if_pos c32] at H
      have c32b0 : (t312.toList == a1.toList) = true := beq_iff_eq.mpr c32
      have c32b1 : (t312.toList != a1.toList) = false := bne_eq_false_iff_eq.mpr c32
      clear c32
      simp only [Option.some.injEq, Prod.mk.injEq] at H
      obtain ⟨rfl, rfl⟩ := H
      go_enter Tryz.func52, Tryz.ntmps52
      go_wp2_with (first | ((with_reducible refine gate_callee (f := 58) rfl ?_); refine goesL_ (some 31) rfl rfl Tryz.func58 (by kernel_rfl) rfl #[.string a1] rfl (by (try simp only [List.map_toArray, List.map_cons, List.map_nil]); first | done | rfl | (simp only [List.length_drop, List.length_take]; rfl)) ?_; (with_reducible refine (paths_Mark.calls k a1 t311 t312 true _ (hG.ext (by repeat (first | (with_reducible first | exact HB.out | apply below_alloc | apply pw_below_drewN | apply below_drew1) | exact HB.out))) A29.out).mono ?_); rintro e w33 ⟨rfl, hb⟩; refine ⟨_, rfl, ?_⟩; have n0_ := Aside0.mk (below_step (by repeat (first | (with_reducible first | exact HB.out | apply below_alloc | apply pw_below_drewN | apply below_drew1) | exact HB.out)) hb); clear HB; have HB := n0_; clear n0_; (try clear hb); (try clear hb2); (try clear hk); (try clear hi)))
      go_ret2
      exact ⟨by first | rfl | (simp [errW_none, errW_some] <;> rfl) | (simp [*, errW_none, errW_some] <;> rfl), by repeat (first | (with_reducible first | exact HB.out | apply below_alloc | apply pw_below_drewN | apply below_drew1) | exact HB.out)⟩
     ·rw [if_neg c32] at H
      have c32b0 : (t312.toList == a1.toList) = false := beq_eq_false_iff_ne.mpr c32
      have c32b1 : (t312.toList != a1.toList) = true := bne_iff_ne.mpr c32
      simp only [Option.some.injEq, Prod.mk.injEq] at H
      obtain ⟨rfl, rfl⟩ := H
      go_enter Tryz.func52, Tryz.ntmps52
      go_wp2_with (first | ((with_reducible refine gate_callee (f := 58) rfl ?_); refine goesL_ (some 31) rfl rfl Tryz.func58 (by kernel_rfl) rfl #[.string a1] rfl (by (try simp only [List.map_toArray, List.map_cons, List.map_nil]); first | done | rfl | (simp only [List.length_drop, List.length_take]; rfl)) ?_; (with_reducible refine (paths_Mark.calls k a1 t311 t312 true _ (hG.ext (by repeat (first | (with_reducible first | exact HB.out | apply below_alloc | apply pw_below_drewN | apply below_drew1) | exact HB.out))) A29.out).mono ?_); rintro e w34 ⟨rfl, hb⟩; refine ⟨_, rfl, ?_⟩; have n0_ := Aside0.mk (below_step (by repeat (first | (with_reducible first | exact HB.out | apply below_alloc | apply pw_below_drewN | apply below_drew1) | exact HB.out)) hb); clear HB; have HB := n0_; clear n0_; (try clear hb); (try clear hb2); (try clear hk); (try clear hi)))
      go_ret2
      exact ⟨by first | rfl | (simp [errW_none, errW_some] <;> rfl) | (simp [*, errW_none, errW_some] <;> rfl), by repeat (first | (with_reducible first | exact HB.out | apply below_alloc | apply pw_below_drewN | apply below_drew1) | exact HB.out)⟩
    ·rw [if_neg c31] at H
     have c31b0 : (t311 == a0) = false := beq_eq_false_iff_ne.mpr c31
     have c31b1 : (t311 != a0) = true := bne_iff_ne.mpr c31
     simp only [Option.some.injEq, Prod.mk.injEq] at H
     obtain ⟨rfl, rfl⟩ := H
     go_enter Tryz.func52, Tryz.ntmps52
     go_wp2_with (first | ((with_reducible refine gate_callee (f := 58) rfl ?_); refine goesL_ (some 31) rfl rfl Tryz.func58 (by kernel_rfl) rfl #[.string a1] rfl (by (try simp only [List.map_toArray, List.map_cons, List.map_nil]); first | done | rfl | (simp only [List.length_drop, List.length_take]; rfl)) ?_; (with_reducible refine (paths_Mark.calls k a1 t311 t312 true _ (hG.ext (by repeat (first | (with_reducible first | exact HB.out | apply below_alloc | apply pw_below_drewN | apply below_drew1) | exact HB.out))) A29.out).mono ?_); rintro e w35 ⟨rfl, hb⟩; refine ⟨_, rfl, ?_⟩; have n0_ := Aside0.mk (below_step (by repeat (first | (with_reducible first | exact HB.out | apply below_alloc | apply pw_below_drewN | apply below_drew1) | exact HB.out)) hb); clear HB; have HB := n0_; clear n0_; (try clear hb); (try clear hb2); (try clear hk); (try clear hi)))
     go_ret2
     exact ⟨by first | rfl | (simp [errW_none, errW_some] <;> rfl) | (simp [*, errW_none, errW_some] <;> rfl), by repeat (first | (with_reducible first | exact HB.out | apply below_alloc | apply pw_below_drewN | apply below_drew1) | exact HB.out)⟩
   ·replace c30 := Bool.eq_false_iff.mpr c30
    subst c30
    have H1 : (some ((⟨#[]⟩ : ByteArray), false)) = some (r1, r2) := by rw [if_neg (show ¬ (false = true) by decide)] at H; exact H
    clear H
    have H := H1
    clear H1
    simp only [Option.some.injEq, Prod.mk.injEq] at H
    obtain ⟨rfl, rfl⟩ := H
    go_enter Tryz.func52, Tryz.ntmps52
    go_wp2_with (first | ((with_reducible refine gate_callee (f := 58) rfl ?_); refine goesL_ (some 31) rfl rfl Tryz.func58 (by kernel_rfl) rfl #[.string a1] rfl (by (try simp only [List.map_toArray, List.map_cons, List.map_nil]); first | done | rfl | (simp only [List.length_drop, List.length_take]; rfl)) ?_; (with_reducible refine (paths_Mark.calls k a1 t311 t312 false _ (hG.ext (by repeat (first | (with_reducible first | exact HB.out | apply below_alloc | apply pw_below_drewN | apply below_drew1) | exact HB.out))) A29.out).mono ?_); rintro e w36 ⟨rfl, hb⟩; refine ⟨_, rfl, ?_⟩; have n0_ := Aside0.mk (below_step (by repeat (first | (with_reducible first | exact HB.out | apply below_alloc | apply pw_below_drewN | apply below_drew1) | exact HB.out)) hb); clear HB; have HB := n0_; clear n0_; (try clear hb); (try clear hb2); (try clear hk); (try clear hi)))
    go_ret2
    exact ⟨by first | rfl | (simp [errW_none, errW_some] <;> rfl) | (simp [*, errW_none, errW_some] <;> rfl), by repeat (first | (with_reducible first | exact HB.out | apply below_alloc | apply pw_below_drewN | apply below_drew1) | exact HB.out)⟩
end Go.Proofs.YtdkjinmkallhnaaGreatDoorQ
end
section
namespace Go.Proofs.YtdkjinmkallhnaaGreatDoorQ
open Go.RowKit Go.Proofs.YtdkjinmkallhnaaGreatDoorW.PrintWords Go.Proofs.YtdkjinmkallhnaaGreatDoorW.PrintLast Go.Proofs.YtdkjinmkallhnaaGreatDoorW.PrintMore
open Go.Proofs.YtdkjinmkallhnaaGreatDoor (GL)
attribute [local go_sem] max2_int min2_int max_two min_two max_three min_three max_four min_four
def paths_Parent.f (a0 : ByteArray) : Option (ByteArray) := (paths_split.f a0).bind fun bt107 => (some bt107.1)
set_option maxHeartbeats 8000000 in
set_option maxRecDepth 100000 in
theorem paths_Parent.calls (a0 : ByteArray) (r : ByteArray) (w : World) (h : paths_Parent.f a0 = some r) :
  Calls Tryz.prog 27 #[.string a0] w fun e w' => e = .returned (.string r) ∧ Below w.heap.size w w' := by
 have HB := Aside0.mk (Below.refl w.heap.size w)
 have H : ((paths_split.f a0).bind fun bt107 => (some bt107.1)) = some r := h
 clear h
 replace H := Option.bind_eq_some_iff.mp H
 obtain ⟨⟨t107, t108⟩, A20, H⟩ := H
 replace H : (some t107) = some r := H
 have A2 := Aside0.mk A20
 clear A20
 obtain rfl := Option.some.inj H
 go_enter Tryz.func27, Tryz.ntmps27
 go_wp2_with (first | ((with_reducible refine gate_callee (f := 55) rfl ?_); refine goesL_ (some 7) rfl rfl Tryz.func55 (by kernel_rfl) rfl #[.string a0] rfl (by (try simp only [List.map_toArray, List.map_cons, List.map_nil]); first | done | rfl | (simp only [List.length_drop, List.length_take]; rfl)) ?_; (with_reducible refine (paths_split.calls a0 t107 t108 _ A2.out).mono ?_); rintro e w3 ⟨rfl, hb⟩; refine ⟨_, rfl, ?_⟩; have n0_ := Aside0.mk (below_step (by repeat (first | (with_reducible first | exact HB.out | apply below_alloc | apply pw_below_drewN | apply below_drew1) | exact HB.out)) hb); clear HB; have HB := n0_; clear n0_; (try clear hb); (try clear hb2); (try clear hk); (try clear hi)))
 go_ret
 exact ⟨by first | rfl | (simp [errW_none, errW_some] <;> rfl) | (simp [*, errW_none, errW_some] <;> rfl), by repeat (first | (with_reducible first | exact HB.out | apply below_alloc | apply pw_below_drewN | apply below_drew1) | exact HB.out)⟩
end Go.Proofs.YtdkjinmkallhnaaGreatDoorQ
end
section
namespace Go.Proofs.YtdkjinmkallhnaaGreatDoorQ
open Go.RowKit Go.Proofs.YtdkjinmkallhnaaGreatDoorW.PrintWords Go.Proofs.YtdkjinmkallhnaaGreatDoorW.PrintLast Go.Proofs.YtdkjinmkallhnaaGreatDoorW.PrintMore
open Go.Proofs.YtdkjinmkallhnaaGreatDoor (GL)
attribute [local go_sem] max2_int min2_int max_two min_two max_three min_three max_four min_four
def paths_Under.f (a0 : ByteArray) (a1 : ByteArray) : Option (Bool) := if a0.toList = ([] : List UInt8) then (if a1.toList = ([] : List UInt8) then (some false) else (some true)) else (if a0.size + 1 ≤ 9223372036854775807 then ((pq12.f a1 (a0 ++ (⟨#[47]⟩ : ByteArray))).bind fun t723 => (some t723)) else (none))
set_option maxHeartbeats 8000000 in
set_option maxRecDepth 100000 in
theorem paths_Under.calls (a0 : ByteArray) (a1 : ByteArray) (r : Bool) (w : World) (h : paths_Under.f a0 a1 = some r) :
  Calls Tryz.prog 25 #[.string a0, .string a1] w fun e w' => e = .returned (.bool r) ∧ Drawn0 w w' := by
 have H : (if a0.toList = ([] : List UInt8) then (if a1.toList = ([] : List UInt8) then (some false) else (some true)) else (if a0.size + 1 ≤ 9223372036854775807 then ((pq12.f a1 (a0 ++ (⟨#[47]⟩ : ByteArray))).bind fun t723 => (some t723)) else (none))) = some r := h
 clear h
 by_cases c3 : a0.toList = ([] : List UInt8)
 ·rw [if_pos c3] at H
  have c3b0 : (a0.toList == ([] : List UInt8)) = true := beq_iff_eq.mpr c3
  have c3b1 : (a0.toList != ([] : List UInt8)) = false := bne_eq_false_iff_eq.mpr c3
  clear c3
  by_cases c4 : a1.toList = ([] : List UInt8)
  ·rw [if_pos c4] at H
   have c4b0 : (a1.toList == ([] : List UInt8)) = true := beq_iff_eq.mpr c4
   have c4b1 : (a1.toList != ([] : List UInt8)) = false := bne_eq_false_iff_eq.mpr c4
   clear c4
   obtain rfl := Option.some.inj H
   go_enter Tryz.func25, Tryz.ntmps25
   go_wp2
   go_ret
   exact ⟨by first | rfl | (simp; done) | (simp [*]; done), by repeat (first | exact Drawn0.refl _ | apply Drawn0.step)⟩
  ·rw [if_neg c4] at H
   have c4b0 : (a1.toList == ([] : List UInt8)) = false := beq_eq_false_iff_ne.mpr c4
   have c4b1 : (a1.toList != ([] : List UInt8)) = true := bne_iff_ne.mpr c4
   obtain rfl := Option.some.inj H
   go_enter Tryz.func25, Tryz.ntmps25
   go_wp2
   go_ret
   exact ⟨by first | rfl | (simp; done) | (simp [*]; done), by repeat (first | exact Drawn0.refl _ | apply Drawn0.step)⟩
 ·rw [if_neg c3] at H
  have c3b0 : (a0.toList == ([] : List UInt8)) = false := beq_eq_false_iff_ne.mpr c3
  have c3b1 : (a0.toList != ([] : List UInt8)) = true := bne_iff_ne.mpr c3
  by_cases c5 : a0.size + 1 ≤ 9223372036854775807
  ·rw [if_pos c5] at H
   have c5b0 := eq_true c5
   have c5b1 : decide (a0.size + 1 ≤ 9223372036854775807) = true := decide_eq_true c5
   try have c5b2 : (9223372036854775807 < a0.size + 1) = False := eq_false (Nat.not_lt.2 c5)
   replace H := Option.bind_eq_some_iff.mp H
   obtain ⟨t723, A60, H⟩ := H
   replace H : (some t723) = some r := H
   have A6 := Aside0.mk A60
   clear A60
   obtain rfl := Option.some.inj H
   go_enter Tryz.func25, Tryz.ntmps25
   go_wp2_with (first | (go_at_call 51; (with_reducible refine (pq12.calls a1 (a0 ++ (⟨#[47]⟩ : ByteArray)) t723 _ A6.out).mono ?_); rintro e w' ⟨rfl, ⟨nd, rfl⟩⟩))
   go_ret
   exact ⟨by first | rfl | (simp; done) | (simp [*]; done), by repeat (first | exact Drawn0.refl _ | apply Drawn0.step)⟩
  ·rw [if_neg c5] at H
   exact absurd H (by simp)
end Go.Proofs.YtdkjinmkallhnaaGreatDoorQ
end
section
namespace Go.Proofs.YtdkjinmkallhnaaGreatDoorQ
open Go.RowKit Go.Proofs.YtdkjinmkallhnaaGreatDoor Go.Proofs.YtdkjinmkallhnaaGreatDoorW.PrintWords Go.Proofs.YtdkjinmkallhnaaGreatDoorW.PrintLast
open Go.Proofs.YtdkjinmkallhnaaGreatDoorT (partM markedM markM opqM isM parM lastM underM markF unmarkF wouldM tarM belowM)
theorem toList_B (l : Str) : (B l).toList = l := by rw [ByteArray.toList_eq]
theorem B_append (a b : Str) : B a ++ B b = B (a ++ b) := append_S a b
theorem B_extract (l : Str) (a b : Nat) : (B l).extract a b = B ((l.drop a).take (b - a)) := extract_S l a b
theorem wrap_in {x : Int} (h0 : -9223372036854775808 ≤ x) (h1 : x ≤ 9223372036854775807) : wrap64 x = x := by unfold wrap64; omega
theorem hp_f (a p : Str) : pq12.f (B a) (B p) = some (p.isPrefixOf a) := by
  unfold pq12.f stringslite_HasPrefix.f
  rw [B_size, B_size]
  by_cases h : p.length ≤ a.length
  · rw [if_pos (by omega), if_pos (by omega), if_pos (by omega), B_extract, toList_B, toList_B]
    simp only [Option.bind_some, Option.some.injEq]
    rw [List.drop_zero, show ((p.length : Nat) : Int).toNat - 0 = p.length from by omega, Bool.eq_iff_iff, beq_iff_eq, List.isPrefixOf_iff_prefix, List.prefix_iff_eq_take]
    exact ⟨fun h => h.symm, fun h => h.symm⟩
  · rw [if_neg (by omega)]
    simp only [Option.bind_some, Option.some.injEq]
    cases e : p.isPrefixOf a with
    | false => rfl
    | true =>
      have := (List.isPrefixOf_iff_prefix.1 e).length_le
      omega
theorem ib_f (s : Str) (c : UInt8) : strings_IndexByte.f (B s) (c.toNat : Int) = some (Lib.indexByte s c) := by
  unfold strings_IndexByte.f
  rw [show ((c.toNat : Int)).toNat.toUInt8 = c from by simp]
theorem ib_neg (s : Str) (c : UInt8) : decide (Lib.indexByte s c ≥ 0) = s.contains c := by
  induction s with
  | nil => simp [Lib.indexByte]
  | cons b r ih =>
    have hg := Lib.indexByte_ge r c
    unfold Lib.indexByte
    by_cases h : b == c
    · rw [if_pos h]
      have : c = b := (beq_iff_eq.1 h).symm
      subst this
      simp
    · rw [if_neg h]
      have hbc : ¬ c = b := fun e => h (by rw [e]; simp)
      have e2 : (b :: r).contains c = r.contains c := by simp [hbc]
      rw [e2, ← ih]
      by_cases h1 : Lib.indexByte r c == -1
      · rw [if_pos h1]
        have := beq_iff_eq.1 h1
        simp [this]
      · rw [if_neg h1]
        have h2 : Lib.indexByte r c ≠ -1 := fun e => h1 (by rw [e]; rfl)
        simp only [ge_iff_le, decide_eq_decide]
        omega
theorem bad_f (s : Str) : pq18.f (B s) = some (!partM s) := by
  unfold pq18.f
  rw [toList_B]
  have h0 := ib_f s 0
  rw [show ((0 : UInt8).toNat : Int) = 0 from rfl] at h0
  unfold partM
  by_cases h1 : s = []
  · rw [if_pos h1, h1]; rfl
  · rw [if_neg h1]
    by_cases h2 : s = [46]
    · rw [if_pos h2, h2]; rfl
    · rw [if_neg h2]
      by_cases h3 : s = [46, 46]
      · rw [if_pos h3, h3]; rfl
      · rw [if_neg h3, h0]
        simp only [Option.bind_some, Option.some.injEq]
        rw [ib_neg]
        have e1 : s.isEmpty = false := by cases s with | nil => exact absurd rfl h1 | cons _ _ => rfl
        have e2 : (s == [46]) = false := by simpa using h2
        have e3 : (s == [46, 46]) = false := by simpa using h3
        rw [e1, e2, e3]
        simp
theorem long_f (s : Str) : pq17.f (B s) = some (!decide (s.length ≤ 251)) := by
  unfold pq17.f
  rw [B_size]
  congr 1
  by_cases h : s.length ≤ 251
  · simp [h]; omega
  · simp [h]; omega
theorem lastOcc_none {x : Str} (h : (47 : UInt8) ∉ x) : ∀ k, Lib.lastOcc x [47] k = -1 := by
  intro k
  induction k with
  | zero => rfl
  | succ k ih =>
    unfold Lib.lastOcc
    rw [if_neg, ih]
    unfold Lib.occAt
    rw [List.isPrefixOf_iff_prefix]
    rintro ⟨r, hr⟩
    exact h (List.mem_of_mem_drop (i := k) (by rw [← hr]; simp))
theorem lastOcc_hit {u x : Str} (h : (47 : UInt8) ∉ x) : ∀ k, u.length < k → Lib.lastOcc (u ++ 47 :: x) [47] k = (u.length : Int) := by
  intro k
  induction k with
  | zero => intro h; omega
  | succ k ih =>
    intro hk
    unfold Lib.lastOcc
    by_cases e : k = u.length
    · subst e
      rw [if_pos]
      unfold Lib.occAt
      simp
    · rw [if_neg, ih (by omega)]
      unfold Lib.occAt
      rw [List.isPrefixOf_iff_prefix]
      rintro ⟨r, hr⟩
      have : (u ++ 47 :: x).drop k = x.drop (k - u.length - 1) := by
        rw [List.drop_append, List.drop_eq_nil_of_le (by omega), List.nil_append, show k - u.length = (k - u.length - 1) + 1 from by omega, List.drop_succ_cons]
        congr 1
      rw [this] at hr
      exact h (List.mem_of_mem_drop (i := k - u.length - 1) (by rw [← hr]; simp))
theorem split_f (s : Str) (hs : s.length ≤ 4000000000) : paths_split.f (B s) = some (B (parM s), B (lastM s)) := by
  unfold paths_split.f strings_LastIndex.f
  rw [if_pos (by rw [B_size]; omega)]
  simp only [Option.bind_some, L_B]
  rcases YtdkjinmkallhnaaGreatDoorT.split_cases s with ⟨_, e, hp⟩ | ⟨_, e⟩
  · have hns : (47 : UInt8) ∉ s := by have := YtdkjinmkallhnaaGreatDoorT.lastM_slash s; rwa [← e] at this
    have hl : Lib.lastIndex s [47] = -1 := by
      unfold Lib.lastIndex
      split
      · exact lastOcc_none hns _
      · rfl
    have hm : mx (-1) 0 = 0 := by unfold mx; omega
    rw [hl, hm, B_size, wrap_in (by omega) (by omega)]
    rw [if_pos (by omega), if_pos (by omega), if_pos (by omega), if_pos (by omega), hp, B_extract, B_extract]
    congr 2
    rw [← e]
    simp
  · have hx := YtdkjinmkallhnaaGreatDoorT.lastM_slash s
    generalize parM s = u at e ⊢
    generalize lastM s = x at e hx ⊢
    subst e
    have hl : Lib.lastIndex (u ++ 47 :: x) [47] = (u.length : Int) := by
      unfold Lib.lastIndex
      rw [if_pos (by simp; omega)]
      exact lastOcc_hit hx _ (by simp; omega)
    have hm : mx (u.length : Int) 0 = (u.length : Int) := by unfold mx; omega
    have hlen : (u ++ 47 :: x).length = u.length + (x.length + 1) := by simp
    rw [hl, hm, B_size, wrap_in (by omega) (by omega)]
    rw [if_pos (by omega), if_pos (by omega), if_pos (by omega), if_pos (by omega), B_extract, B_extract]
    have h1 : List.take ((u.length : Int).toNat - 0) (List.drop 0 (u ++ 47 :: x)) = u := by
      rw [List.drop_zero, show (u.length : Int).toNat - 0 = u.length from by omega]
      simp
    have h2 : List.take ((u ++ 47 :: x).length - (u.length + 1 : Int).toNat) (List.drop (u.length + 1 : Int).toNat (u ++ 47 :: x)) = x := by
      rw [show (u.length + 1 : Int).toNat = u.length + 1 from by omega]
      rw [List.drop_append, List.drop_eq_nil_of_le (by omega), List.nil_append, show u.length + 1 - u.length = 0 + 1 from by omega, List.drop_succ_cons, List.drop_zero]
      exact List.take_of_length_le (by omega)
    rw [h1, h2]
theorem parent_f (s : Str) (hs : s.length ≤ 4000000000) : paths_Parent.f (B s) = some (B (parM s)) := by
  unfold paths_Parent.f; rw [split_f s hs]; rfl
theorem below_f (p x : Str) (h : p.length + x.length ≤ 8000000000) : paths_below.f (B p) (B x) = some (B (belowM p x)) := by
  unfold paths_below.f belowM
  rw [toList_B]
  by_cases h1 : p = []
  · rw [if_pos h1, if_pos h1]
  · rw [if_neg h1, if_neg h1, B_append, B_size, B_size, B_size, B_append]
    rw [if_pos (by omega), if_pos (by simp; omega)]
    simp
theorem under_f (p q : Str) (h : p.length ≤ 8000000000) : paths_Under.f (B p) (B q) = some (underM p q) := by
  unfold paths_Under.f underM
  rw [toList_B, toList_B]
  by_cases h1 : p = []
  · rw [if_pos h1, if_pos h1]
    cases q <;> simp
  · rw [if_neg h1, if_neg h1, B_size, if_pos (by omega), B_append, hp_f]; rfl
theorem index_hit (c : UInt8) : ∀ (p r : Str), c ∉ p → Lib.index (p ++ c :: r) [c] = (p.length : Int)
  | [], r, _ => by simp [Lib.index]
  | x :: p, r, h => by
    have hx : (x == c) = false := by
      rw [beq_eq_false_iff_ne]; rintro rfl; exact h List.mem_cons_self
    have ih := index_hit c p r (fun hm => h (List.mem_cons_of_mem _ hm))
    rw [List.cons_append, index_cons_ne _ hx, ih]
    rw [if_neg (by simp)]
    simp
theorem splitB_cut : ∀ (k : Nat) (s : Str), s.count 47 = k → Lib.splitB (B [47]) 0 k (B s) = (YtdkjinmkallhnaaGreatDoorT.cutM s).map B := by
  intro k
  induction k with
  | zero =>
    intro s hk
    have : (47 : UInt8) ∉ s := List.count_eq_zero.1 hk
    rw [Lib.splitB_zero, YtdkjinmkallhnaaGreatDoorT.cut_one this]; rfl
  | succ k ih =>
    intro s hk
    rcases cut1_parts s with ⟨h1, h2⟩ | ⟨_, h2, h3⟩
    · obtain ⟨e, hp⟩ := cut1_found 47 s h1
      generalize hq : (cut1 47 s).1 = p at e hp h2
      generalize hr : (cut1 47 s).2.1 = r at e h2
      have hi : Lib.indexB (B s) (B [47]) = (p.length : Int) := by
        show Lib.index s [47] = _
        rw [e]; exact index_hit 47 p r hp
      have hcr : r.count 47 = k := by
        rw [e, List.count_append, List.count_cons_self, List.count_eq_zero.2 hp] at hk
        omega
      rw [h2, List.map_cons, ← ih r hcr]
      conv => lhs; unfold Lib.splitB
      rw [hi, if_neg (by simp)]
      rw [B_extract, B_extract, B_size]
      congr 1
      · congr 1
        rw [e]; simp
      · congr 1
        rw [show ((p.length : Int)).toNat + (B [47]).size = p.length + 1 from by rw [B_size]; simp]
        rw [e, List.drop_append, List.drop_eq_nil_of_le (by omega), List.nil_append, show p.length + 1 - p.length = 0 + 1 from by omega, List.drop_succ_cons, List.drop_zero]
        rw [List.take_of_length_le (by simp; omega)]
    · exfalso
      have := count_parts s
      rw [h2] at this
      simp at this
      omega
theorem cut_len (s : Str) : (YtdkjinmkallhnaaGreatDoorT.cutM s).length ≤ s.length + 1 := by
  rw [← count_parts]
  have := List.count_le_length (a := (47 : UInt8)) (l := s)
  omega
theorem splits_f (s : Str) (hs : s.length ≤ 4000000000) : strings_Split.f (B s) (B [47]) = some ((YtdkjinmkallhnaaGreatDoorT.cutM s).map B) := by
  have hc : Lib.countB (B s) (B [47]) = s.count 47 := Lib.count_one 47 s
  have hl := count_parts s
  have := cut_len s
  unfold strings_Split.f
  rw [hc, splitB_cut _ s rfl]
  rw [if_pos]
  rw [B_size, B_size, List.length_map]
  exact ⟨by omega, by simp, by omega, by omega⟩
end Go.Proofs.YtdkjinmkallhnaaGreatDoorQ
end
section
namespace Go.Proofs.YtdkjinmkallhnaaGreatDoorQ
open Go.RowKit Go.Proofs.YtdkjinmkallhnaaGreatDoorW.PrintWords Go.Proofs.YtdkjinmkallhnaaGreatDoorW.PrintLast Go.Proofs.YtdkjinmkallhnaaGreatDoorW.PrintMore
open Go.Proofs.YtdkjinmkallhnaaGreatDoor (GL)
attribute [local go_sem] max2_int min2_int max_two min_two max_three min_three max_four min_four
def change_tar.f (k : Nat) (a0_0 : ByteArray) (a0_1 : Int) (a0_2 : Int) (a0_3 : Int) (a0_4 : Int) (a0_5 : Int) (a0_6 : Int) (a0_7 : ByteArray) (a0_8 : ByteArray) (a0_9 : Int) (a0_10 : Int) (a0_11 : ByteArray) : Option (ByteArray) := (paths_Unmark.f k a0_1 a0_0).bind fun bt315 => (some bt315.1)
set_option maxHeartbeats 8000000 in
set_option maxRecDepth 100000 in
theorem change_tar.calls (k : Nat) (a0_0 : ByteArray) (a0_1 : Int) (a0_2 : Int) (a0_3 : Int) (a0_4 : Int) (a0_5 : Int) (a0_6 : Int) (a0_7 : ByteArray) (a0_8 : ByteArray) (a0_9 : Int) (a0_10 : Int) (a0_11 : ByteArray) (r : ByteArray) (w : World) (hG : GL w) (h : change_tar.f k a0_0 a0_1 a0_2 a0_3 a0_4 a0_5 a0_6 a0_7 a0_8 a0_9 a0_10 a0_11 = some r) :
  Calls Tryz.prog 115 #[.agg #[.string a0_0, .int .i64 a0_1, .int .i64 a0_2, .int .i64 a0_3, .int .i64 a0_4, .int .i64 a0_5, .int .i64 a0_6, .string a0_7, .string a0_8, .int .i64 a0_9, .int .i64 a0_10, .string a0_11]] w fun e w' => e = .returned (.string r) ∧ Below w.heap.size w w' := by
 have hu38 := Tryz.underlying38
 have HB := Aside0.mk (Below.refl w.heap.size w)
 have H : ((paths_Unmark.f k a0_1 a0_0).bind fun bt315 => (some bt315.1)) = some r := h
 clear h
 replace H := Option.bind_eq_some_iff.mp H
 obtain ⟨⟨t315, t316⟩, A20, H⟩ := H
 replace H : (some t315) = some r := H
 have A2 := Aside0.mk A20
 clear A20
 obtain rfl := Option.some.inj H
 go_enter Tryz.func115, Tryz.ntmps115
 go_wp2_with (first | ((with_reducible refine gate_dst (N := 1) rfl ?_); refine box_event ?hg (N := 1) ?hd (cs := #[.string a0_0, .int .i64 a0_1, .int .i64 a0_2, .int .i64 a0_3, .int .i64 a0_4, .int .i64 a0_5, .int .i64 a0_6, .string a0_7, .string a0_8, .int .i64 a0_9, .int .i64 a0_10, .string a0_11]) (t := 38) ?hr ?_; (case hd => rfl); (case hg => rfl); (case hr => first | (go_simp; done) | (go_simp; rfl)); intro gb314 hg w3 hbox hb; have n0_ := Aside0.mk (below_step (by repeat (first | (with_reducible first | exact HB.out | apply below_alloc | apply pw_below_drewN | apply below_drew1) | exact HB.out)) hb); have n1_ := Aside0.mk (hbox); have n2_ := Aside0.mk ((by rw [hg]; exact (below_size (by repeat (first | (with_reducible first | exact HB.out | apply below_alloc | apply pw_below_drewN | apply below_drew1) | exact HB.out))) : w.heap.size ≤ gb314)); have n3_ := Aside0.mk ((by rw [hg]; exact (below_size (by repeat (first | (with_reducible first | exact HB.out | apply below_alloc | apply pw_below_drewN | apply below_drew1) | exact HB.out))) : w.heap.size ≤ gb314)); clear HB; have HB := n0_; have BK314 := n1_; have GW314 := n2_; have GE314 := n3_; clear n0_ n1_ n2_ n3_; clear hb hbox hg; have hcz4_0 : w3.cell? ⟨gb314, 0, none⟩ = some (.string a0_0) := (blk_cell BK314.out 0).trans rfl; have hcz4_1 : w3.cell? ⟨gb314, 1, none⟩ = some (.int .i64 a0_1) := (blk_cell BK314.out 1).trans rfl; have hcz4_2 : w3.cell? ⟨gb314, 2, none⟩ = some (.int .i64 a0_2) := (blk_cell BK314.out 2).trans rfl; have hcz4_3 : w3.cell? ⟨gb314, 3, none⟩ = some (.int .i64 a0_3) := (blk_cell BK314.out 3).trans rfl; have hcz4_4 : w3.cell? ⟨gb314, 4, none⟩ = some (.int .i64 a0_4) := (blk_cell BK314.out 4).trans rfl; have hcz4_5 : w3.cell? ⟨gb314, 5, none⟩ = some (.int .i64 a0_5) := (blk_cell BK314.out 5).trans rfl; have hcz4_6 : w3.cell? ⟨gb314, 6, none⟩ = some (.int .i64 a0_6) := (blk_cell BK314.out 6).trans rfl; have hcz4_7 : w3.cell? ⟨gb314, 7, none⟩ = some (.string a0_7) := (blk_cell BK314.out 7).trans rfl; have hcz4_8 : w3.cell? ⟨gb314, 8, none⟩ = some (.string a0_8) := (blk_cell BK314.out 8).trans rfl; have hcz4_9 : w3.cell? ⟨gb314, 9, none⟩ = some (.int .i64 a0_9) := (blk_cell BK314.out 9).trans rfl; have hcz4_10 : w3.cell? ⟨gb314, 10, none⟩ = some (.int .i64 a0_10) := (blk_cell BK314.out 10).trans rfl; have hcz4_11 : w3.cell? ⟨gb314, 11, none⟩ = some (.string a0_11) := (blk_cell BK314.out 11).trans rfl; have hfz4_0 := blk_frozen BK314.out 0; have hfz4_1 := blk_frozen BK314.out 1; have hfz4_2 := blk_frozen BK314.out 2; have hfz4_3 := blk_frozen BK314.out 3; have hfz4_4 := blk_frozen BK314.out 4; have hfz4_5 := blk_frozen BK314.out 5; have hfz4_6 := blk_frozen BK314.out 6; have hfz4_7 := blk_frozen BK314.out 7; have hfz4_8 := blk_frozen BK314.out 8; have hfz4_9 := blk_frozen BK314.out 9; have hfz4_10 := blk_frozen BK314.out 10; have hfz4_11 := blk_frozen BK314.out 11) | ((with_reducible refine gate_callee (f := 52) rfl ?_); refine goesL_ (some 10) rfl rfl Tryz.func52 (by kernel_rfl) rfl #[.int .i64 a0_1, .string a0_0] rfl (by (try simp only [List.map_toArray, List.map_cons, List.map_nil]); first | done | rfl | (simp only [List.length_drop, List.length_take]; rfl)) ?_; (with_reducible refine (paths_Unmark.calls k a0_1 a0_0 t315 t316 _ (hG.ext (by repeat (first | (with_reducible first | exact HB.out | apply below_alloc | apply pw_below_drewN | apply below_drew1 | refine below_set ?_ GE314.out) | exact HB.out))) A2.out).mono ?_); rintro e w5 ⟨rfl, hb⟩; refine ⟨_, rfl, ?_⟩; have n0_ := Aside0.mk (blk_below (g := gb314) (o := .cells #[.string a0_0, .int .i64 a0_1, .int .i64 a0_2, .int .i64 a0_3, .int .i64 a0_4, .int .i64 a0_5, .int .i64 a0_6, .string a0_7, .string a0_8, .int .i64 a0_9, .int .i64 a0_10, .string a0_11] 38 (0, 0)) (by (with_reducible repeat (first | refine blk_drewN ?_ _ | refine blk_drew ?_ | refine blk_alloc ?_ _)); exact BK314.out) hb); have n1_ := Aside0.mk (below_step (by repeat (first | (with_reducible first | exact HB.out | apply below_alloc | apply pw_below_drewN | apply below_drew1 | refine below_set ?_ GE314.out) | exact HB.out)) hb); clear BK314; clear HB; have BK314 := n0_; have HB := n1_; clear n0_ n1_; (try clear hb); (try clear hb2); (try clear hk); (try clear hi)))
 go_ret
 exact ⟨by first | rfl | (simp [errW_none, errW_some] <;> rfl) | (simp [*, errW_none, errW_some] <;> rfl), by repeat (first | (with_reducible first | exact HB.out | apply below_alloc | apply pw_below_drewN | apply below_drew1 | refine below_set ?_ GE314.out) | exact HB.out)⟩
end Go.Proofs.YtdkjinmkallhnaaGreatDoorQ
end
