/- A part of a proof of TreeTwiceCardSaid of this seat: what its walks and its laws lean on; joined by a program of this repo (wip/pack.py) out of the texts QChangeCompare, QChangeLess, XEv2, Cnt, PaxB, PaxA, PaxC, PaxD, Buf, PaxE, Row, XRowSet, XBoxA, Sym, Stb. -/
import Derived.ChangeAlike
import Derived.Deep.MidRow
import Derived.Laws.Externs
import Derived.Laws.IdiomCopy
import Derived.Laws.OwnMore
import Derived.Lib.AppendStr
import Derived.Lib.AtoiAllCases
import Derived.Lib.Builder
import Derived.Lib.MakeNoZero
import Derived.Lib.SliceRun
import Derived.Lib.Strings
import Derived.Lib.UnsafeStr
import Derived.Maps.Ext
import Derived.Maps.OwnOps
import Derived.Maps.Views
import Derived.RegionTactic
import Derived.WalkArith
import Derived.Test.YtdkjinmkallhnaaGreatDoorKAA
import Derived.Test.YtdkjinmkallhnaaGreatDoorKAB
import Derived.Test.YtdkjinmkallhnaaGreatDoorKAC
import Derived.Test.YtdkjinmkallhnaaGreatDoorKAD
section
namespace Go.Proofs.YtdkjinmkallhnaaGreatDoorQ
open Go.RowKit Go.Proofs.YtdkjinmkallhnaaGreatDoorW.PrintWords Go.Proofs.YtdkjinmkallhnaaGreatDoorW.PrintLast Go.Proofs.YtdkjinmkallhnaaGreatDoorW.PrintMore
open Go.Proofs.YtdkjinmkallhnaaGreatDoor (GL)
attribute [local go_sem] max2_int min2_int max_two min_two max_three min_three max_four min_four
def change_compare.f (k : Nat) (a0_0 : ByteArray) (a0_1 : Int) (a0_2 : Int) (a0_3 : Int) (a0_4 : Int) (a0_5 : Int) (a0_6 : Int) (a0_7 : ByteArray) (a0_8 : ByteArray) (a0_9 : Int) (a0_10 : Int) (a0_11 : ByteArray) (a1_0 : ByteArray) (a1_1 : Int) (a1_2 : Int) (a1_3 : Int) (a1_4 : Int) (a1_5 : Int) (a1_6 : Int) (a1_7 : ByteArray) (a1_8 : ByteArray) (a1_9 : Int) (a1_10 : Int) (a1_11 : ByteArray) : Option (Int) := (change_tar.f k a0_0 a0_1 a0_2 a0_3 a0_4 a0_5 a0_6 a0_7 a0_8 a0_9 a0_10 a0_11).bind fun t319 => ((change_tar.f k a1_0 a1_1 a1_2 a1_3 a1_4 a1_5 a1_6 a1_7 a1_8 a1_9 a1_10 a1_11).bind fun t320 => ((paths_Compare.f t319 t320).bind fun t321 => (some t321)))
set_option maxHeartbeats 8000000 in
set_option maxRecDepth 100000 in
theorem change_compare.calls (k : Nat) (a0_0 : ByteArray) (a0_1 : Int) (a0_2 : Int) (a0_3 : Int) (a0_4 : Int) (a0_5 : Int) (a0_6 : Int) (a0_7 : ByteArray) (a0_8 : ByteArray) (a0_9 : Int) (a0_10 : Int) (a0_11 : ByteArray) (a1_0 : ByteArray) (a1_1 : Int) (a1_2 : Int) (a1_3 : Int) (a1_4 : Int) (a1_5 : Int) (a1_6 : Int) (a1_7 : ByteArray) (a1_8 : ByteArray) (a1_9 : Int) (a1_10 : Int) (a1_11 : ByteArray) (r : Int) (w : World) (hG : GL w) (h : change_compare.f k a0_0 a0_1 a0_2 a0_3 a0_4 a0_5 a0_6 a0_7 a0_8 a0_9 a0_10 a0_11 a1_0 a1_1 a1_2 a1_3 a1_4 a1_5 a1_6 a1_7 a1_8 a1_9 a1_10 a1_11 = some r) :
  Calls Tryz.prog 88 #[.agg #[.string a0_0, .int .i64 a0_1, .int .i64 a0_2, .int .i64 a0_3, .int .i64 a0_4, .int .i64 a0_5, .int .i64 a0_6, .string a0_7, .string a0_8, .int .i64 a0_9, .int .i64 a0_10, .string a0_11], .agg #[.string a1_0, .int .i64 a1_1, .int .i64 a1_2, .int .i64 a1_3, .int .i64 a1_4, .int .i64 a1_5, .int .i64 a1_6, .string a1_7, .string a1_8, .int .i64 a1_9, .int .i64 a1_10, .string a1_11]] w fun e w' => e = .returned (.int .i64 r) ∧ Below w.heap.size w w' := by
 have hu38 := Tryz.underlying38
 have HB := Aside0.mk (Below.refl w.heap.size w)
 have H : ((change_tar.f k a0_0 a0_1 a0_2 a0_3 a0_4 a0_5 a0_6 a0_7 a0_8 a0_9 a0_10 a0_11).bind fun t319 => ((change_tar.f k a1_0 a1_1 a1_2 a1_3 a1_4 a1_5 a1_6 a1_7 a1_8 a1_9 a1_10 a1_11).bind fun t320 => ((paths_Compare.f t319 t320).bind fun t321 => (some t321)))) = some r := h
 clear h
 replace H := Option.bind_eq_some_iff.mp H
 obtain ⟨t319, A30, H⟩ := H
 replace H : ((change_tar.f k a1_0 a1_1 a1_2 a1_3 a1_4 a1_5 a1_6 a1_7 a1_8 a1_9 a1_10 a1_11).bind fun t320 => ((paths_Compare.f t319 t320).bind fun t321 => (some t321))) = some r := H
 have A3 := Aside0.mk A30
 clear A30
 replace H := Option.bind_eq_some_iff.mp H
 obtain ⟨t320, A40, H⟩ := H
 replace H : ((paths_Compare.f t319 t320).bind fun t321 => (some t321)) = some r := H
 have A4 := Aside0.mk A40
 clear A40
 replace H := Option.bind_eq_some_iff.mp H
 obtain ⟨t321, A50, H⟩ := H
 replace H : (some t321) = some r := H
 have A5 := Aside0.mk A50
 clear A50
 obtain rfl := Option.some.inj H
 go_enter Tryz.func88, Tryz.ntmps88
 try go_wp2_with (first | ((with_reducible refine gate_dst (N := 2) rfl ?_); refine box_event ?hg (N := 2) ?hd (cs := #[.string a0_0, .int .i64 a0_1, .int .i64 a0_2, .int .i64 a0_3, .int .i64 a0_4, .int .i64 a0_5, .int .i64 a0_6, .string a0_7, .string a0_8, .int .i64 a0_9, .int .i64 a0_10, .string a0_11]) (t := 38) ?hr ?_; (case hd => rfl); (case hg => rfl); (case hr => first | (go_simp; done) | (go_simp; rfl)); intro gb317 hg w6 hbox hb; have n0_ := Aside0.mk (below_step (by repeat (first | (with_reducible first | exact HB.out | apply below_alloc | apply pw_below_drewN | apply below_drew1) | exact HB.out)) hb); have n1_ := Aside0.mk (hbox); have n2_ := Aside0.mk ((by rw [hg]; exact (below_size (by repeat (first | (with_reducible first | exact HB.out | apply below_alloc | apply pw_below_drewN | apply below_drew1) | exact HB.out))) : w.heap.size ≤ gb317)); have n3_ := Aside0.mk ((by rw [hg]; exact (below_size (by repeat (first | (with_reducible first | exact HB.out | apply below_alloc | apply pw_below_drewN | apply below_drew1) | exact HB.out))) : w.heap.size ≤ gb317)); clear HB; have HB := n0_; have BK317 := n1_; have GW317 := n2_; have GE317 := n3_; clear n0_ n1_ n2_ n3_; clear hb hbox hg) | ((with_reducible refine gate_dst (N := 3) rfl ?_); refine box_event ?hg (N := 3) ?hd (cs := #[.string a1_0, .int .i64 a1_1, .int .i64 a1_2, .int .i64 a1_3, .int .i64 a1_4, .int .i64 a1_5, .int .i64 a1_6, .string a1_7, .string a1_8, .int .i64 a1_9, .int .i64 a1_10, .string a1_11]) (t := 38) ?hr ?_; (case hd => rfl); (case hg => rfl); (case hr => first | (go_simp; done) | (go_simp; rfl)); intro gb318 hg w7 hbox hb; have n0_ := Aside0.mk (blk_below (g := gb317) (o := .cells #[.string a0_0, .int .i64 a0_1, .int .i64 a0_2, .int .i64 a0_3, .int .i64 a0_4, .int .i64 a0_5, .int .i64 a0_6, .string a0_7, .string a0_8, .int .i64 a0_9, .int .i64 a0_10, .string a0_11] 38 (0, 0)) (by (with_reducible repeat (first | refine blk_drewN ?_ _ | refine blk_drew ?_ | refine blk_alloc ?_ _)); exact BK317.out) hb); have n1_ := Aside0.mk (below_step (by repeat (first | (with_reducible first | exact HB.out | apply below_alloc | apply pw_below_drewN | apply below_drew1 | refine below_set ?_ GE317.out) | exact HB.out)) hb); have n2_ := Aside0.mk (hbox); have n3_ := Aside0.mk ((by rw [hg]; exact (below_size (by repeat (first | (with_reducible first | exact HB.out | apply below_alloc | apply pw_below_drewN | apply below_drew1 | refine below_set ?_ GE317.out) | exact HB.out))) : w.heap.size ≤ gb318)); have n4_ := Aside0.mk ((by rw [hg]; exact (below_size (by repeat (first | (with_reducible first | exact HB.out | apply below_alloc | apply pw_below_drewN | apply below_drew1 | refine below_set ?_ GE317.out) | exact HB.out))) : w.heap.size ≤ gb318)); have n5_ := Aside0.mk ((by rw [hg]; exact Nat.ne_of_lt (blk_lt (g := gb317) (o := .cells #[.string a0_0, .int .i64 a0_1, .int .i64 a0_2, .int .i64 a0_3, .int .i64 a0_4, .int .i64 a0_5, .int .i64 a0_6, .string a0_7, .string a0_8, .int .i64 a0_9, .int .i64 a0_10, .string a0_11] 38 (0, 0)) (by (with_reducible repeat (first | refine blk_drewN ?_ _ | refine blk_drew ?_ | refine blk_alloc ?_ _)); exact BK317.out)) : gb317 ≠ gb318)); have n6_ := Aside0.mk ((by rw [hg]; exact Nat.ne_of_gt (blk_lt (g := gb317) (o := .cells #[.string a0_0, .int .i64 a0_1, .int .i64 a0_2, .int .i64 a0_3, .int .i64 a0_4, .int .i64 a0_5, .int .i64 a0_6, .string a0_7, .string a0_8, .int .i64 a0_9, .int .i64 a0_10, .string a0_11] 38 (0, 0)) (by (with_reducible repeat (first | refine blk_drewN ?_ _ | refine blk_drew ?_ | refine blk_alloc ?_ _)); exact BK317.out)) : gb318 ≠ gb317)); clear BK317; clear HB; have BK317 := n0_; have HB := n1_; have BK318 := n2_; have GW318 := n3_; have GE318 := n4_; have NB317_318 := n5_; have NB318_317 := n6_; clear n0_ n1_ n2_ n3_ n4_ n5_ n6_; clear hb hbox hg))
 have n0_ := Aside0.mk (blk_drew BK317.out)
 have n1_ := Aside0.mk (blk_drew BK318.out)
 have n2_ := Aside0.mk (below_drew1 HB.out)
 clear BK317
 clear BK318
 clear HB
 have BK317 := n0_
 have BK318 := n1_
 have HB := n2_
 clear n0_ n1_ n2_
 refine start_ (n := 6) (S := fun w' => w'.cell? ⟨gb317, 0, none⟩ = some (.string a0_0) ∧ w'.cell? ⟨gb317, 1, none⟩ = some (.int .i64 a0_1) ∧ w'.cell? ⟨gb317, 2, none⟩ = some (.int .i64 a0_2) ∧ w'.cell? ⟨gb317, 3, none⟩ = some (.int .i64 a0_3) ∧ w'.cell? ⟨gb317, 4, none⟩ = some (.int .i64 a0_4) ∧ w'.cell? ⟨gb317, 5, none⟩ = some (.int .i64 a0_5) ∧ w'.cell? ⟨gb317, 6, none⟩ = some (.int .i64 a0_6) ∧ w'.cell? ⟨gb317, 7, none⟩ = some (.string a0_7) ∧ w'.cell? ⟨gb317, 8, none⟩ = some (.string a0_8) ∧ w'.cell? ⟨gb317, 9, none⟩ = some (.int .i64 a0_9) ∧ w'.cell? ⟨gb317, 10, none⟩ = some (.int .i64 a0_10) ∧ w'.cell? ⟨gb317, 11, none⟩ = some (.string a0_11) ∧ w'.cell? ⟨gb318, 0, none⟩ = some (.string a1_0) ∧ w'.cell? ⟨gb318, 1, none⟩ = some (.int .i64 a1_1) ∧ w'.cell? ⟨gb318, 2, none⟩ = some (.int .i64 a1_2) ∧ w'.cell? ⟨gb318, 3, none⟩ = some (.int .i64 a1_3) ∧ w'.cell? ⟨gb318, 4, none⟩ = some (.int .i64 a1_4) ∧ w'.cell? ⟨gb318, 5, none⟩ = some (.int .i64 a1_5) ∧ w'.cell? ⟨gb318, 6, none⟩ = some (.int .i64 a1_6) ∧ w'.cell? ⟨gb318, 7, none⟩ = some (.string a1_7) ∧ w'.cell? ⟨gb318, 8, none⟩ = some (.string a1_8) ∧ w'.cell? ⟨gb318, 9, none⟩ = some (.int .i64 a1_9) ∧ w'.cell? ⟨gb318, 10, none⟩ = some (.int .i64 a1_10) ∧ w'.cell? ⟨gb318, 11, none⟩ = some (.string a1_11)) (ds := []) #[false, false, false, false, false, false] (by kernel_rfl) rfl rfl ⟨(blk_cell BK317.out 0).trans rfl, (blk_cell BK317.out 1).trans rfl, (blk_cell BK317.out 2).trans rfl, (blk_cell BK317.out 3).trans rfl, (blk_cell BK317.out 4).trans rfl, (blk_cell BK317.out 5).trans rfl, (blk_cell BK317.out 6).trans rfl, (blk_cell BK317.out 7).trans rfl, (blk_cell BK317.out 8).trans rfl, (blk_cell BK317.out 9).trans rfl, (blk_cell BK317.out 10).trans rfl, (blk_cell BK317.out 11).trans rfl, (blk_cell BK318.out 0).trans rfl, (blk_cell BK318.out 1).trans rfl, (blk_cell BK318.out 2).trans rfl, (blk_cell BK318.out 3).trans rfl, (blk_cell BK318.out 4).trans rfl, (blk_cell BK318.out 5).trans rfl, (blk_cell BK318.out 6).trans rfl, (blk_cell BK318.out 7).trans rfl, (blk_cell BK318.out 8).trans rfl, (blk_cell BK318.out 9).trans rfl, (blk_cell BK318.out 10).trans rfl, (blk_cell BK318.out 11).trans rfl⟩ (fun hHeld => ?_)
 generalize w7.drew = w8 at BK317 BK318 HB hHeld ⊢
 refine take_ (i := 0) (N := some 5) (v := ?_) (a' := ?_) #[true, false, false, false, false, false] rfl rfl (by kernel_rfl) (fun _ _ _ h => h) (Or.inl ⟨by rfl, ?_⟩) hHeld ?_ ?_
 rotate_left
 ·rintro w' ⟨s0, s1, s2, s3, s4, s5, s6, s7, s8, s9, s10, s11, s12, s13, s14, s15, s16, s17, s18, s19, s20, s21, s22, s23⟩
  go_simp
  with_reducible rfl
 rotate_left
 ·simp only [Act.put, List.setIfInBounds_toArray, List.set_cons_zero, List.set_cons_succ, i64_w, i32_w]
  rfl
 refine take_ (i := 2) (N := some 7) (v := ?_) (a' := ?_) #[true, false, true, false, false, false] rfl rfl (by kernel_rfl) (fun _ _ _ h => h) (Or.inl ⟨by rfl, ?_⟩) hHeld ?_ ?_
 rotate_left
 ·rintro w' ⟨s0, s1, s2, s3, s4, s5, s6, s7, s8, s9, s10, s11, s12, s13, s14, s15, s16, s17, s18, s19, s20, s21, s22, s23⟩
  go_simp
  with_reducible rfl
 rotate_left
 ·simp only [Act.put, List.setIfInBounds_toArray, List.set_cons_zero, List.set_cons_succ, i64_w, i32_w]
  rfl
 refine one_ (i := 1) (N := some 6) #[true, true, true, false, false, false] rfl rfl (by kernel_rfl) (by decide) (fun K hK => ?_)
 refine goes_ Tryz.func115 (by kernel_rfl) rfl #[.agg #[.string a0_0, .int .i64 a0_1, .int .i64 a0_2, .int .i64 a0_3, .int .i64 a0_4, .int .i64 a0_5, .int .i64 a0_6, .string a0_7, .string a0_8, .int .i64 a0_9, .int .i64 a0_10, .string a0_11]] (by rfl) rfl rfl (by (try simp only [List.map_toArray, List.map_cons, List.map_nil]); first | done | rfl | (simp only [List.length_drop, List.length_take]; rfl)) ?_
 with_reducible refine (change_tar.calls k a0_0 a0_1 a0_2 a0_3 a0_4 a0_5 a0_6 a0_7 a0_8 a0_9 a0_10 a0_11 t319 _ (hG.ext (by repeat (first | (with_reducible first | exact HB.out | apply below_alloc | apply pw_below_drewN | apply below_drew1 | refine below_set ?_ GE317.out | refine below_set ?_ GE318.out) | exact HB.out))) A3.out).mono ?_
 rintro e w9 ⟨rfl, hb⟩
 refine ⟨_, rfl, ?_⟩
 have n0_ := Aside0.mk (blk_below (g := gb317) (o := .cells #[.string a0_0, .int .i64 a0_1, .int .i64 a0_2, .int .i64 a0_3, .int .i64 a0_4, .int .i64 a0_5, .int .i64 a0_6, .string a0_7, .string a0_8, .int .i64 a0_9, .int .i64 a0_10, .string a0_11] 38 (0, 0)) (by (with_reducible repeat (first | refine blk_drewN ?_ _ | refine blk_drew ?_ | refine blk_alloc ?_ _)); exact BK317.out) hb)
 have n1_ := Aside0.mk (blk_below (g := gb318) (o := .cells #[.string a1_0, .int .i64 a1_1, .int .i64 a1_2, .int .i64 a1_3, .int .i64 a1_4, .int .i64 a1_5, .int .i64 a1_6, .string a1_7, .string a1_8, .int .i64 a1_9, .int .i64 a1_10, .string a1_11] 38 (0, 0)) (by (with_reducible repeat (first | refine blk_drewN ?_ _ | refine blk_drew ?_ | refine blk_alloc ?_ _)); exact BK318.out) hb)
 have n2_ := Aside0.mk (below_step (by repeat (first | (with_reducible first | exact HB.out | apply below_alloc | apply pw_below_drewN | apply below_drew1 | refine below_set ?_ GE317.out | refine below_set ?_ GE318.out) | exact HB.out)) hb)
 clear BK317
 clear BK318
 clear HB
 have BK317 := n0_
 have BK318 := n1_
 have HB := n2_
 clear n0_ n1_ n2_
 (try clear hb)
 (try clear hb2)
 (try clear hk)
 (try clear hi)
 refine hK.out _ _ ⟨(blk_cell BK317.out 0).trans rfl, (blk_cell BK317.out 1).trans rfl, (blk_cell BK317.out 2).trans rfl, (blk_cell BK317.out 3).trans rfl, (blk_cell BK317.out 4).trans rfl, (blk_cell BK317.out 5).trans rfl, (blk_cell BK317.out 6).trans rfl, (blk_cell BK317.out 7).trans rfl, (blk_cell BK317.out 8).trans rfl, (blk_cell BK317.out 9).trans rfl, (blk_cell BK317.out 10).trans rfl, (blk_cell BK317.out 11).trans rfl, (blk_cell BK318.out 0).trans rfl, (blk_cell BK318.out 1).trans rfl, (blk_cell BK318.out 2).trans rfl, (blk_cell BK318.out 3).trans rfl, (blk_cell BK318.out 4).trans rfl, (blk_cell BK318.out 5).trans rfl, (blk_cell BK318.out 6).trans rfl, (blk_cell BK318.out 7).trans rfl, (blk_cell BK318.out 8).trans rfl, (blk_cell BK318.out 9).trans rfl, (blk_cell BK318.out 10).trans rfl, (blk_cell BK318.out 11).trans rfl⟩ (fun hHeld => ?_)
 clear hK K
 refine norm_ (a' := ?_) ?_ ?_
 rotate_left
 ·show Act.put _ (some 6) _ = _
  simp only [Act.put, List.setIfInBounds_toArray, List.set_cons_zero, List.set_cons_succ, i64_w, i32_w]
  rfl
 refine one_ (i := 3) (N := some 8) #[true, true, true, true, false, false] rfl rfl (by kernel_rfl) (by decide) (fun K hK => ?_)
 refine goes_ Tryz.func115 (by kernel_rfl) rfl #[.agg #[.string a1_0, .int .i64 a1_1, .int .i64 a1_2, .int .i64 a1_3, .int .i64 a1_4, .int .i64 a1_5, .int .i64 a1_6, .string a1_7, .string a1_8, .int .i64 a1_9, .int .i64 a1_10, .string a1_11]] (by rfl) rfl rfl (by (try simp only [List.map_toArray, List.map_cons, List.map_nil]); first | done | rfl | (simp only [List.length_drop, List.length_take]; rfl)) ?_
 with_reducible refine (change_tar.calls k a1_0 a1_1 a1_2 a1_3 a1_4 a1_5 a1_6 a1_7 a1_8 a1_9 a1_10 a1_11 t320 _ (hG.ext (by repeat (first | (with_reducible first | exact HB.out | apply below_alloc | apply pw_below_drewN | apply below_drew1 | refine below_set ?_ GE317.out | refine below_set ?_ GE318.out) | exact HB.out))) A4.out).mono ?_
 rintro e w10 ⟨rfl, hb⟩
 refine ⟨_, rfl, ?_⟩
 have n0_ := Aside0.mk (blk_below (g := gb317) (o := .cells #[.string a0_0, .int .i64 a0_1, .int .i64 a0_2, .int .i64 a0_3, .int .i64 a0_4, .int .i64 a0_5, .int .i64 a0_6, .string a0_7, .string a0_8, .int .i64 a0_9, .int .i64 a0_10, .string a0_11] 38 (0, 0)) (by (with_reducible repeat (first | refine blk_drewN ?_ _ | refine blk_drew ?_ | refine blk_alloc ?_ _)); exact BK317.out) hb)
 have n1_ := Aside0.mk (blk_below (g := gb318) (o := .cells #[.string a1_0, .int .i64 a1_1, .int .i64 a1_2, .int .i64 a1_3, .int .i64 a1_4, .int .i64 a1_5, .int .i64 a1_6, .string a1_7, .string a1_8, .int .i64 a1_9, .int .i64 a1_10, .string a1_11] 38 (0, 0)) (by (with_reducible repeat (first | refine blk_drewN ?_ _ | refine blk_drew ?_ | refine blk_alloc ?_ _)); exact BK318.out) hb)
 have n2_ := Aside0.mk (below_step (by repeat (first | (with_reducible first | exact HB.out | apply below_alloc | apply pw_below_drewN | apply below_drew1 | refine below_set ?_ GE317.out | refine below_set ?_ GE318.out) | exact HB.out)) hb)
 clear BK317
 clear BK318
 clear HB
 have BK317 := n0_
 have BK318 := n1_
 have HB := n2_
 clear n0_ n1_ n2_
 (try clear hb)
 (try clear hb2)
 (try clear hk)
 (try clear hi)
 refine hK.out _ _ ⟨(blk_cell BK317.out 0).trans rfl, (blk_cell BK317.out 1).trans rfl, (blk_cell BK317.out 2).trans rfl, (blk_cell BK317.out 3).trans rfl, (blk_cell BK317.out 4).trans rfl, (blk_cell BK317.out 5).trans rfl, (blk_cell BK317.out 6).trans rfl, (blk_cell BK317.out 7).trans rfl, (blk_cell BK317.out 8).trans rfl, (blk_cell BK317.out 9).trans rfl, (blk_cell BK317.out 10).trans rfl, (blk_cell BK317.out 11).trans rfl, (blk_cell BK318.out 0).trans rfl, (blk_cell BK318.out 1).trans rfl, (blk_cell BK318.out 2).trans rfl, (blk_cell BK318.out 3).trans rfl, (blk_cell BK318.out 4).trans rfl, (blk_cell BK318.out 5).trans rfl, (blk_cell BK318.out 6).trans rfl, (blk_cell BK318.out 7).trans rfl, (blk_cell BK318.out 8).trans rfl, (blk_cell BK318.out 9).trans rfl, (blk_cell BK318.out 10).trans rfl, (blk_cell BK318.out 11).trans rfl⟩ (fun hHeld => ?_)
 clear hK K
 refine norm_ (a' := ?_) ?_ ?_
 rotate_left
 ·show Act.put _ (some 8) _ = _
  simp only [Act.put, List.setIfInBounds_toArray, List.set_cons_zero, List.set_cons_succ, i64_w, i32_w]
  rfl
 refine one_ (i := 4) (N := some 9) #[true, true, true, true, true, false] rfl rfl (by kernel_rfl) (by decide) (fun K hK => ?_)
 refine goes_ Tryz.func38 (by kernel_rfl) rfl #[.string t319, .string t320] (by rfl) rfl rfl (by (try simp only [List.map_toArray, List.map_cons, List.map_nil]); first | done | rfl | (simp only [List.length_drop, List.length_take]; rfl)) ?_
 with_reducible refine (paths_Compare.calls t319 t320 t321 _ (hG.ext (by repeat (first | (with_reducible first | exact HB.out | apply below_alloc | apply pw_below_drewN | apply below_drew1 | refine below_set ?_ GE317.out | refine below_set ?_ GE318.out) | exact HB.out))) A5.out).mono ?_
 rintro e w11 ⟨rfl, hb⟩
 refine ⟨_, rfl, ?_⟩
 have n0_ := Aside0.mk (blk_below (g := gb317) (o := .cells #[.string a0_0, .int .i64 a0_1, .int .i64 a0_2, .int .i64 a0_3, .int .i64 a0_4, .int .i64 a0_5, .int .i64 a0_6, .string a0_7, .string a0_8, .int .i64 a0_9, .int .i64 a0_10, .string a0_11] 38 (0, 0)) (by (with_reducible repeat (first | refine blk_drewN ?_ _ | refine blk_drew ?_ | refine blk_alloc ?_ _)); exact BK317.out) hb)
 have n1_ := Aside0.mk (blk_below (g := gb318) (o := .cells #[.string a1_0, .int .i64 a1_1, .int .i64 a1_2, .int .i64 a1_3, .int .i64 a1_4, .int .i64 a1_5, .int .i64 a1_6, .string a1_7, .string a1_8, .int .i64 a1_9, .int .i64 a1_10, .string a1_11] 38 (0, 0)) (by (with_reducible repeat (first | refine blk_drewN ?_ _ | refine blk_drew ?_ | refine blk_alloc ?_ _)); exact BK318.out) hb)
 have n2_ := Aside0.mk (below_step (by repeat (first | (with_reducible first | exact HB.out | apply below_alloc | apply pw_below_drewN | apply below_drew1 | refine below_set ?_ GE317.out | refine below_set ?_ GE318.out) | exact HB.out)) hb)
 clear BK317
 clear BK318
 clear HB
 have BK317 := n0_
 have BK318 := n1_
 have HB := n2_
 clear n0_ n1_ n2_
 (try clear hb)
 (try clear hb2)
 (try clear hk)
 (try clear hi)
 refine hK.out _ _ ⟨(blk_cell BK317.out 0).trans rfl, (blk_cell BK317.out 1).trans rfl, (blk_cell BK317.out 2).trans rfl, (blk_cell BK317.out 3).trans rfl, (blk_cell BK317.out 4).trans rfl, (blk_cell BK317.out 5).trans rfl, (blk_cell BK317.out 6).trans rfl, (blk_cell BK317.out 7).trans rfl, (blk_cell BK317.out 8).trans rfl, (blk_cell BK317.out 9).trans rfl, (blk_cell BK317.out 10).trans rfl, (blk_cell BK317.out 11).trans rfl, (blk_cell BK318.out 0).trans rfl, (blk_cell BK318.out 1).trans rfl, (blk_cell BK318.out 2).trans rfl, (blk_cell BK318.out 3).trans rfl, (blk_cell BK318.out 4).trans rfl, (blk_cell BK318.out 5).trans rfl, (blk_cell BK318.out 6).trans rfl, (blk_cell BK318.out 7).trans rfl, (blk_cell BK318.out 8).trans rfl, (blk_cell BK318.out 9).trans rfl, (blk_cell BK318.out 10).trans rfl, (blk_cell BK318.out 11).trans rfl⟩ (fun hHeld => ?_)
 clear hK K
 refine norm_ (a' := ?_) ?_ ?_
 rotate_left
 ·show Act.put _ (some 9) _ = _
  simp only [Act.put, List.setIfInBounds_toArray, List.set_cons_zero, List.set_cons_succ, i64_w, i32_w]
  rfl
 refine pure_ (i := 5) (N := some 4) (v := ?_) (a' := ?_) #[true, true, true, true, true, true] rfl rfl (by kernel_rfl) (fun _ _ _ h => h) (Or.inl ⟨by rfl, ?_⟩) ?_ ?_
 rotate_left
 ·intro w'
  go_simp
  with_reducible rfl
 rotate_left
 ·simp only [Act.put, List.setIfInBounds_toArray, List.set_cons_zero, List.set_cons_succ, i64_w, i32_w]
  rfl
 refine done_ (by kernel_rfl) ?_
 try go_wp2
 go_ret
 exact ⟨by first | rfl | (simp [errW_none, errW_some] <;> rfl) | (simp [*, errW_none, errW_some] <;> rfl), by repeat (first | (with_reducible first | exact HB.out | apply below_alloc | apply pw_below_drewN | apply below_drew1 | refine below_set ?_ GE317.out | refine below_set ?_ GE318.out) | exact HB.out)⟩
end Go.Proofs.YtdkjinmkallhnaaGreatDoorQ
end
section
namespace Go.Proofs.YtdkjinmkallhnaaGreatDoorQ
open Go.RowKit Go.Proofs.YtdkjinmkallhnaaGreatDoorW.PrintWords Go.Proofs.YtdkjinmkallhnaaGreatDoorW.PrintLast Go.Proofs.YtdkjinmkallhnaaGreatDoorW.PrintMore
open Go.Proofs.YtdkjinmkallhnaaGreatDoor (GL)
attribute [local go_sem] max2_int min2_int max_two min_two max_three min_three max_four min_four
def change_Less.f (k : Nat) (a0_0 : ByteArray) (a0_1 : Int) (a0_2 : Int) (a0_3 : Int) (a0_4 : Int) (a0_5 : Int) (a0_6 : Int) (a0_7 : ByteArray) (a0_8 : ByteArray) (a0_9 : Int) (a0_10 : Int) (a0_11 : ByteArray) (a1_0 : ByteArray) (a1_1 : Int) (a1_2 : Int) (a1_3 : Int) (a1_4 : Int) (a1_5 : Int) (a1_6 : Int) (a1_7 : ByteArray) (a1_8 : ByteArray) (a1_9 : Int) (a1_10 : Int) (a1_11 : ByteArray) : Option (Bool) := (change_compare.f k a0_0 a0_1 a0_2 a0_3 a0_4 a0_5 a0_6 a0_7 a0_8 a0_9 a0_10 a0_11 a1_0 a1_1 a1_2 a1_3 a1_4 a1_5 a1_6 a1_7 a1_8 a1_9 a1_10 a1_11).bind fun t324 => (some (decide (t324 < 0)))
set_option maxHeartbeats 8000000 in
set_option maxRecDepth 100000 in
theorem change_Less.calls (k : Nat) (a0_0 : ByteArray) (a0_1 : Int) (a0_2 : Int) (a0_3 : Int) (a0_4 : Int) (a0_5 : Int) (a0_6 : Int) (a0_7 : ByteArray) (a0_8 : ByteArray) (a0_9 : Int) (a0_10 : Int) (a0_11 : ByteArray) (a1_0 : ByteArray) (a1_1 : Int) (a1_2 : Int) (a1_3 : Int) (a1_4 : Int) (a1_5 : Int) (a1_6 : Int) (a1_7 : ByteArray) (a1_8 : ByteArray) (a1_9 : Int) (a1_10 : Int) (a1_11 : ByteArray) (r : Bool) (w : World) (hG : GL w) (h : change_Less.f k a0_0 a0_1 a0_2 a0_3 a0_4 a0_5 a0_6 a0_7 a0_8 a0_9 a0_10 a0_11 a1_0 a1_1 a1_2 a1_3 a1_4 a1_5 a1_6 a1_7 a1_8 a1_9 a1_10 a1_11 = some r) :
  Calls Tryz.prog 54 #[.agg #[.string a0_0, .int .i64 a0_1, .int .i64 a0_2, .int .i64 a0_3, .int .i64 a0_4, .int .i64 a0_5, .int .i64 a0_6, .string a0_7, .string a0_8, .int .i64 a0_9, .int .i64 a0_10, .string a0_11], .agg #[.string a1_0, .int .i64 a1_1, .int .i64 a1_2, .int .i64 a1_3, .int .i64 a1_4, .int .i64 a1_5, .int .i64 a1_6, .string a1_7, .string a1_8, .int .i64 a1_9, .int .i64 a1_10, .string a1_11]] w fun e w' => e = .returned (.bool r) ∧ Below w.heap.size w w' := by
 have hu38 := Tryz.underlying38
 have HB := Aside0.mk (Below.refl w.heap.size w)
 have H : ((change_compare.f k a0_0 a0_1 a0_2 a0_3 a0_4 a0_5 a0_6 a0_7 a0_8 a0_9 a0_10 a0_11 a1_0 a1_1 a1_2 a1_3 a1_4 a1_5 a1_6 a1_7 a1_8 a1_9 a1_10 a1_11).bind fun t324 => (some (decide (t324 < 0)))) = some r := h
 clear h
 replace H := Option.bind_eq_some_iff.mp H
 obtain ⟨t324, A30, H⟩ := H
 replace H : (some (decide (t324 < 0))) = some r := H
 have A3 := Aside0.mk A30
 clear A30
 obtain rfl := Option.some.inj H
 go_enter Tryz.func54, Tryz.ntmps54
 go_wp2_with (first | ((with_reducible refine gate_dst (N := 2) rfl ?_); refine box_event ?hg (N := 2) ?hd (cs := #[.string a0_0, .int .i64 a0_1, .int .i64 a0_2, .int .i64 a0_3, .int .i64 a0_4, .int .i64 a0_5, .int .i64 a0_6, .string a0_7, .string a0_8, .int .i64 a0_9, .int .i64 a0_10, .string a0_11]) (t := 38) ?hr ?_; (case hd => rfl); (case hg => rfl); (case hr => first | (go_simp; done) | (go_simp; rfl)); intro gb322 hg w4 hbox hb; have n0_ := Aside0.mk (below_step (by repeat (first | (with_reducible first | exact HB.out | apply below_alloc | apply pw_below_drewN | apply below_drew1) | exact HB.out)) hb); have n1_ := Aside0.mk (hbox); have n2_ := Aside0.mk ((by rw [hg]; exact (below_size (by repeat (first | (with_reducible first | exact HB.out | apply below_alloc | apply pw_below_drewN | apply below_drew1) | exact HB.out))) : w.heap.size ≤ gb322)); have n3_ := Aside0.mk ((by rw [hg]; exact (below_size (by repeat (first | (with_reducible first | exact HB.out | apply below_alloc | apply pw_below_drewN | apply below_drew1) | exact HB.out))) : w.heap.size ≤ gb322)); clear HB; have HB := n0_; have BK322 := n1_; have GW322 := n2_; have GE322 := n3_; clear n0_ n1_ n2_ n3_; clear hb hbox hg) | ((with_reducible refine gate_dst (N := 3) rfl ?_); refine box_event ?hg (N := 3) ?hd (cs := #[.string a1_0, .int .i64 a1_1, .int .i64 a1_2, .int .i64 a1_3, .int .i64 a1_4, .int .i64 a1_5, .int .i64 a1_6, .string a1_7, .string a1_8, .int .i64 a1_9, .int .i64 a1_10, .string a1_11]) (t := 38) ?hr ?_; (case hd => rfl); (case hg => rfl); (case hr => first | (go_simp; done) | (go_simp; rfl)); intro gb323 hg w5 hbox hb; have n0_ := Aside0.mk (blk_below (g := gb322) (o := .cells #[.string a0_0, .int .i64 a0_1, .int .i64 a0_2, .int .i64 a0_3, .int .i64 a0_4, .int .i64 a0_5, .int .i64 a0_6, .string a0_7, .string a0_8, .int .i64 a0_9, .int .i64 a0_10, .string a0_11] 38 (0, 0)) (by (with_reducible repeat (first | refine blk_drewN ?_ _ | refine blk_drew ?_ | refine blk_alloc ?_ _)); exact BK322.out) hb); have n1_ := Aside0.mk (below_step (by repeat (first | (with_reducible first | exact HB.out | apply below_alloc | apply pw_below_drewN | apply below_drew1 | refine below_set ?_ GE322.out) | exact HB.out)) hb); have n2_ := Aside0.mk (hbox); have n3_ := Aside0.mk ((by rw [hg]; exact (below_size (by repeat (first | (with_reducible first | exact HB.out | apply below_alloc | apply pw_below_drewN | apply below_drew1 | refine below_set ?_ GE322.out) | exact HB.out))) : w.heap.size ≤ gb323)); have n4_ := Aside0.mk ((by rw [hg]; exact (below_size (by repeat (first | (with_reducible first | exact HB.out | apply below_alloc | apply pw_below_drewN | apply below_drew1 | refine below_set ?_ GE322.out) | exact HB.out))) : w.heap.size ≤ gb323)); have n5_ := Aside0.mk ((by rw [hg]; exact Nat.ne_of_lt (blk_lt (g := gb322) (o := .cells #[.string a0_0, .int .i64 a0_1, .int .i64 a0_2, .int .i64 a0_3, .int .i64 a0_4, .int .i64 a0_5, .int .i64 a0_6, .string a0_7, .string a0_8, .int .i64 a0_9, .int .i64 a0_10, .string a0_11] 38 (0, 0)) (by (with_reducible repeat (first | refine blk_drewN ?_ _ | refine blk_drew ?_ | refine blk_alloc ?_ _)); exact BK322.out)) : gb322 ≠ gb323)); have n6_ := Aside0.mk ((by rw [hg]; exact Nat.ne_of_gt (blk_lt (g := gb322) (o := .cells #[.string a0_0, .int .i64 a0_1, .int .i64 a0_2, .int .i64 a0_3, .int .i64 a0_4, .int .i64 a0_5, .int .i64 a0_6, .string a0_7, .string a0_8, .int .i64 a0_9, .int .i64 a0_10, .string a0_11] 38 (0, 0)) (by (with_reducible repeat (first | refine blk_drewN ?_ _ | refine blk_drew ?_ | refine blk_alloc ?_ _)); exact BK322.out)) : gb323 ≠ gb322)); clear BK322; clear HB; have BK322 := n0_; have HB := n1_; have BK323 := n2_; have GW323 := n3_; have GE323 := n4_; have NB322_323 := n5_; have NB323_322 := n6_; clear n0_ n1_ n2_ n3_ n4_ n5_ n6_; clear hb hbox hg; have hnb6 := NB322_323.out; have hnc6 := NB323_322.out; have hcz7_0 : w5.cell? ⟨gb322, 0, none⟩ = some (.string a0_0) := (blk_cell BK322.out 0).trans rfl; have hcz7_1 : w5.cell? ⟨gb322, 1, none⟩ = some (.int .i64 a0_1) := (blk_cell BK322.out 1).trans rfl; have hcz7_2 : w5.cell? ⟨gb322, 2, none⟩ = some (.int .i64 a0_2) := (blk_cell BK322.out 2).trans rfl; have hcz7_3 : w5.cell? ⟨gb322, 3, none⟩ = some (.int .i64 a0_3) := (blk_cell BK322.out 3).trans rfl; have hcz7_4 : w5.cell? ⟨gb322, 4, none⟩ = some (.int .i64 a0_4) := (blk_cell BK322.out 4).trans rfl; have hcz7_5 : w5.cell? ⟨gb322, 5, none⟩ = some (.int .i64 a0_5) := (blk_cell BK322.out 5).trans rfl; have hcz7_6 : w5.cell? ⟨gb322, 6, none⟩ = some (.int .i64 a0_6) := (blk_cell BK322.out 6).trans rfl; have hcz7_7 : w5.cell? ⟨gb322, 7, none⟩ = some (.string a0_7) := (blk_cell BK322.out 7).trans rfl; have hcz7_8 : w5.cell? ⟨gb322, 8, none⟩ = some (.string a0_8) := (blk_cell BK322.out 8).trans rfl; have hcz7_9 : w5.cell? ⟨gb322, 9, none⟩ = some (.int .i64 a0_9) := (blk_cell BK322.out 9).trans rfl; have hcz7_10 : w5.cell? ⟨gb322, 10, none⟩ = some (.int .i64 a0_10) := (blk_cell BK322.out 10).trans rfl; have hcz7_11 : w5.cell? ⟨gb322, 11, none⟩ = some (.string a0_11) := (blk_cell BK322.out 11).trans rfl; have hfz7_0 := blk_frozen BK322.out 0; have hfz7_1 := blk_frozen BK322.out 1; have hfz7_2 := blk_frozen BK322.out 2; have hfz7_3 := blk_frozen BK322.out 3; have hfz7_4 := blk_frozen BK322.out 4; have hfz7_5 := blk_frozen BK322.out 5; have hfz7_6 := blk_frozen BK322.out 6; have hfz7_7 := blk_frozen BK322.out 7; have hfz7_8 := blk_frozen BK322.out 8; have hfz7_9 := blk_frozen BK322.out 9; have hfz7_10 := blk_frozen BK322.out 10; have hfz7_11 := blk_frozen BK322.out 11; have hcz8_0 : w5.cell? ⟨gb323, 0, none⟩ = some (.string a1_0) := (blk_cell BK323.out 0).trans rfl; have hcz8_1 : w5.cell? ⟨gb323, 1, none⟩ = some (.int .i64 a1_1) := (blk_cell BK323.out 1).trans rfl; have hcz8_2 : w5.cell? ⟨gb323, 2, none⟩ = some (.int .i64 a1_2) := (blk_cell BK323.out 2).trans rfl; have hcz8_3 : w5.cell? ⟨gb323, 3, none⟩ = some (.int .i64 a1_3) := (blk_cell BK323.out 3).trans rfl; have hcz8_4 : w5.cell? ⟨gb323, 4, none⟩ = some (.int .i64 a1_4) := (blk_cell BK323.out 4).trans rfl; have hcz8_5 : w5.cell? ⟨gb323, 5, none⟩ = some (.int .i64 a1_5) := (blk_cell BK323.out 5).trans rfl; have hcz8_6 : w5.cell? ⟨gb323, 6, none⟩ = some (.int .i64 a1_6) := (blk_cell BK323.out 6).trans rfl; have hcz8_7 : w5.cell? ⟨gb323, 7, none⟩ = some (.string a1_7) := (blk_cell BK323.out 7).trans rfl; have hcz8_8 : w5.cell? ⟨gb323, 8, none⟩ = some (.string a1_8) := (blk_cell BK323.out 8).trans rfl; have hcz8_9 : w5.cell? ⟨gb323, 9, none⟩ = some (.int .i64 a1_9) := (blk_cell BK323.out 9).trans rfl; have hcz8_10 : w5.cell? ⟨gb323, 10, none⟩ = some (.int .i64 a1_10) := (blk_cell BK323.out 10).trans rfl; have hcz8_11 : w5.cell? ⟨gb323, 11, none⟩ = some (.string a1_11) := (blk_cell BK323.out 11).trans rfl; have hfz8_0 := blk_frozen BK323.out 0; have hfz8_1 := blk_frozen BK323.out 1; have hfz8_2 := blk_frozen BK323.out 2; have hfz8_3 := blk_frozen BK323.out 3; have hfz8_4 := blk_frozen BK323.out 4; have hfz8_5 := blk_frozen BK323.out 5; have hfz8_6 := blk_frozen BK323.out 6; have hfz8_7 := blk_frozen BK323.out 7; have hfz8_8 := blk_frozen BK323.out 8; have hfz8_9 := blk_frozen BK323.out 9; have hfz8_10 := blk_frozen BK323.out 10; have hfz8_11 := blk_frozen BK323.out 11) | ((with_reducible refine gate_callee (f := 88) rfl ?_); refine goesL_ (some 7) rfl rfl Tryz.func88 (by kernel_rfl) rfl #[.agg #[.string a0_0, .int .i64 a0_1, .int .i64 a0_2, .int .i64 a0_3, .int .i64 a0_4, .int .i64 a0_5, .int .i64 a0_6, .string a0_7, .string a0_8, .int .i64 a0_9, .int .i64 a0_10, .string a0_11], .agg #[.string a1_0, .int .i64 a1_1, .int .i64 a1_2, .int .i64 a1_3, .int .i64 a1_4, .int .i64 a1_5, .int .i64 a1_6, .string a1_7, .string a1_8, .int .i64 a1_9, .int .i64 a1_10, .string a1_11]] rfl (by (try simp only [List.map_toArray, List.map_cons, List.map_nil]); first | done | rfl | (simp only [List.length_drop, List.length_take]; rfl)) ?_; (with_reducible refine (change_compare.calls k a0_0 a0_1 a0_2 a0_3 a0_4 a0_5 a0_6 a0_7 a0_8 a0_9 a0_10 a0_11 a1_0 a1_1 a1_2 a1_3 a1_4 a1_5 a1_6 a1_7 a1_8 a1_9 a1_10 a1_11 t324 _ (hG.ext (by repeat (first | (with_reducible first | exact HB.out | apply below_alloc | apply pw_below_drewN | apply below_drew1 | refine below_set ?_ GE322.out | refine below_set ?_ GE323.out) | exact HB.out))) A3.out).mono ?_); rintro e w9 ⟨rfl, hb⟩; refine ⟨_, rfl, ?_⟩; have n0_ := Aside0.mk (blk_below (g := gb322) (o := .cells #[.string a0_0, .int .i64 a0_1, .int .i64 a0_2, .int .i64 a0_3, .int .i64 a0_4, .int .i64 a0_5, .int .i64 a0_6, .string a0_7, .string a0_8, .int .i64 a0_9, .int .i64 a0_10, .string a0_11] 38 (0, 0)) (by (with_reducible repeat (first | refine blk_drewN ?_ _ | refine blk_drew ?_ | refine blk_alloc ?_ _)); exact BK322.out) hb); have n1_ := Aside0.mk (blk_below (g := gb323) (o := .cells #[.string a1_0, .int .i64 a1_1, .int .i64 a1_2, .int .i64 a1_3, .int .i64 a1_4, .int .i64 a1_5, .int .i64 a1_6, .string a1_7, .string a1_8, .int .i64 a1_9, .int .i64 a1_10, .string a1_11] 38 (0, 0)) (by (with_reducible repeat (first | refine blk_drewN ?_ _ | refine blk_drew ?_ | refine blk_alloc ?_ _)); exact BK323.out) hb); have n2_ := Aside0.mk (below_step (by repeat (first | (with_reducible first | exact HB.out | apply below_alloc | apply pw_below_drewN | apply below_drew1 | refine below_set ?_ GE322.out | refine below_set ?_ GE323.out) | exact HB.out)) hb); clear BK322; clear BK323; clear HB; have BK322 := n0_; have BK323 := n1_; have HB := n2_; clear n0_ n1_ n2_; (try clear hb); (try clear hb2); (try clear hk); (try clear hi)))
 go_ret
 exact ⟨by first | rfl | (simp [errW_none, errW_some] <;> rfl) | (simp [*, errW_none, errW_some] <;> rfl), by repeat (first | (with_reducible first | exact HB.out | apply below_alloc | apply pw_below_drewN | apply below_drew1 | refine below_set ?_ GE322.out | refine below_set ?_ GE323.out) | exact HB.out)⟩
end Go.Proofs.YtdkjinmkallhnaaGreatDoorQ
end
section
namespace Go.Proofs.YtdkjinmkallhnaaGreatDoorQ
open Go.RowKit Go.Proofs.YtdkjinmkallhnaaGreatDoor Go.Proofs.YtdkjinmkallhnaaGreatDoorW.PrintWords Go.Proofs.YtdkjinmkallhnaaGreatDoorW.PrintLast
open Go.Proofs.YtdkjinmkallhnaaGreatDoorT (partM markedM markM opqM isM parM lastM underM markF unmarkF wouldM tarM belowM)
theorem rdOf_map (l : List Str) (i : Nat) (h : i < l.length) : rdOf ByteArray.empty (l.map B) (i : Int) = B (l[i]'h) := by
  unfold rdOf
  rw [show ((i : Nat) : Int).toNat = i from by omega]
  simp [h]
theorem anyBad_l : ∀ (d : Nat) (l : List Str) (i : Nat) (k : Nat), l.length - i = d → i ≤ l.length → l.length ≤ 5000000000 → d < k →
    ∃ r : Int, pq6.l0 k (l.map B) (l.length : Int) i = some r ∧ (decide (r ≥ 0) = (l.drop i).any fun x => !partM x) := by
  intro d
  induction d with
  | zero =>
    intro l i k hd hi hl hk
    obtain ⟨k, rfl⟩ : ∃ m, k = m + 1 := ⟨k - 1, by omega⟩
    refine ⟨-1, ?_, ?_⟩
    · simp only [pq6.l0]
      rw [if_neg (by omega)]
    · rw [List.drop_eq_nil_of_le (by omega)]; rfl
  | succ d ih =>
    intro l i k hd hi hl hk
    obtain ⟨k, rfl⟩ : ∃ m, k = m + 1 := ⟨k - 1, by omega⟩
    have hlt : i < l.length := by omega
    simp only [pq6.l0]
    rw [if_pos (by omega), if_pos (by omega), if_pos (by simp; omega), rdOf_map l i hlt, bad_f]
    simp only [Option.bind_some]
    rw [List.drop_eq_getElem_cons hlt, List.any_cons]
    cases hb : partM l[i] with
    | false =>
      refine ⟨i, ?_, ?_⟩
      · simp
      · simp
    | true =>
      obtain ⟨r, h1, h2⟩ := ih l (i + 1) k (by omega) (by omega) hl (by omega)
      refine ⟨r, ?_, ?_⟩
      · simp only [Bool.not_true, Bool.false_eq_true, if_false]
        rw [wrap_in (by omega) (by omega)]
        exact h1
      · rw [h2]; simp
theorem anyBad (l : List Str) (hl : l.length ≤ 5000000000) (k : Nat) (hk : l.length < k) : pq2.f k (l.map B) () = some (!l.all partM) := by
  unfold pq2.f pq6.f
  obtain ⟨r, h1, h2⟩ := anyBad_l l.length l 0 k (by omega) (by omega) hl hk
  rw [List.length_map]
  rw [show ((0 : Nat) : Int) = 0 from rfl] at h1
  rw [h1]
  simp only [Option.bind_some, Option.some.injEq]
  rw [h2, List.drop_zero, List.not_all_eq_any_not]
theorem anyLong_l : ∀ (d : Nat) (l : List Str) (i : Nat) (k : Nat), l.length - i = d → i ≤ l.length → l.length ≤ 5000000000 → d < k →
    ∃ r : Int, pq5.l0 k (l.map B) (l.length : Int) i = some r ∧ (decide (r ≥ 0) = (l.drop i).any fun x => !decide (x.length ≤ 251)) := by
  intro d
  induction d with
  | zero =>
    intro l i k hd hi hl hk
    obtain ⟨k, rfl⟩ : ∃ m, k = m + 1 := ⟨k - 1, by omega⟩
    refine ⟨-1, ?_, ?_⟩
    · simp only [pq5.l0]
      rw [if_neg (by omega)]
    · rw [List.drop_eq_nil_of_le (by omega)]; rfl
  | succ d ih =>
    intro l i k hd hi hl hk
    obtain ⟨k, rfl⟩ : ∃ m, k = m + 1 := ⟨k - 1, by omega⟩
    have hlt : i < l.length := by omega
    simp only [pq5.l0]
    rw [if_pos (by omega), if_pos (by omega), if_pos (by simp; omega), rdOf_map l i hlt, long_f]
    simp only [Option.bind_some]
    rw [List.drop_eq_getElem_cons hlt, List.any_cons]
    cases hb : decide (l[i].length ≤ 251) with
    | false =>
      refine ⟨i, ?_, ?_⟩
      · simp
      · simp
    | true =>
      obtain ⟨r, h1, h2⟩ := ih l (i + 1) k (by omega) (by omega) hl (by omega)
      refine ⟨r, ?_, ?_⟩
      · simp only [Bool.not_true, Bool.false_eq_true, if_false]
        rw [wrap_in (by omega) (by omega)]
        exact h1
      · rw [h2]; simp
theorem anyLong (l : List Str) (hl : l.length ≤ 5000000000) (k : Nat) (hk : l.length < k) : pq1.f k (l.map B) () = some (!l.all fun x => decide (x.length ≤ 251)) := by
  unfold pq1.f pq5.f
  obtain ⟨r, h1, h2⟩ := anyLong_l l.length l 0 k (by omega) (by omega) hl hk
  rw [List.length_map]
  rw [show ((0 : Nat) : Int) = 0 from rfl] at h1
  rw [h1]
  simp only [Option.bind_some, Option.some.injEq]
  rw [h2, List.drop_zero, List.not_all_eq_any_not]
theorem is_f (s : Str) (hs : s.length ≤ 4000000000) (k : Nat) (hk : s.length + 1 < k) : paths_is.f k (B s) = some (isM s) := by
  have hc := cut_len s
  have hne := YtdkjinmkallhnaaGreatDoorT.cutM_ne s
  have hpos : 0 < (YtdkjinmkallhnaaGreatDoorT.cutM s).length := List.length_pos_iff.2 hne
  have hlast : rdOf ByteArray.empty ((YtdkjinmkallhnaaGreatDoorT.cutM s).map B) (((YtdkjinmkallhnaaGreatDoorT.cutM s).length : Int) - 1) = B (lastM s) := by
    rw [show (((YtdkjinmkallhnaaGreatDoorT.cutM s).length : Int) - 1) = (((YtdkjinmkallhnaaGreatDoorT.cutM s).length - 1 : Nat) : Int) from by omega, rdOf_map _ _ (by omega)]
    unfold lastM
    rw [List.getLast_eq_getElem]
  have htake : ((YtdkjinmkallhnaaGreatDoorT.cutM s).map B).take (((YtdkjinmkallhnaaGreatDoorT.cutM s).length : Int) - 1).toNat = ((YtdkjinmkallhnaaGreatDoorT.cutM s).dropLast).map B := by
    rw [show (((YtdkjinmkallhnaaGreatDoorT.cutM s).length : Int) - 1).toNat = (YtdkjinmkallhnaaGreatDoorT.cutM s).length - 1 from by omega, List.dropLast_eq_take, List.map_take]
  unfold paths_is.f
  rw [splits_f s hs]
  simp only [Option.bind_some, List.length_map]
  rw [wrap_in (by omega) (by omega), if_pos (by omega), if_pos (by omega), hlast]
  have hm := hp_f (lastM s) [46, 119, 104, 46]
  rw [show (⟨#[46, 119, 104, 46]⟩ : ByteArray) = B [46, 119, 104, 46] from rfl, hm]
  have hmk : List.isPrefixOf [46, 119, 104, 46] (lastM s) = markedM (lastM s) := rfl
  rw [hmk]
  simp only [Option.bind_some, B_size]
  have hbad := anyBad (YtdkjinmkallhnaaGreatDoorT.cutM s) (by omega) k (by omega)
  have hlong := anyLong (YtdkjinmkallhnaaGreatDoorT.cutM s).dropLast (by simp; omega) k (by simp; omega)
  unfold isM
  cases hmd : markedM (lastM s) with
  | true =>
    simp only [if_true]
    by_cases h1 : s.length ≤ 4096
    · rw [if_pos (by omega)]
      by_cases h2 : (lastM s).length ≤ 255
      · rw [if_pos (by omega), hbad]
        simp only [Option.bind_some]
        cases h3 : (YtdkjinmkallhnaaGreatDoorT.cutM s).all partM with
        | false => simp
        | true =>
          simp only [Bool.not_true, Bool.false_eq_true, if_false]
          rw [if_pos (by omega), htake, hlong]
          simp [h1, h2]
      · rw [if_neg (by omega)]; simp [h2]
    · rw [if_neg (by omega)]; simp [h1]
  | false =>
    simp only [Bool.false_eq_true, if_false]
    by_cases h1 : s.length ≤ 4092
    · rw [if_pos (by omega)]
      by_cases h2 : (lastM s).length ≤ 251
      · rw [if_pos (by omega), hbad]
        simp only [Option.bind_some]
        cases h3 : (YtdkjinmkallhnaaGreatDoorT.cutM s).all partM with
        | false => simp
        | true =>
          simp only [Bool.not_true, Bool.false_eq_true, if_false]
          rw [if_pos (by omega), htake, hlong]
          simp [h1, h2]
      · rw [if_neg (by omega)]; simp [h2]
    · rw [if_neg (by omega)]; simp [h1]
def markR (s : Str) : Int × ByteArray × Bool := match markF s with | some (o, p) => (o, B p, true) | none => (0, B [], false)
theorem part_len (s : Str) : (parM s).length ≤ s.length ∧ (lastM s).length ≤ s.length := by
  rcases YtdkjinmkallhnaaGreatDoorT.split_cases s with ⟨_, e, hp⟩ | ⟨_, e⟩
  · rw [hp]; exact ⟨Nat.zero_le _, by rw [← e]; exact Nat.le_refl _⟩
  · have := congrArg List.length e
    simp at this
    omega
theorem mark_f (s : Str) (hs : s.length ≤ 2000000000) (k : Nat) (hk : s.length + 1 < k) : paths_Mark.f k (B s) = some (markR s) := by
  have hl := part_len s
  unfold paths_Mark.f
  rw [split_f s (by omega)]
  simp only [Option.bind_some]
  have hcp : strings_CutPrefix.f (B (lastM s)) (⟨#[46, 119, 104, 46]⟩ : ByteArray) = some (B (if markedM (lastM s) = true then (lastM s).drop 4 else lastM s), markedM (lastM s)) := by
    unfold strings_CutPrefix.f Lib.trimPrefix Lib.hasPrefix
    rfl
  rw [hcp, is_f s (by omega) k hk]
  simp only [Option.bind_some, toList_B]
  unfold markR markF
  cases h1 : isM s with
  | false => simp
  | true =>
    simp only [if_true]
    cases h2 : markedM (lastM s) with
    | false => simp
    | true =>
      simp only [if_true]
      by_cases h3 : lastM s = opqM
      · rw [if_pos h3]
        rw [if_pos (show lastM s = [46, 119, 104, 46, 46, 119, 104, 46, 46, 111, 112, 113] from h3)]
      · rw [if_neg h3]
        rw [if_neg (show ¬ lastM s = [46, 119, 104, 46, 46, 119, 104, 46, 46, 111, 112, 113] from h3)]
        rw [bad_f]
        simp only [Option.bind_some]
        cases h4 : partM ((lastM s).drop 4) with
        | false => simp
        | true =>
          simp only [Bool.not_true, Bool.false_eq_true, if_false]
          rw [show (⟨#[46, 119, 104, 46]⟩ : ByteArray) = B [46, 119, 104, 46] from rfl, hp_f]
          simp only [Option.bind_some]
          have hmk : List.isPrefixOf [46, 119, 104, 46] ((lastM s).drop 4) = markedM ((lastM s).drop 4) := rfl
          rw [hmk]
          cases h5 : markedM ((lastM s).drop 4) with
          | true => simp
          | false =>
            simp only [Bool.false_eq_true, if_false, true_and, if_true]
            rw [below_f _ _ (by simp; omega)]
            simp
def unmarkR (op : Int) (p : Str) : ByteArray × Bool := match unmarkF op p with | some s => (B s, true) | none => (B [], false)
theorem would_len (op : Int) (p : Str) : (wouldM op p).length ≤ p.length + 20 := by
  have hl := part_len p
  unfold wouldM belowM
  split
  · rcases YtdkjinmkallhnaaGreatDoorT.split_cases p with ⟨_, e, hp⟩ | ⟨_, e⟩
    · rw [hp]; simp [markM]; omega
    · have := congrArg List.length e
      simp at this
      split <;> simp [markM] <;> omega
  · split
    · split <;> simp [opqM] <;> omega
    · omega
theorem unmark_test (op : Int) (p s : Str) (hs : s = wouldM op p) (k : Nat) (hl : p.length ≤ 1000000000) (hk : p.length + 30 < k) :
    ((paths_Mark.f k (B s)).bind fun bt => (if bt.2.2 = true then (if bt.1 = op then (if bt.2.1.toList = (B p).toList then (some (B s, true)) else (some ((⟨#[]⟩ : ByteArray), false))) else (some ((⟨#[]⟩ : ByteArray), false))) else (some ((⟨#[]⟩ : ByteArray), false)))) = some (unmarkR op p) := by
  have hw := would_len op p
  rw [← hs] at hw
  rw [mark_f s (by omega) k (by omega)]
  simp only [Option.bind_some]
  unfold unmarkR unmarkF markR
  rw [← hs]
  cases h : markF s with
  | none => simp
  | some q =>
    obtain ⟨o, x⟩ := q
    simp only [if_true, toList_B, Option.some.injEq, Prod.mk.injEq]
    by_cases h1 : o = op
    · rw [if_pos h1]
      by_cases h2 : x = p
      · rw [if_pos h2, if_pos ⟨h1, h2⟩]
      · rw [if_neg h2, if_neg (fun h => h2 h.2)]
    · rw [if_neg h1, if_neg (fun h => h1 h.1)]
theorem unmark_f (op : Int) (p : Str) (hl : p.length ≤ 1000000000) (k : Nat) (hk : p.length + 30 < k) : paths_Unmark.f k op (B p) = some (unmarkR op p) := by
  have hpl := part_len p
  unfold paths_Unmark.f
  by_cases h1 : op = 1
  · subst h1
    rw [if_pos rfl, split_f p (by omega)]
    simp only [Option.bind_some]
    rw [B_size, if_pos (by omega)]
    rw [show (⟨#[46, 119, 104, 46]⟩ : ByteArray) = B markM from rfl, B_append, below_f _ _ (by simp [markM]; omega)]
    simp only [Option.bind_some]
    exact unmark_test 1 p _ (by unfold wouldM; rw [if_pos rfl]) k hl hk
  · rw [if_neg h1]
    by_cases h2 : op = 2
    · subst h2
      rw [if_pos rfl]
      rw [show (⟨#[46, 119, 104, 46, 46, 119, 104, 46, 46, 111, 112, 113]⟩ : ByteArray) = B opqM from rfl, below_f _ _ (by simp [opqM]; omega)]
      simp only [Option.bind_some]
      exact unmark_test 2 p _ (by unfold wouldM; rw [if_neg (by decide), if_pos rfl]) k hl hk
    · rw [if_neg h2]
      exact unmark_test op p p (by unfold wouldM; rw [if_neg h1, if_neg h2]) k hl hk
theorem unmarkR_1 (op : Int) (p : Str) : (unmarkR op p).1 = B (tarM op p) := by
  unfold unmarkR tarM
  cases unmarkF op p <;> rfl
theorem unmarkR_2 (op : Int) (p : Str) : (unmarkR op p).2 = !(tarM op p).isEmpty := by
  unfold unmarkR tarM
  cases h : unmarkF op p with
  | none => rfl
  | some s =>
    have := YtdkjinmkallhnaaGreatDoorT.is_ne (YtdkjinmkallhnaaGreatDoorT.unmarkF_some h).2.2
    cases s with
    | nil => exact absurd rfl this
    | cons _ _ => rfl
theorem tar_len (op : Int) (p : Str) : (tarM op p).length ≤ p.length + 20 := by
  unfold tarM
  cases h : unmarkF op p with
  | none => simp
  | some s =>
    have := (YtdkjinmkallhnaaGreatDoorT.unmarkF_some h).1
    have hw := would_len op p
    rw [← this] at hw
    exact hw
end Go.Proofs.YtdkjinmkallhnaaGreatDoorQ
end
section
namespace Go.Proofs.YtdkjinmkallhnaaGreatDoor
open Go.RowKit Go.WideMaps Go.Maps
theorem strLaw : Keyed Tryz.prog 9 := string_keyed Tryz.underlying9
theorem zeroInt (w : World) : (zeroValue 3).run Tryz.prog w = .ok (.int .i64 0) w := by kernel_rfl
def CntMap (w : World) (b n : Nat) (f : Str → Nat) : Prop :=
  ∃ D : DataW Unit, w.ownsMap Tryz.prog 9 (plainElem Tryz.prog 3) b n D ∧ IsMap D ∧ ∀ key : Str, D.atKey (.string key) (.lit (.int .i64 0)) = .lit (.int .i64 (f key))
theorem CntMap.made (w : World) : CntMap (w.alloc (.map #[] 0)) w.heap.size 0 (fun _ => 0) :=
  ⟨.map [], World.ownsMap_made _ _ _ _, isMap_empty, fun _ => rfl⟩
theorem CntMap.alloc {w : World} {b n : Nat} {f : Str → Nat} (h : CntMap w b n f) (o : Obj) : CntMap (w.alloc o) b n f :=
  let ⟨D, h1, h2, h3⟩ := h; ⟨D, h1.alloc o, h2, h3⟩
theorem CntMap.lt {w : World} {b n : Nat} {f : Str → Nat} (h : CntMap w b n f) : b < w.heap.size := let ⟨_, h1, _⟩ := h; h1.lt
theorem CntMap.ext {w w' : World} {b n : Nat} {f : Str → Nat} (h : CntMap w b n f) (hb : Below w.heap.size w w') : CntMap w' b n f :=
  let ⟨D, h1, h2, h3⟩ := h; ⟨D, h1.kept (row := none) ⟨hb.os, hb.tape, hb.output, hb.size, fun k hk _ => hb.block k hk⟩ (by simp), h2, h3⟩
theorem keyStr {s : Str} (h : s.length ≤ 1000000000) : keyOf Tryz.prog 9 (S s) = some (.string s) := by
  have := keyOf_string_mk (P := Tryz.prog) Tryz.underlying9 (s := ⟨s.toArray⟩) (by simp [Lib.size_eq]; unfold maxLen; omega)
  simpa using this
theorem CntMap.look {w : World} {b n : Nat} {f : Str → Nat} (h : CntMap w b n f) {s : Str} (hs : s.length ≤ 1000000000) :
    (Instr.lookup 55 (.map (some b)) (S s) false).run Tryz.prog w = .ok (.int .i64 (f s)) w := by
  obtain ⟨D, h1, h2, h3⟩ := h
  obtain ⟨c, hrun, hat, _⟩ := h1.lookup_int strLaw Tryz.underlying55 Tryz.underlying3 (zeroInt _) (keyStr hs)
  rw [hrun]
  rw [h3] at hat
  simp only [DataW.lit.injEq, Lit.int.injEq, true_and] at hat
  rw [hat]
theorem wf_nat {c : Nat} (h : c ≤ 9223372036854775807) : (Lit.int .i64 (c : Int)).wf = true := WalkArith.wf_i64 ⟨by omega, by omega⟩
theorem wpList_cnt_up {P : Program} (hP : P = Tryz.prog) {w : World} {ops : Array Oper} {rest : List Oper} {o : Oper} {a : Act} {Q : Exit → Act → World → Prop}
    (hg : o.guard = none) (m x v : Operand) (hop : o.op = Op.mapUpdate 55 m x v) (b n : Nat) (f : Str → Nat) (hm : a.eval m = .map (some b)) (hown : CntMap w b n f) (hn : n ≤ 1000000000)
    (s : Str) (c : Nat) (hx : a.eval x = S s) (hv : a.eval v = .int .i64 c) (hs : s.length ≤ 1000000000) (hc : c ≤ 1000000001)
    (f' : Str → Nat) (hf : ∀ key, f' key = if key == s then c else f key)
    (hK : ∀ w', CntMap w' b (n + 1) f' → w.grownBy w' (some b) → wpList P ops Q rest (a.put o.dst undef) w') :
    wpList P ops Q (o :: rest) a w := by
  subst hP
  obtain ⟨D, h1, h2, h3⟩ := hown
  refine wpList_mapUpdate_own _ hg m x v _ hop 9 3 strLaw Tryz.underlying55 _ b n D hm h1 (by unfold maxLen; omega) _ _ _ hx hv (keyStr hs) _ []
    (plainElem_int Tryz.underlying3 (wf_nat (by omega))) ?_
  intro w' h1' hg'
  refine hK w' ⟨_, h1', h2.put _ _, fun key => ?_⟩ hg'
  rw [hf key]
  by_cases hk : key = s
  · subst hk
    rw [atKey_put_same h2 (by trivial)]
    simp
  · rw [atKey_put_other (by simpa using hk), h3]
    have : (key == s) = false := by simpa using hk
    simp [this]
theorem grown_cell {w w' : World} {row : Option Nat} (hg : w.grownBy w' row) {a : Addr} {v : Value} (h : w.cell? a = some v) (hne : some a.block ≠ row) : w'.cell? a = some v :=
  (World.cell?_of_block (w := w) (hg.block a.block (World.block_lt_of_cell? w _ h) hne)).trans h
end Go.Proofs.YtdkjinmkallhnaaGreatDoor
end
section
namespace Go.Proofs.YtdkjinmkallhnaaGreatDoor
open Go.RowKit Go.WideMaps Go.Maps
theorem beq_cast (c : Nat) : (((c : Int) + 1) == 1) = (true && (c + 1 == 1)) := by
  rw [Bool.true_and, Bool.eq_iff_iff, beq_iff_eq, beq_iff_eq]; omega
set_option maxHeartbeats 400000 in
set_option maxRecDepth 100000 in
theorem keys_calls (w : World) (a : Option Addr) (cap : Nat) (l : List (Str × Str)) (hr : RowAt prC 2 w a l) (hl : l.length ≤ 1000000000) (hk : ∀ p ∈ l, p.1.length ≤ 1000000000) :
    Calls Tryz.prog 139 #[.slice a l.length cap] w fun e w' => e = .returned (.tuple #[.bool (rightM l), .bool (onceM l)]) ∧ Below w.heap.size w w' := by
  have HR := Lib.hid hr
  have HK := Lib.hid hk
  clear hr hk
  have hmm := @run_makeMap Tryz.prog
  go_enter Tryz.func139, Tryz.ntmps139
  go_wp2
  go_loopg [2, 3, 10] l.length (fun g v2 v3 v10 wr => ∃ k : Nat, ∃ r o : Bool, g + k = l.length ∧ v10 = .int .i64 k ∧ v2 = .bool r ∧ v3 = .bool o ∧ Hid (r = rightM (l.take k) ∧ o = onceM (l.take k)) ∧
    Hid (CntMap wr w.heap.size k (cnt (l.take k))) ∧ Hid (Below w.heap.size w wr))
  case atStart => exact ⟨0, true, true, by simp, rfl, rfl, rfl, ⟨rfl, rfl⟩, CntMap.made _, (Below.refl _ _).alloc (Nat.le_refl _) _⟩
  case round =>
    obtain ⟨k, r, on, hk, rfl, rfl, rfl, HF, HC, HB⟩ := hrel
    cases gk with
    | zero =>
      have hge : l.length ≤ k := by omega
      clear hk
      go_wp2
      go_ret2
      have hk : l.take k = l := List.take_of_length_le hge
      have HF' := HF.out
      rw [hk] at HF'
      rw [← HF'.1, ← HF'.2]
      exact ⟨rfl, HB.out⟩
    | succ g1 =>
      have hlt : k < l.length := by omega
      have HG : Hid (g1 + 1 + k = l.length) := hk
      clear hk
      obtain ⟨b, o, rfl, c1, c2⟩ := (HR.out.ext HB.out).pr hlt
      have HD : Hid (l.take (k + 1) = l.take k ++ [l[k]]) := by simp [Hid]
      have hks : (l[k]).1.length ≤ 1000000000 := HK.out _ (List.getElem_mem hlt)
      generalize l[k] = x at c1 c2 HD hks
      have HF2 : Hid (rightM (l.take (k + 1)) = (r && keyOk x.1) ∧ onceM (l.take (k + 1)) = (on && (cnt (l.take (k + 1)) x.1 == 1))) := by
        rw [HD.out, rightM_snoc, once_step, HF.out.1, HF.out.2]
        exact ⟨rfl, rfl⟩
      have hcn : cnt (l.take k) x.1 ≤ 1000000000 := by
        have h1 : cnt (l.take k) x.1 ≤ (l.take k).length := List.countP_le_length
        rw [List.length_take] at h1
        omega
      have HFF := Lib.hid (cnt_step HD.out)
      clear HD HF
      obtain ⟨xk, xv⟩ := x
      have HKS := Lib.hid hks
      clear hks
      dsimp only at c1 c2 hcn HF2 HFF
      have HC1 := Lib.hid (HC.out.alloc (.cells #[S xk, S xv] 110))
      have hlook := HC1.out.look HKS.out
      dsimp only at hlook
      generalize cnt (l.take k) xk = c0 at hlook hcn HFF
      have HCC : Hid (cnt (l.take (k + 1)) xk = c0 + 1) := Lib.hid (by have := HFF.out xk; simpa using this)
      rw [HCC.out] at HF2
      have hcells : (wr.alloc (.cells #[S xk, S xv] 110)).cell? ⟨wr.heap.size, 0, none⟩ = some (S xk) := cell_new _ _ _ _ rfl
      have HCE := Lib.hid hcells
      clear hcells
      have hne : some wr.heap.size ≠ some w.heap.size := by
        have h1 := HC.out.lt
        have h2 := HB.out.size
        intro e
        simp only [Option.some.injEq] at e
        omega
      have HNE := Lib.hid hne
      have hbase : w.heap.size ≤ wr.heap.size + 1 := by have := HB.out.size; omega
      clear hne HC
      cases xk with
      | nil =>
        cases r <;> cases on
        all_goals
          go_wp2_with (first | (at_mapUpdate; refine wpList_cnt_up rfl rfl _ _ _ rfl _ k _ rfl HC1.out (by omega) [] (c0 + 1) rfl (by go_num) (by simp) (by omega) _ HFF.out ?_))
          intro w' hC' hg'
          have HC2 := Lib.hid hC'
          have HB2 : Hid (Below w.heap.size w w') := (HB.out.alloc HB.out.size _).grown hg' (by simp; exact hbase) (fun j hj => by cases hj; exact Nat.le_refl _)
          have hlook2 := HC2.out.look HKS.out
          rw [HCC.out] at hlook2
          have hcell2 := grown_cell hg' HCE.out HNE.out
          clear hC' hg' hlook
          go_wp2
          go_roundg g1
          case measure => omega
          case rel => exact ⟨k + 1, _, _, by have := HG.out; omega, by go_num, rfl, rfl, ⟨by rw [HF2.out.1]; rfl, by rw [HF2.out.2]; first | rfl | exact beq_cast c0⟩, HC2, HB2⟩
      | cons c rest =>
        cases r <;> cases on
        all_goals
          go_wp2_with (first | (go_at_call 163; refine (contains1_calls _ _ _).mono ?_; rintro e w' ⟨rfl, rfl⟩) | (at_mapUpdate; refine wpList_cnt_up rfl rfl _ _ _ rfl _ k _ rfl HC1.out (by omega) (c :: rest) (c0 + 1) rfl (by go_num) HKS.out (by omega) _ HFF.out ?_))
          intro w' hC' hg'
          have HC2 := Lib.hid hC'
          have HB2 : Hid (Below w.heap.size w w') := (HB.out.alloc HB.out.size _).grown hg' (by simp; exact hbase) (fun j hj => by cases hj; exact Nat.le_refl _)
          have hlook2 := HC2.out.look HKS.out
          rw [HCC.out] at hlook2
          have hcell2 := grown_cell hg' HCE.out HNE.out
          clear hC' hg' hlook
          go_wp2
          go_roundg g1
          case measure => omega
          case rel => exact ⟨k + 1, _, _, by have := HG.out; omega, by go_num, rfl, rfl, ⟨by rw [HF2.out.1]; first | rfl | simp [keyOk], by rw [HF2.out.2]; first | rfl | exact beq_cast c0⟩, HC2, HB2⟩
end Go.Proofs.YtdkjinmkallhnaaGreatDoor
end
section
namespace Go.Proofs.YtdkjinmkallhnaaGreatDoor
open Go.RowKit
theorem lenAux_step_eq {rest f d : Nat} (h : (dec (rest + 1 + d)).length = 1 + d) : lenAux rest (f + 1) d = rest + 1 + d := by simp only [lenAux]; rw [if_pos h]
theorem lenAux_step_ne {rest f d : Nat} (h : ¬ (dec (rest + 1 + d)).length = 1 + d) : lenAux rest (f + 1) d = lenAux rest f (d + 1) := by simp only [lenAux]; rw [if_neg h]
theorem ret_i64 {a b : Int} (h : a = b) : Ending.returned (.int .i64 a) = .returned (.int .i64 b) := by rw [h]
set_option maxHeartbeats 400000 in
theorem length_calls (w : World) (hg : GL w) (r : Nat) (hr : r ≤ 1000000000) :
    Calls Tryz.prog 161 #[.int .i64 r] w fun e w' => e = .returned (.int .i64 (lenM r)) ∧ Below w.heap.size w w' := by
  go_enter Tryz.func161, Tryz.ntmps161
  go_wp2
  go_step3
  go_wp2
  go_step3
  go_wp2
  go_loopg [3, 6] 9 (fun g v3 v6 wr => ∃ d : Nat, g + d = 9 ∧ v6 = .int .i64 d ∧ v3 = .int .i64 (r + d) ∧ Hid (lenM r = lenAux r g d) ∧ Hid (Below w.heap.size w wr))
  case atStart => exact ⟨0, rfl, rfl, by simp, rfl, Below.refl _ _⟩
  case round =>
    obtain ⟨d, hd, rfl, rfl, HL, HB⟩ := hrel
    cases gk with
    | zero =>
      obtain rfl : d = 9 := by omega
      clear hd
      go_wp2
      rw [Exit.noGoto_ret]
      go_ret
      exact ⟨ret_i64 (by rw [HL.out]; simp [lenAux]), HB.out⟩
    | succ g1 =>
      have hd9 : d < 9 := by omega
      have hgd : Hid (g1 + 1 + d = 9) := hd
      clear hd
      go_wp2_with fail
      rw [show ((r : Int) + 1 + (d : Int)) = ((r + 1 + d : Nat) : Int) from by omega]
      refine (itoa_calls wr (hg.ext HB.out) (r + 1 + d) (by omega)).mono ?_
      rintro e w1 ⟨rfl, hb1⟩
      have HB1 : Hid (Below w.heap.size w w1) := HB.out.trans (hb1.mono HB.out.size)
      clear HB hb1
      go_wp2
      · have ht : (((dec (r + 1 + d)).length : Int) == 1 + (d : Int)) = true := by assumption
        rw [Exit.noGoto_ret]
        go_ret
        refine ⟨ret_i64 ?_, HB1.out⟩
        have := eq_of_beq ht
        rw [HL.out, lenAux_step_eq (by omega)]
        omega
      · have ht : (((dec (r + 1 + d)).length : Int) == 1 + (d : Int)) = false := by assumption
        go_roundg g1
        case measure => omega
        case rel =>
          have := ne_of_beq_false ht
          refine ⟨d + 1, by have := hgd.out; omega, by go_num, by go_num, ?_, HB1⟩
          have e := HL.out
          rw [lenAux_step_ne (by omega)] at e
          exact e
end Go.Proofs.YtdkjinmkallhnaaGreatDoor
end
section
namespace Go.Proofs.YtdkjinmkallhnaaGreatDoor
open Go.RowKit
def CutPost (s : Str) (w : World) (e : Ending) (w' : World) : Prop :=
  ∃ (p : Str × Str) (rest : Str) (ok : Bool), e = .returned (.tuple #[.agg #[S p.1, S p.2], S rest, .bool ok]) ∧ cutM s = (if ok then some (p, rest) else none) ∧ Below w.heap.size w w'
theorem CutPost.done {s : Str} {w w' : World} {e : Ending} {key value rest : Str} (ok : Bool) (h1 : cutM s = (if ok then some ((key, value), rest) else none)) (h2 : e = .returned (.tuple #[.agg #[S key, S value], S rest, .bool ok])) (h3 : Below w.heap.size w w') : CutPost s w e w' :=
  ⟨(key, value), rest, ok, h2, h1, h3⟩
theorem CutPost.fail {s : Str} {w w' : World} {e : Ending} (h1 : cutM s = none) (h2 : e = .returned (.tuple #[.agg #[S [], S []], S [], .bool false])) (h3 : Below w.heap.size w w') : CutPost s w e w' :=
  ⟨([], []), [], false, h2, by simpa using h1, h3⟩
theorem len_no {n t : Nat} {v : Int} (hv : v = n) (h5 : (((lenM (n - t) : Nat) : Int) != v) = true) (h : lenM (v.toNat - t) = v.toNat) : False := by
  subst hv
  simp only [Int.toNat_natCast] at h
  rw [h] at h5
  simp at h5
theorem len_yes {n t : Nat} {v : Int} (hv : v = n) (h5 : (((lenM (n - t) : Nat) : Int) != v) = false) : lenM (v.toNat - t) = v.toNat := by
  subst hv
  simp only [Int.toNat_natCast]
  simp only [bne_eq_false_iff_eq] at h5
  omega
set_option maxHeartbeats 1000000 in
set_option maxRecDepth 100000 in
theorem cut_calls (w : World) (hg : GL w) (s : Str) (hs : s.length ≤ 1000000000) :
    Calls Tryz.prog 138 #[S s] w (CutPost s w) := by
  have HS := Lib.hid hs
  clear hs
  go_enter Tryz.func138, Tryz.ntmps138
  go_wp2_with fail
  have HP := Lib.hid (blk_new w (.cells #[S [], S []] 110))
  have HB : Hid (Below w.heap.size w (w.alloc (.cells #[S [], S []] 110))) := below_new w _
  refine (cut1_calls _ (hg.ext HB.out) _ _ HS.out).mono ?_
  rintro e wc ⟨rfl, hbc⟩
  replace HP := Lib.hid (blk_ext HP.out hbc)
  replace HB : Hid (Below w.heap.size w wc) := below_then HB.out hbc
  clear hbc
  have HC : Hid (cutM s = cutAt s (cut1 32 s).1 (cut1 32 s).2.2) := rfl
  have HTL : Hid ((cut1 32 s).1.length ≤ s.length) := cut1_len 32 s
  generalize cut1 32 s = q at HC HTL
  obtain ⟨text, rest0, is⟩ := q
  dsimp only at HC HTL
  have htl : text.length ≤ 1000000000 := Nat.le_trans HTL.out HS.out
  rcases hat : Lib.atoiAll text with v | _ | _
  ·
    have hv := Lib.atoiAll_bounds hat
    have HAT := Lib.hid hat
    clear hat
    go_wp2_with fail
    refine (atoi_ok_calls _ text htl v HAT.out).mono ?_
    rintro e wc ⟨rfl, hbc⟩
    replace HP := Lib.hid (blk_ext HP.out hbc)
    replace HB : Hid (Below w.heap.size w wc) := below_then HB.out hbc
    clear hbc
    cases is with
    | false =>
      have HN : Hid (cutM s = none) := Lib.hid (by rw [HC.out]; simp [cutAt])
      have c0 := blk_cell HP.out 0
      have c1 := blk_cell HP.out 1
      have f0 := blk_free HP.out 0
      have f1 := blk_free HP.out 1
      dsimp at c0 c1
      go_wp2_with fail
      obtain ⟨w3, hw3⟩ : ∃ w3, w3 = (wc.setCell ⟨w.heap.size, 0, none⟩ (S [])).setCell ⟨w.heap.size, 1, none⟩ (S []) := ⟨_, rfl⟩
      obtain ⟨h3, hb3⟩ := set_two HP.out (S []) (S []) (Nat.le_refl _) HB.out
      rw [← hw3] at h3 hb3 ⊢
      have d0 := blk_cell h3 0
      have d1 := blk_cell h3 1
      dsimp at d0 d1
      exact bodyPost_ret (v := .tuple #[.agg #[S [], S []], S [], .bool false]) (by simp [results, Tryz.results138, go_sem, d0, d1]) rfl (CutPost.fail HN.out rfl hb3)
    | true =>
      have HC2 : Hid (cutM s = (numM s text).bind fun n => (bodyM ((s.drop (text.length + 1)).take (n - (text.length + 1)))).map fun p => (p, s.drop n)) := Lib.hid (by rw [HC.out]; simp [cutAt])
      clear HC
      have HNUM : Hid (numM s text = if Lib.itoa v = text ∧ text.length ≤ 9 ∧ v ≤ (s.length : Int) ∧ (text.length : Int) + 1 < v ∧ lenM (v.toNat - text.length) = v.toNat then some v.toNat else none) := Lib.hid (by rw [numM, HAT.out])
      clear HAT
      go_wp2_with fail
      refine (itoaZ_calls _ (hg.ext HB.out) v hv.1 hv.2).mono ?_
      rintro e wc ⟨rfl, hbc⟩
      replace HP := Lib.hid (blk_ext HP.out hbc)
      replace HB : Hid (Below w.heap.size w wc) := below_then HB.out hbc
      clear hbc
      by_cases h1 : Lib.itoa v = text
      · cases h2 : decide ((9 : Int) < (text.length : Int)) with
        | true =>
          have HN : Hid (cutM s = none) := Lib.hid (by rw [HC2.out, HNUM.out, if_neg (fun h => by have := of_decide_eq_true h2; have := h.2.1; omega)]; rfl)
          have c0 := blk_cell HP.out 0
          have c1 := blk_cell HP.out 1
          have f0 := blk_free HP.out 0
          have f1 := blk_free HP.out 1
          dsimp at c0 c1
          go_wp2_with fail
          obtain ⟨w3, hw3⟩ : ∃ w3, w3 = (wc.setCell ⟨w.heap.size, 0, none⟩ (S [])).setCell ⟨w.heap.size, 1, none⟩ (S []) := ⟨_, rfl⟩
          obtain ⟨h3, hb3⟩ := set_two HP.out (S []) (S []) (Nat.le_refl _) HB.out
          rw [← hw3] at h3 hb3 ⊢
          have d0 := blk_cell h3 0
          have d1 := blk_cell h3 1
          dsimp at d0 d1
          exact bodyPost_ret (v := .tuple #[.agg #[S [], S []], S [], .bool false]) (by simp [results, Tryz.results138, go_sem, d0, d1]) rfl (CutPost.fail HN.out rfl hb3)
        | false =>
          cases h3 : decide ((s.length : Int) < v) with
          | true =>
            have HN : Hid (cutM s = none) := Lib.hid (by rw [HC2.out, HNUM.out, if_neg (fun h => by have := of_decide_eq_true h3; have := h.2.2.1; omega)]; rfl)
            have c0 := blk_cell HP.out 0
            have c1 := blk_cell HP.out 1
            have f0 := blk_free HP.out 0
            have f1 := blk_free HP.out 1
            dsimp at c0 c1
            go_wp2_with fail
            obtain ⟨w3, hw3⟩ : ∃ w3, w3 = (wc.setCell ⟨w.heap.size, 0, none⟩ (S [])).setCell ⟨w.heap.size, 1, none⟩ (S []) := ⟨_, rfl⟩
            obtain ⟨h3, hb3⟩ := set_two HP.out (S []) (S []) (Nat.le_refl _) HB.out
            rw [← hw3] at h3 hb3 ⊢
            have d0 := blk_cell h3 0
            have d1 := blk_cell h3 1
            dsimp at d0 d1
            exact bodyPost_ret (v := .tuple #[.agg #[S [], S []], S [], .bool false]) (by simp [results, Tryz.results138, go_sem, d0, d1]) rfl (CutPost.fail HN.out rfl hb3)
          | false =>
            cases h4 : decide (v ≤ (text.length : Int) + 1) with
            | true =>
              have HN : Hid (cutM s = none) := Lib.hid (by rw [HC2.out, HNUM.out, if_neg (fun h => by have := of_decide_eq_true h4; have := h.2.2.2.1; omega)]; rfl)
              have c0 := blk_cell HP.out 0
              have c1 := blk_cell HP.out 1
              have f0 := blk_free HP.out 0
              have f1 := blk_free HP.out 1
              dsimp at c0 c1
              go_wp2_with fail
              obtain ⟨w3, hw3⟩ : ∃ w3, w3 = (wc.setCell ⟨w.heap.size, 0, none⟩ (S [])).setCell ⟨w.heap.size, 1, none⟩ (S []) := ⟨_, rfl⟩
              obtain ⟨h3, hb3⟩ := set_two HP.out (S []) (S []) (Nat.le_refl _) HB.out
              rw [← hw3] at h3 hb3 ⊢
              have d0 := blk_cell h3 0
              have d1 := blk_cell h3 1
              dsimp at d0 d1
              exact bodyPost_ret (v := .tuple #[.agg #[S [], S []], S [], .bool false]) (by simp [results, Tryz.results138, go_sem, d0, d1]) rfl (CutPost.fail HN.out rfl hb3)
            | false =>
              have i2 : text.length ≤ 9 := by have := of_decide_eq_false h2; omega
              have i3 : v ≤ (s.length : Int) := by have := of_decide_eq_false h3; omega
              have i4 : (text.length : Int) + 1 < v := by have := of_decide_eq_false h4; omega
              go_wp2_with fail
              obtain ⟨n, hn⟩ : ∃ n : Nat, v = n := ⟨v.toNat, by omega⟩
              rw [show (v - (text.length : Int)) = ((n - text.length : Nat) : Int) from by omega]
              have HNV := Lib.hid hn
              refine (length_calls _ (hg.ext HB.out) (n - text.length) (by have := HS.out; omega)).mono ?_
              clear hn
              rintro e wc ⟨rfl, hbc⟩
              replace HP := Lib.hid (blk_ext HP.out hbc)
              replace HB : Hid (Below w.heap.size w wc) := below_then HB.out hbc
              clear hbc
              cases h5 : (((lenM (n - text.length) : Nat) : Int) != v) with
              | true =>
                have HN : Hid (cutM s = none) := Lib.hid (by rw [HC2.out, HNUM.out, if_neg (fun h => len_no HNV.out h5 h.2.2.2.2)]; rfl)
                have c0 := blk_cell HP.out 0
                have c1 := blk_cell HP.out 1
                have f0 := blk_free HP.out 0
                have f1 := blk_free HP.out 1
                dsimp at c0 c1
                go_wp2_with fail
                obtain ⟨w3, hw3⟩ : ∃ w3, w3 = (wc.setCell ⟨w.heap.size, 0, none⟩ (S [])).setCell ⟨w.heap.size, 1, none⟩ (S []) := ⟨_, rfl⟩
                obtain ⟨h3, hb3⟩ := set_two HP.out (S []) (S []) (Nat.le_refl _) HB.out
                rw [← hw3] at h3 hb3 ⊢
                have d0 := blk_cell h3 0
                have d1 := blk_cell h3 1
                dsimp at d0 d1
                exact bodyPost_ret (v := .tuple #[.agg #[S [], S []], S [], .bool false]) (by simp [results, Tryz.results138, go_sem, d0, d1]) rfl (CutPost.fail HN.out rfl hb3)
              | false =>
                go_wp2_with fail
                rw [extract_S]
                refine (cutSuffix_calls _ _ [10] (by have := HS.out; simp; omega)).mono ?_
                rintro e wc ⟨rfl, hbc⟩
                replace HP := Lib.hid (blk_ext HP.out hbc)
                replace HB : Hid (Below w.heap.size w wc) := below_then HB.out hbc
                clear hbc
                have HBODY : Hid (cutM s = (bodyM ((s.drop (text.length + 1)).take (v.toNat - (text.length + 1)))).map fun p => (p, s.drop v.toNat)) := Lib.hid (by rw [HC2.out, HNUM.out, if_pos ⟨h1, i2, i3, i4, len_yes HNV.out h5⟩]; rfl)
                have hbl : ((s.drop (text.length + 1)).take (v.toNat - (text.length + 1))).length ≤ 1000000000 := by have := HS.out; simp; omega
                generalize (s.drop (text.length + 1)).take (v.toNat - (text.length + 1)) = body at HBODY hbl
                have htr : (Lib.trimSuffix body [10]).length ≤ 1000000000 := by exact Nat.le_trans (trimSuffix_le _ _) hbl
                have HBM : Hid (bodyM body = if Lib.hasSuffix body [10] && (cut1 61 (Lib.trimSuffix body [10])).2.2 && !((cut1 61 (Lib.trimSuffix body [10])).1 == []) then some ((cut1 61 (Lib.trimSuffix body [10])).1, (cut1 61 (Lib.trimSuffix body [10])).2.1) else none) := rfl
                generalize Lib.trimSuffix body [10] = trim at HBM htr
                generalize Lib.hasSuffix body [10] = ended at HBM
                go_wp2_with fail
                refine (cut1_calls _ (hg.ext HB.out) _ _ htr).mono ?_
                rintro e wc ⟨rfl, hbc⟩
                replace HP := Lib.hid (blk_ext HP.out hbc)
                replace HB : Hid (Below w.heap.size w wc) := below_then HB.out hbc
                clear hbc
                generalize cut1 61 trim = q at HBM
                obtain ⟨key, value, is⟩ := q
                dsimp only at HBM
                have c0 := blk_cell HP.out 0
                have c1 := blk_cell HP.out 1
                have f0 := blk_free HP.out 0
                have f1 := blk_free HP.out 1
                dsimp at c0 c1
                go_wp2_with fail
                obtain ⟨w4, hw4⟩ : ∃ w4, w4 = (wc.setCell ⟨w.heap.size, 0, none⟩ (S key)).setCell ⟨w.heap.size, 1, none⟩ (S value) := ⟨_, rfl⟩
                obtain ⟨h4', hb4⟩ := set_two HP.out (S key) (S value) (Nat.le_refl _) HB.out
                rw [← hw4] at h4' hb4 ⊢
                have HP4 := Lib.hid h4'
                have HB4 := Lib.hid hb4
                clear hw4 h4' hb4 c0 c1 f0 f1 h1 h2 h3 h4 h5
                have c0 := blk_cell HP4.out 0
                have c1 := blk_cell HP4.out 1
                have f0 := blk_free HP4.out 0
                have f1 := blk_free HP4.out 1
                dsimp at c0 c1
                cases ended
                ·
                  go_region
                  all_goals
                    obtain ⟨w5, hw5⟩ : ∃ w5, w5 = ((w4.setCell ⟨w.heap.size, 0, none⟩ (S key)).setCell ⟨w.heap.size, 1, none⟩ (S value)).drew := ⟨_, rfl⟩
                    obtain ⟨h5', hb5⟩ := set_two HP4.out (S key) (S value) (Nat.le_refl _) HB4.out
                    have h5d : w5.heap[w.heap.size]? = some (.cells #[S key, S value] 110 (0, 0)) := by rw [hw5]; exact h5'
                    have hb5d : Below w.heap.size w w5 := by rw [hw5]; exact hb5.drew
                    rw [← hw5]
                    clear hw5 h5' hb5
                    go_wp2_with fail
                    have d0 := blk_cell h5d 0
                    have d1 := blk_cell h5d 1
                    dsimp at d0 d1
                    refine bodyPost_ret (v := .tuple #[.agg #[S key, S value], .string ((⟨s.toArray⟩ : ByteArray).extract v.toNat s.length), .bool false]) (by simp [results, Tryz.results138, go_sem, d0, d1]) rfl ?_
                    rw [extract_end]
                    exact CutPost.done false (by rw [HBODY.out, HBM.out]; simp) rfl hb5d
                · cases is
                  ·
                    go_region
                    all_goals
                      obtain ⟨w5, hw5⟩ : ∃ w5, w5 = ((w4.setCell ⟨w.heap.size, 0, none⟩ (S key)).setCell ⟨w.heap.size, 1, none⟩ (S value)).drew := ⟨_, rfl⟩
                      obtain ⟨h5', hb5⟩ := set_two HP4.out (S key) (S value) (Nat.le_refl _) HB4.out
                      have h5d : w5.heap[w.heap.size]? = some (.cells #[S key, S value] 110 (0, 0)) := by rw [hw5]; exact h5'
                      have hb5d : Below w.heap.size w w5 := by rw [hw5]; exact hb5.drew
                      rw [← hw5]
                      clear hw5 h5' hb5
                      go_wp2_with fail
                      have d0 := blk_cell h5d 0
                      have d1 := blk_cell h5d 1
                      dsimp at d0 d1
                      refine bodyPost_ret (v := .tuple #[.agg #[S key, S value], .string ((⟨s.toArray⟩ : ByteArray).extract v.toNat s.length), .bool false]) (by simp [results, Tryz.results138, go_sem, d0, d1]) rfl ?_
                      rw [extract_end]
                      exact CutPost.done false (by rw [HBODY.out, HBM.out]; simp) rfl hb5d
                  · cases key with
                    | nil =>
                      go_region
                      all_goals
                        obtain ⟨w5, hw5⟩ : ∃ w5, w5 = ((w4.setCell ⟨w.heap.size, 0, none⟩ (S [])).setCell ⟨w.heap.size, 1, none⟩ (S value)).drew := ⟨_, rfl⟩
                        obtain ⟨h5', hb5⟩ := set_two HP4.out (S []) (S value) (Nat.le_refl _) HB4.out
                        have h5d : w5.heap[w.heap.size]? = some (.cells #[S [], S value] 110 (0, 0)) := by rw [hw5]; exact h5'
                        have hb5d : Below w.heap.size w w5 := by rw [hw5]; exact hb5.drew
                        rw [← hw5]
                        clear hw5 h5' hb5
                        go_wp2_with fail
                        have d0 := blk_cell h5d 0
                        have d1 := blk_cell h5d 1
                        dsimp at d0 d1
                        refine bodyPost_ret (v := .tuple #[.agg #[S [], S value], .string ((⟨s.toArray⟩ : ByteArray).extract v.toNat s.length), .bool false]) (by simp [results, Tryz.results138, go_sem, d0, d1]) rfl ?_
                        rw [extract_end]
                        exact CutPost.done false (by rw [HBODY.out, HBM.out]; simp) rfl hb5d
                    | cons kc kr =>
                      go_region
                      all_goals
                        obtain ⟨w5, hw5⟩ : ∃ w5, w5 = ((w4.setCell ⟨w.heap.size, 0, none⟩ (S (kc::kr))).setCell ⟨w.heap.size, 1, none⟩ (S value)).drew := ⟨_, rfl⟩
                        obtain ⟨h5', hb5⟩ := set_two HP4.out (S (kc::kr)) (S value) (Nat.le_refl _) HB4.out
                        have h5d : w5.heap[w.heap.size]? = some (.cells #[S (kc::kr), S value] 110 (0, 0)) := by rw [hw5]; exact h5'
                        have hb5d : Below w.heap.size w w5 := by rw [hw5]; exact hb5.drew
                        rw [← hw5]
                        clear hw5 h5' hb5
                        go_wp2_with fail
                        have d0 := blk_cell h5d 0
                        have d1 := blk_cell h5d 1
                        dsimp at d0 d1
                        refine bodyPost_ret (v := .tuple #[.agg #[S (kc::kr), S value], .string ((⟨s.toArray⟩ : ByteArray).extract v.toNat s.length), .bool true]) (by simp [results, Tryz.results138, go_sem, d0, d1]) rfl ?_
                        rw [extract_end]
                        exact CutPost.done true (by rw [HBODY.out, HBM.out]; simp) rfl hb5d
      · have HN : Hid (cutM s = none) := Lib.hid (by rw [HC2.out, HNUM.out, if_neg (fun h => h1 h.1)]; rfl)
        have c0 := blk_cell HP.out 0
        have c1 := blk_cell HP.out 1
        have f0 := blk_free HP.out 0
        have f1 := blk_free HP.out 1
        dsimp at c0 c1
        go_wp2_with fail
        obtain ⟨w3, hw3⟩ : ∃ w3, w3 = (wc.setCell ⟨w.heap.size, 0, none⟩ (S [])).setCell ⟨w.heap.size, 1, none⟩ (S []) := ⟨_, rfl⟩
        obtain ⟨h3, hb3⟩ := set_two HP.out (S []) (S []) (Nat.le_refl _) HB.out
        rw [← hw3] at h3 hb3 ⊢
        have d0 := blk_cell h3 0
        have d1 := blk_cell h3 1
        dsimp at d0 d1
        exact bodyPost_ret (v := .tuple #[.agg #[S [], S []], S [], .bool false]) (by simp [results, Tryz.results138, go_sem, d0, d1]) rfl (CutPost.fail HN.out rfl hb3)
  ·
    have HN : Hid (cutM s = none) := Lib.hid (by rw [HC.out]; cases is <;> simp [cutAt, numM, hat])
    have hbad : ∀ v, Lib.atoiAll text ≠ .ok v := by rw [hat]; intro v; simp
    have HBAD := Lib.hid hbad
    clear hat hbad
    go_wp2_with fail
    refine (atoi_bad_calls _ (hg.ext HB.out) text htl HBAD.out).mono ?_
    rintro e wc ⟨nb, xb, rfl, hbc⟩
    replace HP := Lib.hid (blk_ext HP.out hbc)
    replace HB : Hid (Below w.heap.size w wc) := below_then HB.out hbc
    clear hbc
    cases is
    ·
      have c0 := blk_cell HP.out 0
      have c1 := blk_cell HP.out 1
      have f0 := blk_free HP.out 0
      have f1 := blk_free HP.out 1
      dsimp at c0 c1
      go_wp2_with fail
      obtain ⟨w3, hw3⟩ : ∃ w3, w3 = (wc.setCell ⟨w.heap.size, 0, none⟩ (S [])).setCell ⟨w.heap.size, 1, none⟩ (S []) := ⟨_, rfl⟩
      obtain ⟨h3, hb3⟩ := set_two HP.out (S []) (S []) (Nat.le_refl _) HB.out
      rw [← hw3] at h3 hb3 ⊢
      have d0 := blk_cell h3 0
      have d1 := blk_cell h3 1
      dsimp at d0 d1
      exact bodyPost_ret (v := .tuple #[.agg #[S [], S []], S [], .bool false]) (by simp [results, Tryz.results138, go_sem, d0, d1]) rfl (CutPost.fail HN.out rfl hb3)
    ·
      have c0 := blk_cell HP.out 0
      have c1 := blk_cell HP.out 1
      have f0 := blk_free HP.out 0
      have f1 := blk_free HP.out 1
      dsimp at c0 c1
      go_wp2_with fail
      obtain ⟨w3, hw3⟩ : ∃ w3, w3 = (wc.setCell ⟨w.heap.size, 0, none⟩ (S [])).setCell ⟨w.heap.size, 1, none⟩ (S []) := ⟨_, rfl⟩
      obtain ⟨h3, hb3⟩ := set_two HP.out (S []) (S []) (Nat.le_refl _) HB.out
      rw [← hw3] at h3 hb3 ⊢
      have d0 := blk_cell h3 0
      have d1 := blk_cell h3 1
      dsimp at d0 d1
      exact bodyPost_ret (v := .tuple #[.agg #[S [], S []], S [], .bool false]) (by simp [results, Tryz.results138, go_sem, d0, d1]) rfl (CutPost.fail HN.out rfl hb3)
  ·
    have HN : Hid (cutM s = none) := Lib.hid (by rw [HC.out]; cases is <;> simp [cutAt, numM, hat])
    have hbad : ∀ v, Lib.atoiAll text ≠ .ok v := by rw [hat]; intro v; simp
    have HBAD := Lib.hid hbad
    clear hat hbad
    go_wp2_with fail
    refine (atoi_bad_calls _ (hg.ext HB.out) text htl HBAD.out).mono ?_
    rintro e wc ⟨nb, xb, rfl, hbc⟩
    replace HP := Lib.hid (blk_ext HP.out hbc)
    replace HB : Hid (Below w.heap.size w wc) := below_then HB.out hbc
    clear hbc
    cases is
    ·
      have c0 := blk_cell HP.out 0
      have c1 := blk_cell HP.out 1
      have f0 := blk_free HP.out 0
      have f1 := blk_free HP.out 1
      dsimp at c0 c1
      go_wp2_with fail
      obtain ⟨w3, hw3⟩ : ∃ w3, w3 = (wc.setCell ⟨w.heap.size, 0, none⟩ (S [])).setCell ⟨w.heap.size, 1, none⟩ (S []) := ⟨_, rfl⟩
      obtain ⟨h3, hb3⟩ := set_two HP.out (S []) (S []) (Nat.le_refl _) HB.out
      rw [← hw3] at h3 hb3 ⊢
      have d0 := blk_cell h3 0
      have d1 := blk_cell h3 1
      dsimp at d0 d1
      exact bodyPost_ret (v := .tuple #[.agg #[S [], S []], S [], .bool false]) (by simp [results, Tryz.results138, go_sem, d0, d1]) rfl (CutPost.fail HN.out rfl hb3)
    ·
      have c0 := blk_cell HP.out 0
      have c1 := blk_cell HP.out 1
      have f0 := blk_free HP.out 0
      have f1 := blk_free HP.out 1
      dsimp at c0 c1
      go_wp2_with fail
      obtain ⟨w3, hw3⟩ : ∃ w3, w3 = (wc.setCell ⟨w.heap.size, 0, none⟩ (S [])).setCell ⟨w.heap.size, 1, none⟩ (S []) := ⟨_, rfl⟩
      obtain ⟨h3, hb3⟩ := set_two HP.out (S []) (S []) (Nat.le_refl _) HB.out
      rw [← hw3] at h3 hb3 ⊢
      have d0 := blk_cell h3 0
      have d1 := blk_cell h3 1
      dsimp at d0 d1
      exact bodyPost_ret (v := .tuple #[.agg #[S [], S []], S [], .bool false]) (by simp [results, Tryz.results138, go_sem, d0, d1]) rfl (CutPost.fail HN.out rfl hb3)
end Go.Proofs.YtdkjinmkallhnaaGreatDoor
end
section
namespace Go.Proofs.YtdkjinmkallhnaaGreatDoor
open Go.RowKit
theorem info_pair : (Tryz.prog.info? 110).map (fun i => (i.zero, i.size, i.bytes)) = some (some (.agg #[S [], S []]), 2, 32) := by kernel_rfl
def ParsePost (s : Str) (w : World) (e : Ending) (w' : World) : Prop :=
  ∃ v, e = .returned (.tuple #[v, .int .i64 (parseM s).2]) ∧ Own prC 110 2 w.heap.size w' v (parseM s).1 ∧ Below w.heap.size w w'
set_option maxHeartbeats 1000000 in
set_option maxRecDepth 100000 in
theorem parse_calls (w : World) (hg : GL w) (a : Option Addr) (cap : Nat) (s : Str) (hr : RowAt byC 1 w a s) (hn : a = none → s = []) (hs : s.length ≤ 100000000) :
    Calls Tryz.prog 113 #[.slice a s.length cap] w (ParsePost s w) := by
  have hconv := bytes_text hr cap hn
  obtain ⟨i0, hi, hz0, hz1, hz2⟩ := info_parts info_pair
  have HI := Lib.hid hi
  have HZ0 := Lib.hid hz0
  have HZ1 := Lib.hid hz1
  have HZ2 := Lib.hid hz2
  clear hi hz0 hz1 hz2 hr hn
  have HS := Lib.hid hs
  clear hs
  go_enter Tryz.func113, Tryz.ntmps113
  go_wp2
  clear hconv
  go_loopg [4, 5] s.length (fun g v4 v5 wr => ∃ (ps : List (Str × Str)) (rest : Str), v5 = S rest ∧ Hid (Own prC 110 2 w.heap.size wr v4 ps) ∧ rest.length ≤ g ∧ ps.length + rest.length ≤ s.length ∧
    Hid (∀ p ∈ ps, p.1.length ≤ s.length) ∧ Hid (parseF s.length s = (parseF g rest).map (ps ++ ·)) ∧ Hid (Below w.heap.size w wr))
  case atStart => exact ⟨[], s, rfl, Own.nil _ _ _ _ _, Nat.le_refl _, by simp, fun p hp => (by cases hp), by simp [Hid], Below.refl _ _⟩
  case round =>
    obtain ⟨ps, rest, rfl, HO, hrg, hps, HK, HF, HB⟩ := hrel
    cases rest with
    | nil =>
      obtain ⟨ao, co, rfl, hz, _⟩ := HO.out.val
      have HFE : Hid (parseF s.length s = some ps) := Lib.hid (by rw [HF.out, parseF_nil]; simp)
      clear hz
      go_wp2_with fail
      refine (keys_calls _ _ _ ps (HO.out.row prC_len) (by have := HS.out; omega) (fun p hp => by have := HK.out p hp; have := HS.out; omega)).mono ?_
      rintro e w1 ⟨rfl, hb1⟩
      have HO1 := Lib.hid (HO.out.ext hb1)
      have HB1 : Hid (Below w.heap.size w w1) := below_then HB.out hb1
      clear hb1
      cases ho : onceM ps with
      | true =>
        have HP : Hid (parseM s = (ps, 0)) := Lib.hid (by simp [parseM, HFE.out, ho])
        go_wp2_with fail
        go_ret2
        exact ⟨_, by rw [HP.out]; rfl, by rw [HP.out]; exact HO1.out, HB1.out⟩
      | false =>
        have HP : Hid (parseM s = ([], 7)) := Lib.hid (by simp [parseM, HFE.out, ho])
        go_wp2_with fail
        go_ret2
        exact ⟨_, by rw [HP.out]; rfl, by rw [HP.out]; exact Own.nil _ _ _ _ _, HB1.out⟩
    | cons c r =>
      cases gk with
      | zero => simp at hrg
      | succ g1 =>
        go_wp2_with fail
        refine (cut_calls _ (hg.ext HB.out) (c :: r) (by have := HS.out; omega)).mono ?_
        rintro e w1 ⟨p, rest', ok, rfl, hcut, hb1⟩
        have HO1 := Lib.hid (HO.out.ext hb1)
        have HB1 : Hid (Below w.heap.size w w1) := below_then HB.out hb1
        clear hb1
        cases ok with
        | false =>
          have HFE : Hid (parseF s.length s = none) := Lib.hid (by rw [HF.out, parseF_no (by simpa using hcut)]; rfl)
          clear hcut
          have HP : Hid (parseM s = ([], 3)) := Lib.hid (by simp [parseM, HFE.out])
          go_wp2_with fail
          go_ret2
          exact ⟨_, by rw [HP.out]; rfl, by rw [HP.out]; exact Own.nil _ _ _ _ _, HB1.out.alloc HB1.out.size _⟩
        | true =>
          have hc : cutM (c :: r) = some (p, rest') := by simpa using hcut
          have hlen := cutM_some hc
          have HFE : Hid (parseF s.length s = (parseF g1 rest').map ((ps ++ [p]) ++ ·)) := Lib.hid (by rw [HF.out, parseF_yes hc]; cases parseF g1 rest' <;> simp)
          have i1 : rest'.length ≤ g1 := by omega
          have i2 : (ps ++ [p]).length + rest'.length ≤ s.length := by simp only [List.length_append, List.length_cons, List.length_nil]; omega
          have HK2 : Hid (∀ q ∈ ps ++ [p], q.1.length ≤ s.length) := by
            intro q hq
            rcases List.mem_append.1 hq with hq | hq
            · exact HK.out q hq
            · simp only [List.mem_cons, List.not_mem_nil, or_false] at hq; subst hq; omega
          have hpl : ps.length ≤ 100000000 := by have := HS.out; omega
          have hsz := HB1.out.size
          clear hcut hc hlen HK HF HO HB
          go_wp2_with (at_builtin; refine wpList_append_one rfl _ _ 91 rfl w.heap.size 110 2 32 i0 (.agg #[S [], S []]) Tryz.underlying91 HI.out HZ0.out HZ1.out HZ2.out rfl (by decide) prC_len prC_one _ ps rfl ((HO1.out.alloc _).alloc _) p _ 1 rfl ?c1 ?c2 ?c3 ?c4 ?_)
          case c1 => intro j u hu; exact cell_new_at (cs := [S p.1, S p.2]) (by simp) hu
          case c2 => unfold maxLen; omega
          case c3 => omega
          case c4 => simp; omega
          intro v' w' ho' hg'
          have HO2 := Lib.hid ho'
          have HB2 : Hid (Below w.heap.size w w') := ((HB1.out.alloc hsz _).alloc (by simp; omega) _).grown hg' (by simp; omega) (fun j hj => (World.ownsRow.lt HO1.out j hj).1)
          clear ho' hg' HO1 HB1
          go_wp2
          go_roundg g1
          case measure => omega
          case rel => exact ⟨ps ++ [p], rest', rfl, HO2, i1, i2, HK2, HFE, HB2⟩
end Go.Proofs.YtdkjinmkallhnaaGreatDoor
end
section
namespace Go.Proofs.YtdkjinmkallhnaaGreatDoor
open Go.RowKit
theorem infoByte : (Tryz.prog.info? 5).map (fun i => (i.zero, i.size, i.bytes)) = some (some (.int .u8 0), 1, 1) := by kernel_rfl
theorem sizeBuilder : (Tryz.prog.info? 167).map (·.size) = some 2 := by kernel_rfl
theorem liesBuilder : liesAt Tryz.prog Tryz.prog.depth 167 (2 / Tryz.prog.cellsOf 167) 0 167 1 = true := by kernel_rfl
set_option maxHeartbeats 1000000 in
set_option maxRecDepth 100000 in
theorem copyCheck_used (b : Nat) (w : World) (h0 : w.cell? ⟨b, 0, none⟩ = some (.pointer (some ⟨b, 0, none⟩))) :
    Calls Tryz.prog 177 #[.pointer (some ⟨b, 0, none⟩)] w fun e w' => e = .returned (.tuple #[]) ∧ w = w' := by
  obtain ⟨j, hj, _⟩ := Option.map_eq_some_iff.1 sizeBuilder
  go_enter Tryz.func177, Tryz.ntmps177
  go_wp2
  rw [Lib.run_neq_ptr_same w _ Tryz.underlying165 hj]
  go_wp2
  go_end0
  exact ⟨rfl, rfl⟩
set_option maxHeartbeats 1000000 in
set_option maxRecDepth 100000 in
theorem copyCheck_fresh (b : Nat) (w : World) (h0 : w.cell? ⟨b, 0, none⟩ = some (.pointer none)) (hsh : w.shape? b = some (167, 2)) (hfz : w.frozen? ⟨b, 0, none⟩ = false) :
    Calls Tryz.prog 177 #[.pointer (some ⟨b, 0, none⟩)] w fun e w' => e = .returned (.tuple #[]) ∧ w' = w.setCell ⟨b, 0, none⟩ (.pointer (some ⟨b, 0, none⟩)) := by
  obtain ⟨j, hj, hjs⟩ := Option.map_eq_some_iff.1 sizeBuilder
  go_enter Tryz.func177, Tryz.ntmps177
  go_wp2
  rw [Lib.run_to_unsafe w ⟨b, 0, none⟩ Tryz.underlying165 Tryz.underlying186 hj (by rw [hjs]; decide) hsh (Nat.zero_lt_succ 1)]
  simp only [Result.andThen]
  rw [Oper.upon_value]
  go_wp2
  rw [run_callFunc_extern Tryz.func187 (by kernel_rfl) (by kernel_rfl) (by kernel_rfl) (e := Extern.AbiNoEscape.same) (by kernel_rfl)]
  rw [Lib.run_noEscape]
  simp only [Result.andThen]
  rw [Oper.upon_value]
  go_wp2
  rw [Lib.run_from_unsafe w ⟨b, 0, none⟩ Tryz.underlying186 Tryz.underlying165 hj hsh liesBuilder]
  simp only [Result.andThen]
  rw [Oper.upon_value]
  go_wp2
  go_end0
  exact ⟨rfl, rfl⟩
theorem copyCheck_calls (B b : Nat) (bs : List Value) (w : World) (h : Lib.IsBuilder 167 5 B b bs w) :
    Calls Tryz.prog 177 #[.pointer (some ⟨b, 0, none⟩)] w fun e w' => e = .returned (.tuple #[]) ∧ (Lib.BuilderAt 167 5 B b (.pointer (some ⟨b, 0, none⟩)) bs w' ∧ Below B w w') := by
  rcases h with h | h
  · refine (copyCheck_fresh b w h.cell0 h.shape h.frozen0).mono ?_
    rintro e w' ⟨rfl, rfl⟩
    exact ⟨rfl, h.used _, (Below.refl B w).setCell (p := ⟨b, 0, none⟩) h.1 _⟩
  · refine (copyCheck_used b w h.cell0).mono ?_
    rintro e w' ⟨rfl, rfl⟩
    exact ⟨rfl, h, Below.refl B _⟩
set_option maxHeartbeats 2000000 in
set_option maxRecDepth 100000 in
theorem writeString_any (B b : Nat) (bs : List Value) (s : ByteArray) (w : World) (h : Lib.IsBuilder 167 5 B b bs w) (hlen : bs.length + s.size ≤ 140737488355328) (hBw : B ≤ w.heap.size) :
    Calls Tryz.prog 166 #[.pointer (some ⟨b, 0, none⟩), .string s] w fun e w' => e = .returned (.tuple #[.int .i64 s.size, .nilIface]) ∧ (Lib.BuilderAt 167 5 B b (.pointer (some ⟨b, 0, none⟩)) (bs ++ Lib.strCells s) w' ∧ Below B w w') := by
  obtain ⟨i0, hi, hz0, hz1, hz2⟩ := info_parts infoByte
  go_enter Tryz.func166, Tryz.ntmps166
  go_wp2_with (go_at_call 177; refine (copyCheck_calls B b bs _ h).mono ?_)
  rintro e w1 ⟨rfl, h1, hb1⟩
  obtain ⟨hB, v, hbk, hown, hne⟩ := h1
  have c0 : w1.cell? ⟨b, 0, none⟩ = some (.pointer (some ⟨b, 0, none⟩)) := by rw [Lib.cell_of_heap hbk]; rfl
  have c1 : w1.cell? ⟨b, 1, none⟩ = some v := by rw [Lib.cell_of_heap hbk]; rfl
  go_wp2_with (at_builtin; refine Lib.wpList_append_own_string _ rfl _ _ 94 9 rfl B 5 i0 Tryz.underlying94 Tryz.underlying9 hi hz0 hz1 hz2 _ _ _ rfl hown s rfl ?c3 ?c4 ?c5 ?_)
  case c3 => unfold maxLen; omega
  case c4 => omega
  case c5 => have := hb1.size; omega
  intro v' w2 hown' hgrow _
  have hlt : b < w1.heap.size := blk_lt hbk
  have hb2 : w2.heap[b]? = some (.cells #[.pointer (some ⟨b, 0, none⟩), v] 167 (0, 0)) := by
    rw [hgrow.block b hlt (fun e => hne e.symm)]
    exact hbk
  have d0 : w2.cell? ⟨b, 0, none⟩ = some (.pointer (some ⟨b, 0, none⟩)) := by rw [Lib.cell_of_heap hb2]; rfl
  have d1 : w2.cell? ⟨b, 1, none⟩ = some v := by rw [Lib.cell_of_heap hb2]; rfl
  have f1 : w2.frozen? ⟨b, 1, none⟩ = false := Lib.frozen_of_heap hb2 1
  obtain ⟨ao, n', cap, rfl⟩ : ∃ ao n' cap, v' = .slice ao n' cap := by
    rcases hown'.2 with ⟨hv, _⟩ | ⟨g, cap, cur, hv, _⟩
    · exact ⟨_, _, _, hv⟩
    · exact ⟨_, _, _, hv⟩
  go_wp2
  go_ret2
  refine ⟨rfl, ?_, ?_⟩
  · exact Lib.BuilderAt.put (T := 167) (e := 5) hB hb2 (bs' := bs ++ Lib.strCells s) (by simpa [Lib.strCells_length] using hown') (by decide)
  · exact (hb1.grown hgrow (by have := hb1.size; omega) (fun k hk => (hown.lt k hk).1)).setCell (p := ⟨b, 1, none⟩) hB _
def Bld (B b : Nat) (l : Str) (w : World) : Prop := Lib.IsBuilder 167 5 B b (Lib.byteCells l) w
theorem Bld.fresh (w : World) : Bld w.heap.size w.heap.size [] (w.alloc (.cells #[.pointer none, .slice none 0 0] 167)) := Lib.fresh_isBuilder _ _ _
theorem bldAt_ext {T e : TypeId} {B b : Nat} {p : Value} {bs : List Value} {w w' : World} (h : Lib.BuilderAt T e B b p bs w) (hb : Below w.heap.size w w') : Lib.BuilderAt T e B b p bs w' := by
  obtain ⟨h1, v, h2, h3, h4⟩ := h
  refine ⟨h1, v, blk_ext h2 hb, World.ownsRow.kept h3 (row := none) ⟨hb.os, hb.tape, hb.output, hb.size, fun i hi _ => hb.block i hi⟩ ?_, h4⟩
  cases v.ownBlock <;> simp
theorem Bld.ext {B b : Nat} {l : Str} {w w' : World} (h : Bld B b l w) (hb : Below w.heap.size w w') : Bld B b l w' := by
  rcases h with h | h
  · exact .inl (bldAt_ext h hb)
  · exact .inr (bldAt_ext h hb)
theorem writeString_calls (B b : Nat) (l s : Str) (w : World) (h : Bld B b l w) (hlen : l.length + s.length ≤ 140737488355328) (hBw : B ≤ w.heap.size) :
    Calls Tryz.prog 166 #[.pointer (some ⟨b, 0, none⟩), S s] w fun e w' => (∃ n, e = .returned (.tuple #[.int .i64 n, .nilIface])) ∧ Bld B b (l ++ s) w' ∧ Below B w w' :=
  (writeString_any B b _ ⟨s.toArray⟩ w h (by rw [Lib.byteCells_length, Lib.size_eq]; exact hlen) hBw).mono fun e w' ⟨he, h1, h2⟩ => by
    refine ⟨⟨_, he⟩, .inr ?_, h2⟩
    have : Lib.byteCells l ++ Lib.strCells ⟨s.toArray⟩ = Lib.byteCells (l ++ s) := by simp [Lib.byteCells, Lib.strCells]
    rw [this] at h1
    exact h1
theorem builderString_calls (B b : Nat) (l : Str) (w : World) (h : Bld B b l w) (hBw : B ≤ w.heap.size) :
    Calls Tryz.prog 167 #[.pointer (some ⟨b, 0, none⟩)] w fun e w' => e = .returned (S l) ∧ Below B w w' :=
  Tryz.Builder_String_any B b l w h hBw
def Sl {α : Type} (enc : α → List Value) (k : Nat) (w : World) (v : Value) (l : List α) : Prop :=
  ∃ a cap, v = .slice a l.length cap ∧ RowAt enc k w a l ∧ (a = none → l = []) ∧ l.length ≤ cap
theorem Sl.nil {α : Type} (enc : α → List Value) (k : Nat) (w : World) : Sl enc k w (.slice none 0 0) [] := ⟨none, 0, rfl, RowAt.nil _ _ _ _, fun _ => rfl, Nat.le_refl _⟩
theorem Sl.ext {α : Type} {enc : α → List Value} {k : Nat} {w w' : World} {v : Value} {l : List α} (h : Sl enc k w v l) (hb : Below w.heap.size w w') : Sl enc k w' v l :=
  let ⟨a, cap, h1, h2, h3, h4⟩ := h; ⟨a, cap, h1, h2.ext hb, h3, h4⟩
theorem text_bytes (w : World) (s : Str) :
    ∃ cap, (convert 9 94 (S s)).run Tryz.prog w = .ok (.slice (some ⟨w.heap.size, 0, none⟩) s.length cap) (Lib.bytesWorld w 5 ⟨s.toArray⟩) ∧
      Sl byC 1 (Lib.bytesWorld w 5 ⟨s.toArray⟩) (.slice (some ⟨w.heap.size, 0, none⟩) s.length cap) s := by
  refine ⟨_, Lib.run_convert_string_bytes w _ _ _ ⟨s.toArray⟩ Tryz.underlying9 Tryz.underlying94 Tryz.underlying5, ⟨_, _, rfl, ?_, (fun h => by cases h), ?_⟩⟩
  · intro i x hx
    refine ⟨_, _, rfl, fun j u hu => ?_⟩
    have hi : i < s.length := (List.getElem?_eq_some_iff.1 hx).1
    cases j with
    | zero =>
      simp only [byC, List.getElem?_cons_zero, Option.some.injEq] at hu
      subst hu
      have := Lib.bytesWorld_cell w 5 ⟨s.toArray⟩ i (by rw [Lib.size_eq]; exact hi)
      simp only [Nat.zero_add, Nat.mul_one, Nat.add_zero]
      rw [this]
      simp [List.getD, hx]
    | succ j => simp [byC] at hu
  · have := grownCap_ge w (ByteArray.size ⟨s.toArray⟩) 0 5
    rw [Lib.size_eq] at this ⊢
    exact this
end Go.Proofs.YtdkjinmkallhnaaGreatDoor
end
section
namespace Go.Proofs.YtdkjinmkallhnaaGreatDoor
open Go.RowKit
def PrintPost (l : List (Str × Str)) (w : World) (e : Ending) (w' : World) : Prop :=
  ∃ v, e = .returned (.tuple #[v, .bool (printOk l)]) ∧ Sl byC 1 w' v (if printOk l then printM l else []) ∧ Below w.heap.size w w'
set_option maxHeartbeats 1000000 in
set_option maxRecDepth 100000 in
theorem print_calls (w : World) (hg : GL w) (a : Option Addr) (cap : Nat) (l : List (Str × Str)) (hr : RowAt prC 2 w a l) (hl : bulk l ≤ 100000000) :
    Calls Tryz.prog 145 #[.slice a l.length cap] w (PrintPost l w) := by
  have HR := Lib.hid hr
  have HL := Lib.hid hl
  have hll : l.length ≤ 100000000 := Nat.le_trans (bulk_len l) hl
  have hpl : ∀ p ∈ l, p.1.length + p.2.length ≤ 100000000 := fun p hp => Nat.le_trans (bulk_mem l p hp) hl
  have HPL := Lib.hid hpl
  clear hr hl hpl
  go_enter Tryz.func145, Tryz.ntmps145
  go_wp2_with fail
  refine (keys_calls _ _ _ l HR.out (by omega) (fun p hp => by have := HPL.out p hp; omega)).mono ?_
  rintro e w1 ⟨rfl, hb1⟩
  have HB1 : Hid (Below w.heap.size w w1) := hb1
  clear hb1
  cases hrt : rightM l with
  | false =>
    have HP : Hid (printOk l = false) := Lib.hid (by simp [printOk, hrt])
    go_wp2_with fail
    go_ret2
    exact ⟨_, by rw [HP.out]; rfl, by rw [HP.out]; exact Sl.nil _ _ _, HB1.out⟩
  | true =>
    cases hon : onceM l with
    | false =>
      have HP : Hid (printOk l = false) := Lib.hid (by simp [printOk, hon])
      go_wp2_with fail
      go_ret2
      exact ⟨_, by rw [HP.out]; rfl, by rw [HP.out]; exact Sl.nil _ _ _, HB1.out⟩
    | true =>
      have HP : Hid (printOk l = true) := Lib.hid (by simp [printOk, hon, hrt])
      clear hrt hon
      go_wp2_with fail
      go_loopg [23] l.length (fun g v23 wr => ∃ k : Nat, g + k = l.length ∧ v23 = .int .i64 k ∧ Hid (Bld w1.heap.size w1.heap.size (printM (l.take k)) wr) ∧ Hid (Below w.heap.size w wr) ∧ w1.heap.size ≤ wr.heap.size)
      case atStart => exact ⟨0, by simp, rfl, Bld.fresh _, HB1.out.alloc HB1.out.size _, by simp⟩
      case round =>
        obtain ⟨k, hk, rfl, HBL, HB, hsz⟩ := hrel
        cases gk with
        | zero =>
          have hge : l.length ≤ k := by omega
          clear hk
          have HBL2 : Hid (Bld w1.heap.size w1.heap.size (printM l) wr) := by have := HBL.out; rw [List.take_of_length_le hge] at this; exact this
          go_wp2_with fail
          refine (builderString_calls _ _ _ _ HBL2.out hsz).mono ?_
          rintro e w2 ⟨rfl, hb2⟩
          have HB2 : Hid (Below w.heap.size w w2) := HB.out.trans (hb2.mono HB1.out.size)
          clear hb2
          obtain ⟨cap', hconv, hsl⟩ := text_bytes w2 (printM l)
          have HSL := Lib.hid hsl
          clear hsl
          go_wp2_with fail
          go_ret2
          exact ⟨_, by rw [HP.out]; rfl, by rw [HP.out]; exact HSL.out, below_then HB2.out (below_bytesWorld _ _ _)⟩
        | succ g1 =>
          have hlt : k < l.length := by omega
          have HG : Hid (g1 + 1 + k = l.length) := hk
          clear hk
          obtain ⟨b, o, rfl, c1, c2⟩ := (HR.out.ext HB.out).pr hlt
          have HD : Hid (printM (l.take (k + 1)) = printM (l.take k) ++ recM l[k]) := Lib.hid (printM_take l hlt)
          have hxl := HPL.out _ (List.getElem_mem hlt)
          generalize l[k] = x at c1 c2 HD hxl
          have hpk : (printM (l.take k)).length ≤ 100000000 := by
            have h1 := bulk_take l k
            have h2 := HL.out
            exact Nat.le_trans (printM_len (l.take k) (by omega)) (by omega)
          have HRL : Hid ((restM x).length = 1 + x.1.length + 1 + x.2.length + 1) := Lib.hid (by simp [restM]; omega)
          have hrl : (restM x).length ≤ 100000003 := by rw [HRL.out]; omega
          go_wp2_with fail
          rw [show (1 + (x.1.length : Int) + 1 + (x.2.length : Int) + 1) = (((restM x).length : Nat) : Int) from by rw [HRL.out]; omega]
          have HB2 : Hid (Below w.heap.size w (wr.alloc (.cells #[S x.1, S x.2] 110))) := HB.out.alloc HB.out.size _
          refine (length_calls _ (hg.ext HB2.out) (restM x).length (by omega)).mono ?_
          rintro e w2 ⟨rfl, hb2⟩
          have HB3 : Hid (Below w.heap.size w w2) := below_then HB2.out hb2
          have HBL2 := Lib.hid ((HBL.out.ext (below_new wr _)).ext hb2)
          have hsz2 : w1.heap.size ≤ w2.heap.size := by have := hb2.size; simp at this; omega
          have hlm := lenM_le (restM x).length
          clear hb2
          go_wp2_with fail
          refine (itoa_calls _ (hg.ext HB3.out) (lenM (restM x).length) (by omega)).mono ?_
          rintro e w3 ⟨rfl, hb3⟩
          have HB4 : Hid (Below w.heap.size w w3) := below_then HB3.out hb3
          have HBL3 := Lib.hid (HBL2.out.ext hb3)
          have hsz3 : w1.heap.size ≤ w3.heap.size := by have := hb3.size; omega
          have hdl := dec_len (lenM (restM x).length) (by omega)
          clear hb3
          go_wp2_with fail
          refine (writeString_calls _ _ _ (dec (lenM (restM x).length)) _ HBL3.out (by omega) hsz3).mono ?_
          rintro e w4 ⟨⟨n4, rfl⟩, hbl4, hb4⟩
          have HB5 : Hid (Below w.heap.size w w4) := HB4.out.trans (hb4.mono HB1.out.size)
          have HBL4 := Lib.hid hbl4
          have hsz4 : w1.heap.size ≤ w4.heap.size := by have := hb4.size; omega
          clear hbl4 hb4
          go_wp2_with fail
          simp only [append_S]
          refine (writeString_calls _ _ _ _ _ HBL4.out (by simp only [List.length_append, List.length_cons, List.length_nil]; omega) hsz4).mono ?_
          rintro e w5 ⟨⟨n5, rfl⟩, hbl5, hb5⟩
          have HB6 : Hid (Below w.heap.size w w5) := HB5.out.trans (hb5.mono HB1.out.size)
          have HBL5 : Hid (Bld w1.heap.size w1.heap.size (printM (l.take (k + 1))) w5) := Lib.hid (by rw [HD.out, recM, ← List.append_assoc]; exact hbl5)
          have hsz5 : w1.heap.size ≤ w5.heap.size := by have := hb5.size; omega
          clear hbl5 hb5
          go_wp2_with fail
          go_roundg g1
          case measure => omega
          case rel => exact ⟨k + 1, by have := HG.out; omega, by go_num, HBL5, HB6, hsz5⟩
end Go.Proofs.YtdkjinmkallhnaaGreatDoor
end
section
namespace Go.Proofs.YtdkjinmkallhnaaGreatDoor
open Go.RowKit
theorem flat_get {α : Type} {enc : α → List Value} {k : Nat} (hk : ∀ x, (enc x).length = k) : ∀ (l : List α) (j : Nat) (u : Value), (flat enc l)[j]? = some u → ∃ i jj x, l[i]? = some x ∧ (enc x)[jj]? = some u ∧ j = i * k + jj
  | [], j, u, h => by simp [flat] at h
  | y :: r, j, u, h => by
    have e : flat enc (y :: r) = enc y ++ flat enc r := rfl
    rw [e] at h
    by_cases hj : j < k
    · rw [List.getElem?_append_left (by rw [hk]; exact hj)] at h
      exact ⟨0, j, y, rfl, h, by omega⟩
    · rw [List.getElem?_append_right (by rw [hk]; omega), hk] at h
      obtain ⟨i, jj, x, h1, h2, h3⟩ := flat_get hk r (j - k) u h
      exact ⟨i + 1, jj, x, h1, h2, by rw [Nat.succ_mul]; omega⟩
theorem run_append_row {α : Type} {P : Program} {enc : α → List Value} {w : World} (t ty : TypeId)
    (base T k bytes : Nat) (i : TypeInfo) (z : Value) (ht : P.underlying t = some (.slice T)) (hi : P.info? T = some i) (hz : i.zero = some z)
    (hsize : i.size = k) (hby : i.bytes = bytes) (hzs : z.cells.size = k) (hsz : 0 < k) (hk : ∀ x, (enc x).length = k) (h1 : ∀ x, ∀ u ∈ enc x, u.oneCell' = true)
    (v : Value) (l : List α) (hown : Own enc T k base w v l) (A : Option Addr) (c : Nat) (m : List α) (hr : RowAt enc k w A m) (hn : A = none → m = [])
    (h63 : l.length + m.length ≤ maxLen) (hbytes : (l.length + m.length) * bytes ≤ 140737488355328) (hbase : base ≤ w.heap.size) :
    ∃ v' w', (Builtin.append_ #[t, t] ty #[v, .slice A m.length c]).run P w = .ok v' w' ∧ Own enc T k base w' v' (l ++ m) ∧ w.grownBy w' v.ownBlock := by
  cases A with
  | none =>
    obtain rfl := hn rfl
    refine ⟨v, w, ?_, by rw [List.append_nil]; exact hown, World.grownBy.refl w _⟩
    rcases hown.2 with ⟨hv, h0⟩ | ⟨g, cap, cur, hv, _, _, hnc, _⟩
    · subst hv
      simp [Builtin.append_, run_underlying ht, sizeOf, typeInfo, hi, Builtin.lenOf, Builtin.firstCells]
    · subst hv
      simp [Builtin.append_, run_underlying ht, sizeOf, typeInfo, hi, Builtin.lenOf, Builtin.firstCells, hnc, storeCells]
  | some ad =>
    obtain ⟨v', w', hrun, h2, h3, _⟩ := run_append_own (P := P) w base t ty T i z k bytes ht hi hz hsize hby hzs hsz v l.length (flat enc l) hown ad m.length c (flat enc m) (flat_length hk m) (fun j u hu => by
      obtain ⟨i, jj, x, hx, hv, rfl⟩ := flat_get hk m j u hu
      obtain ⟨b, o, ha, hc⟩ := hr i x hx
      obtain rfl := Option.some.inj ha
      rw [add_at, ← Nat.add_assoc]
      exact hc jj u hv) (fun u hu => by
      obtain ⟨x, _, hx⟩ := List.mem_flatMap.1 hu
      exact h1 x u hx) h63 hbytes hbase
    refine ⟨v', w', hrun, ?_, h3⟩
    unfold Own
    rw [flat_append, List.length_append]
    exact h2
theorem wpList_append_row {α : Type} {P : Program} {enc : α → List Value} {w : World} {ops : Array Oper} {rest : List Oper} {o : Oper} {a : Act} {Q : Exit → Act → World → Prop} (hw : Region.wanted o (yielded ops a.tmps) = true) (s x : Operand) (t : TypeId)
    (ho : o.op = .call { callee := .builtin .append, args := #[s, x], argTypes := #[t, t] })
    (base T k bytes : Nat) (i : TypeInfo) (z : Value) (ht : P.underlying t = some (.slice T)) (hi : P.info? T = some i) (hz : i.zero = some z)
    (hsize : i.size = k) (hby : i.bytes = bytes) (hzs : z.cells.size = k) (hsz : 0 < k) (hk : ∀ x, (enc x).length = k) (h1 : ∀ x, ∀ u ∈ enc x, u.oneCell' = true)
    (v : Value) (l : List α) (hs : a.eval s = v) (hown : Own enc T k base w v l) (A : Option Addr) (n c : Nat) (m : List α) (hx : a.eval x = .slice A n c) (hnm : n = m.length) (hr : RowAt enc k w A m) (hn : A = none → m = [])
    (h63 : l.length + m.length ≤ maxLen) (hbytes : (l.length + m.length) * bytes ≤ 140737488355328) (hbase : base ≤ w.heap.size)
    (h : ∀ v' w', Own enc T k base w' v' (l ++ m) → w.grownBy w' v.ownBlock → wpList P ops Q rest (a.put o.dst v') w') : wpList P ops Q (o :: rest) a w := by
  subst hnm
  obtain ⟨v', w', hrun, h2, h3⟩ := run_append_row (P := P) (enc := enc) (w := w) t o.type base T k bytes i z ht hi hz hsize hby hzs hsz hk h1 v l hown A c m hr hn h63 hbytes hbase
  unfold wpList
  rw [if_pos hw]
  refine Or.inl ?_
  unfold Oper.wp execOp
  simp only [ho, resolve, invoke, builtin, Sem.run_bind, Sem.run_pure, Result.andThen_ok, List.map_toArray, List.map_cons, List.map_nil, hs, hx, hrun]
  exact h v' w' h2 h3
theorem own_empty {α : Type} (enc : α → List Value) {T : TypeId} (k base : Nat) (w : World) (hb : base ≤ w.heap.size) : Own enc T k base (w.alloc (.cells #[] T)) (.slice (some ⟨w.heap.size, 0, none⟩) 0 0) [] := by
  refine ⟨by simp [flat], .inr ⟨w.heap.size, 0, #[], rfl, hb, blk_new w _, Nat.le_refl _, Nat.zero_le _, by simp, by simp [flat]⟩⟩
end Go.Proofs.YtdkjinmkallhnaaGreatDoor
end
section
namespace Go.Proofs.YtdkjinmkallhnaaGreatDoorQ
open Go.RowKit Go.Proofs.YtdkjinmkallhnaaGreatDoor Go.Proofs.YtdkjinmkallhnaaGreatDoorW.PrintWords
section
variable {α : Type} {enc : α → List Value} {k : Nat}
theorem flat_take (hk : ∀ x, (enc x).length = k) : ∀ (l : List α) (i : Nat), (flat enc l).take (i * k) = flat enc (l.take i)
  | [], i => by simp [flat]
  | x :: r, 0 => by simp [flat]
  | x :: r, i + 1 => by
    have e : flat enc (x :: r) = enc x ++ flat enc r := rfl
    have e2 : flat enc ((x :: r).take (i + 1)) = enc x ++ flat enc (r.take i) := rfl
    rw [e, e2, List.take_append, hk, List.take_of_length_le (by rw [hk, Nat.succ_mul]; omega), show (i + 1) * k - k = i * k from by rw [Nat.succ_mul]; omega, flat_take hk r i]
theorem flat_drop (hk : ∀ x, (enc x).length = k) : ∀ (l : List α) (i : Nat), (flat enc l).drop (i * k) = flat enc (l.drop i)
  | [], i => by simp [flat]
  | x :: r, 0 => by simp [flat]
  | x :: r, i + 1 => by
    have e : flat enc (x :: r) = enc x ++ flat enc r := rfl
    rw [e, List.drop_append, hk, List.drop_eq_nil_of_le (by rw [hk, Nat.succ_mul]; omega), show (i + 1) * k - k = i * k from by rw [Nat.succ_mul]; omega, flat_drop hk r i]
    rfl
theorem flat_set (hk : ∀ x, (enc x).length = k) (l : List α) (i : Nat) (hi : i < l.length) (x : α) : flat enc (l.set i x) = (flat enc l).take (i * k) ++ enc x ++ (flat enc l).drop (i * k + k) := by
  rw [flat_take hk, show i * k + k = (i + 1) * k from by rw [Nat.succ_mul], flat_drop hk, List.set_eq_take_append_cons_drop, if_pos hi, flat_append, List.append_assoc]
  rfl
variable {T base g cap : Nat} {w : World}
theorem own_blk {xs : List α} (h : Own enc T k base w (.slice (some ⟨g, 0, none⟩) xs.length cap) xs) :
    ∃ cur : Array Value, base ≤ g ∧ w.heap[g]? = some (.cells cur T (0, 0)) ∧ xs.length ≤ cap ∧ cap ≤ maxLen ∧ cur.size = cap * k ∧ cur.toList.take (xs.length * k) = flat enc xs := by
  rcases h.2 with ⟨hv, _⟩ | ⟨g', cap', cur, hv, hb, hg, h1, h2, h3, h4⟩
  · cases hv
  · cases hv
    exact ⟨cur, hb, hg, h1, h2, h3, h4⟩
theorem own_mk (hk : ∀ x, (enc x).length = k) {xs : List α} {cur : Array Value} (hb : base ≤ g) (hg : w.heap[g]? = some (.cells cur T (0, 0))) (h1 : xs.length ≤ cap) (h2 : cap ≤ maxLen) (h3 : cur.size = cap * k) (h4 : cur.toList.take (xs.length * k) = flat enc xs) :
    Own enc T k base w (.slice (some ⟨g, 0, none⟩) xs.length cap) xs := ⟨flat_length hk xs, .inr ⟨g, cap, cur, rfl, hb, hg, h1, h2, h3, h4⟩⟩
theorem own_there {xs : List α} (h : Own enc T k base w (.slice (some ⟨g, 0, none⟩) xs.length cap) xs) (o n : Nat) (hn : o + n ≤ cap * k) : w.there g o n := by
  obtain ⟨cur, _, hg, _, _, h3, _⟩ := own_blk h
  intro j hj
  refine ⟨?_, blk_free hg _⟩
  rw [Go.Proofs.YtdkjinmkallhnaaGreatDoor.blk_cell hg]
  simp; omega
theorem own_lies (hk : ∀ x, (enc x).length = k) {xs : List α} (h : Own enc T k base w (.slice (some ⟨g, 0, none⟩) xs.length cap) xs) {i : Nat} (hi : i < xs.length) : w.rangeAt g (i * k) (enc xs[i]) := by
  intro j v hv
  obtain ⟨b, o, ha, hc⟩ := h.row hk i _ (List.getElem?_eq_getElem hi)
  cases ha
  have := hc j v hv
  rwa [Nat.zero_add] at this
theorem own_put (hk : ∀ x, (enc x).length = k) {xs : List α} (h : Own enc T k base w (.slice (some ⟨g, 0, none⟩) xs.length cap) xs) {i : Nat} (hi : i < xs.length) (x : α) :
    Own enc T k base (w.setCells g (i * k) (enc x)) (.slice (some ⟨g, 0, none⟩) (xs.set i x).length cap) (xs.set i x) := by
  obtain ⟨cur, hb, hg, h1, h2, h3, h4⟩ := own_blk h
  have hik : i * k + k ≤ xs.length * k := by rw [← Nat.succ_mul]; exact Nat.mul_le_mul_right k hi
  have hck : xs.length * k ≤ cap * k := Nat.mul_le_mul_right k h1
  obtain ⟨cur', q1, q2, q3⟩ := setCells_row (enc x) (i * k) w cur hg (by rw [hk]; omega)
  refine own_mk hk hb q1 (by rw [List.length_set]; exact h1) h2 (q2.trans h3) ?_
  rw [flat_set hk xs i hi x, q3, List.length_set, ← h4, hk]
  apply List.ext_getElem?
  intro j
  have hcl : cur.toList.length = cap * k := by rw [Array.length_toList]; exact h3
  simp only [List.getElem?_append, List.getElem?_take, List.getElem?_drop, List.length_append, List.length_take, hk, hcl]
  repeat' split
  all_goals first | rfl | (exfalso; omega) | (congr 1; omega) | (rw [List.getElem?_eq_none (by omega)])
theorem own_cut (hk : ∀ x, (enc x).length = k) {xs : List α} (h : Own enc T k base w (.slice (some ⟨g, 0, none⟩) xs.length cap) xs) {i : Nat} (hi : i ≤ xs.length) (vs : List Value) (hv : i * k + vs.length ≤ cap * k) :
    Own enc T k base (w.setCells g (i * k) vs) (.slice (some ⟨g, 0, none⟩) (xs.take i).length cap) (xs.take i) := by
  obtain ⟨cur, hb, hg, h1, h2, h3, h4⟩ := own_blk h
  have hik : i * k ≤ xs.length * k := Nat.mul_le_mul_right k hi
  obtain ⟨cur', q1, q2, q3⟩ := setCells_row vs (i * k) w cur hg (by omega)
  refine own_mk hk hb q1 (by rw [List.length_take]; omega) h2 (q2.trans h3) ?_
  have hcl : cur.toList.length = cap * k := by rw [Array.length_toList]; exact h3
  rw [List.length_take, Nat.min_eq_left hi, ← flat_take hk, ← h4, q3, List.take_take, Nat.min_eq_left hik, List.append_assoc, List.take_append_of_le_length (by rw [List.length_take]; have := Nat.mul_le_mul_right k h1; omega), List.take_take, Nat.min_eq_left (Nat.le_refl _)]
theorem setCells_grown (w : World) (g o : Nat) (vs : List Value) : w.grownBy (w.setCells g o vs) (some g) := by
  obtain ⟨h1, h2, h3, h4⟩ := setCells_same g vs o w
  exact ⟨h1, h2, h3, by rw [h4]; exact Nat.le_refl _, fun j _ hj => setCells_far vs o j (fun e => hj (by rw [e]))⟩
end
theorem grown_trans' {a b c : World} {row : Option Nat} (h : a.grownBy b row) (h2 : b.grownBy c row) : a.grownBy c row :=
  ⟨h2.os.trans h.os, h2.tape.trans h.tape, h2.output.trans h.output, Nat.le_trans h.size h2.size, fun i hi hn => (h2.block i (Nat.lt_of_lt_of_le hi h.size) hn).trans (h.block i hi hn)⟩
theorem grown_below {a b c : World} {row : Option Nat} (h : a.grownBy b row) (h2 : Below b.heap.size b c) : a.grownBy c row := grown_trans' h ⟨h2.os, h2.tape, h2.output, h2.size, fun k hk _ => h2.block k hk⟩
theorem zero_cells (z : Array Value) (n : Nat) : (Builtin.zeroCells z n).toList.length = n * z.size := by simp [Builtin.zeroCells]
theorem run_clear_row {P : Program} (w : World) (t e ty : TypeId) (z : Value) (ht : P.underlying t = some (.slice e)) (hv : ∀ w, (zeroValue e).run P w = .ok z w) (h1 : ∀ v ∈ z.cells.toList, v.oneCell' = true) (b o n c : Nat) (hn : 0 < n) (hh : w.there b o (n * z.cells.size)) :
    (Builtin.clear_ #[t] ty #[.slice (some ⟨b, o, none⟩) n c]).run P w = .ok (.tuple #[]) (w.setCells b o (Builtin.zeroCells z.cells n).toList) := by
  have hst := run_storeCells_cells (P := P) b o (Builtin.zeroCells z.cells n).toList 0 w (fun j hj => by rw [zero_cells] at hj; exact (hh j hj).1) (fun j hj => by rw [zero_cells] at hj; exact (hh j hj).2) (by
    intro v hv'
    simp only [Builtin.zeroCells, Array.toList_map, List.mem_map] at hv'
    obtain ⟨i, hi, rfl⟩ := hv'
    have hi2 : i < n * z.cells.size := by simpa using hi
    have hz : 0 < z.cells.size := by
      rcases Nat.eq_zero_or_pos z.cells.size with h | h
      · rw [h] at hi2; omega
      · exact h
    have hm : i % z.cells.size < z.cells.size := Nat.mod_lt _ hz
    rw [getElem!_pos z.cells _ hm]
    exact h1 _ (Array.getElem_mem_toList hm))
  simp only [Nat.add_zero] at hst
  obtain ⟨m, rfl⟩ : ∃ m, n = m + 1 := ⟨n - 1, by omega⟩
  simp [Builtin.clear_, run_underlying ht, hv, hst]
end Go.Proofs.YtdkjinmkallhnaaGreatDoorQ
end
section
namespace Go.Proofs.YtdkjinmkallhnaaGreatDoorQ
open Go.RowKit Go.WideMaps Go.Maps Go.Proofs.YtdkjinmkallhnaaGreatDoor Go.Proofs.YtdkjinmkallhnaaGreatDoorW.PrintWords Go.Proofs.YtdkjinmkallhnaaGreatDoorW.PrintLast Go.Proofs.YtdkjinmkallhnaaGreatDoorW.PrintMore
section
variable {P : Program} {ops : Array Oper} {rest : List Oper} {o : Oper} {a : Act} {Q : Exit → Act → World → Prop} {W : World}
def LiesAt (w : World) (a : Addr) (cs : List Value) : Prop := ∀ j v, cs[j]? = some v → w.cell? (a.add j) = some v
theorem LiesAt.below {w w1 : World} {a : Addr} {cs : List Value} (h : LiesAt w a cs) (hb : Below w.heap.size w w1) : LiesAt w1 a cs := fun j v hv => by
  have := h j v hv
  exact (hb.cell (World.block_lt_of_cell? w _ this)).trans this
theorem wpList_load_agg (hw : Region.wanted o (yielded ops a.tmps) = true) (ty : TypeId) (x : Operand) (ho : o.op = .load ty x)
    (ad : Addr) (hx : a.eval x = .pointer (some ad)) (cs : List Value) (d : TypeDesc) (hc : LiesAt W ad cs)
    (hu : P.underlying ty = some d) (hd : d.isRow = true) (hi : (P.info? ty).map (·.size) = some cs.length)
    (h : wpList P ops Q rest (a.put o.dst (.agg cs.toArray)) W) : wpList P ops Q (o :: rest) a W := by
  unfold wpList
  rw [if_pos hw]
  refine Or.inl ?_
  unfold Oper.wp execOp
  have hl : (loadCells ad cs.length).run P W = .ok cs.toArray W := run_loadCells_list (P := P) W ad cs hc
  have hv : (loadVar ty ad).run P W = .ok (.agg cs.toArray) W := by
    cases hq : P.info? ty with
    | none => simp [hq] at hi
    | some i =>
      have hs : i.size = cs.length := by simpa [hq] using hi
      have hagg : (isAgg ty).run P W = .ok true W := by
        unfold isAgg
        rw [Sem.run_bind, run_underlying hu W]
        cases d <;> simp_all
      simp [loadVar, Sem.run_bind, hagg, sizeOf, typeInfo, hq, hs, hl]
  simp only [ho, hx, Instr.loadAt, Instr.sureAddr, Sem.run_bind, Sem.run_pure, Result.andThen_ok, hv]
  exact h
theorem wpList_store_agg (hgd : o.guard = none) (hN : o.dst = none) (ty : TypeId) (x y : Operand) (ho : o.op = .store ty x y)
    (g : Nat) (cells : Array Value) (hx : a.eval x = .pointer (some ⟨g, 0, none⟩)) (hy : a.eval y = .agg cells)
    (t : TypeId) (old : Array Value) (hg : W.heap[g]? = some (.cells old t (0, 0))) (hi : (P.info? ty).map (·.size) = some cells.size)
    (hold : old.size = cells.size) (h1 : cells.all (·.oneCell') = true)
    (h : ∀ w1, w1.heap[g]? = some (.cells cells t (0, 0)) → W.grownBy w1 (some g) → wpList P ops Q rest a w1) : wpList P ops Q (o :: rest) a W := by
  refine wpList_plain hgd fun K hK => ?_
  refine wp_store_row ty x y ho g cells hx hy t old hg hi hold h1 ?_
  rw [hN]
  exact hK _ _ (h _ (setRow_heap W g old cells t (0, 0) hg) ⟨rfl, rfl, rfl, by simp, fun k _ hne => setRow_other W g k cells (fun e => hne (by rw [e]))⟩)
end
theorem lies_of {w : World} {g : Nat} {t : TypeId} {cs : List Value} (h : w.heap[g]? = some (.cells cs.toArray t (0, 0))) : LiesAt w ⟨g, 0, none⟩ cs := fun j v hv => by
  rw [Addr.add_mid, Nat.zero_add, Go.Proofs.YtdkjinmkallhnaaGreatDoor.blk_cell h j]
  simpa using hv
theorem below_none {w w' : World} (h : Below w.heap.size w w') : w.grownBy w' none := ⟨h.os, h.tape, h.output, h.size, fun k hk _ => h.block k hk⟩
end Go.Proofs.YtdkjinmkallhnaaGreatDoorQ
end
section
namespace Go.Proofs.YtdkjinmkallhnaaGreatDoorT
variable {α : Type}
def InOrd (less : α → α → Bool) (f : Nat → α) (a m : Nat) : Prop := ∀ i j, a ≤ i → i < j → j < m → less (f j) (f i) = false
structure Weak (less : α → α → Bool) : Prop where
  trans : ∀ a b c, less b a = false → less c b = false → less c a = false
  asymm : ∀ a b, less a b = true → less b a = false
theorem Weak.refl {less : α → α → Bool} (h : Weak less) (a : α) : less a a = false := by
  cases e : less a a with
  | false => rfl
  | true => exact e.symm.trans (h.asymm a a e)
theorem InOrd.sub {less : α → α → Bool} {f : Nat → α} {a m b n : Nat} (h : InOrd less f a m) (h1 : a ≤ b) (h2 : n ≤ m) : InOrd less f b n := fun i j hi hij hj => h i j (by omega) hij (by omega)
theorem InOrd.le {less : α → α → Bool} (hw : Weak less) {f : Nat → α} {a m : Nat} (h : InOrd less f a m) {i j : Nat} (hi : a ≤ i) (hij : i ≤ j) (hj : j < m) : less (f j) (f i) = false := by
  rcases Nat.lt_or_ge i j with h' | h'
  · exact h i j hi h' hj
  · have : i = j := by omega
    subst this; exact hw.refl _
theorem InOrd.empty {less : α → α → Bool} {f : Nat → α} {a m : Nat} (h : m ≤ a + 1) : InOrd less f a m := fun i j _ _ _ => by omega
theorem InOrd.congr {less : α → α → Bool} {f g : Nat → α} {a m : Nat} (h : InOrd less f a m) (e : ∀ i, a ≤ i → i < m → g i = f i) : InOrd less g a m := fun i j hi hij hj => by rw [e i hi (by omega), e j (by omega) hj]; exact h i j hi hij hj
theorem InOrd.join {less : α → α → Bool} {f : Nat → α} {a m b : Nat} (h1 : InOrd less f a m) (h2 : InOrd less f m b) (h : ∀ i j, a ≤ i → i < m → m ≤ j → j < b → less (f j) (f i) = false) : InOrd less f a b := by
  intro i j hi hij hj
  by_cases c1 : j < m
  · exact h1 i j hi hij c1
  · by_cases c2 : i < m
    · exact h i j hi c2 (by omega) hj
    · exact h2 i j (by omega) hij hj
def rot (f : Nat → α) (a m e : Nat) (i : Nat) : α := if a ≤ i ∧ i < e then (if i < a + (e - m) then f (m + (i - a)) else f (i - (e - m))) else f i
theorem sym_mid {less : α → α → Bool} (hw : Weak less) {f : Nat → α} {a m b mid n s r0 s0 : Nat} (ham : a < m) (hmb : m < b) (hmid : mid = (a + b) / 2) (hn : n = mid + m)
    (hs0 : s0 = if mid < m then n - b else a) (hr0 : r0 = if mid < m then mid else m) (h1 : InOrd less f a m) (h2 : InOrd less f m b) (hs : s0 ≤ s) (hsr : s ≤ r0)
    (hlo : s0 < s → less (f (n - 1 - (s - 1))) (f (s - 1)) = false) (hhi : s < r0 → less (f (n - 1 - s)) (f s) = true) :
    s ≤ m ∧ m ≤ n - s ∧ n - s ≤ b ∧ a ≤ s ∧ s ≤ mid ∧ mid ≤ n - s ∧ InOrd less (rot f s m (n - s)) a s ∧ InOrd less (rot f s m (n - s)) s mid ∧ InOrd less (rot f s m (n - s)) mid (n - s) ∧ InOrd less (rot f s m (n - s)) (n - s) b ∧
    ∀ i j, a ≤ i → i < mid → mid ≤ j → j < b → less (rot f s m (n - s) j) (rot f s m (n - s) i) = false := by
  have b1 : s ≤ m ∧ m ≤ n - s ∧ n - s ≤ b ∧ a ≤ s ∧ s ≤ mid ∧ mid ≤ n - s := by
    subst hmid; subst hn
    split at hs0 <;> rename_i hc <;> (first | rw [if_pos hc] at hr0 | rw [if_neg hc] at hr0)
    all_goals omega
  obtain ⟨c1, c2, c3, c4, c5, c6⟩ := b1
  have e1 : ∀ i, i < s → rot f s m (n - s) i = f i := fun i hi => by unfold rot; rw [if_neg (by omega)]
  have e2 : ∀ i, s ≤ i → i < mid → rot f s m (n - s) i = f (m + (i - s)) := fun i h1 h2 => by unfold rot; rw [if_pos (by omega), if_pos (by omega)]
  have e3 : ∀ i, mid ≤ i → i < n - s → rot f s m (n - s) i = f (i - (n - s - m)) := fun i h1 h2 => by unfold rot; rw [if_pos (by omega), if_neg (by omega)]
  have e4 : ∀ i, n - s ≤ i → rot f s m (n - s) i = f i := fun i hi => by unfold rot; rw [if_neg (by omega)]
  refine ⟨c1, c2, c3, c4, c5, c6, ?_, ?_, ?_, ?_, ?_⟩
  · exact (h1.sub (Nat.le_refl _) c1).congr fun i _ hi => e1 i hi
  · intro i j hi hij hj
    rw [e2 i hi (by omega), e2 j (by omega) hj]
    exact h2 _ _ (by omega) (by omega) (by omega)
  · intro i j hi hij hj
    rw [e3 i hi (by omega), e3 j (by omega) hj]
    exact h1 _ _ (by omega) (by omega) (by omega)
  · exact (h2.sub (by omega) (Nat.le_refl _)).congr fun i hi _ => e4 i hi
  ·
    have hA : ∀ i j, a ≤ i → i < s → n - s ≤ j → j < b → less (f j) (f i) = false := by
      intro i j hi hi2 hj hj2
      have hlt : s0 < s := by
        rcases Nat.lt_or_ge s0 s with h | h
        · exact h
        · exfalso
          have : s = s0 := by omega
          subst hmid; subst hn
          split at hs0 <;> omega
      have hp := hlo hlt
      have : n - 1 - (s - 1) = n - s := by omega
      rw [this] at hp
      have q1 := h1.le hw hi (show i ≤ s - 1 by omega) (by omega)
      have q2 := h2.le hw (show m ≤ n - s by omega) hj hj2
      exact hw.trans _ _ _ (hw.trans _ _ _ q1 hp) q2
    have hB : ∀ i j, m ≤ i → i < n - s → s ≤ j → j < m → less (f j) (f i) = false := by
      intro i j hi hi2 hj hj2
      have hlt : s < r0 := by
        rcases Nat.lt_or_ge s r0 with h | h
        · exact h
        · exfalso
          have : s = r0 := by omega
          subst hmid; subst hn
          split at hr0 <;> omega
      have hp := hw.asymm _ _ (hhi hlt)
      have q1 := h2.le hw hi (show i ≤ n - 1 - s by omega) (by omega)
      have q2 := h1.le hw (show a ≤ s by omega) hj hj2
      exact hw.trans _ _ _ (hw.trans _ _ _ q1 hp) q2
    intro i j hi hi2 hj hj2
    by_cases u : i < s
    · rw [e1 i u]
      by_cases v : j < n - s
      · rw [e3 j hj v]
        exact h1.le hw hi (by omega) (by omega)
      · rw [e4 j (by omega)]
        exact hA i j hi u (by omega) hj2
    · rw [e2 i (by omega) hi2]
      by_cases v : j < n - s
      · rw [e3 j hj v]
        exact hB _ _ (by omega) (by omega) (by omega) (by omega)
      · rw [e4 j (by omega)]
        exact h2.le hw (by omega) (by omega) hj2
theorem sym_first {less : α → α → Bool} (hw : Weak less) {f g : Nat → α} {a b i : Nat} (h2 : InOrd less f (a + 1) b) (hi : a + 1 ≤ i) (hib : i ≤ b) (hlo : a + 1 < i → less (f (i - 1)) (f a) = true) (hhi : i < b → less (f i) (f a) = false)
    (g1 : ∀ k, a ≤ k → k < i - 1 → g k = f (k + 1)) (g2 : g (i - 1) = f a) (g3 : ∀ k, i ≤ k → k < b → g k = f k) : InOrd less g a b := by
  have key1 : ∀ k, a + 1 ≤ k → k < i → less (f a) (f k) = false := fun k h1 h3 => by
    have hp := hw.asymm _ _ (hlo (by omega))
    exact hw.trans _ _ _ (h2.le hw h1 (show k ≤ i - 1 by omega) (by omega)) hp
  have key2 : ∀ k, i ≤ k → k < b → less (f k) (f a) = false := fun k h1 h3 => by
    exact hw.trans _ _ _ (hhi (by omega)) (h2.le hw hi h1 h3)
  intro x y hx hxy hy
  by_cases u : x < i - 1
  · rw [g1 x hx u]
    by_cases v : y < i - 1
    · rw [g1 y (by omega) v]; exact h2 _ _ (by omega) (by omega) (by omega)
    · by_cases w : y = i - 1
      · subst w; rw [g2]; exact key1 _ (by omega) (by omega)
      · rw [g3 y (by omega) hy]; exact h2.le hw (by omega) (by omega) hy
  · by_cases w : x = i - 1
    · subst w; rw [g2, g3 y (by omega) hy]; exact key2 _ (by omega) hy
    · rw [g3 x (by omega) (by omega), g3 y (by omega) hy]; exact h2 _ _ (by omega) (by omega) hy
theorem sym_last {less : α → α → Bool} (hw : Weak less) {f g : Nat → α} {a m i : Nat} (h1 : InOrd less f a m) (hi : a ≤ i) (him : i ≤ m) (hlo : a < i → less (f m) (f (i - 1)) = false) (hhi : i < m → less (f m) (f i) = true)
    (g1 : ∀ k, a ≤ k → k < i → g k = f k) (g2 : g i = f m) (g3 : ∀ k, i < k → k ≤ m → g k = f (k - 1)) : InOrd less g a (m + 1) := by
  have key1 : ∀ k, a ≤ k → k < i → less (f m) (f k) = false := fun k h2 h3 => hw.trans _ _ _ (h1.le hw h2 (show k ≤ i - 1 by omega) (by omega)) (hlo (by omega))
  have key2 : ∀ k, i ≤ k → k < m → less (f k) (f m) = false := fun k h2 h3 => hw.trans _ _ _ (hw.asymm _ _ (hhi (by omega))) (h1.le hw hi h2 h3)
  intro x y hx hxy hy
  by_cases u : x < i
  · rw [g1 x hx u]
    by_cases v : y < i
    · rw [g1 y (by omega) v]; exact h1 _ _ hx hxy (by omega)
    · by_cases w : y = i
      · subst w; rw [g2]; exact key1 _ hx u
      · rw [g3 y (by omega) (by omega)]; exact h1.le hw hx (by omega) (by omega)
  · by_cases w : x = i
    · subst w; rw [g2, g3 y (by omega) (by omega)]; exact key2 _ (by omega) (by omega)
    · rw [g3 x (by omega) (by omega), g3 y (by omega) (by omega)]; exact h1 _ _ (by omega) (by omega) (by omega)
end Go.Proofs.YtdkjinmkallhnaaGreatDoorT
end
section
namespace Go.Proofs.YtdkjinmkallhnaaGreatDoorT
abbrev Dp := (Str × Str) × Nat
def lsD (x y : Dp) : Bool := decide (cmpS x.1.1 y.1.1 < 0) || (decide (x.1.1 = y.1.1) && decide (x.2 < y.2))
theorem cmpS_total {a b : Str} (h : ¬ cmpS a b < 0) (h2 : a ≠ b) : cmpS b a < 0 := by
  have h3 := cmpS_anti a b
  have h4 : cmpS a b ≠ 0 := fun e => h2 (cmpS_eq e)
  omega
theorem lsD_iff {x y : Dp} : lsD x y = true ↔ cmpS x.1.1 y.1.1 < 0 ∨ (x.1.1 = y.1.1 ∧ x.2 < y.2) := by simp [lsD]
theorem lsD_trans {x y z : Dp} (h1 : lsD x y = true) (h2 : lsD y z = true) : lsD x z = true := by
  rw [lsD_iff] at *
  rcases h1 with h1 | ⟨h1, g1⟩
  · rcases h2 with h2 | ⟨h2, g2⟩
    · exact .inl (cmpS_trans h1 h2)
    · rw [← h2]; exact .inl h1
  · rcases h2 with h2 | ⟨h2, g2⟩
    · rw [h1]; exact .inl h2
    · exact .inr ⟨h1.trans h2, by omega⟩
theorem lsD_irrefl (x : Dp) : lsD x x = false := by
  cases h : lsD x x with
  | false => rfl
  | true =>
    rw [lsD_iff] at h
    rcases h with h | ⟨_, h⟩
    · rw [cmpS_refl] at h; omega
    · omega
theorem lsD_tri (x y : Dp) : lsD x y = true ∨ lsD y x = true ∨ (x.1.1 = y.1.1 ∧ x.2 = y.2) := by
  rw [lsD_iff, lsD_iff]
  by_cases h : cmpS x.1.1 y.1.1 < 0
  · exact .inl (.inl h)
  · by_cases e : x.1.1 = y.1.1
    · rcases Nat.lt_trichotomy x.2 y.2 with g | g | g
      · exact .inl (.inr ⟨e, g⟩)
      · exact .inr (.inr ⟨e, g⟩)
      · exact .inr (.inl (.inr ⟨e.symm, g⟩))
    · exact .inr (.inl (.inl (cmpS_total h e)))
theorem lsD_alike {x y z : Dp} (h : x.1.1 = y.1.1 ∧ x.2 = y.2) : lsD x z = lsD y z ∧ lsD z x = lsD z y := by unfold lsD; rw [h.1, h.2]; exact ⟨rfl, rfl⟩
theorem lsD_weak : Weak lsD := by
  refine ⟨fun a b c h1 h2 => ?_, fun a b h => ?_⟩
  · cases h : lsD c a with
    | false => rfl
    | true =>
      rcases lsD_tri b a with q | q | q
      · rw [q] at h1; cases h1
      · rw [lsD_trans h q] at h2; cases h2
      · rw [(lsD_alike q).2, h] at h2; cases h2
  · cases h' : lsD b a with
    | false => rfl
    | true =>
      have := lsD_trans h h'
      rw [lsD_irrefl] at this; cases this
theorem lsD_later {x y : Dp} (h : x.2 < y.2) : lsD y x = decide (cmpS y.1.1 x.1.1 < 0) := by
  unfold lsD
  have : decide (y.2 < x.2) = false := decide_eq_false (by omega)
  rw [this, Bool.and_false, Bool.or_false]
section
variable {α : Type}
def swp (f : Nat → α) (i j k : Nat) : α := if k = i then f j else if k = j then f i else f k
structure Mixed (f g : Nat → α) (a b : Nat) : Prop where
  out : ∀ i, i < a ∨ b ≤ i → g i = f i
  perm : ((List.range' a (b - a)).map g).Perm ((List.range' a (b - a)).map f)
theorem Mixed.refl (f : Nat → α) (a b : Nat) : Mixed f f a b := ⟨fun _ _ => rfl, List.Perm.refl _⟩
theorem Mixed.trans {f g h : Nat → α} {a b : Nat} (h1 : Mixed f g a b) (h2 : Mixed g h a b) : Mixed f h a b := ⟨fun i hi => (h2.out i hi).trans (h1.out i hi), h2.perm.trans h1.perm⟩
theorem Mixed.mem {f g : Nat → α} {a b : Nat} (h : Mixed f g a b) {i : Nat} (h1 : a ≤ i) (h2 : i < b) : ∃ j, a ≤ j ∧ j < b ∧ g i = f j := by
  have : g i ∈ (List.range' a (b - a)).map f := h.perm.mem_iff.1 (List.mem_map.2 ⟨i, by rw [List.mem_range'_1]; omega, rfl⟩)
  obtain ⟨j, hj, e⟩ := List.mem_map.1 this
  rw [List.mem_range'_1] at hj
  exact ⟨j, by omega, by omega, e.symm⟩
theorem Mixed.wider {f g : Nat → α} {a b c d : Nat} (h : Mixed f g a b) (h1 : c ≤ a) (h2 : b ≤ d) (h3 : a ≤ b) : Mixed f g c d := by
  refine ⟨fun i hi => h.out i (by omega), ?_⟩
  have e : List.range' c (d - c) = List.range' c (a - c) ++ (List.range' a (b - a) ++ List.range' b (d - b)) := by
    rw [show d - c = (a - c) + ((b - a) + (d - b)) from by omega, ← List.range'_append_1, show c + (a - c) = a from by omega, ← List.range'_append_1, show a + (b - a) = b from by omega]
  rw [e]
  simp only [List.map_append]
  have e1 : (List.range' c (a - c)).map g = (List.range' c (a - c)).map f := List.map_congr_left fun i hi => h.out i (by rw [List.mem_range'_1] at hi; omega)
  have e2 : (List.range' b (d - b)).map g = (List.range' b (d - b)).map f := List.map_congr_left fun i hi => h.out i (by rw [List.mem_range'_1] at hi; omega)
  rw [e1, e2]
  exact List.Perm.append_left _ (List.Perm.append_right _ h.perm)
theorem split_at {a b i : Nat} (h1 : a ≤ i) (h2 : i < b) : List.range' a (b - a) = List.range' a (i - a) ++ i :: List.range' (i + 1) (b - (i + 1)) := by
  rw [show b - a = (i - a) + ((b - (i + 1)) + 1) from by omega, ← List.range'_append_1, show a + (i - a) = i from by omega, List.range'_succ]
theorem swp_mixed (f : Nat → α) {a b i j : Nat} (h1 : a ≤ i) (h2 : i < b) (h3 : a ≤ j) (h4 : j < b) : Mixed f (swp f i j) a b := by
  refine ⟨fun k hk => by unfold swp; rw [if_neg (by omega), if_neg (by omega)], ?_⟩
  have key : ∀ i j, a ≤ i → i < j → j < b → ((List.range' a (b - a)).map (swp f i j)).Perm ((List.range' a (b - a)).map f) := by
    intro i j h1 h2 h4
    rw [split_at h1 (show i < b by omega), split_at (show i + 1 ≤ j by omega) h4]
    simp only [List.map_append, List.map_cons]
    have e1 : (List.range' a (i - a)).map (swp f i j) = (List.range' a (i - a)).map f := List.map_congr_left fun k hk => by rw [List.mem_range'_1] at hk; unfold swp; rw [if_neg (by omega), if_neg (by omega)]
    have e2 : (List.range' (i + 1) (j - (i + 1))).map (swp f i j) = (List.range' (i + 1) (j - (i + 1))).map f := List.map_congr_left fun k hk => by rw [List.mem_range'_1] at hk; unfold swp; rw [if_neg (by omega), if_neg (by omega)]
    have e3 : (List.range' (j + 1) (b - (j + 1))).map (swp f i j) = (List.range' (j + 1) (b - (j + 1))).map f := List.map_congr_left fun k hk => by rw [List.mem_range'_1] at hk; unfold swp; rw [if_neg (by omega), if_neg (by omega)]
    have e4 : swp f i j i = f j := by unfold swp; rw [if_pos rfl]
    have e5 : swp f i j j = f i := by unfold swp; rw [if_neg (by omega), if_pos rfl]
    rw [e1, e2, e3, e4, e5]
    refine List.Perm.append_left _ ?_
    refine (List.Perm.cons _ List.perm_middle).trans ?_
    refine (List.Perm.swap _ _ _).trans ?_
    exact List.Perm.cons _ List.perm_middle.symm
  rcases Nat.lt_trichotomy i j with h | h | h
  · exact key i j h1 h h4
  · subst h
    have : swp f i i = f := by funext k; unfold swp; split <;> simp_all
    rw [this]
  · have : swp f i j = swp f j i := by
      funext k; unfold swp
      repeat' split
      all_goals first | rfl | (exfalso; omega)
    rw [this]
    exact key j i h3 h h2
def swR (f : Nat → α) (a b n k : Nat) : α := if a ≤ k ∧ k < a + n then f (b + (k - a)) else if b ≤ k ∧ k < b + n then f (a + (k - b)) else f k
theorem swR_zero (f : Nat → α) (a b : Nat) : swR f a b 0 = f := by funext k; unfold swR; rw [if_neg (by omega), if_neg (by omega)]
theorem swR_step (f : Nat → α) {a b i : Nat} (h : a + (i + 1) ≤ b) : swp (swR f a b i) (a + i) (b + i) = swR f a b (i + 1) := by
  funext k
  unfold swp swR
  repeat' split
  all_goals first | rfl | (exfalso; omega) | (congr 1; omega)
theorem rot_more (f : Nat → α) {m i j : Nat} (hi : i ≤ m) (h : j < i) : rot (swR f (m - i) m j) (m - (i - j)) m (m + j) = rot f (m - i) m (m + j) := by
  funext k
  unfold rot swR
  by_cases h1 : m - i ≤ k ∧ k < m + j
  · rw [if_pos h1]
    by_cases h2 : k < m - i + (m + j - m)
    · rw [if_pos h2, if_neg (by omega), if_pos (by omega)]
    · rw [if_neg h2, if_pos (by omega)]
      by_cases h3 : k < m - (i - j) + (m + j - m)
      · rw [if_pos h3, if_neg (by omega), if_pos (by omega)]
        congr 1; omega
      · rw [if_neg h3, if_neg (by omega), if_neg (by omega)]
  · rw [if_neg h1, if_neg (by omega), if_neg (by omega), if_neg (by omega)]
theorem rot_less (f : Nat → α) {m i j : Nat} (hi : i ≤ m) (h : i < j) : rot (swR f (m - i) (m + j - i) i) (m - i) m (m + (j - i)) = rot f (m - i) m (m + j) := by
  funext k
  unfold rot swR
  by_cases h1 : m - i ≤ k ∧ k < m + j
  · rw [if_pos h1]
    by_cases h2 : k < m - i + (m + j - m)
    · rw [if_pos h2]
      by_cases h3 : k < m + (j - i)
      · rw [if_pos (by omega)]
        by_cases h4 : k < m - i + (m + (j - i) - m)
        · rw [if_pos h4, if_neg (by omega), if_neg (by omega)]
        · rw [if_neg h4, if_pos (by omega)]
          congr 1; omega
      · exfalso; omega
    · rw [if_neg h2, if_neg (by omega), if_neg (by omega), if_pos (by omega)]
      congr 1; omega
  · rw [if_neg h1, if_neg (by omega), if_neg (by omega), if_neg (by omega)]
theorem rot_even (f : Nat → α) {m i : Nat} (hi : i ≤ m) : swR f (m - i) m i = rot f (m - i) m (m + i) := by
  funext k
  unfold rot swR
  by_cases h1 : m - i ≤ k ∧ k < m + i
  · rw [if_pos h1]
    by_cases h2 : k < m - i + (m + i - m)
    · rw [if_pos h2, if_pos (by omega)]
    · rw [if_neg h2, if_neg (by omega), if_pos (by omega)]
      congr 1; omega
  · rw [if_neg h1, if_neg (by omega), if_neg (by omega)]
def mvd (f : Nat → α) (m i k : Nat) : α := if k < i ∨ m < k then f k else if k = i then f m else f (k - 1)
theorem mvd_same (f : Nat → α) (m : Nat) : mvd f m m = f := by funext k; unfold mvd; split; · rfl
                                                               · rename_i h; have : k = m := by omega
                                                                 subst this; rw [if_pos rfl]
theorem mvd_step (f : Nat → α) {m i : Nat} (h1 : 0 < i) (h2 : i ≤ m) : swp (mvd f m i) i (i - 1) = mvd f m (i - 1) := by
  funext k
  unfold swp mvd
  by_cases e1 : k = i
  · subst e1
    rw [if_pos rfl, if_pos (by omega), if_neg (by omega), if_neg (by omega)]
  · rw [if_neg e1]
    by_cases e2 : k = i - 1
    · subst e2
      rw [if_pos rfl, if_neg (by omega), if_pos rfl, if_neg (by omega), if_pos rfl]
    · rw [if_neg e2]
      by_cases e3 : k < i ∨ m < k
      · rw [if_pos e3, if_pos (by omega)]
      · rw [if_neg e3, if_neg e1, if_neg (by omega), if_neg e2]
def mvu (f : Nat → α) (a i k : Nat) : α := if k < a ∨ i < k then f k else if k = i then f a else f (k + 1)
theorem mvu_same (f : Nat → α) (a : Nat) : mvu f a a = f := by funext k; unfold mvu; split; · rfl
                                                               · rename_i h; have : k = a := by omega
                                                                 subst this; rw [if_pos rfl]
theorem mvu_step (f : Nat → α) {a i : Nat} (h : a ≤ i) : swp (mvu f a i) i (i + 1) = mvu f a (i + 1) := by
  funext k
  unfold swp mvu
  by_cases e1 : k = i
  · subst e1
    rw [if_pos rfl, if_pos (by omega), if_neg (by omega), if_neg (by omega)]
  · rw [if_neg e1]
    by_cases e2 : k = i + 1
    · subst e2
      rw [if_pos rfl, if_neg (by omega), if_pos rfl, if_neg (by omega), if_pos rfl]
    · rw [if_neg e2]
      by_cases e3 : k < a ∨ i < k
      · rw [if_pos e3, if_pos (by omega)]
      · rw [if_neg e3, if_neg e1, if_neg (by omega), if_neg e2]
end
structure Parts (f : Nat → Dp) (a m b : Nat) : Prop where
  one : InOrd lsD f a m
  two : InOrd lsD f m b
  apart : ∀ i j, a ≤ i → i < m → m ≤ j → j < b → (f i).2 < (f j).2
structure Merged (f g : Nat → Dp) (a b : Nat) : Prop where
  mixed : Mixed f g a b
  ord : InOrd lsD g a b
theorem Parts.congr {f g : Nat → Dp} {a m b : Nat} (h : Parts f a m b) (e : ∀ i, a ≤ i → i < b → g i = f i) (h1 : a ≤ m) (h2 : m ≤ b) : Parts g a m b :=
  ⟨h.one.congr fun i hi hm => e i hi (by omega), h.two.congr fun i hi hm => e i (by omega) hm, fun i j hi hm hj hb => by rw [e i hi (by omega), e j (by omega) hb]; exact h.apart i j hi hm hj hb⟩
theorem merge_join {f r g1 g2 : Nat → Dp} {a m b mid n s r0 s0 : Nat} (hp : Parts f a m b) (ham : a < m) (hmb : m < b) (hmid : mid = (a + b) / 2) (hn : n = mid + m)
    (hs0 : s0 = if mid < m then n - b else a) (hr0 : r0 = if mid < m then mid else m) (hs : s0 ≤ s) (hsr : s ≤ r0)
    (hlo : s0 < s → lsD (f (n - 1 - (s - 1))) (f (s - 1)) = false) (hhi : s < r0 → lsD (f (n - 1 - s)) (f s) = true)
    (hr : r = rot f s m (n - s)) (hrm : Mixed f r a b) :
    s ≤ m ∧ m ≤ n - s ∧ n - s ≤ b ∧ a ≤ s ∧ s ≤ mid ∧ mid ≤ n - s ∧ Parts r a s mid ∧ Parts r mid (n - s) b ∧
    ∀ g1 g2, Merged r g1 a mid → Merged g1 g2 mid b → Merged f g2 a b := by
  subst hr
  obtain ⟨c1, c2, c3, c4, c5, c6, o1, o2, o3, o4, o5⟩ := sym_mid lsD_weak ham hmb hmid hn hs0 hr0 hp.one hp.two hs hsr hlo hhi
  have e1 : ∀ i, i < s → rot f s m (n - s) i = f i := fun i hi => by unfold rot; rw [if_neg (by omega)]
  have e2 : ∀ i, s ≤ i → i < mid → rot f s m (n - s) i = f (m + (i - s)) := fun i h1 h2 => by unfold rot; rw [if_pos (by omega), if_pos (by omega)]
  have e3 : ∀ i, mid ≤ i → i < n - s → rot f s m (n - s) i = f (i - (n - s - m)) := fun i h1 h2 => by unfold rot; rw [if_pos (by omega), if_neg (by omega)]
  have e4 : ∀ i, n - s ≤ i → rot f s m (n - s) i = f i := fun i hi => by unfold rot; rw [if_neg (by omega)]
  refine ⟨c1, c2, c3, c4, c5, c6, ⟨o1, o2, ?_⟩, ⟨o3, o4, ?_⟩, ?_⟩
  · intro i j hi hm hj hb
    rw [e1 i hm, e2 j hj hb]
    exact hp.apart _ _ hi (by omega) (by omega) (by omega)
  · intro i j hi hm hj hb
    rw [e3 i hi hm, e4 j hj]
    exact hp.apart _ _ (by omega) (by omega) (by omega) hb
  · intro g1 g2 m1 m2
    refine ⟨hrm.trans ((m1.mixed.wider (Nat.le_refl _) (by omega) (by omega)).trans (m2.mixed.wider (by omega) (Nat.le_refl _) (by omega))), ?_⟩
    have q1 : ∀ i, i < mid → g2 i = g1 i := fun i hi => m2.mixed.out i (.inl hi)
    refine (m1.ord.congr fun i _ hi => q1 i hi).join m2.ord fun i j hi hm hj hb => ?_
    rw [q1 i hm]
    obtain ⟨i', hi1, hi2, ei⟩ := m1.mixed.mem hi hm
    obtain ⟨j', hj1, hj2, ej⟩ := m2.mixed.mem hj hb
    rw [ei, ej, m1.mixed.out j' (.inr hj1)]
    exact o5 i' j' hi1 hi2 hj1 hj2
theorem merged_left {f : Nat → Dp} {a s b : Nat} (hp : Parts f a s b) (h : s = a ∨ s = b) : Merged f f a b := by
  refine ⟨Mixed.refl _ _ _, ?_⟩
  rcases h with h | h
  · subst h; exact hp.two
  · subst h; exact hp.one
theorem merge_first {f : Nat → Dp} {a b i : Nat} (hp : Parts f a (a + 1) b) (hi : a + 1 ≤ i) (hib : i ≤ b) (hlo : a + 1 < i → lsD (f (i - 1)) (f a) = true) (hhi : i < b → lsD (f i) (f a) = false) (hm : Mixed f (mvu f a (i - 1)) a b) : Merged f (mvu f a (i - 1)) a b := by
  refine ⟨hm, sym_first lsD_weak hp.two hi hib hlo hhi (fun k h1 h2 => ?_) ?_ (fun k h1 h2 => ?_)⟩
  · unfold mvu; rw [if_neg (by omega), if_neg (by omega)]
  · unfold mvu; rw [if_neg (by omega), if_pos rfl]
  · unfold mvu; rw [if_pos (by omega)]
theorem merge_last {f : Nat → Dp} {a m i : Nat} (h1 : InOrd lsD f a m) (hi : a ≤ i) (him : i ≤ m) (hlo : a < i → lsD (f m) (f (i - 1)) = false) (hhi : i < m → lsD (f m) (f i) = true) : InOrd lsD (mvd f m i) a (m + 1) := by
  refine sym_last lsD_weak h1 hi him hlo hhi (fun k h1 h2 => ?_) ?_ (fun k h1 h2 => ?_)
  · unfold mvd; rw [if_pos (by omega)]
  · unfold mvd; rw [if_neg (by omega), if_pos rfl]
  · unfold mvd; rw [if_neg (by omega), if_neg (by omega)]
def Fresh (f : Nat → Dp) (a b : Nat) : Prop := ∀ i j, a ≤ i → i < j → j < b → (f i).2 < (f j).2
def BlkOrd (f : Nat → Dp) (s lo hi : Nat) : Prop := ∀ i j, lo ≤ i → i < j → j < hi → i / s = j / s → lsD (f j) (f i) = false
def BlkApart (f : Nat → Dp) (s lo n : Nat) : Prop := ∀ i j, lo ≤ i → j < n → i / s < j / s → (f i).2 < (f j).2
end Go.Proofs.YtdkjinmkallhnaaGreatDoorT
end
