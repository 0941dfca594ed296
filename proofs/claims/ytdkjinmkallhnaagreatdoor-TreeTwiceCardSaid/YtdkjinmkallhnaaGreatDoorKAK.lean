/- A part of a proof of TreeTwiceCardSaid of this seat: what its walks and its laws lean on; joined by a program of this repo (wip/pack.py) out of the texts QTreePlain, QEq26, QChangeRight, XNode, XNode2, XBox, XDraw. -/
import Derived.Deep.MidRow
import Derived.Test.YtdkjinmkallhnaaGreatDoorKAB
import Derived.Test.YtdkjinmkallhnaaGreatDoorKAD
import Derived.Test.YtdkjinmkallhnaaGreatDoorKAE
import Derived.Test.YtdkjinmkallhnaaGreatDoorKAI
import Derived.Test.YtdkjinmkallhnaaGreatDoorKAJ
section
namespace Go.Proofs.YtdkjinmkallhnaaGreatDoorQ
open Go.RowKit Go.Proofs.YtdkjinmkallhnaaGreatDoorW.PrintWords Go.Proofs.YtdkjinmkallhnaaGreatDoorW.PrintLast Go.Proofs.YtdkjinmkallhnaaGreatDoorW.PrintMore
open Go.Proofs.YtdkjinmkallhnaaGreatDoor (GL)
attribute [local go_sem] max2_int min2_int max_two min_two max_three min_three max_four min_four
def tree_plain.f (k : Nat) (a0_0 : ByteArray) (a0_1 : Int) (a0_2 : Int) (a0_3 : Int) (a0_4 : Int) (a0_5 : Int) (a0_6 : ByteArray) (a0_7 : ByteArray) (a0_8 : Int) (a0_9 : Int) (a0_10 : ByteArray) : Option (Bool) := (paths_Mark.f k a0_0).bind fun bt296 => (if bt296.2.2 = true then (if bt296.1 = 0 then ((pq16.f k a0_0 a0_1 a0_2 a0_3 a0_4 a0_5 a0_6 a0_7 a0_8 a0_9 a0_10).bind fun t299 => (some (t299 == 0))) else (some false)) else (some false))
set_option maxHeartbeats 8000000 in
set_option maxRecDepth 100000 in
theorem tree_plain.calls (k : Nat) (a0_0 : ByteArray) (a0_1 : Int) (a0_2 : Int) (a0_3 : Int) (a0_4 : Int) (a0_5 : Int) (a0_6 : ByteArray) (a0_7 : ByteArray) (a0_8 : Int) (a0_9 : Int) (a0_10 : ByteArray) (r : Bool) (w : World) (hG : GL w) (h : tree_plain.f k a0_0 a0_1 a0_2 a0_3 a0_4 a0_5 a0_6 a0_7 a0_8 a0_9 a0_10 = some r) :
  Calls Tryz.prog 37 #[.agg #[.string a0_0, .int .i64 a0_1, .int .i64 a0_2, .int .i64 a0_3, .int .i64 a0_4, .int .i64 a0_5, .string a0_6, .string a0_7, .int .i64 a0_8, .int .i64 a0_9, .string a0_10]] w fun e w' => e = .returned (.bool r) ∧ Below w.heap.size w w' := by
 have hu40 := Tryz.underlying40
 have HB := Aside0.mk (Below.refl w.heap.size w)
 have H : ((paths_Mark.f k a0_0).bind fun bt296 => (if bt296.2.2 = true then (if bt296.1 = 0 then ((pq16.f k a0_0 a0_1 a0_2 a0_3 a0_4 a0_5 a0_6 a0_7 a0_8 a0_9 a0_10).bind fun t299 => (some (t299 == 0))) else (some false)) else (some false))) = some r := h
 clear h
 replace H := Option.bind_eq_some_iff.mp H
 obtain ⟨⟨t296, t297, t298⟩, A20, H⟩ := H
 replace H : (if t298 = true then (if t296 = 0 then ((pq16.f k a0_0 a0_1 a0_2 a0_3 a0_4 a0_5 a0_6 a0_7 a0_8 a0_9 a0_10).bind fun t299 => (some (t299 == 0))) else (some false)) else (some false)) = some r := H
 have A2 := Aside0.mk A20
 clear A20
 by_cases c3 : t298 = true
 ·subst c3
  have H1 : (if t296 = 0 then ((pq16.f k a0_0 a0_1 a0_2 a0_3 a0_4 a0_5 a0_6 a0_7 a0_8 a0_9 a0_10).bind fun t299 => (some (t299 == 0))) else (some false)) = some r := by rw [if_pos rfl] at H; exact H
  clear H
  have H := H1
  clear H1
  by_cases c4 : t296 = 0
  ·rw [if_pos c4] at H
   have c4b0 : (t296 == 0) = true := beq_iff_eq.mpr c4
   have c4b1 : (t296 != 0) = false := bne_eq_false_iff_eq.mpr c4
   clear c4
   replace H := Option.bind_eq_some_iff.mp H
   obtain ⟨t299, A50, H⟩ := H
   replace H : (some (t299 == 0)) = some r := H
   have A5 := Aside0.mk A50
   clear A50
   obtain rfl := Option.some.inj H
   go_enter Tryz.func37, Tryz.ntmps37
   go_wp2_with (first | ((with_reducible refine gate_dst (N := 1) rfl ?_); refine box_event ?hg (N := 1) ?hd (cs := #[.string a0_0, .int .i64 a0_1, .int .i64 a0_2, .int .i64 a0_3, .int .i64 a0_4, .int .i64 a0_5, .string a0_6, .string a0_7, .int .i64 a0_8, .int .i64 a0_9, .string a0_10]) (t := 40) ?hr ?_; (case hd => rfl); (case hg => rfl); (case hr => first | (go_simp; done) | (go_simp; rfl)); intro gb295 hg w6 hbox hb; have n0_ := Aside0.mk (below_step (by repeat (first | (with_reducible first | exact HB.out | apply below_alloc | apply pw_below_drewN | apply below_drew1) | exact HB.out)) hb); have n1_ := Aside0.mk (hbox); have n2_ := Aside0.mk ((by rw [hg]; exact (below_size (by repeat (first | (with_reducible first | exact HB.out | apply below_alloc | apply pw_below_drewN | apply below_drew1) | exact HB.out))) : w.heap.size ≤ gb295)); have n3_ := Aside0.mk ((by rw [hg]; exact (below_size (by repeat (first | (with_reducible first | exact HB.out | apply below_alloc | apply pw_below_drewN | apply below_drew1) | exact HB.out))) : w.heap.size ≤ gb295)); clear HB; have HB := n0_; have BK295 := n1_; have GW295 := n2_; have GE295 := n3_; clear n0_ n1_ n2_ n3_; clear hb hbox hg; have hcz7_0 : w6.cell? ⟨gb295, 0, none⟩ = some (.string a0_0) := (blk_cell BK295.out 0).trans rfl; have hcz7_1 : w6.cell? ⟨gb295, 1, none⟩ = some (.int .i64 a0_1) := (blk_cell BK295.out 1).trans rfl; have hcz7_2 : w6.cell? ⟨gb295, 2, none⟩ = some (.int .i64 a0_2) := (blk_cell BK295.out 2).trans rfl; have hcz7_3 : w6.cell? ⟨gb295, 3, none⟩ = some (.int .i64 a0_3) := (blk_cell BK295.out 3).trans rfl; have hcz7_4 : w6.cell? ⟨gb295, 4, none⟩ = some (.int .i64 a0_4) := (blk_cell BK295.out 4).trans rfl; have hcz7_5 : w6.cell? ⟨gb295, 5, none⟩ = some (.int .i64 a0_5) := (blk_cell BK295.out 5).trans rfl; have hcz7_6 : w6.cell? ⟨gb295, 6, none⟩ = some (.string a0_6) := (blk_cell BK295.out 6).trans rfl; have hcz7_7 : w6.cell? ⟨gb295, 7, none⟩ = some (.string a0_7) := (blk_cell BK295.out 7).trans rfl; have hcz7_8 : w6.cell? ⟨gb295, 8, none⟩ = some (.int .i64 a0_8) := (blk_cell BK295.out 8).trans rfl; have hcz7_9 : w6.cell? ⟨gb295, 9, none⟩ = some (.int .i64 a0_9) := (blk_cell BK295.out 9).trans rfl; have hcz7_10 : w6.cell? ⟨gb295, 10, none⟩ = some (.string a0_10) := (blk_cell BK295.out 10).trans rfl; have hfz7_0 := blk_frozen BK295.out 0; have hfz7_1 := blk_frozen BK295.out 1; have hfz7_2 := blk_frozen BK295.out 2; have hfz7_3 := blk_frozen BK295.out 3; have hfz7_4 := blk_frozen BK295.out 4; have hfz7_5 := blk_frozen BK295.out 5; have hfz7_6 := blk_frozen BK295.out 6; have hfz7_7 := blk_frozen BK295.out 7; have hfz7_8 := blk_frozen BK295.out 8; have hfz7_9 := blk_frozen BK295.out 9; have hfz7_10 := blk_frozen BK295.out 10) | ((with_reducible refine gate_callee (f := 58) rfl ?_); refine goesL_ (some 9) rfl rfl Tryz.func58 (by kernel_rfl) rfl #[.string a0_0] rfl (by (try simp only [List.map_toArray, List.map_cons, List.map_nil]); first | done | rfl | (simp only [List.length_drop, List.length_take]; rfl)) ?_; (with_reducible refine (paths_Mark.calls k a0_0 t296 t297 true _ (hG.ext (by repeat (first | (with_reducible first | exact HB.out | apply below_alloc | apply pw_below_drewN | apply below_drew1 | refine below_set ?_ GE295.out) | exact HB.out))) A2.out).mono ?_); rintro e w8 ⟨rfl, hb⟩; refine ⟨_, rfl, ?_⟩; have n0_ := Aside0.mk (blk_below (g := gb295) (o := .cells #[.string a0_0, .int .i64 a0_1, .int .i64 a0_2, .int .i64 a0_3, .int .i64 a0_4, .int .i64 a0_5, .string a0_6, .string a0_7, .int .i64 a0_8, .int .i64 a0_9, .string a0_10] 40 (0, 0)) (by (with_reducible repeat (first | refine blk_drewN ?_ _ | refine blk_drew ?_ | refine blk_alloc ?_ _)); exact BK295.out) hb); have n1_ := Aside0.mk (below_step (by repeat (first | (with_reducible first | exact HB.out | apply below_alloc | apply pw_below_drewN | apply below_drew1 | refine below_set ?_ GE295.out) | exact HB.out)) hb); clear BK295; clear HB; have BK295 := n0_; have HB := n1_; clear n0_ n1_; (try clear hb); (try clear hb2); (try clear hk); (try clear hi); have hcz9_0 : w8.cell? ⟨gb295, 0, none⟩ = some (.string a0_0) := (blk_cell BK295.out 0).trans rfl; have hcz9_1 : w8.cell? ⟨gb295, 1, none⟩ = some (.int .i64 a0_1) := (blk_cell BK295.out 1).trans rfl; have hcz9_2 : w8.cell? ⟨gb295, 2, none⟩ = some (.int .i64 a0_2) := (blk_cell BK295.out 2).trans rfl; have hcz9_3 : w8.cell? ⟨gb295, 3, none⟩ = some (.int .i64 a0_3) := (blk_cell BK295.out 3).trans rfl; have hcz9_4 : w8.cell? ⟨gb295, 4, none⟩ = some (.int .i64 a0_4) := (blk_cell BK295.out 4).trans rfl; have hcz9_5 : w8.cell? ⟨gb295, 5, none⟩ = some (.int .i64 a0_5) := (blk_cell BK295.out 5).trans rfl; have hcz9_6 : w8.cell? ⟨gb295, 6, none⟩ = some (.string a0_6) := (blk_cell BK295.out 6).trans rfl; have hcz9_7 : w8.cell? ⟨gb295, 7, none⟩ = some (.string a0_7) := (blk_cell BK295.out 7).trans rfl; have hcz9_8 : w8.cell? ⟨gb295, 8, none⟩ = some (.int .i64 a0_8) := (blk_cell BK295.out 8).trans rfl; have hcz9_9 : w8.cell? ⟨gb295, 9, none⟩ = some (.int .i64 a0_9) := (blk_cell BK295.out 9).trans rfl; have hcz9_10 : w8.cell? ⟨gb295, 10, none⟩ = some (.string a0_10) := (blk_cell BK295.out 10).trans rfl; have hfz9_0 := blk_frozen BK295.out 0; have hfz9_1 := blk_frozen BK295.out 1; have hfz9_2 := blk_frozen BK295.out 2; have hfz9_3 := blk_frozen BK295.out 3; have hfz9_4 := blk_frozen BK295.out 4; have hfz9_5 := blk_frozen BK295.out 5; have hfz9_6 := blk_frozen BK295.out 6; have hfz9_7 := blk_frozen BK295.out 7; have hfz9_8 := blk_frozen BK295.out 8; have hfz9_9 := blk_frozen BK295.out 9; have hfz9_10 := blk_frozen BK295.out 10) | (go_at_call 53; (with_reducible refine (pq16.calls k a0_0 a0_1 a0_2 a0_3 a0_4 a0_5 a0_6 a0_7 a0_8 a0_9 a0_10 t299 _ (hG.ext (by repeat (first | (with_reducible first | exact HB.out | apply below_alloc | apply pw_below_drewN | apply below_drew1 | refine below_set ?_ GE295.out) | exact HB.out))) A5.out).mono ?_); rintro e w10 ⟨rfl, hb⟩; have n0_ := Aside0.mk (blk_below (g := gb295) (o := .cells #[.string a0_0, .int .i64 a0_1, .int .i64 a0_2, .int .i64 a0_3, .int .i64 a0_4, .int .i64 a0_5, .string a0_6, .string a0_7, .int .i64 a0_8, .int .i64 a0_9, .string a0_10] 40 (0, 0)) (by (with_reducible repeat (first | refine blk_drewN ?_ _ | refine blk_drew ?_ | refine blk_alloc ?_ _)); exact BK295.out) hb); have n1_ := Aside0.mk (below_step (by repeat (first | (with_reducible first | exact HB.out | apply below_alloc | apply pw_below_drewN | apply below_drew1 | refine below_set ?_ GE295.out) | exact HB.out)) hb); clear BK295; clear HB; have BK295 := n0_; have HB := n1_; clear n0_ n1_; (try clear hb); (try clear hb2); (try clear hk); (try clear hi)))
   go_ret
   exact ⟨by first | rfl | (simp [errW_none, errW_some] <;> rfl) | (simp [*, errW_none, errW_some] <;> rfl), by repeat (first | (with_reducible first | exact HB.out | apply below_alloc | apply pw_below_drewN | apply below_drew1 | refine below_set ?_ GE295.out) | exact HB.out)⟩
  ·rw [if_neg c4] at H
   have c4b0 : (t296 == 0) = false := beq_eq_false_iff_ne.mpr c4
   have c4b1 : (t296 != 0) = true := bne_iff_ne.mpr c4
   obtain rfl := Option.some.inj H
   go_enter Tryz.func37, Tryz.ntmps37
   go_wp2_with (first | ((with_reducible refine gate_dst (N := 1) rfl ?_); refine box_event ?hg (N := 1) ?hd (cs := #[.string a0_0, .int .i64 a0_1, .int .i64 a0_2, .int .i64 a0_3, .int .i64 a0_4, .int .i64 a0_5, .string a0_6, .string a0_7, .int .i64 a0_8, .int .i64 a0_9, .string a0_10]) (t := 40) ?hr ?_; (case hd => rfl); (case hg => rfl); (case hr => first | (go_simp; done) | (go_simp; rfl)); intro gb295 hg w11 hbox hb; have n0_ := Aside0.mk (below_step (by repeat (first | (with_reducible first | exact HB.out | apply below_alloc | apply pw_below_drewN | apply below_drew1) | exact HB.out)) hb); have n1_ := Aside0.mk (hbox); have n2_ := Aside0.mk ((by rw [hg]; exact (below_size (by repeat (first | (with_reducible first | exact HB.out | apply below_alloc | apply pw_below_drewN | apply below_drew1) | exact HB.out))) : w.heap.size ≤ gb295)); have n3_ := Aside0.mk ((by rw [hg]; exact (below_size (by repeat (first | (with_reducible first | exact HB.out | apply below_alloc | apply pw_below_drewN | apply below_drew1) | exact HB.out))) : w.heap.size ≤ gb295)); clear HB; have HB := n0_; have BK295 := n1_; have GW295 := n2_; have GE295 := n3_; clear n0_ n1_ n2_ n3_; clear hb hbox hg; have hcz12_0 : w11.cell? ⟨gb295, 0, none⟩ = some (.string a0_0) := (blk_cell BK295.out 0).trans rfl; have hcz12_1 : w11.cell? ⟨gb295, 1, none⟩ = some (.int .i64 a0_1) := (blk_cell BK295.out 1).trans rfl; have hcz12_2 : w11.cell? ⟨gb295, 2, none⟩ = some (.int .i64 a0_2) := (blk_cell BK295.out 2).trans rfl; have hcz12_3 : w11.cell? ⟨gb295, 3, none⟩ = some (.int .i64 a0_3) := (blk_cell BK295.out 3).trans rfl; have hcz12_4 : w11.cell? ⟨gb295, 4, none⟩ = some (.int .i64 a0_4) := (blk_cell BK295.out 4).trans rfl; have hcz12_5 : w11.cell? ⟨gb295, 5, none⟩ = some (.int .i64 a0_5) := (blk_cell BK295.out 5).trans rfl; have hcz12_6 : w11.cell? ⟨gb295, 6, none⟩ = some (.string a0_6) := (blk_cell BK295.out 6).trans rfl; have hcz12_7 : w11.cell? ⟨gb295, 7, none⟩ = some (.string a0_7) := (blk_cell BK295.out 7).trans rfl; have hcz12_8 : w11.cell? ⟨gb295, 8, none⟩ = some (.int .i64 a0_8) := (blk_cell BK295.out 8).trans rfl; have hcz12_9 : w11.cell? ⟨gb295, 9, none⟩ = some (.int .i64 a0_9) := (blk_cell BK295.out 9).trans rfl; have hcz12_10 : w11.cell? ⟨gb295, 10, none⟩ = some (.string a0_10) := (blk_cell BK295.out 10).trans rfl; have hfz12_0 := blk_frozen BK295.out 0; have hfz12_1 := blk_frozen BK295.out 1; have hfz12_2 := blk_frozen BK295.out 2; have hfz12_3 := blk_frozen BK295.out 3; have hfz12_4 := blk_frozen BK295.out 4; have hfz12_5 := blk_frozen BK295.out 5; have hfz12_6 := blk_frozen BK295.out 6; have hfz12_7 := blk_frozen BK295.out 7; have hfz12_8 := blk_frozen BK295.out 8; have hfz12_9 := blk_frozen BK295.out 9; have hfz12_10 := blk_frozen BK295.out 10) | ((with_reducible refine gate_callee (f := 58) rfl ?_); refine goesL_ (some 9) rfl rfl Tryz.func58 (by kernel_rfl) rfl #[.string a0_0] rfl (by (try simp only [List.map_toArray, List.map_cons, List.map_nil]); first | done | rfl | (simp only [List.length_drop, List.length_take]; rfl)) ?_; (with_reducible refine (paths_Mark.calls k a0_0 t296 t297 true _ (hG.ext (by repeat (first | (with_reducible first | exact HB.out | apply below_alloc | apply pw_below_drewN | apply below_drew1 | refine below_set ?_ GE295.out) | exact HB.out))) A2.out).mono ?_); rintro e w13 ⟨rfl, hb⟩; refine ⟨_, rfl, ?_⟩; have n0_ := Aside0.mk (blk_below (g := gb295) (o := .cells #[.string a0_0, .int .i64 a0_1, .int .i64 a0_2, .int .i64 a0_3, .int .i64 a0_4, .int .i64 a0_5, .string a0_6, .string a0_7, .int .i64 a0_8, .int .i64 a0_9, .string a0_10] 40 (0, 0)) (by (with_reducible repeat (first | refine blk_drewN ?_ _ | refine blk_drew ?_ | refine blk_alloc ?_ _)); exact BK295.out) hb); have n1_ := Aside0.mk (below_step (by repeat (first | (with_reducible first | exact HB.out | apply below_alloc | apply pw_below_drewN | apply below_drew1 | refine below_set ?_ GE295.out) | exact HB.out)) hb); clear BK295; clear HB; have BK295 := n0_; have HB := n1_; clear n0_ n1_; (try clear hb); (try clear hb2); (try clear hk); (try clear hi)))
   go_ret
   exact ⟨by first | rfl | (simp [errW_none, errW_some] <;> rfl) | (simp [*, errW_none, errW_some] <;> rfl), by repeat (first | (with_reducible first | exact HB.out | apply below_alloc | apply pw_below_drewN | apply below_drew1 | refine below_set ?_ GE295.out) | exact HB.out)⟩
 ·replace c3 := Bool.eq_false_iff.mpr c3
  subst c3
  have H1 : (some false) = some r := by rw [if_neg (show ¬ (false = true) by decide)] at H; exact H
  clear H
  have H := H1
  clear H1
  obtain rfl := Option.some.inj H
  go_enter Tryz.func37, Tryz.ntmps37
  go_wp2_with (first | ((with_reducible refine gate_dst (N := 1) rfl ?_); refine box_event ?hg (N := 1) ?hd (cs := #[.string a0_0, .int .i64 a0_1, .int .i64 a0_2, .int .i64 a0_3, .int .i64 a0_4, .int .i64 a0_5, .string a0_6, .string a0_7, .int .i64 a0_8, .int .i64 a0_9, .string a0_10]) (t := 40) ?hr ?_; (case hd => rfl); (case hg => rfl); (case hr => first | (go_simp; done) | (go_simp; rfl)); intro gb295 hg w14 hbox hb; have n0_ := Aside0.mk (below_step (by repeat (first | (with_reducible first | exact HB.out | apply below_alloc | apply pw_below_drewN | apply below_drew1) | exact HB.out)) hb); have n1_ := Aside0.mk (hbox); have n2_ := Aside0.mk ((by rw [hg]; exact (below_size (by repeat (first | (with_reducible first | exact HB.out | apply below_alloc | apply pw_below_drewN | apply below_drew1) | exact HB.out))) : w.heap.size ≤ gb295)); have n3_ := Aside0.mk ((by rw [hg]; exact (below_size (by repeat (first | (with_reducible first | exact HB.out | apply below_alloc | apply pw_below_drewN | apply below_drew1) | exact HB.out))) : w.heap.size ≤ gb295)); clear HB; have HB := n0_; have BK295 := n1_; have GW295 := n2_; have GE295 := n3_; clear n0_ n1_ n2_ n3_; clear hb hbox hg; have hcz15_0 : w14.cell? ⟨gb295, 0, none⟩ = some (.string a0_0) := (blk_cell BK295.out 0).trans rfl; have hcz15_1 : w14.cell? ⟨gb295, 1, none⟩ = some (.int .i64 a0_1) := (blk_cell BK295.out 1).trans rfl; have hcz15_2 : w14.cell? ⟨gb295, 2, none⟩ = some (.int .i64 a0_2) := (blk_cell BK295.out 2).trans rfl; have hcz15_3 : w14.cell? ⟨gb295, 3, none⟩ = some (.int .i64 a0_3) := (blk_cell BK295.out 3).trans rfl; have hcz15_4 : w14.cell? ⟨gb295, 4, none⟩ = some (.int .i64 a0_4) := (blk_cell BK295.out 4).trans rfl; have hcz15_5 : w14.cell? ⟨gb295, 5, none⟩ = some (.int .i64 a0_5) := (blk_cell BK295.out 5).trans rfl; have hcz15_6 : w14.cell? ⟨gb295, 6, none⟩ = some (.string a0_6) := (blk_cell BK295.out 6).trans rfl; have hcz15_7 : w14.cell? ⟨gb295, 7, none⟩ = some (.string a0_7) := (blk_cell BK295.out 7).trans rfl; have hcz15_8 : w14.cell? ⟨gb295, 8, none⟩ = some (.int .i64 a0_8) := (blk_cell BK295.out 8).trans rfl; have hcz15_9 : w14.cell? ⟨gb295, 9, none⟩ = some (.int .i64 a0_9) := (blk_cell BK295.out 9).trans rfl; have hcz15_10 : w14.cell? ⟨gb295, 10, none⟩ = some (.string a0_10) := (blk_cell BK295.out 10).trans rfl; have hfz15_0 := blk_frozen BK295.out 0; have hfz15_1 := blk_frozen BK295.out 1; have hfz15_2 := blk_frozen BK295.out 2; have hfz15_3 := blk_frozen BK295.out 3; have hfz15_4 := blk_frozen BK295.out 4; have hfz15_5 := blk_frozen BK295.out 5; have hfz15_6 := blk_frozen BK295.out 6; have hfz15_7 := blk_frozen BK295.out 7; have hfz15_8 := blk_frozen BK295.out 8; have hfz15_9 := blk_frozen BK295.out 9; have hfz15_10 := blk_frozen BK295.out 10) | ((with_reducible refine gate_callee (f := 58) rfl ?_); refine goesL_ (some 9) rfl rfl Tryz.func58 (by kernel_rfl) rfl #[.string a0_0] rfl (by (try simp only [List.map_toArray, List.map_cons, List.map_nil]); first | done | rfl | (simp only [List.length_drop, List.length_take]; rfl)) ?_; (with_reducible refine (paths_Mark.calls k a0_0 t296 t297 false _ (hG.ext (by repeat (first | (with_reducible first | exact HB.out | apply below_alloc | apply pw_below_drewN | apply below_drew1 | refine below_set ?_ GE295.out) | exact HB.out))) A2.out).mono ?_); rintro e w16 ⟨rfl, hb⟩; refine ⟨_, rfl, ?_⟩; have n0_ := Aside0.mk (blk_below (g := gb295) (o := .cells #[.string a0_0, .int .i64 a0_1, .int .i64 a0_2, .int .i64 a0_3, .int .i64 a0_4, .int .i64 a0_5, .string a0_6, .string a0_7, .int .i64 a0_8, .int .i64 a0_9, .string a0_10] 40 (0, 0)) (by (with_reducible repeat (first | refine blk_drewN ?_ _ | refine blk_drew ?_ | refine blk_alloc ?_ _)); exact BK295.out) hb); have n1_ := Aside0.mk (below_step (by repeat (first | (with_reducible first | exact HB.out | apply below_alloc | apply pw_below_drewN | apply below_drew1 | refine below_set ?_ GE295.out) | exact HB.out)) hb); clear BK295; clear HB; have BK295 := n0_; have HB := n1_; clear n0_ n1_; (try clear hb); (try clear hb2); (try clear hk); (try clear hi)))
  go_ret
  exact ⟨by first | rfl | (simp [errW_none, errW_some] <;> rfl) | (simp [*, errW_none, errW_some] <;> rfl), by repeat (first | (with_reducible first | exact HB.out | apply below_alloc | apply pw_below_drewN | apply below_drew1 | refine below_set ?_ GE295.out) | exact HB.out)⟩
end Go.Proofs.YtdkjinmkallhnaaGreatDoorQ
end
section
namespace Go.Proofs.YtdkjinmkallhnaaGreatDoorQ
open Go.RowKit Go.Proofs.YtdkjinmkallhnaaGreatDoorW.PrintWords Go.Proofs.YtdkjinmkallhnaaGreatDoorW.PrintLast Go.Proofs.YtdkjinmkallhnaaGreatDoorW.PrintMore
open Go.Proofs.YtdkjinmkallhnaaGreatDoor (GL)
attribute [local go_sem] max2_int min2_int max_two min_two max_three min_three max_four min_four
theorem eqA26 (d : Nat) (w : World) (x0 y0 : Int) (x1 y1 : Int) (x2 y2 : Int) (x3 y3 : Int) (x4 y4 : Int) (x5 y5 : ByteArray) (x6 y6 : ByteArray) (x7 y7 : Int) (x8 y8 : Int) (x9 y9 : ByteArray) :
  (Op.equalIn (d + 2) 26 (.agg #[.int .i64 x0, .int .i64 x1, .int .i64 x2, .int .i64 x3, .int .i64 x4, .string x5, .string x6, .int .i64 x7, .int .i64 x8, .string x9]) (.agg #[.int .i64 y0, .int .i64 y1, .int .i64 y2, .int .i64 y3, .int .i64 y4, .string y5, .string y6, .int .i64 y7, .int .i64 y8, .string y9])).run Tryz.prog w = .ok (x0 == y0 && (x1 == y1 && (x2 == y2 && (x3 == y3 && (x4 == y4 && (x5.toList == y5.toList && (x6.toList == y6.toList && (x7 == y7 && (x8 == y8 && (x9.toList == y9.toList)))))))))) w := by
 refine eqA_of Tryz.underlying26 (by kernel_rfl) ?_
 refine eqf_cons (by rfl) (by go_simp; rfl) (by go_simp; rfl) (by go_simp) ?_
 refine eqf_cons (by rfl) (by go_simp; rfl) (by go_simp; rfl) (by go_simp) ?_
 refine eqf_cons (by rfl) (by go_simp; rfl) (by go_simp; rfl) (by go_simp) ?_
 refine eqf_cons (by rfl) (by go_simp; rfl) (by go_simp; rfl) (by go_simp) ?_
 refine eqf_cons (by rfl) (by go_simp; rfl) (by go_simp; rfl) (by go_simp) ?_
 refine eqf_cons (by rfl) (by go_simp; rfl) (by go_simp; rfl) (by go_simp) ?_
 refine eqf_cons (by rfl) (by go_simp; rfl) (by go_simp; rfl) (by go_simp) ?_
 refine eqf_cons (by rfl) (by go_simp; rfl) (by go_simp; rfl) (by go_simp) ?_
 refine eqf_cons (by rfl) (by go_simp; rfl) (by go_simp; rfl) (by go_simp) ?_
 exact eqf_last (by rfl) (by go_simp; rfl) (by go_simp; rfl) (by go_simp)
end Go.Proofs.YtdkjinmkallhnaaGreatDoorQ
end
section
namespace Go.Proofs.YtdkjinmkallhnaaGreatDoorQ
open Go.RowKit Go.Proofs.YtdkjinmkallhnaaGreatDoorW.PrintWords Go.Proofs.YtdkjinmkallhnaaGreatDoorW.PrintLast Go.Proofs.YtdkjinmkallhnaaGreatDoorW.PrintMore
open Go.Proofs.YtdkjinmkallhnaaGreatDoor (GL)
attribute [local go_sem] max2_int min2_int max_two min_two max_three min_three max_four min_four
attribute [local go_sem high] eqA26
mutual
def pq15.l0 : Nat → List (S38) → List (S38) → Int → Int → Option (Bool)
 | 0, _, _, _, _ => none
 | k + 1, x0, x7, x8, x9 => if x9 < x8 then (if 0 ≤ x9 then (if x9 < (x7.length : Int) then ((paths_Unmark.f k ((rd_T38 x7 x9).f1) ((rd_T38 x7 x9).f0)).bind fun bt327 => (if bt327.2 = true then ((pq16.f k bt327.1 ((rd_T38 x7 x9).f2.f0) ((rd_T38 x7 x9).f2.f1) ((rd_T38 x7 x9).f2.f2) ((rd_T38 x7 x9).f2.f3) ((rd_T38 x7 x9).f2.f4) ((rd_T38 x7 x9).f2.f5) ((rd_T38 x7 x9).f2.f6) ((rd_T38 x7 x9).f2.f7) ((rd_T38 x7 x9).f2.f8) ((rd_T38 x7 x9).f2.f9)).bind fun t329 => (pq15.j1 k x0 x9 x7 x8 x9 (t329 != 0) ((rd_T38 x7 x9).f0) ((rd_T38 x7 x9).f1) ((rd_T38 x7 x9).f2.f0) ((rd_T38 x7 x9).f2.f1) ((rd_T38 x7 x9).f2.f2) ((rd_T38 x7 x9).f2.f3) ((rd_T38 x7 x9).f2.f4) ((rd_T38 x7 x9).f2.f5) ((rd_T38 x7 x9).f2.f6) ((rd_T38 x7 x9).f2.f7) ((rd_T38 x7 x9).f2.f8) ((rd_T38 x7 x9).f2.f9))) else (pq15.j1 k x0 x9 x7 x8 x9 true ((rd_T38 x7 x9).f0) ((rd_T38 x7 x9).f1) ((rd_T38 x7 x9).f2.f0) ((rd_T38 x7 x9).f2.f1) ((rd_T38 x7 x9).f2.f2) ((rd_T38 x7 x9).f2.f3) ((rd_T38 x7 x9).f2.f4) ((rd_T38 x7 x9).f2.f5) ((rd_T38 x7 x9).f2.f6) ((rd_T38 x7 x9).f2.f7) ((rd_T38 x7 x9).f2.f8) ((rd_T38 x7 x9).f2.f9)))) else (none)) else (none)) else (some true)
def pq15.j1 : Nat → List (S38) → Int → List (S38) → Int → Int → Bool → ByteArray → Int → Int → Int → Int → Int → Int → ByteArray → ByteArray → Int → Int → ByteArray → Option (Bool)
 | 0, _, _, _, _, _, _, _, _, _, _, _, _, _, _, _, _, _, _ => none
 | k + 1, x0, x3, x7, x8, x9, x22, x327000, x327001, x327002, x327003, x327004, x327005, x327006, x327007, x327008, x327009, x327010, x327011 => if x22 = true then (some false) else (if x327001 = 0 then (pq15.j2 k x0 x3 x7 x8 x9 false x327000 x327001 x327002 x327003 x327004 x327005 x327006 x327007 x327008 x327009 x327010 x327011) else (pq15.j2 k x0 x3 x7 x8 x9 (!(x327002 == 0) || (!(x327003 == 0) || (!(x327004 == 0) || (!(x327005 == 0) || (!(x327006 == 0) || (!(x327007.toList == ([] : List UInt8)) || (!(x327008.toList == ([] : List UInt8)) || (!(x327009 == 0) || (!(x327010 == 0) || (!(x327011.toList == ([] : List UInt8)))))))))))) x327000 x327001 x327002 x327003 x327004 x327005 x327006 x327007 x327008 x327009 x327010 x327011))
def pq15.j2 : Nat → List (S38) → Int → List (S38) → Int → Int → Bool → ByteArray → Int → Int → Int → Int → Int → Int → ByteArray → ByteArray → Int → Int → ByteArray → Option (Bool)
 | 0, _, _, _, _, _, _, _, _, _, _, _, _, _, _, _, _, _, _ => none
 | k + 1, x0, x3, x7, x8, x9, x33, x327000, x327001, x327002, x327003, x327004, x327005, x327006, x327007, x327008, x327009, x327010, x327011 => if x33 = true then (some false) else (if x3 > 0 then (if 0 ≤ (wrap64 (x3 - 1)) then (if (wrap64 (x3 - 1)) < (x0.length : Int) then ((change_Less.f k ((rd_T38 x0 (wrap64 (x3 - 1))).f0) ((rd_T38 x0 (wrap64 (x3 - 1))).f1) ((rd_T38 x0 (wrap64 (x3 - 1))).f2.f0) ((rd_T38 x0 (wrap64 (x3 - 1))).f2.f1) ((rd_T38 x0 (wrap64 (x3 - 1))).f2.f2) ((rd_T38 x0 (wrap64 (x3 - 1))).f2.f3) ((rd_T38 x0 (wrap64 (x3 - 1))).f2.f4) ((rd_T38 x0 (wrap64 (x3 - 1))).f2.f5) ((rd_T38 x0 (wrap64 (x3 - 1))).f2.f6) ((rd_T38 x0 (wrap64 (x3 - 1))).f2.f7) ((rd_T38 x0 (wrap64 (x3 - 1))).f2.f8) ((rd_T38 x0 (wrap64 (x3 - 1))).f2.f9) x327000 x327001 x327002 x327003 x327004 x327005 x327006 x327007 x327008 x327009 x327010 x327011).bind fun t331 => (if t331 = true then (pq15.l0 k x0 x7 x8 (wrap64 (x9 + 1))) else (some false))) else (none)) else (none)) else (pq15.l0 k x0 x7 x8 (wrap64 (x9 + 1))))
end
def pq15.f (k : Nat) (l0 : List (S38)) : Option (Bool) := pq15.l0 k l0 l0 (l0.length : Int) 0
def pq15.T9 : Bool × List (List Nat × List Nat) := (true, [([], []), ([0], [0]), ([1], [1]), ([2], [2]), ([2], [2]), ([4, 2], [2, 4]), ([3, 5, 2], [2, 3, 5]), ([6, 2], [2, 6]), ([2], [2]), ([7, 8, 2, 2], [2, 7, 8]), ([9, 2], [2, 9]), ([2, 10], [2, 10]), ([11, 9], [11])])
def pq15.B9 : List Nat := [0, 1, 3, 7, 7, 23, 63, 127, 7, 511, 1023, 2047, 4095]
theorem pq15.tab9 : rtab .any (opsOf Tryz.f26 9) = pq15.T9 := by kernel_rfl
theorem pq15.bits9 : waitsOk pq15.T9.2 pq15.B9 = true := by kernel_rfl
set_option maxHeartbeats 8000000 in
set_option maxRecDepth 100000 in
theorem pq15.calls (k : Nat) (A0 : Option Addr) (c0 : Nat) (l0 : List (S38)) (r : Bool) (w : World) (hG : GL w) (hr0 : Kd.C k38 w A0 l0.length l0) (hc0 : l0.length ≤ c0) (h : pq15.f k l0 = some r) :
  Calls Tryz.prog 26 #[.slice A0 l0.length c0] w fun e w' => e = .returned (.bool r) ∧ Below w.heap.size w w' := by
 have hu38 := Tryz.underlying38
 have hu26 := Tryz.underlying26
 have hu40 := Tryz.underlying40
 have HR0 := Aside0.mk hr0
 have HC0 := Aside0.mk hc0
 clear hr0 hc0
 have HB := Aside0.mk (Below.refl w.heap.size w)
 have H : (pq15.l0 k l0 l0 (l0.length : Int) 0) = some r := h
 clear h
 have H' := Aside0.mk H
 clear H
 go_enter Tryz.func26, Tryz.ntmps26
 go_wp2
 go_loopg [9] k (fun kq v9 w' => ∃ (x9_1 : Int), v9 = .int .i64 x9_1 ∧ Aside0 (pq15.l0 kq l0 l0 (l0.length : Int) x9_1 = some r) ∧ Aside0 (kq ≤ k) ∧ Aside0 (Below w.heap.size w w'))
 case atStart => exact ⟨(0), (by first | rfl | (simp; done) | (simp [*]; done)), H', ⟨Nat.le_refl _⟩, ⟨by repeat (first | (with_reducible first | exact HB.out | apply below_alloc | apply pw_below_drewN | apply below_drew1) | exact HB.out)⟩⟩
 case round =>
  clear H'
  obtain ⟨x9_1, rfl, HA, HK1, HB⟩ := hrel
  cases gk with
  | zero => exact absurd HA.out (by simp [pq15.l0])
  | succ k1 =>
   have H := HA.out
   clear HA
   simp only [pq15.l0] at H
   by_cases c2 : x9_1 < (l0.length : Int)
   ·rw [if_pos c2] at H
    have c2b0 : decide (x9_1 < (l0.length : Int)) = true := decide_eq_true c2
    clear c2
    by_cases c3 : 0 ≤ x9_1
    ·rw [if_pos c3] at H
     have c3b0 : decide (0 ≤ x9_1) = true := decide_eq_true c3
     clear c3
     by_cases c4 : x9_1 < (l0.length : Int)
     ·rw [if_pos c4] at H
      have c4b0 : decide (x9_1 < (l0.length : Int)) = true := decide_eq_true c4
      clear c4
      replace H := Option.bind_eq_some_iff.mp H
      obtain ⟨⟨t327, t328⟩, A50, H⟩ := H
      replace H : (if t328 = true then ((pq16.f k1 t327 ((rd_T38 l0 x9_1).f2.f0) ((rd_T38 l0 x9_1).f2.f1) ((rd_T38 l0 x9_1).f2.f2) ((rd_T38 l0 x9_1).f2.f3) ((rd_T38 l0 x9_1).f2.f4) ((rd_T38 l0 x9_1).f2.f5) ((rd_T38 l0 x9_1).f2.f6) ((rd_T38 l0 x9_1).f2.f7) ((rd_T38 l0 x9_1).f2.f8) ((rd_T38 l0 x9_1).f2.f9)).bind fun t329 => (pq15.j1 k1 l0 x9_1 l0 (l0.length : Int) x9_1 (t329 != 0) ((rd_T38 l0 x9_1).f0) ((rd_T38 l0 x9_1).f1) ((rd_T38 l0 x9_1).f2.f0) ((rd_T38 l0 x9_1).f2.f1) ((rd_T38 l0 x9_1).f2.f2) ((rd_T38 l0 x9_1).f2.f3) ((rd_T38 l0 x9_1).f2.f4) ((rd_T38 l0 x9_1).f2.f5) ((rd_T38 l0 x9_1).f2.f6) ((rd_T38 l0 x9_1).f2.f7) ((rd_T38 l0 x9_1).f2.f8) ((rd_T38 l0 x9_1).f2.f9))) else (pq15.j1 k1 l0 x9_1 l0 (l0.length : Int) x9_1 true ((rd_T38 l0 x9_1).f0) ((rd_T38 l0 x9_1).f1) ((rd_T38 l0 x9_1).f2.f0) ((rd_T38 l0 x9_1).f2.f1) ((rd_T38 l0 x9_1).f2.f2) ((rd_T38 l0 x9_1).f2.f3) ((rd_T38 l0 x9_1).f2.f4) ((rd_T38 l0 x9_1).f2.f5) ((rd_T38 l0 x9_1).f2.f6) ((rd_T38 l0 x9_1).f2.f7) ((rd_T38 l0 x9_1).f2.f8) ((rd_T38 l0 x9_1).f2.f9))) = some r := H
      have A5 := Aside0.mk A50
      clear A50
      have HC6 := Aside0.mk H
      clear H
      have p325 : 0 ≤ (x9_1 : Int) := of_decide_eq_true (by first | (with_reducible assumption) | assumption)
      have q325 : x9_1 < (l0.length : Int) := of_decide_eq_true (by first | (with_reducible assumption) | assumption)
      obtain ⟨ad325, e325, hx325_0, hx325_1, hx325_2, hx325_3, hx325_4, hx325_5, hx325_6, hx325_7, hx325_8, hx325_9, hx325_10, hx325_11⟩ := at_T38 HR0.out x9_1 p325 q325
      cases e325
      replace hx325_0 := (HB.out.cell (World.block_lt_of_cell? w _ hx325_0)).trans hx325_0
      replace hx325_1 := (HB.out.cell (World.block_lt_of_cell? w _ hx325_1)).trans hx325_1
      replace hx325_2 := (HB.out.cell (World.block_lt_of_cell? w _ hx325_2)).trans hx325_2
      replace hx325_3 := (HB.out.cell (World.block_lt_of_cell? w _ hx325_3)).trans hx325_3
      replace hx325_4 := (HB.out.cell (World.block_lt_of_cell? w _ hx325_4)).trans hx325_4
      replace hx325_5 := (HB.out.cell (World.block_lt_of_cell? w _ hx325_5)).trans hx325_5
      replace hx325_6 := (HB.out.cell (World.block_lt_of_cell? w _ hx325_6)).trans hx325_6
      replace hx325_7 := (HB.out.cell (World.block_lt_of_cell? w _ hx325_7)).trans hx325_7
      replace hx325_8 := (HB.out.cell (World.block_lt_of_cell? w _ hx325_8)).trans hx325_8
      replace hx325_9 := (HB.out.cell (World.block_lt_of_cell? w _ hx325_9)).trans hx325_9
      replace hx325_10 := (HB.out.cell (World.block_lt_of_cell? w _ hx325_10)).trans hx325_10
      replace hx325_11 := (HB.out.cell (World.block_lt_of_cell? w _ hx325_11)).trans hx325_11
      replace p325 := eq_true p325
      replace q325 := eq_true q325
      go_upto_region 5 with (first | ((with_reducible refine gate_dst (N := 4) rfl ?_); refine box_event ?hg (N := 4) ?hd (cs := #[.string (⟨#[]⟩ : ByteArray), .int .i64 0, .int .i64 0, .int .i64 0, .int .i64 0, .int .i64 0, .int .i64 0, .string (⟨#[]⟩ : ByteArray), .string (⟨#[]⟩ : ByteArray), .int .i64 0, .int .i64 0, .string (⟨#[]⟩ : ByteArray)]) (t := 38) ?hr ?_; (case hd => rfl); (case hg => rfl); (case hr => first | (go_simp; done) | (go_simp; rfl)); intro gb326 hg w7 hbox hb; have n0_ := Aside0.mk (below_step (by repeat (first | (with_reducible first | exact HB.out | apply below_alloc | apply pw_below_drewN | apply below_drew1) | exact HB.out)) hb); have n1_ := Aside0.mk (hbox); have n2_ := Aside0.mk ((by rw [hg]; exact (below_size (by repeat (first | (with_reducible first | exact HB.out | apply below_alloc | apply pw_below_drewN | apply below_drew1) | exact HB.out))) : w.heap.size ≤ gb326)); have n3_ := Aside0.mk ((by rw [hg]; exact (below_size (by repeat (first | (with_reducible first | exact HB.out | apply below_alloc | apply pw_below_drewN | apply below_drew1) | exact HB.out))) : w.heap.size ≤ gb326)); clear HB; have HB := n0_; have BK326 := n1_; have GW326 := n2_; have GE326 := n3_; clear n0_ n1_ n2_ n3_; clear hb hbox hg; have hcz8_0 : w7.cell? ⟨gb326, 0, none⟩ = some (.string (⟨#[]⟩ : ByteArray)) := (blk_cell BK326.out 0).trans rfl; have hcz8_1 : w7.cell? ⟨gb326, 1, none⟩ = some (.int .i64 0) := (blk_cell BK326.out 1).trans rfl; have hcz8_2 : w7.cell? ⟨gb326, 2, none⟩ = some (.int .i64 0) := (blk_cell BK326.out 2).trans rfl; have hcz8_3 : w7.cell? ⟨gb326, 3, none⟩ = some (.int .i64 0) := (blk_cell BK326.out 3).trans rfl; have hcz8_4 : w7.cell? ⟨gb326, 4, none⟩ = some (.int .i64 0) := (blk_cell BK326.out 4).trans rfl; have hcz8_5 : w7.cell? ⟨gb326, 5, none⟩ = some (.int .i64 0) := (blk_cell BK326.out 5).trans rfl; have hcz8_6 : w7.cell? ⟨gb326, 6, none⟩ = some (.int .i64 0) := (blk_cell BK326.out 6).trans rfl; have hcz8_7 : w7.cell? ⟨gb326, 7, none⟩ = some (.string (⟨#[]⟩ : ByteArray)) := (blk_cell BK326.out 7).trans rfl; have hcz8_8 : w7.cell? ⟨gb326, 8, none⟩ = some (.string (⟨#[]⟩ : ByteArray)) := (blk_cell BK326.out 8).trans rfl; have hcz8_9 : w7.cell? ⟨gb326, 9, none⟩ = some (.int .i64 0) := (blk_cell BK326.out 9).trans rfl; have hcz8_10 : w7.cell? ⟨gb326, 10, none⟩ = some (.int .i64 0) := (blk_cell BK326.out 10).trans rfl; have hcz8_11 : w7.cell? ⟨gb326, 11, none⟩ = some (.string (⟨#[]⟩ : ByteArray)) := (blk_cell BK326.out 11).trans rfl; have hfz8_0 := blk_frozen BK326.out 0; have hfz8_1 := blk_frozen BK326.out 1; have hfz8_2 := blk_frozen BK326.out 2; have hfz8_3 := blk_frozen BK326.out 3; have hfz8_4 := blk_frozen BK326.out 4; have hfz8_5 := blk_frozen BK326.out 5; have hfz8_6 := blk_frozen BK326.out 6; have hfz8_7 := blk_frozen BK326.out 7; have hfz8_8 := blk_frozen BK326.out 8; have hfz8_9 := blk_frozen BK326.out 9; have hfz8_10 := blk_frozen BK326.out 10; have hfz8_11 := blk_frozen BK326.out 11) | ((with_reducible refine gate_callee (f := 52) rfl ?_); refine goesL_ (some 19) rfl rfl Tryz.func52 (by kernel_rfl) rfl #[.int .i64 ((rd_T38 l0 x9_1).f1), .string ((rd_T38 l0 x9_1).f0)] rfl (by (try simp only [List.map_toArray, List.map_cons, List.map_nil]); first | done | rfl | (simp only [List.length_drop, List.length_take]; rfl)) ?_; (with_reducible refine (paths_Unmark.calls k1 ((rd_T38 l0 x9_1).f1) ((rd_T38 l0 x9_1).f0) t327 t328 _ (hG.ext (by repeat (first | (with_reducible first | exact HB.out | apply below_alloc | apply pw_below_drewN | apply below_drew1 | refine below_set ?_ GE326.out) | exact HB.out))) A5.out).mono ?_); rintro e w9 ⟨rfl, hb⟩; refine ⟨_, rfl, ?_⟩; have n0_ := Aside0.mk (blk_below (g := gb326) (o := .cells #[.string ((rd_T38 l0 x9_1).f0), .int .i64 ((rd_T38 l0 x9_1).f1), .int .i64 ((rd_T38 l0 x9_1).f2.f0), .int .i64 ((rd_T38 l0 x9_1).f2.f1), .int .i64 ((rd_T38 l0 x9_1).f2.f2), .int .i64 ((rd_T38 l0 x9_1).f2.f3), .int .i64 ((rd_T38 l0 x9_1).f2.f4), .string ((rd_T38 l0 x9_1).f2.f5), .string ((rd_T38 l0 x9_1).f2.f6), .int .i64 ((rd_T38 l0 x9_1).f2.f7), .int .i64 ((rd_T38 l0 x9_1).f2.f8), .string ((rd_T38 l0 x9_1).f2.f9)] 38 (0, 0)) (by (with_reducible repeat (first | refine blk_drewN ?_ _ | refine blk_drew ?_ | refine blk_alloc ?_ _)); refine blk_put (cs := #[.string ((rd_T38 l0 x9_1).f0), .int .i64 ((rd_T38 l0 x9_1).f1), .int .i64 ((rd_T38 l0 x9_1).f2.f0), .int .i64 ((rd_T38 l0 x9_1).f2.f1), .int .i64 ((rd_T38 l0 x9_1).f2.f2), .int .i64 ((rd_T38 l0 x9_1).f2.f3), .int .i64 ((rd_T38 l0 x9_1).f2.f4), .string ((rd_T38 l0 x9_1).f2.f5), .string ((rd_T38 l0 x9_1).f2.f6), .int .i64 ((rd_T38 l0 x9_1).f2.f7), .int .i64 ((rd_T38 l0 x9_1).f2.f8), .string (⟨#[]⟩ : ByteArray)]) ?_ 11 _ rfl; (with_reducible repeat (first | refine blk_drewN ?_ _ | refine blk_drew ?_ | refine blk_alloc ?_ _)); refine blk_put (cs := #[.string ((rd_T38 l0 x9_1).f0), .int .i64 ((rd_T38 l0 x9_1).f1), .int .i64 ((rd_T38 l0 x9_1).f2.f0), .int .i64 ((rd_T38 l0 x9_1).f2.f1), .int .i64 ((rd_T38 l0 x9_1).f2.f2), .int .i64 ((rd_T38 l0 x9_1).f2.f3), .int .i64 ((rd_T38 l0 x9_1).f2.f4), .string ((rd_T38 l0 x9_1).f2.f5), .string ((rd_T38 l0 x9_1).f2.f6), .int .i64 ((rd_T38 l0 x9_1).f2.f7), .int .i64 0, .string (⟨#[]⟩ : ByteArray)]) ?_ 10 _ rfl; (with_reducible repeat (first | refine blk_drewN ?_ _ | refine blk_drew ?_ | refine blk_alloc ?_ _)); refine blk_put (cs := #[.string ((rd_T38 l0 x9_1).f0), .int .i64 ((rd_T38 l0 x9_1).f1), .int .i64 ((rd_T38 l0 x9_1).f2.f0), .int .i64 ((rd_T38 l0 x9_1).f2.f1), .int .i64 ((rd_T38 l0 x9_1).f2.f2), .int .i64 ((rd_T38 l0 x9_1).f2.f3), .int .i64 ((rd_T38 l0 x9_1).f2.f4), .string ((rd_T38 l0 x9_1).f2.f5), .string ((rd_T38 l0 x9_1).f2.f6), .int .i64 0, .int .i64 0, .string (⟨#[]⟩ : ByteArray)]) ?_ 9 _ rfl; (with_reducible repeat (first | refine blk_drewN ?_ _ | refine blk_drew ?_ | refine blk_alloc ?_ _)); refine blk_put (cs := #[.string ((rd_T38 l0 x9_1).f0), .int .i64 ((rd_T38 l0 x9_1).f1), .int .i64 ((rd_T38 l0 x9_1).f2.f0), .int .i64 ((rd_T38 l0 x9_1).f2.f1), .int .i64 ((rd_T38 l0 x9_1).f2.f2), .int .i64 ((rd_T38 l0 x9_1).f2.f3), .int .i64 ((rd_T38 l0 x9_1).f2.f4), .string ((rd_T38 l0 x9_1).f2.f5), .string (⟨#[]⟩ : ByteArray), .int .i64 0, .int .i64 0, .string (⟨#[]⟩ : ByteArray)]) ?_ 8 _ rfl; (with_reducible repeat (first | refine blk_drewN ?_ _ | refine blk_drew ?_ | refine blk_alloc ?_ _)); refine blk_put (cs := #[.string ((rd_T38 l0 x9_1).f0), .int .i64 ((rd_T38 l0 x9_1).f1), .int .i64 ((rd_T38 l0 x9_1).f2.f0), .int .i64 ((rd_T38 l0 x9_1).f2.f1), .int .i64 ((rd_T38 l0 x9_1).f2.f2), .int .i64 ((rd_T38 l0 x9_1).f2.f3), .int .i64 ((rd_T38 l0 x9_1).f2.f4), .string (⟨#[]⟩ : ByteArray), .string (⟨#[]⟩ : ByteArray), .int .i64 0, .int .i64 0, .string (⟨#[]⟩ : ByteArray)]) ?_ 7 _ rfl; (with_reducible repeat (first | refine blk_drewN ?_ _ | refine blk_drew ?_ | refine blk_alloc ?_ _)); refine blk_put (cs := #[.string ((rd_T38 l0 x9_1).f0), .int .i64 ((rd_T38 l0 x9_1).f1), .int .i64 ((rd_T38 l0 x9_1).f2.f0), .int .i64 ((rd_T38 l0 x9_1).f2.f1), .int .i64 ((rd_T38 l0 x9_1).f2.f2), .int .i64 ((rd_T38 l0 x9_1).f2.f3), .int .i64 0, .string (⟨#[]⟩ : ByteArray), .string (⟨#[]⟩ : ByteArray), .int .i64 0, .int .i64 0, .string (⟨#[]⟩ : ByteArray)]) ?_ 6 _ rfl; (with_reducible repeat (first | refine blk_drewN ?_ _ | refine blk_drew ?_ | refine blk_alloc ?_ _)); refine blk_put (cs := #[.string ((rd_T38 l0 x9_1).f0), .int .i64 ((rd_T38 l0 x9_1).f1), .int .i64 ((rd_T38 l0 x9_1).f2.f0), .int .i64 ((rd_T38 l0 x9_1).f2.f1), .int .i64 ((rd_T38 l0 x9_1).f2.f2), .int .i64 0, .int .i64 0, .string (⟨#[]⟩ : ByteArray), .string (⟨#[]⟩ : ByteArray), .int .i64 0, .int .i64 0, .string (⟨#[]⟩ : ByteArray)]) ?_ 5 _ rfl; (with_reducible repeat (first | refine blk_drewN ?_ _ | refine blk_drew ?_ | refine blk_alloc ?_ _)); refine blk_put (cs := #[.string ((rd_T38 l0 x9_1).f0), .int .i64 ((rd_T38 l0 x9_1).f1), .int .i64 ((rd_T38 l0 x9_1).f2.f0), .int .i64 ((rd_T38 l0 x9_1).f2.f1), .int .i64 0, .int .i64 0, .int .i64 0, .string (⟨#[]⟩ : ByteArray), .string (⟨#[]⟩ : ByteArray), .int .i64 0, .int .i64 0, .string (⟨#[]⟩ : ByteArray)]) ?_ 4 _ rfl; (with_reducible repeat (first | refine blk_drewN ?_ _ | refine blk_drew ?_ | refine blk_alloc ?_ _)); refine blk_put (cs := #[.string ((rd_T38 l0 x9_1).f0), .int .i64 ((rd_T38 l0 x9_1).f1), .int .i64 ((rd_T38 l0 x9_1).f2.f0), .int .i64 0, .int .i64 0, .int .i64 0, .int .i64 0, .string (⟨#[]⟩ : ByteArray), .string (⟨#[]⟩ : ByteArray), .int .i64 0, .int .i64 0, .string (⟨#[]⟩ : ByteArray)]) ?_ 3 _ rfl; (with_reducible repeat (first | refine blk_drewN ?_ _ | refine blk_drew ?_ | refine blk_alloc ?_ _)); refine blk_put (cs := #[.string ((rd_T38 l0 x9_1).f0), .int .i64 ((rd_T38 l0 x9_1).f1), .int .i64 0, .int .i64 0, .int .i64 0, .int .i64 0, .int .i64 0, .string (⟨#[]⟩ : ByteArray), .string (⟨#[]⟩ : ByteArray), .int .i64 0, .int .i64 0, .string (⟨#[]⟩ : ByteArray)]) ?_ 2 _ rfl; (with_reducible repeat (first | refine blk_drewN ?_ _ | refine blk_drew ?_ | refine blk_alloc ?_ _)); refine blk_put (cs := #[.string ((rd_T38 l0 x9_1).f0), .int .i64 0, .int .i64 0, .int .i64 0, .int .i64 0, .int .i64 0, .int .i64 0, .string (⟨#[]⟩ : ByteArray), .string (⟨#[]⟩ : ByteArray), .int .i64 0, .int .i64 0, .string (⟨#[]⟩ : ByteArray)]) ?_ 1 _ rfl; (with_reducible repeat (first | refine blk_drewN ?_ _ | refine blk_drew ?_ | refine blk_alloc ?_ _)); refine blk_put (cs := #[.string (⟨#[]⟩ : ByteArray), .int .i64 0, .int .i64 0, .int .i64 0, .int .i64 0, .int .i64 0, .int .i64 0, .string (⟨#[]⟩ : ByteArray), .string (⟨#[]⟩ : ByteArray), .int .i64 0, .int .i64 0, .string (⟨#[]⟩ : ByteArray)]) ?_ 0 _ rfl; (with_reducible repeat (first | refine blk_drewN ?_ _ | refine blk_drew ?_ | refine blk_alloc ?_ _)); exact BK326.out) hb); have n1_ := Aside0.mk (below_step (by repeat (first | (with_reducible first | exact HB.out | apply below_alloc | apply pw_below_drewN | apply below_drew1 | refine below_set ?_ GE326.out) | exact HB.out)) hb); clear BK326; clear HB; have BK326 := n0_; have HB := n1_; clear n0_ n1_; (try clear hb); (try clear hb2); (try clear hk); (try clear hi)))
      (try simp only [Act.put, List.setIfInBounds_toArray, List.set_cons_zero, List.set_cons_succ])
      go_cut [22] (fun v22 wc => ∃ (kq : Nat) (x22_5 : Bool), v22 = .bool x22_5 ∧ Aside0 (pq15.j1 kq l0 x9_1 l0 (l0.length : Int) x9_1 x22_5 ((rd_T38 l0 x9_1).f0) ((rd_T38 l0 x9_1).f1) ((rd_T38 l0 x9_1).f2.f0) ((rd_T38 l0 x9_1).f2.f1) ((rd_T38 l0 x9_1).f2.f2) ((rd_T38 l0 x9_1).f2.f3) ((rd_T38 l0 x9_1).f2.f4) ((rd_T38 l0 x9_1).f2.f5) ((rd_T38 l0 x9_1).f2.f6) ((rd_T38 l0 x9_1).f2.f7) ((rd_T38 l0 x9_1).f2.f8) ((rd_T38 l0 x9_1).f2.f9) = some r) ∧ Aside0 (kq ≤ k1) ∧ Aside0 (wc.heap[gb326]? = some (.cells #[.string ((rd_T38 l0 x9_1).f0), .int .i64 ((rd_T38 l0 x9_1).f1), .int .i64 ((rd_T38 l0 x9_1).f2.f0), .int .i64 ((rd_T38 l0 x9_1).f2.f1), .int .i64 ((rd_T38 l0 x9_1).f2.f2), .int .i64 ((rd_T38 l0 x9_1).f2.f3), .int .i64 ((rd_T38 l0 x9_1).f2.f4), .string ((rd_T38 l0 x9_1).f2.f5), .string ((rd_T38 l0 x9_1).f2.f6), .int .i64 ((rd_T38 l0 x9_1).f2.f7), .int .i64 ((rd_T38 l0 x9_1).f2.f8), .string ((rd_T38 l0 x9_1).f2.f9)] 38 (0, 0))) ∧ Aside0 (Below w.heap.size w wc))
      case first =>
       have H := HC6.out
       clear HC6
       by_cases c10 : t328 = true
       ·subst c10
        have H1 : ((pq16.f k1 t327 ((rd_T38 l0 x9_1).f2.f0) ((rd_T38 l0 x9_1).f2.f1) ((rd_T38 l0 x9_1).f2.f2) ((rd_T38 l0 x9_1).f2.f3) ((rd_T38 l0 x9_1).f2.f4) ((rd_T38 l0 x9_1).f2.f5) ((rd_T38 l0 x9_1).f2.f6) ((rd_T38 l0 x9_1).f2.f7) ((rd_T38 l0 x9_1).f2.f8) ((rd_T38 l0 x9_1).f2.f9)).bind fun t329 => (pq15.j1 k1 l0 x9_1 l0 (l0.length : Int) x9_1 (t329 != 0) ((rd_T38 l0 x9_1).f0) ((rd_T38 l0 x9_1).f1) ((rd_T38 l0 x9_1).f2.f0) ((rd_T38 l0 x9_1).f2.f1) ((rd_T38 l0 x9_1).f2.f2) ((rd_T38 l0 x9_1).f2.f3) ((rd_T38 l0 x9_1).f2.f4) ((rd_T38 l0 x9_1).f2.f5) ((rd_T38 l0 x9_1).f2.f6) ((rd_T38 l0 x9_1).f2.f7) ((rd_T38 l0 x9_1).f2.f8) ((rd_T38 l0 x9_1).f2.f9))) = some r := by rw [if_pos rfl] at H; exact H
        clear H
        have H := H1
        clear H1
        replace H := Option.bind_eq_some_iff.mp H
        obtain ⟨t329, A110, H⟩ := H
        replace H : (pq15.j1 k1 l0 x9_1 l0 (l0.length : Int) x9_1 (t329 != 0) ((rd_T38 l0 x9_1).f0) ((rd_T38 l0 x9_1).f1) ((rd_T38 l0 x9_1).f2.f0) ((rd_T38 l0 x9_1).f2.f1) ((rd_T38 l0 x9_1).f2.f2) ((rd_T38 l0 x9_1).f2.f3) ((rd_T38 l0 x9_1).f2.f4) ((rd_T38 l0 x9_1).f2.f5) ((rd_T38 l0 x9_1).f2.f6) ((rd_T38 l0 x9_1).f2.f7) ((rd_T38 l0 x9_1).f2.f8) ((rd_T38 l0 x9_1).f2.f9)) = some r := H
        have A11 := Aside0.mk A110
        clear A110
        have H' := Aside0.mk H
        clear H
        have hcz12_0 : w9.cell? ⟨gb326, 0, none⟩ = some (.string ((rd_T38 l0 x9_1).f0)) := (blk_cell BK326.out 0).trans rfl
        have hcz12_1 : w9.cell? ⟨gb326, 1, none⟩ = some (.int .i64 ((rd_T38 l0 x9_1).f1)) := (blk_cell BK326.out 1).trans rfl
        have hcz12_2 : w9.cell? ⟨gb326, 2, none⟩ = some (.int .i64 ((rd_T38 l0 x9_1).f2.f0)) := (blk_cell BK326.out 2).trans rfl
        have hcz12_3 : w9.cell? ⟨gb326, 3, none⟩ = some (.int .i64 ((rd_T38 l0 x9_1).f2.f1)) := (blk_cell BK326.out 3).trans rfl
        have hcz12_4 : w9.cell? ⟨gb326, 4, none⟩ = some (.int .i64 ((rd_T38 l0 x9_1).f2.f2)) := (blk_cell BK326.out 4).trans rfl
        have hcz12_5 : w9.cell? ⟨gb326, 5, none⟩ = some (.int .i64 ((rd_T38 l0 x9_1).f2.f3)) := (blk_cell BK326.out 5).trans rfl
        have hcz12_6 : w9.cell? ⟨gb326, 6, none⟩ = some (.int .i64 ((rd_T38 l0 x9_1).f2.f4)) := (blk_cell BK326.out 6).trans rfl
        have hcz12_7 : w9.cell? ⟨gb326, 7, none⟩ = some (.string ((rd_T38 l0 x9_1).f2.f5)) := (blk_cell BK326.out 7).trans rfl
        have hcz12_8 : w9.cell? ⟨gb326, 8, none⟩ = some (.string ((rd_T38 l0 x9_1).f2.f6)) := (blk_cell BK326.out 8).trans rfl
        have hcz12_9 : w9.cell? ⟨gb326, 9, none⟩ = some (.int .i64 ((rd_T38 l0 x9_1).f2.f7)) := (blk_cell BK326.out 9).trans rfl
        have hcz12_10 : w9.cell? ⟨gb326, 10, none⟩ = some (.int .i64 ((rd_T38 l0 x9_1).f2.f8)) := (blk_cell BK326.out 10).trans rfl
        have hcz12_11 : w9.cell? ⟨gb326, 11, none⟩ = some (.string ((rd_T38 l0 x9_1).f2.f9)) := (blk_cell BK326.out 11).trans rfl
        have hfz12_0 := blk_frozen BK326.out 0
        have hfz12_1 := blk_frozen BK326.out 1
        have hfz12_2 := blk_frozen BK326.out 2
        have hfz12_3 := blk_frozen BK326.out 3
        have hfz12_4 := blk_frozen BK326.out 4
        have hfz12_5 := blk_frozen BK326.out 5
        have hfz12_6 := blk_frozen BK326.out 6
        have hfz12_7 := blk_frozen BK326.out 7
        have hfz12_8 := blk_frozen BK326.out 8
        have hfz12_9 := blk_frozen BK326.out 9
        have hfz12_10 := blk_frozen BK326.out 10
        have hfz12_11 := blk_frozen BK326.out 11
        go_wp2_with (first | (go_at_call 53; (with_reducible refine (pq16.calls k1 t327 ((rd_T38 l0 x9_1).f2.f0) ((rd_T38 l0 x9_1).f2.f1) ((rd_T38 l0 x9_1).f2.f2) ((rd_T38 l0 x9_1).f2.f3) ((rd_T38 l0 x9_1).f2.f4) ((rd_T38 l0 x9_1).f2.f5) ((rd_T38 l0 x9_1).f2.f6) ((rd_T38 l0 x9_1).f2.f7) ((rd_T38 l0 x9_1).f2.f8) ((rd_T38 l0 x9_1).f2.f9) t329 _ (hG.ext (by repeat (first | (with_reducible first | exact HB.out | apply below_alloc | apply pw_below_drewN | apply below_drew1 | refine below_set ?_ GE326.out) | exact HB.out))) A11.out).mono ?_); rintro e w13 ⟨rfl, hb⟩; have n0_ := Aside0.mk (blk_below (g := gb326) (o := .cells #[.string ((rd_T38 l0 x9_1).f0), .int .i64 ((rd_T38 l0 x9_1).f1), .int .i64 ((rd_T38 l0 x9_1).f2.f0), .int .i64 ((rd_T38 l0 x9_1).f2.f1), .int .i64 ((rd_T38 l0 x9_1).f2.f2), .int .i64 ((rd_T38 l0 x9_1).f2.f3), .int .i64 ((rd_T38 l0 x9_1).f2.f4), .string ((rd_T38 l0 x9_1).f2.f5), .string ((rd_T38 l0 x9_1).f2.f6), .int .i64 ((rd_T38 l0 x9_1).f2.f7), .int .i64 ((rd_T38 l0 x9_1).f2.f8), .string ((rd_T38 l0 x9_1).f2.f9)] 38 (0, 0)) (by (with_reducible repeat (first | refine blk_drewN ?_ _ | refine blk_drew ?_ | refine blk_alloc ?_ _)); exact BK326.out) hb); have n1_ := Aside0.mk (below_step (by repeat (first | (with_reducible first | exact HB.out | apply below_alloc | apply pw_below_drewN | apply below_drew1 | refine below_set ?_ GE326.out) | exact HB.out)) hb); clear BK326; clear HB; have BK326 := n0_; have HB := n1_; clear n0_ n1_; (try clear hb); (try clear hb2); (try clear hk); (try clear hi)))
        go_meet
        case rel => exact ⟨_, ((t329 != 0)), (by first | rfl | (simp; done) | (simp [*]; done)), H', ⟨by have := HK1.out; first | omega | exact Nat.le_refl _⟩, ⟨by (with_reducible repeat (first | refine blk_drewN ?_ _ | refine blk_drew ?_ | refine blk_alloc ?_ _)); exact BK326.out⟩, ⟨by repeat (first | (with_reducible first | exact HB.out | apply below_alloc | apply pw_below_drewN | apply below_drew1 | refine below_set ?_ GE326.out) | exact HB.out)⟩⟩
       ·replace c10 := Bool.eq_false_iff.mpr c10
        subst c10
        have H1 : (pq15.j1 k1 l0 x9_1 l0 (l0.length : Int) x9_1 true ((rd_T38 l0 x9_1).f0) ((rd_T38 l0 x9_1).f1) ((rd_T38 l0 x9_1).f2.f0) ((rd_T38 l0 x9_1).f2.f1) ((rd_T38 l0 x9_1).f2.f2) ((rd_T38 l0 x9_1).f2.f3) ((rd_T38 l0 x9_1).f2.f4) ((rd_T38 l0 x9_1).f2.f5) ((rd_T38 l0 x9_1).f2.f6) ((rd_T38 l0 x9_1).f2.f7) ((rd_T38 l0 x9_1).f2.f8) ((rd_T38 l0 x9_1).f2.f9)) = some r := by rw [if_neg (show ¬ (false = true) by decide)] at H; exact H
        clear H
        have H := H1
        clear H1
        have H' := Aside0.mk H
        clear H
        go_wp2
        go_meet
        case rel => exact ⟨_, (true), (by first | rfl | (simp; done) | (simp [*]; done)), H', ⟨by have := HK1.out; first | omega | exact Nat.le_refl _⟩, ⟨by (with_reducible repeat (first | refine blk_drewN ?_ _ | refine blk_drew ?_ | refine blk_alloc ?_ _)); exact BK326.out⟩, ⟨by repeat (first | (with_reducible first | exact HB.out | apply below_alloc | apply pw_below_drewN | apply below_drew1 | refine below_set ?_ GE326.out) | exact HB.out)⟩⟩
      case rest =>
       clear HC6
       try clear c1
       try clear c2
       try clear c2b0
       try clear p2
       try clear c3
       try clear c3b0
       try clear p3
       try clear q3
       try clear hx3
       try clear c4
       try clear c4b0
       try clear c5
       try clear c10
       try clear hcz12_0
       try clear hcz12_1
       try clear hcz12_10
       try clear hcz12_11
       try clear hcz12_2
       try clear hcz12_3
       try clear hcz12_4
       try clear hcz12_5
       try clear hcz12_6
       try clear hcz12_7
       try clear hcz12_8
       try clear hcz12_9
       try clear hcz8_0
       try clear hcz8_1
       try clear hcz8_10
       try clear hcz8_11
       try clear hcz8_2
       try clear hcz8_3
       try clear hcz8_4
       try clear hcz8_5
       try clear hcz8_6
       try clear hcz8_7
       try clear hcz8_8
       try clear hcz8_9
       try clear hfz12_0
       try clear hfz12_1
       try clear hfz12_10
       try clear hfz12_11
       try clear hfz12_2
       try clear hfz12_3
       try clear hfz12_4
       try clear hfz12_5
       try clear hfz12_6
       try clear hfz12_7
       try clear hfz12_8
       try clear hfz12_9
       try clear hfz8_0
       try clear hfz8_1
       try clear hfz8_10
       try clear hfz8_11
       try clear hfz8_2
       try clear hfz8_3
       try clear hfz8_4
       try clear hfz8_5
       try clear hfz8_6
       try clear hfz8_7
       try clear hfz8_8
       try clear hfz8_9
       try clear hx325_0
       try clear hx325_1
       try clear hx325_10
       try clear hx325_11
       try clear hx325_2
       try clear hx325_3
       try clear hx325_4
       try clear hx325_5
       try clear hx325_6
       try clear hx325_7
       try clear hx325_8
       try clear hx325_9
       try clear p325
       try clear q325
       obtain ⟨kq, x22_5, rfl, HA, HJ5, BK326, HB⟩ := hcut
       cases kq with
       | zero => exact absurd HA.out (by simp [pq15.j1])
       | succ kj5 =>
        have H := HA.out
        clear HA
        simp only [pq15.j1] at H
        by_cases c14 : x22_5 = true
        ·subst c14
         have H1 : (some false) = some r := by rw [if_pos rfl] at H; exact H
         clear H
         have H := H1
         clear H1
         obtain rfl := Option.some.inj H
         go_wp2
         go_ret
         exact ⟨by first | rfl | (simp [errW_none, errW_some] <;> rfl) | (simp [*, errW_none, errW_some] <;> rfl), by repeat (first | (with_reducible first | exact HB.out | apply below_alloc | apply pw_below_drewN | apply below_drew1 | refine below_set ?_ GE326.out) | exact HB.out)⟩
        ·replace c14 := Bool.eq_false_iff.mpr c14
         subst c14
         have H1 : (if ((rd_T38 l0 x9_1).f1) = 0 then (pq15.j2 kj5 l0 x9_1 l0 (l0.length : Int) x9_1 false ((rd_T38 l0 x9_1).f0) ((rd_T38 l0 x9_1).f1) ((rd_T38 l0 x9_1).f2.f0) ((rd_T38 l0 x9_1).f2.f1) ((rd_T38 l0 x9_1).f2.f2) ((rd_T38 l0 x9_1).f2.f3) ((rd_T38 l0 x9_1).f2.f4) ((rd_T38 l0 x9_1).f2.f5) ((rd_T38 l0 x9_1).f2.f6) ((rd_T38 l0 x9_1).f2.f7) ((rd_T38 l0 x9_1).f2.f8) ((rd_T38 l0 x9_1).f2.f9)) else (pq15.j2 kj5 l0 x9_1 l0 (l0.length : Int) x9_1 (!(((rd_T38 l0 x9_1).f2.f0) == 0) || (!(((rd_T38 l0 x9_1).f2.f1) == 0) || (!(((rd_T38 l0 x9_1).f2.f2) == 0) || (!(((rd_T38 l0 x9_1).f2.f3) == 0) || (!(((rd_T38 l0 x9_1).f2.f4) == 0) || (!(((rd_T38 l0 x9_1).f2.f5).toList == ([] : List UInt8)) || (!(((rd_T38 l0 x9_1).f2.f6).toList == ([] : List UInt8)) || (!(((rd_T38 l0 x9_1).f2.f7) == 0) || (!(((rd_T38 l0 x9_1).f2.f8) == 0) || (!(((rd_T38 l0 x9_1).f2.f9).toList == ([] : List UInt8)))))))))))) ((rd_T38 l0 x9_1).f0) ((rd_T38 l0 x9_1).f1) ((rd_T38 l0 x9_1).f2.f0) ((rd_T38 l0 x9_1).f2.f1) ((rd_T38 l0 x9_1).f2.f2) ((rd_T38 l0 x9_1).f2.f3) ((rd_T38 l0 x9_1).f2.f4) ((rd_T38 l0 x9_1).f2.f5) ((rd_T38 l0 x9_1).f2.f6) ((rd_T38 l0 x9_1).f2.f7) ((rd_T38 l0 x9_1).f2.f8) ((rd_T38 l0 x9_1).f2.f9))) = some r := by rw [if_neg (show ¬ (false = true) by decide)] at H; exact H
         clear H
         have H := H1
         clear H1
         have HC15 := Aside0.mk H
         clear H
         go_upto_region 7 with (fail)
         go_cut [33] (fun v33 wc => ∃ (kq : Nat) (x33_14 : Bool), v33 = .bool x33_14 ∧ Aside0 (pq15.j2 kq l0 x9_1 l0 (l0.length : Int) x9_1 x33_14 ((rd_T38 l0 x9_1).f0) ((rd_T38 l0 x9_1).f1) ((rd_T38 l0 x9_1).f2.f0) ((rd_T38 l0 x9_1).f2.f1) ((rd_T38 l0 x9_1).f2.f2) ((rd_T38 l0 x9_1).f2.f3) ((rd_T38 l0 x9_1).f2.f4) ((rd_T38 l0 x9_1).f2.f5) ((rd_T38 l0 x9_1).f2.f6) ((rd_T38 l0 x9_1).f2.f7) ((rd_T38 l0 x9_1).f2.f8) ((rd_T38 l0 x9_1).f2.f9) = some r) ∧ Aside0 (kq ≤ kj5) ∧ Aside0 (wc.heap[gb326]? = some (.cells #[.string ((rd_T38 l0 x9_1).f0), .int .i64 ((rd_T38 l0 x9_1).f1), .int .i64 ((rd_T38 l0 x9_1).f2.f0), .int .i64 ((rd_T38 l0 x9_1).f2.f1), .int .i64 ((rd_T38 l0 x9_1).f2.f2), .int .i64 ((rd_T38 l0 x9_1).f2.f3), .int .i64 ((rd_T38 l0 x9_1).f2.f4), .string ((rd_T38 l0 x9_1).f2.f5), .string ((rd_T38 l0 x9_1).f2.f6), .int .i64 ((rd_T38 l0 x9_1).f2.f7), .int .i64 ((rd_T38 l0 x9_1).f2.f8), .string ((rd_T38 l0 x9_1).f2.f9)] 38 (0, 0))) ∧ Aside0 (Below w.heap.size w wc))
         case first =>
          have H := HC15.out
          clear HC15
          by_cases c16 : ((rd_T38 l0 x9_1).f1) = 0
          ·rw [if_pos c16] at H
           have c16b0 : (((rd_T38 l0 x9_1).f1) == 0) = true := beq_iff_eq.mpr c16
           have c16b1 : (((rd_T38 l0 x9_1).f1) != 0) = false := bne_eq_false_iff_eq.mpr c16
           clear c16
           (first | rw [c16b0] | (simp only [i64_w, i32_w]; rw [c16b0]) | skip)
           have H' := Aside0.mk H
           clear H
           have hcz17_0 : wc.cell? ⟨gb326, 0, none⟩ = some (.string ((rd_T38 l0 x9_1).f0)) := (blk_cell BK326.out 0).trans rfl
           have hcz17_1 : wc.cell? ⟨gb326, 1, none⟩ = some (.int .i64 ((rd_T38 l0 x9_1).f1)) := (blk_cell BK326.out 1).trans rfl
           have hcz17_2 : wc.cell? ⟨gb326, 2, none⟩ = some (.int .i64 ((rd_T38 l0 x9_1).f2.f0)) := (blk_cell BK326.out 2).trans rfl
           have hcz17_3 : wc.cell? ⟨gb326, 3, none⟩ = some (.int .i64 ((rd_T38 l0 x9_1).f2.f1)) := (blk_cell BK326.out 3).trans rfl
           have hcz17_4 : wc.cell? ⟨gb326, 4, none⟩ = some (.int .i64 ((rd_T38 l0 x9_1).f2.f2)) := (blk_cell BK326.out 4).trans rfl
           have hcz17_5 : wc.cell? ⟨gb326, 5, none⟩ = some (.int .i64 ((rd_T38 l0 x9_1).f2.f3)) := (blk_cell BK326.out 5).trans rfl
           have hcz17_6 : wc.cell? ⟨gb326, 6, none⟩ = some (.int .i64 ((rd_T38 l0 x9_1).f2.f4)) := (blk_cell BK326.out 6).trans rfl
           have hcz17_7 : wc.cell? ⟨gb326, 7, none⟩ = some (.string ((rd_T38 l0 x9_1).f2.f5)) := (blk_cell BK326.out 7).trans rfl
           have hcz17_8 : wc.cell? ⟨gb326, 8, none⟩ = some (.string ((rd_T38 l0 x9_1).f2.f6)) := (blk_cell BK326.out 8).trans rfl
           have hcz17_9 : wc.cell? ⟨gb326, 9, none⟩ = some (.int .i64 ((rd_T38 l0 x9_1).f2.f7)) := (blk_cell BK326.out 9).trans rfl
           have hcz17_10 : wc.cell? ⟨gb326, 10, none⟩ = some (.int .i64 ((rd_T38 l0 x9_1).f2.f8)) := (blk_cell BK326.out 10).trans rfl
           have hcz17_11 : wc.cell? ⟨gb326, 11, none⟩ = some (.string ((rd_T38 l0 x9_1).f2.f9)) := (blk_cell BK326.out 11).trans rfl
           have hfz17_0 := blk_frozen BK326.out 0
           have hfz17_1 := blk_frozen BK326.out 1
           have hfz17_2 := blk_frozen BK326.out 2
           have hfz17_3 := blk_frozen BK326.out 3
           have hfz17_4 := blk_frozen BK326.out 4
           have hfz17_5 := blk_frozen BK326.out 5
           have hfz17_6 := blk_frozen BK326.out 6
           have hfz17_7 := blk_frozen BK326.out 7
           have hfz17_8 := blk_frozen BK326.out 8
           have hfz17_9 := blk_frozen BK326.out 9
           have hfz17_10 := blk_frozen BK326.out 10
           have hfz17_11 := blk_frozen BK326.out 11
           go_wp2
           go_meet
           case rel => exact ⟨_, (false), (by first | rfl | (simp; done) | (simp [*]; done)), H', ⟨by have := HK1.out; have := HJ5.out; first | omega | exact Nat.le_refl _⟩, ⟨by (with_reducible repeat (first | refine blk_drewN ?_ _ | refine blk_drew ?_ | refine blk_alloc ?_ _)); exact BK326.out⟩, ⟨by repeat (first | (with_reducible first | exact HB.out | apply below_alloc | apply pw_below_drewN | apply below_drew1 | refine below_set ?_ GE326.out) | exact HB.out)⟩⟩
          ·rw [if_neg c16] at H
           have c16b0 : (((rd_T38 l0 x9_1).f1) == 0) = false := beq_eq_false_iff_ne.mpr c16
           have c16b1 : (((rd_T38 l0 x9_1).f1) != 0) = true := bne_iff_ne.mpr c16
           (first | rw [c16b0] | (simp only [i64_w, i32_w]; rw [c16b0]) | skip)
           have H' := Aside0.mk H
           clear H
           have hcz18_0 : wc.cell? ⟨gb326, 0, none⟩ = some (.string ((rd_T38 l0 x9_1).f0)) := (blk_cell BK326.out 0).trans rfl
           have hcz18_1 : wc.cell? ⟨gb326, 1, none⟩ = some (.int .i64 ((rd_T38 l0 x9_1).f1)) := (blk_cell BK326.out 1).trans rfl
           have hcz18_2 : wc.cell? ⟨gb326, 2, none⟩ = some (.int .i64 ((rd_T38 l0 x9_1).f2.f0)) := (blk_cell BK326.out 2).trans rfl
           have hcz18_3 : wc.cell? ⟨gb326, 3, none⟩ = some (.int .i64 ((rd_T38 l0 x9_1).f2.f1)) := (blk_cell BK326.out 3).trans rfl
           have hcz18_4 : wc.cell? ⟨gb326, 4, none⟩ = some (.int .i64 ((rd_T38 l0 x9_1).f2.f2)) := (blk_cell BK326.out 4).trans rfl
           have hcz18_5 : wc.cell? ⟨gb326, 5, none⟩ = some (.int .i64 ((rd_T38 l0 x9_1).f2.f3)) := (blk_cell BK326.out 5).trans rfl
           have hcz18_6 : wc.cell? ⟨gb326, 6, none⟩ = some (.int .i64 ((rd_T38 l0 x9_1).f2.f4)) := (blk_cell BK326.out 6).trans rfl
           have hcz18_7 : wc.cell? ⟨gb326, 7, none⟩ = some (.string ((rd_T38 l0 x9_1).f2.f5)) := (blk_cell BK326.out 7).trans rfl
           have hcz18_8 : wc.cell? ⟨gb326, 8, none⟩ = some (.string ((rd_T38 l0 x9_1).f2.f6)) := (blk_cell BK326.out 8).trans rfl
           have hcz18_9 : wc.cell? ⟨gb326, 9, none⟩ = some (.int .i64 ((rd_T38 l0 x9_1).f2.f7)) := (blk_cell BK326.out 9).trans rfl
           have hcz18_10 : wc.cell? ⟨gb326, 10, none⟩ = some (.int .i64 ((rd_T38 l0 x9_1).f2.f8)) := (blk_cell BK326.out 10).trans rfl
           have hcz18_11 : wc.cell? ⟨gb326, 11, none⟩ = some (.string ((rd_T38 l0 x9_1).f2.f9)) := (blk_cell BK326.out 11).trans rfl
           have hfz18_0 := blk_frozen BK326.out 0
           have hfz18_1 := blk_frozen BK326.out 1
           have hfz18_2 := blk_frozen BK326.out 2
           have hfz18_3 := blk_frozen BK326.out 3
           have hfz18_4 := blk_frozen BK326.out 4
           have hfz18_5 := blk_frozen BK326.out 5
           have hfz18_6 := blk_frozen BK326.out 6
           have hfz18_7 := blk_frozen BK326.out 7
           have hfz18_8 := blk_frozen BK326.out 8
           have hfz18_9 := blk_frozen BK326.out 9
           have hfz18_10 := blk_frozen BK326.out 10
           have hfz18_11 := blk_frozen BK326.out 11
           go_wp2
           go_meet
           case rel => exact ⟨_, ((!(((rd_T38 l0 x9_1).f2.f0) == 0) || (!(((rd_T38 l0 x9_1).f2.f1) == 0) || (!(((rd_T38 l0 x9_1).f2.f2) == 0) || (!(((rd_T38 l0 x9_1).f2.f3) == 0) || (!(((rd_T38 l0 x9_1).f2.f4) == 0) || (!(((rd_T38 l0 x9_1).f2.f5).toList == ([] : List UInt8)) || (!(((rd_T38 l0 x9_1).f2.f6).toList == ([] : List UInt8)) || (!(((rd_T38 l0 x9_1).f2.f7) == 0) || (!(((rd_T38 l0 x9_1).f2.f8) == 0) || (!(((rd_T38 l0 x9_1).f2.f9).toList == ([] : List UInt8))))))))))))), (by first | rfl | (simp; done) | (simp [*]; done)), H', ⟨by have := HK1.out; have := HJ5.out; first | omega | exact Nat.le_refl _⟩, ⟨by (with_reducible repeat (first | refine blk_drewN ?_ _ | refine blk_drew ?_ | refine blk_alloc ?_ _)); exact BK326.out⟩, ⟨by repeat (first | (with_reducible first | exact HB.out | apply below_alloc | apply pw_below_drewN | apply below_drew1 | refine below_set ?_ GE326.out) | exact HB.out)⟩⟩
         case rest =>
          clear HC15
          try clear c1
          try clear c2
          try clear c2b0
          try clear p2
          try clear c3
          try clear c3b0
          try clear p3
          try clear q3
          try clear hx3
          try clear c4
          try clear c4b0
          try clear c5
          try clear c10
          try clear c14
          try clear c16
          try clear c16b0
          try clear c16b1
          try clear hcz12_0
          try clear hcz12_1
          try clear hcz12_10
          try clear hcz12_11
          try clear hcz12_2
          try clear hcz12_3
          try clear hcz12_4
          try clear hcz12_5
          try clear hcz12_6
          try clear hcz12_7
          try clear hcz12_8
          try clear hcz12_9
          try clear hcz17_0
          try clear hcz17_1
          try clear hcz17_10
          try clear hcz17_11
          try clear hcz17_2
          try clear hcz17_3
          try clear hcz17_4
          try clear hcz17_5
          try clear hcz17_6
          try clear hcz17_7
          try clear hcz17_8
          try clear hcz17_9
          try clear hcz18_0
          try clear hcz18_1
          try clear hcz18_10
          try clear hcz18_11
          try clear hcz18_2
          try clear hcz18_3
          try clear hcz18_4
          try clear hcz18_5
          try clear hcz18_6
          try clear hcz18_7
          try clear hcz18_8
          try clear hcz18_9
          try clear hcz8_0
          try clear hcz8_1
          try clear hcz8_10
          try clear hcz8_11
          try clear hcz8_2
          try clear hcz8_3
          try clear hcz8_4
          try clear hcz8_5
          try clear hcz8_6
          try clear hcz8_7
          try clear hcz8_8
          try clear hcz8_9
          try clear hfz12_0
          try clear hfz12_1
          try clear hfz12_10
          try clear hfz12_11
          try clear hfz12_2
          try clear hfz12_3
          try clear hfz12_4
          try clear hfz12_5
          try clear hfz12_6
          try clear hfz12_7
          try clear hfz12_8
          try clear hfz12_9
          try clear hfz17_0
          try clear hfz17_1
          try clear hfz17_10
          try clear hfz17_11
          try clear hfz17_2
          try clear hfz17_3
          try clear hfz17_4
          try clear hfz17_5
          try clear hfz17_6
          try clear hfz17_7
          try clear hfz17_8
          try clear hfz17_9
          try clear hfz18_0
          try clear hfz18_1
          try clear hfz18_10
          try clear hfz18_11
          try clear hfz18_2
          try clear hfz18_3
          try clear hfz18_4
          try clear hfz18_5
          try clear hfz18_6
          try clear hfz18_7
          try clear hfz18_8
          try clear hfz18_9
          try clear hfz8_0
          try clear hfz8_1
          try clear hfz8_10
          try clear hfz8_11
          try clear hfz8_2
          try clear hfz8_3
          try clear hfz8_4
          try clear hfz8_5
          try clear hfz8_6
          try clear hfz8_7
          try clear hfz8_8
          try clear hfz8_9
          try clear hx325_0
          try clear hx325_1
          try clear hx325_10
          try clear hx325_11
          try clear hx325_2
          try clear hx325_3
          try clear hx325_4
          try clear hx325_5
          try clear hx325_6
          try clear hx325_7
          try clear hx325_8
          try clear hx325_9
          try clear p2
          try clear p3
          try clear p325
          try clear q3
          try clear q325
          obtain ⟨kq, x33_14, rfl, HA, HJ14, BK326, HB⟩ := hcut
          cases kq with
          | zero => exact absurd HA.out (by simp [pq15.j2])
          | succ kj14 =>
           have H := HA.out
           clear HA
           simp only [pq15.j2] at H
           by_cases c19 : x33_14 = true
           ·subst c19
            have H1 : (some false) = some r := by rw [if_pos rfl] at H; exact H
            clear H
            have H := H1
            clear H1
            obtain rfl := Option.some.inj H
            go_wp2
            go_ret
            exact ⟨by first | rfl | (simp [errW_none, errW_some] <;> rfl) | (simp [*, errW_none, errW_some] <;> rfl), by repeat (first | (with_reducible first | exact HB.out | apply below_alloc | apply pw_below_drewN | apply below_drew1 | refine below_set ?_ GE326.out) | exact HB.out)⟩
           ·replace c19 := Bool.eq_false_iff.mpr c19
            subst c19
            have H1 : (if x9_1 > 0 then (if 0 ≤ (wrap64 (x9_1 - 1)) then (if (wrap64 (x9_1 - 1)) < (l0.length : Int) then ((change_Less.f kj14 ((rd_T38 l0 (wrap64 (x9_1 - 1))).f0) ((rd_T38 l0 (wrap64 (x9_1 - 1))).f1) ((rd_T38 l0 (wrap64 (x9_1 - 1))).f2.f0) ((rd_T38 l0 (wrap64 (x9_1 - 1))).f2.f1) ((rd_T38 l0 (wrap64 (x9_1 - 1))).f2.f2) ((rd_T38 l0 (wrap64 (x9_1 - 1))).f2.f3) ((rd_T38 l0 (wrap64 (x9_1 - 1))).f2.f4) ((rd_T38 l0 (wrap64 (x9_1 - 1))).f2.f5) ((rd_T38 l0 (wrap64 (x9_1 - 1))).f2.f6) ((rd_T38 l0 (wrap64 (x9_1 - 1))).f2.f7) ((rd_T38 l0 (wrap64 (x9_1 - 1))).f2.f8) ((rd_T38 l0 (wrap64 (x9_1 - 1))).f2.f9) ((rd_T38 l0 x9_1).f0) ((rd_T38 l0 x9_1).f1) ((rd_T38 l0 x9_1).f2.f0) ((rd_T38 l0 x9_1).f2.f1) ((rd_T38 l0 x9_1).f2.f2) ((rd_T38 l0 x9_1).f2.f3) ((rd_T38 l0 x9_1).f2.f4) ((rd_T38 l0 x9_1).f2.f5) ((rd_T38 l0 x9_1).f2.f6) ((rd_T38 l0 x9_1).f2.f7) ((rd_T38 l0 x9_1).f2.f8) ((rd_T38 l0 x9_1).f2.f9)).bind fun t331 => (if t331 = true then (pq15.l0 kj14 l0 l0 (l0.length : Int) (wrap64 (x9_1 + 1))) else (some false))) else (none)) else (none)) else (pq15.l0 kj14 l0 l0 (l0.length : Int) (wrap64 (x9_1 + 1)))) = some r := by rw [if_neg (show ¬ (false = true) by decide)] at H; exact H
            clear H
            have H := H1
            clear H1
            by_cases c20 : x9_1 > 0
            ·rw [if_pos c20] at H
             have c20b0 : decide (0 < x9_1) = true := decide_eq_true c20
             clear c20
             obtain ⟨ji21, hji21⟩ : ∃ j_ : Int, (wrap64 (x9_1 - 1)) = j_ := ⟨_, rfl⟩
             replace H : (if 0 ≤ (ji21) then (if (ji21) < (l0.length : Int) then ((change_Less.f kj14 ((rd_T38 l0 (ji21)).f0) ((rd_T38 l0 (ji21)).f1) ((rd_T38 l0 (ji21)).f2.f0) ((rd_T38 l0 (ji21)).f2.f1) ((rd_T38 l0 (ji21)).f2.f2) ((rd_T38 l0 (ji21)).f2.f3) ((rd_T38 l0 (ji21)).f2.f4) ((rd_T38 l0 (ji21)).f2.f5) ((rd_T38 l0 (ji21)).f2.f6) ((rd_T38 l0 (ji21)).f2.f7) ((rd_T38 l0 (ji21)).f2.f8) ((rd_T38 l0 (ji21)).f2.f9) ((rd_T38 l0 x9_1).f0) ((rd_T38 l0 x9_1).f1) ((rd_T38 l0 x9_1).f2.f0) ((rd_T38 l0 x9_1).f2.f1) ((rd_T38 l0 x9_1).f2.f2) ((rd_T38 l0 x9_1).f2.f3) ((rd_T38 l0 x9_1).f2.f4) ((rd_T38 l0 x9_1).f2.f5) ((rd_T38 l0 x9_1).f2.f6) ((rd_T38 l0 x9_1).f2.f7) ((rd_T38 l0 x9_1).f2.f8) ((rd_T38 l0 x9_1).f2.f9)).bind fun t331 => (if t331 = true then (pq15.l0 kj14 l0 l0 (l0.length : Int) (wrap64 (x9_1 + 1))) else (some false))) else (none)) else (none)) = some r := by first | (rw [hji21] at H; exact H) | (simp only [hji21] at H ⊢; exact H)
             have hji21w : (IntKind.i64.wrap (x9_1 - 1)) = ji21 := (i64_w _).trans hji21
             by_cases c22 : 0 ≤ (ji21)
             ·rw [if_pos c22] at H
              have c22b0 : decide (0 ≤ (ji21)) = true := decide_eq_true c22
              clear c22
              by_cases c23 : (ji21) < (l0.length : Int)
              ·rw [if_pos c23] at H
               have c23b0 : decide ((ji21) < (l0.length : Int)) = true := decide_eq_true c23
               clear c23
               replace H := Option.bind_eq_some_iff.mp H
               obtain ⟨t331, A240, H⟩ := H
               replace H : (if t331 = true then (pq15.l0 kj14 l0 l0 (l0.length : Int) (wrap64 (x9_1 + 1))) else (some false)) = some r := H
               have A24 := Aside0.mk A240
               clear A240
               by_cases c25 : t331 = true
               ·subst c25
                have H1 : (pq15.l0 kj14 l0 l0 (l0.length : Int) (wrap64 (x9_1 + 1))) = some r := by rw [if_pos rfl] at H; exact H
                clear H
                have H := H1
                clear H1
                have H' := Aside0.mk H
                clear H
                try go_wp2
                have n0_ := Aside0.mk (blk_drew BK326.out)
                have n1_ := Aside0.mk (below_drew1 HB.out)
                clear BK326
                clear HB
                have BK326 := n0_
                have HB := n1_
                clear n0_ n1_
                have p330 : 0 ≤ ((ji21) : Int) := of_decide_eq_true (by first | (with_reducible assumption) | assumption)
                have q330 : (ji21) < (l0.length : Int) := of_decide_eq_true (by first | (with_reducible assumption) | assumption)
                obtain ⟨ad330, e330, hx330_0, hx330_1, hx330_2, hx330_3, hx330_4, hx330_5, hx330_6, hx330_7, hx330_8, hx330_9, hx330_10, hx330_11⟩ := at_T38 HR0.out (ji21) p330 q330
                have hw330_11 := hx330_11
                have hw330_10 := hx330_10
                have hw330_9 := hx330_9
                have hw330_8 := hx330_8
                have hw330_7 := hx330_7
                have hw330_6 := hx330_6
                have hw330_5 := hx330_5
                have hw330_4 := hx330_4
                have hw330_3 := hx330_3
                have hw330_2 := hx330_2
                have hw330_1 := hx330_1
                have hw330_0 := hx330_0
                obtain rfl : ad325 = ad330 := (by injection e330)
                replace hx330_0 := (HB.out.cell (World.block_lt_of_cell? w _ hx330_0)).trans hx330_0
                replace hx330_1 := (HB.out.cell (World.block_lt_of_cell? w _ hx330_1)).trans hx330_1
                replace hx330_2 := (HB.out.cell (World.block_lt_of_cell? w _ hx330_2)).trans hx330_2
                replace hx330_3 := (HB.out.cell (World.block_lt_of_cell? w _ hx330_3)).trans hx330_3
                replace hx330_4 := (HB.out.cell (World.block_lt_of_cell? w _ hx330_4)).trans hx330_4
                replace hx330_5 := (HB.out.cell (World.block_lt_of_cell? w _ hx330_5)).trans hx330_5
                replace hx330_6 := (HB.out.cell (World.block_lt_of_cell? w _ hx330_6)).trans hx330_6
                replace hx330_7 := (HB.out.cell (World.block_lt_of_cell? w _ hx330_7)).trans hx330_7
                replace hx330_8 := (HB.out.cell (World.block_lt_of_cell? w _ hx330_8)).trans hx330_8
                replace hx330_9 := (HB.out.cell (World.block_lt_of_cell? w _ hx330_9)).trans hx330_9
                replace hx330_10 := (HB.out.cell (World.block_lt_of_cell? w _ hx330_10)).trans hx330_10
                replace hx330_11 := (HB.out.cell (World.block_lt_of_cell? w _ hx330_11)).trans hx330_11
                replace p330 := eq_true p330
                replace q330 := eq_true q330
                refine start_ (n := 13) (S := fun w' => w'.cell? ⟨gb326, 0, none⟩ = some (.string ((rd_T38 l0 x9_1).f0)) ∧ w'.cell? ⟨gb326, 1, none⟩ = some (.int .i64 ((rd_T38 l0 x9_1).f1)) ∧ w'.cell? ⟨gb326, 2, none⟩ = some (.int .i64 ((rd_T38 l0 x9_1).f2.f0)) ∧ w'.cell? ⟨gb326, 3, none⟩ = some (.int .i64 ((rd_T38 l0 x9_1).f2.f1)) ∧ w'.cell? ⟨gb326, 4, none⟩ = some (.int .i64 ((rd_T38 l0 x9_1).f2.f2)) ∧ w'.cell? ⟨gb326, 5, none⟩ = some (.int .i64 ((rd_T38 l0 x9_1).f2.f3)) ∧ w'.cell? ⟨gb326, 6, none⟩ = some (.int .i64 ((rd_T38 l0 x9_1).f2.f4)) ∧ w'.cell? ⟨gb326, 7, none⟩ = some (.string ((rd_T38 l0 x9_1).f2.f5)) ∧ w'.cell? ⟨gb326, 8, none⟩ = some (.string ((rd_T38 l0 x9_1).f2.f6)) ∧ w'.cell? ⟨gb326, 9, none⟩ = some (.int .i64 ((rd_T38 l0 x9_1).f2.f7)) ∧ w'.cell? ⟨gb326, 10, none⟩ = some (.int .i64 ((rd_T38 l0 x9_1).f2.f8)) ∧ w'.cell? ⟨gb326, 11, none⟩ = some (.string ((rd_T38 l0 x9_1).f2.f9)) ∧ w'.cell? (ad325.add (((ji21)).toNat * 12)) = some (.string ((rd_T38 l0 (ji21)).f0)) ∧ w'.cell? ⟨(ad325.add (((ji21)).toNat * 12)).block, (ad325.add (((ji21)).toNat * 12)).off + 1, none⟩ = some (.int .i64 ((rd_T38 l0 (ji21)).f1)) ∧ w'.cell? ⟨(ad325.add (((ji21)).toNat * 12)).block, (ad325.add (((ji21)).toNat * 12)).off + 2, none⟩ = some (.int .i64 ((rd_T38 l0 (ji21)).f2.f0)) ∧ w'.cell? ⟨(ad325.add (((ji21)).toNat * 12)).block, (ad325.add (((ji21)).toNat * 12)).off + 3, none⟩ = some (.int .i64 ((rd_T38 l0 (ji21)).f2.f1)) ∧ w'.cell? ⟨(ad325.add (((ji21)).toNat * 12)).block, (ad325.add (((ji21)).toNat * 12)).off + 4, none⟩ = some (.int .i64 ((rd_T38 l0 (ji21)).f2.f2)) ∧ w'.cell? ⟨(ad325.add (((ji21)).toNat * 12)).block, (ad325.add (((ji21)).toNat * 12)).off + 5, none⟩ = some (.int .i64 ((rd_T38 l0 (ji21)).f2.f3)) ∧ w'.cell? ⟨(ad325.add (((ji21)).toNat * 12)).block, (ad325.add (((ji21)).toNat * 12)).off + 6, none⟩ = some (.int .i64 ((rd_T38 l0 (ji21)).f2.f4)) ∧ w'.cell? ⟨(ad325.add (((ji21)).toNat * 12)).block, (ad325.add (((ji21)).toNat * 12)).off + 7, none⟩ = some (.string ((rd_T38 l0 (ji21)).f2.f5)) ∧ w'.cell? ⟨(ad325.add (((ji21)).toNat * 12)).block, (ad325.add (((ji21)).toNat * 12)).off + 8, none⟩ = some (.string ((rd_T38 l0 (ji21)).f2.f6)) ∧ w'.cell? ⟨(ad325.add (((ji21)).toNat * 12)).block, (ad325.add (((ji21)).toNat * 12)).off + 9, none⟩ = some (.int .i64 ((rd_T38 l0 (ji21)).f2.f7)) ∧ w'.cell? ⟨(ad325.add (((ji21)).toNat * 12)).block, (ad325.add (((ji21)).toNat * 12)).off + 10, none⟩ = some (.int .i64 ((rd_T38 l0 (ji21)).f2.f8)) ∧ w'.cell? ⟨(ad325.add (((ji21)).toNat * 12)).block, (ad325.add (((ji21)).toNat * 12)).off + 11, none⟩ = some (.string ((rd_T38 l0 (ji21)).f2.f9))) (ds := []) #[false, false, false, false, false, false, false, false, false, false, false, false, false] (by kernel_rfl) rfl rfl ⟨(blk_cell BK326.out 0).trans rfl, (blk_cell BK326.out 1).trans rfl, (blk_cell BK326.out 2).trans rfl, (blk_cell BK326.out 3).trans rfl, (blk_cell BK326.out 4).trans rfl, (blk_cell BK326.out 5).trans rfl, (blk_cell BK326.out 6).trans rfl, (blk_cell BK326.out 7).trans rfl, (blk_cell BK326.out 8).trans rfl, (blk_cell BK326.out 9).trans rfl, (blk_cell BK326.out 10).trans rfl, (blk_cell BK326.out 11).trans rfl, ((HB.out.cell (World.block_lt_of_cell? w _ hw330_0)).trans hw330_0), ((HB.out.cell (World.block_lt_of_cell? w _ hw330_1)).trans hw330_1), ((HB.out.cell (World.block_lt_of_cell? w _ hw330_2)).trans hw330_2), ((HB.out.cell (World.block_lt_of_cell? w _ hw330_3)).trans hw330_3), ((HB.out.cell (World.block_lt_of_cell? w _ hw330_4)).trans hw330_4), ((HB.out.cell (World.block_lt_of_cell? w _ hw330_5)).trans hw330_5), ((HB.out.cell (World.block_lt_of_cell? w _ hw330_6)).trans hw330_6), ((HB.out.cell (World.block_lt_of_cell? w _ hw330_7)).trans hw330_7), ((HB.out.cell (World.block_lt_of_cell? w _ hw330_8)).trans hw330_8), ((HB.out.cell (World.block_lt_of_cell? w _ hw330_9)).trans hw330_9), ((HB.out.cell (World.block_lt_of_cell? w _ hw330_10)).trans hw330_10), ((HB.out.cell (World.block_lt_of_cell? w _ hw330_11)).trans hw330_11)⟩ (fun hHeld => ?_); refine with_tabW pq15.tab9 pq15.bits9 (fun HT_ HW_ => ?_)
                generalize wc.drew = w26 at BK326 HB hx330_0 hx330_1 hx330_10 hx330_11 hx330_2 hx330_3 hx330_4 hx330_5 hx330_6 hx330_7 hx330_8 hx330_9 hHeld ⊢
                refine pure_ (i := 0) (N := some 44) (v := ?_) (a' := ?_) #[true, false, false, false, false, false, false, false, false, false, false, false, false] rfl rfl (any_of HT_.out (by kernel_rfl)) (fun _ _ _ h => h) (Or.inl ⟨by rfl, ?_⟩) ?_ ?_
                rotate_left
                ·intro w'
                 go_simp
                 with_reducible rfl
                rotate_left
                ·simp only [Act.put, List.setIfInBounds_toArray, List.set_cons_zero, List.set_cons_succ, i64_w, i32_w]
                 rfl
                refine pure_ (i := 1) (N := some 45) (v := ?_) (a' := ?_) #[true, true, false, false, false, false, false, false, false, false, false, false, false] rfl rfl (any_of HT_.out (by kernel_rfl)) (fun _ _ _ h => h) (Or.inl ⟨by rfl, ?_⟩) ?_ ?_
                rotate_left
                ·intro w'
                 go_simp
                 with_reducible rfl
                rotate_left
                ·simp only [Act.put, List.setIfInBounds_toArray, List.set_cons_zero, List.set_cons_succ, i64_w, i32_w]
                 rfl
                refine pure_ (i := 2) (N := some 46) (v := ?_) (a' := ?_) #[true, true, true, false, false, false, false, false, false, false, false, false, false] rfl rfl (any_of HT_.out (by kernel_rfl)) (fun _ _ _ h => h) (Or.inl ⟨by rfl, ?_⟩) ?_ ?_
                rotate_left
                ·intro w'
                 go_simp
                 with_reducible rfl
                rotate_left
                ·simp only [Act.put, List.setIfInBounds_toArray, List.set_cons_zero, List.set_cons_succ, i64_w, i32_w]
                 rfl
                refine pure_ (i := 3) (N := some 47) (v := ?_) (a' := ?_) #[true, true, true, true, false, false, false, false, false, false, false, false, false] rfl rfl (any_of HT_.out (by kernel_rfl)) (fun _ _ _ h => h) (Or.inl ⟨by rfl, ?_⟩) ?_ ?_
                rotate_left
                ·intro w'
                 go_simp
                 with_reducible rfl
                rotate_left
                ·simp only [Act.put, List.setIfInBounds_toArray, List.set_cons_zero, List.set_cons_succ, i64_w, i32_w]
                 rfl
                refine pure_ (i := 4) (N := some 48) (v := ?_) (a' := ?_) #[true, true, true, true, true, false, false, false, false, false, false, false, false] rfl rfl (any_of HT_.out (by kernel_rfl)) (fun _ _ _ h => h) (Or.inl ⟨by rfl, ?_⟩) ?_ ?_
                rotate_left
                ·intro w'
                 go_simp
                 with_reducible rfl
                rotate_left
                ·simp only [Act.put, List.setIfInBounds_toArray, List.set_cons_zero, List.set_cons_succ, i64_w, i32_w]
                 rfl
                refine pure_ (i := 5) (N := some 49) (v := ?_) (a' := ?_) #[true, true, true, true, true, true, false, false, false, false, false, false, false] rfl rfl (any_of HT_.out (by kernel_rfl)) (fun _ _ _ h => h) (Or.inl ⟨by rfl, ?_⟩) ?_ ?_
                rotate_left
                ·intro w'
                 go_simp
                 with_reducible rfl
                rotate_left
                ·simp only [Act.put, List.setIfInBounds_toArray, List.set_cons_zero, List.set_cons_succ, i64_w, i32_w]
                 rfl
                refine pure_ (i := 6) (N := some 50) (v := ?_) (a' := ?_) #[true, true, true, true, true, true, true, false, false, false, false, false, false] rfl rfl (any_of HT_.out (by kernel_rfl)) (fun _ _ _ h => h) (Or.inl ⟨by rfl, ?_⟩) ?_ ?_
                rotate_left
                ·intro w'
                 go_simp
                 with_reducible rfl
                rotate_left
                ·simp only [Act.put, List.setIfInBounds_toArray, List.set_cons_zero, List.set_cons_succ, i64_w, i32_w]
                 rfl
                refine take_ (i := 7) (N := some 51) (v := ?_) (a' := ?_) #[true, true, true, true, true, true, true, true, false, false, false, false, false] rfl rfl (take_ofW HT_.out HW_.out (by kernel_rfl)) (fun _ _ _ h => h) (Or.inl ⟨by rfl, ?_⟩) hHeld ?_ ?_
                rotate_left
                ·rintro w' ⟨s0, s1, s2, s3, s4, s5, s6, s7, s8, s9, s10, s11, s12, s13, s14, s15, s16, s17, s18, s19, s20, s21, s22, s23⟩
                 go_simp
                 with_reducible rfl
                rotate_left
                ·simp only [Act.put, List.setIfInBounds_toArray, List.set_cons_zero, List.set_cons_succ, i64_w, i32_w]
                 rfl
                refine take_ (i := 8) (N := some 52) (v := ?_) (a' := ?_) #[true, true, true, true, true, true, true, true, true, false, false, false, false] rfl rfl (take_ofW HT_.out HW_.out (by kernel_rfl)) (fun _ _ _ h => h) (Or.inl ⟨by rfl, ?_⟩) hHeld ?_ ?_
                rotate_left
                ·rintro w' ⟨s0, s1, s2, s3, s4, s5, s6, s7, s8, s9, s10, s11, s12, s13, s14, s15, s16, s17, s18, s19, s20, s21, s22, s23⟩
                 go_simp
                 with_reducible rfl
                rotate_left
                ·simp only [Act.put, List.setIfInBounds_toArray, List.set_cons_zero, List.set_cons_succ, i64_w, i32_w]
                 rfl
                refine one_ (i := 9) (N := some 53) #[true, true, true, true, true, true, true, true, true, true, false, false, false] rfl rfl (one_of HT_.out (by kernel_rfl)) (by decide) (fun K hK => ?_)
                refine goes_ Tryz.func54 (by kernel_rfl) rfl #[.agg #[.string ((rd_T38 l0 (ji21)).f0), .int .i64 ((rd_T38 l0 (ji21)).f1), .int .i64 ((rd_T38 l0 (ji21)).f2.f0), .int .i64 ((rd_T38 l0 (ji21)).f2.f1), .int .i64 ((rd_T38 l0 (ji21)).f2.f2), .int .i64 ((rd_T38 l0 (ji21)).f2.f3), .int .i64 ((rd_T38 l0 (ji21)).f2.f4), .string ((rd_T38 l0 (ji21)).f2.f5), .string ((rd_T38 l0 (ji21)).f2.f6), .int .i64 ((rd_T38 l0 (ji21)).f2.f7), .int .i64 ((rd_T38 l0 (ji21)).f2.f8), .string ((rd_T38 l0 (ji21)).f2.f9)], .agg #[.string ((rd_T38 l0 x9_1).f0), .int .i64 ((rd_T38 l0 x9_1).f1), .int .i64 ((rd_T38 l0 x9_1).f2.f0), .int .i64 ((rd_T38 l0 x9_1).f2.f1), .int .i64 ((rd_T38 l0 x9_1).f2.f2), .int .i64 ((rd_T38 l0 x9_1).f2.f3), .int .i64 ((rd_T38 l0 x9_1).f2.f4), .string ((rd_T38 l0 x9_1).f2.f5), .string ((rd_T38 l0 x9_1).f2.f6), .int .i64 ((rd_T38 l0 x9_1).f2.f7), .int .i64 ((rd_T38 l0 x9_1).f2.f8), .string ((rd_T38 l0 x9_1).f2.f9)]] (by rfl) rfl rfl (by (try simp only [List.map_toArray, List.map_cons, List.map_nil]); first | done | (simp only [hji21]; rfl) | rfl | (simp only [List.length_drop, List.length_take]; rfl)) ?_
                with_reducible refine (change_Less.calls kj14 ((rd_T38 l0 (ji21)).f0) ((rd_T38 l0 (ji21)).f1) ((rd_T38 l0 (ji21)).f2.f0) ((rd_T38 l0 (ji21)).f2.f1) ((rd_T38 l0 (ji21)).f2.f2) ((rd_T38 l0 (ji21)).f2.f3) ((rd_T38 l0 (ji21)).f2.f4) ((rd_T38 l0 (ji21)).f2.f5) ((rd_T38 l0 (ji21)).f2.f6) ((rd_T38 l0 (ji21)).f2.f7) ((rd_T38 l0 (ji21)).f2.f8) ((rd_T38 l0 (ji21)).f2.f9) ((rd_T38 l0 x9_1).f0) ((rd_T38 l0 x9_1).f1) ((rd_T38 l0 x9_1).f2.f0) ((rd_T38 l0 x9_1).f2.f1) ((rd_T38 l0 x9_1).f2.f2) ((rd_T38 l0 x9_1).f2.f3) ((rd_T38 l0 x9_1).f2.f4) ((rd_T38 l0 x9_1).f2.f5) ((rd_T38 l0 x9_1).f2.f6) ((rd_T38 l0 x9_1).f2.f7) ((rd_T38 l0 x9_1).f2.f8) ((rd_T38 l0 x9_1).f2.f9) true _ (hG.ext (by repeat (first | (with_reducible first | exact HB.out | apply below_alloc | apply pw_below_drewN | apply below_drew1 | refine below_set ?_ GE326.out) | exact HB.out))) A24.out).mono ?_
                rintro e w27 ⟨rfl, hb⟩
                refine ⟨_, rfl, ?_⟩
                have n0_ := Aside0.mk (blk_below (g := gb326) (o := .cells #[.string ((rd_T38 l0 x9_1).f0), .int .i64 ((rd_T38 l0 x9_1).f1), .int .i64 ((rd_T38 l0 x9_1).f2.f0), .int .i64 ((rd_T38 l0 x9_1).f2.f1), .int .i64 ((rd_T38 l0 x9_1).f2.f2), .int .i64 ((rd_T38 l0 x9_1).f2.f3), .int .i64 ((rd_T38 l0 x9_1).f2.f4), .string ((rd_T38 l0 x9_1).f2.f5), .string ((rd_T38 l0 x9_1).f2.f6), .int .i64 ((rd_T38 l0 x9_1).f2.f7), .int .i64 ((rd_T38 l0 x9_1).f2.f8), .string ((rd_T38 l0 x9_1).f2.f9)] 38 (0, 0)) (by (with_reducible repeat (first | refine blk_drewN ?_ _ | refine blk_drew ?_ | refine blk_alloc ?_ _)); exact BK326.out) hb)
                have n1_ := Aside0.mk (below_step (by repeat (first | (with_reducible first | exact HB.out | apply below_alloc | apply pw_below_drewN | apply below_drew1 | refine below_set ?_ GE326.out) | exact HB.out)) hb)
                clear BK326
                clear HB
                have BK326 := n0_
                have HB := n1_
                clear n0_ n1_
                (try clear hb)
                (try clear hb2)
                (try clear hk)
                (try clear hi)
                refine hK.out _ _ ⟨(blk_cell BK326.out 0).trans rfl, (blk_cell BK326.out 1).trans rfl, (blk_cell BK326.out 2).trans rfl, (blk_cell BK326.out 3).trans rfl, (blk_cell BK326.out 4).trans rfl, (blk_cell BK326.out 5).trans rfl, (blk_cell BK326.out 6).trans rfl, (blk_cell BK326.out 7).trans rfl, (blk_cell BK326.out 8).trans rfl, (blk_cell BK326.out 9).trans rfl, (blk_cell BK326.out 10).trans rfl, (blk_cell BK326.out 11).trans rfl, ((HB.out.cell (World.block_lt_of_cell? w _ hw330_0)).trans hw330_0), ((HB.out.cell (World.block_lt_of_cell? w _ hw330_1)).trans hw330_1), ((HB.out.cell (World.block_lt_of_cell? w _ hw330_2)).trans hw330_2), ((HB.out.cell (World.block_lt_of_cell? w _ hw330_3)).trans hw330_3), ((HB.out.cell (World.block_lt_of_cell? w _ hw330_4)).trans hw330_4), ((HB.out.cell (World.block_lt_of_cell? w _ hw330_5)).trans hw330_5), ((HB.out.cell (World.block_lt_of_cell? w _ hw330_6)).trans hw330_6), ((HB.out.cell (World.block_lt_of_cell? w _ hw330_7)).trans hw330_7), ((HB.out.cell (World.block_lt_of_cell? w _ hw330_8)).trans hw330_8), ((HB.out.cell (World.block_lt_of_cell? w _ hw330_9)).trans hw330_9), ((HB.out.cell (World.block_lt_of_cell? w _ hw330_10)).trans hw330_10), ((HB.out.cell (World.block_lt_of_cell? w _ hw330_11)).trans hw330_11)⟩ (fun hHeld => ?_)
                clear hK K
                refine norm_ (a' := ?_) ?_ ?_
                rotate_left
                ·show Act.put _ (some 53) _ = _
                 simp only [Act.put, List.setIfInBounds_toArray, List.set_cons_zero, List.set_cons_succ, i64_w, i32_w]
                 rfl
                refine pure_ (i := 10) (N := some 54) (v := ?_) (a' := ?_) #[true, true, true, true, true, true, true, true, true, true, true, false, false] rfl rfl (any_of HT_.out (by kernel_rfl)) (fun _ _ _ h => h) (Or.inl ⟨by rfl, ?_⟩) ?_ ?_
                rotate_left
                ·intro w'
                 go_simp
                 with_reducible rfl
                rotate_left
                ·simp only [Act.put, List.setIfInBounds_toArray, List.set_cons_zero, List.set_cons_succ, i64_w, i32_w]
                 rfl
                refine pure_ (i := 11) (N := some 55) (v := ?_) (a' := ?_) #[true, true, true, true, true, true, true, true, true, true, true, true, false] rfl rfl (any_of HT_.out (by kernel_rfl)) (fun _ _ _ h => h) (Or.inl ⟨by rfl, ?_⟩) ?_ ?_
                rotate_left
                ·intro w'
                 go_simp
                 with_reducible rfl
                rotate_left
                ·simp only [Act.put, List.setIfInBounds_toArray, List.set_cons_zero, List.set_cons_succ, i64_w, i32_w]
                 rfl
                refine pure_ (i := 12) (N := some 43) (v := ?_) (a' := ?_) #[true, true, true, true, true, true, true, true, true, true, true, true, true] rfl rfl (any_of HT_.out (by kernel_rfl)) (fun _ _ _ h => h) (Or.inl ⟨by rfl, ?_⟩) ?_ ?_
                rotate_left
                ·intro w'
                 go_simp
                 with_reducible rfl
                rotate_left
                ·simp only [Act.put, List.setIfInBounds_toArray, List.set_cons_zero, List.set_cons_succ, i64_w, i32_w]
                 rfl
                refine done_ (done_of HT_.out (by kernel_rfl)) ?_
                try go_wp2
                go_roundg kj14
                case measure => have := HK1.out; have := HJ5.out; have := HJ14.out; omega
                case rel => exact ⟨(wrap64 (x9_1 + 1)), (by first | rfl | (simp; done) | (simp [*]; done)), H', ⟨by have := HK1.out; have := HJ5.out; have := HJ14.out; omega⟩, ⟨by repeat (first | (with_reducible first | exact HB.out | apply below_alloc | apply pw_below_drewN | apply below_drew1 | refine below_set ?_ GE326.out) | exact HB.out)⟩⟩
               ·replace c25 := Bool.eq_false_iff.mpr c25
                subst c25
                have H1 : (some false) = some r := by rw [if_neg (show ¬ (false = true) by decide)] at H; exact H
                clear H
                have H := H1
                clear H1
                obtain rfl := Option.some.inj H
                try go_wp2
                have n0_ := Aside0.mk (blk_drew BK326.out)
                have n1_ := Aside0.mk (below_drew1 HB.out)
                clear BK326
                clear HB
                have BK326 := n0_
                have HB := n1_
                clear n0_ n1_
                have p330 : 0 ≤ ((ji21) : Int) := of_decide_eq_true (by first | (with_reducible assumption) | assumption)
                have q330 : (ji21) < (l0.length : Int) := of_decide_eq_true (by first | (with_reducible assumption) | assumption)
                obtain ⟨ad330, e330, hx330_0, hx330_1, hx330_2, hx330_3, hx330_4, hx330_5, hx330_6, hx330_7, hx330_8, hx330_9, hx330_10, hx330_11⟩ := at_T38 HR0.out (ji21) p330 q330
                have hw330_11 := hx330_11
                have hw330_10 := hx330_10
                have hw330_9 := hx330_9
                have hw330_8 := hx330_8
                have hw330_7 := hx330_7
                have hw330_6 := hx330_6
                have hw330_5 := hx330_5
                have hw330_4 := hx330_4
                have hw330_3 := hx330_3
                have hw330_2 := hx330_2
                have hw330_1 := hx330_1
                have hw330_0 := hx330_0
                obtain rfl : ad325 = ad330 := (by injection e330)
                replace hx330_0 := (HB.out.cell (World.block_lt_of_cell? w _ hx330_0)).trans hx330_0
                replace hx330_1 := (HB.out.cell (World.block_lt_of_cell? w _ hx330_1)).trans hx330_1
                replace hx330_2 := (HB.out.cell (World.block_lt_of_cell? w _ hx330_2)).trans hx330_2
                replace hx330_3 := (HB.out.cell (World.block_lt_of_cell? w _ hx330_3)).trans hx330_3
                replace hx330_4 := (HB.out.cell (World.block_lt_of_cell? w _ hx330_4)).trans hx330_4
                replace hx330_5 := (HB.out.cell (World.block_lt_of_cell? w _ hx330_5)).trans hx330_5
                replace hx330_6 := (HB.out.cell (World.block_lt_of_cell? w _ hx330_6)).trans hx330_6
                replace hx330_7 := (HB.out.cell (World.block_lt_of_cell? w _ hx330_7)).trans hx330_7
                replace hx330_8 := (HB.out.cell (World.block_lt_of_cell? w _ hx330_8)).trans hx330_8
                replace hx330_9 := (HB.out.cell (World.block_lt_of_cell? w _ hx330_9)).trans hx330_9
                replace hx330_10 := (HB.out.cell (World.block_lt_of_cell? w _ hx330_10)).trans hx330_10
                replace hx330_11 := (HB.out.cell (World.block_lt_of_cell? w _ hx330_11)).trans hx330_11
                replace p330 := eq_true p330
                replace q330 := eq_true q330
                refine start_ (n := 13) (S := fun w' => w'.cell? ⟨gb326, 0, none⟩ = some (.string ((rd_T38 l0 x9_1).f0)) ∧ w'.cell? ⟨gb326, 1, none⟩ = some (.int .i64 ((rd_T38 l0 x9_1).f1)) ∧ w'.cell? ⟨gb326, 2, none⟩ = some (.int .i64 ((rd_T38 l0 x9_1).f2.f0)) ∧ w'.cell? ⟨gb326, 3, none⟩ = some (.int .i64 ((rd_T38 l0 x9_1).f2.f1)) ∧ w'.cell? ⟨gb326, 4, none⟩ = some (.int .i64 ((rd_T38 l0 x9_1).f2.f2)) ∧ w'.cell? ⟨gb326, 5, none⟩ = some (.int .i64 ((rd_T38 l0 x9_1).f2.f3)) ∧ w'.cell? ⟨gb326, 6, none⟩ = some (.int .i64 ((rd_T38 l0 x9_1).f2.f4)) ∧ w'.cell? ⟨gb326, 7, none⟩ = some (.string ((rd_T38 l0 x9_1).f2.f5)) ∧ w'.cell? ⟨gb326, 8, none⟩ = some (.string ((rd_T38 l0 x9_1).f2.f6)) ∧ w'.cell? ⟨gb326, 9, none⟩ = some (.int .i64 ((rd_T38 l0 x9_1).f2.f7)) ∧ w'.cell? ⟨gb326, 10, none⟩ = some (.int .i64 ((rd_T38 l0 x9_1).f2.f8)) ∧ w'.cell? ⟨gb326, 11, none⟩ = some (.string ((rd_T38 l0 x9_1).f2.f9)) ∧ w'.cell? (ad325.add (((ji21)).toNat * 12)) = some (.string ((rd_T38 l0 (ji21)).f0)) ∧ w'.cell? ⟨(ad325.add (((ji21)).toNat * 12)).block, (ad325.add (((ji21)).toNat * 12)).off + 1, none⟩ = some (.int .i64 ((rd_T38 l0 (ji21)).f1)) ∧ w'.cell? ⟨(ad325.add (((ji21)).toNat * 12)).block, (ad325.add (((ji21)).toNat * 12)).off + 2, none⟩ = some (.int .i64 ((rd_T38 l0 (ji21)).f2.f0)) ∧ w'.cell? ⟨(ad325.add (((ji21)).toNat * 12)).block, (ad325.add (((ji21)).toNat * 12)).off + 3, none⟩ = some (.int .i64 ((rd_T38 l0 (ji21)).f2.f1)) ∧ w'.cell? ⟨(ad325.add (((ji21)).toNat * 12)).block, (ad325.add (((ji21)).toNat * 12)).off + 4, none⟩ = some (.int .i64 ((rd_T38 l0 (ji21)).f2.f2)) ∧ w'.cell? ⟨(ad325.add (((ji21)).toNat * 12)).block, (ad325.add (((ji21)).toNat * 12)).off + 5, none⟩ = some (.int .i64 ((rd_T38 l0 (ji21)).f2.f3)) ∧ w'.cell? ⟨(ad325.add (((ji21)).toNat * 12)).block, (ad325.add (((ji21)).toNat * 12)).off + 6, none⟩ = some (.int .i64 ((rd_T38 l0 (ji21)).f2.f4)) ∧ w'.cell? ⟨(ad325.add (((ji21)).toNat * 12)).block, (ad325.add (((ji21)).toNat * 12)).off + 7, none⟩ = some (.string ((rd_T38 l0 (ji21)).f2.f5)) ∧ w'.cell? ⟨(ad325.add (((ji21)).toNat * 12)).block, (ad325.add (((ji21)).toNat * 12)).off + 8, none⟩ = some (.string ((rd_T38 l0 (ji21)).f2.f6)) ∧ w'.cell? ⟨(ad325.add (((ji21)).toNat * 12)).block, (ad325.add (((ji21)).toNat * 12)).off + 9, none⟩ = some (.int .i64 ((rd_T38 l0 (ji21)).f2.f7)) ∧ w'.cell? ⟨(ad325.add (((ji21)).toNat * 12)).block, (ad325.add (((ji21)).toNat * 12)).off + 10, none⟩ = some (.int .i64 ((rd_T38 l0 (ji21)).f2.f8)) ∧ w'.cell? ⟨(ad325.add (((ji21)).toNat * 12)).block, (ad325.add (((ji21)).toNat * 12)).off + 11, none⟩ = some (.string ((rd_T38 l0 (ji21)).f2.f9))) (ds := []) #[false, false, false, false, false, false, false, false, false, false, false, false, false] (by kernel_rfl) rfl rfl ⟨(blk_cell BK326.out 0).trans rfl, (blk_cell BK326.out 1).trans rfl, (blk_cell BK326.out 2).trans rfl, (blk_cell BK326.out 3).trans rfl, (blk_cell BK326.out 4).trans rfl, (blk_cell BK326.out 5).trans rfl, (blk_cell BK326.out 6).trans rfl, (blk_cell BK326.out 7).trans rfl, (blk_cell BK326.out 8).trans rfl, (blk_cell BK326.out 9).trans rfl, (blk_cell BK326.out 10).trans rfl, (blk_cell BK326.out 11).trans rfl, ((HB.out.cell (World.block_lt_of_cell? w _ hw330_0)).trans hw330_0), ((HB.out.cell (World.block_lt_of_cell? w _ hw330_1)).trans hw330_1), ((HB.out.cell (World.block_lt_of_cell? w _ hw330_2)).trans hw330_2), ((HB.out.cell (World.block_lt_of_cell? w _ hw330_3)).trans hw330_3), ((HB.out.cell (World.block_lt_of_cell? w _ hw330_4)).trans hw330_4), ((HB.out.cell (World.block_lt_of_cell? w _ hw330_5)).trans hw330_5), ((HB.out.cell (World.block_lt_of_cell? w _ hw330_6)).trans hw330_6), ((HB.out.cell (World.block_lt_of_cell? w _ hw330_7)).trans hw330_7), ((HB.out.cell (World.block_lt_of_cell? w _ hw330_8)).trans hw330_8), ((HB.out.cell (World.block_lt_of_cell? w _ hw330_9)).trans hw330_9), ((HB.out.cell (World.block_lt_of_cell? w _ hw330_10)).trans hw330_10), ((HB.out.cell (World.block_lt_of_cell? w _ hw330_11)).trans hw330_11)⟩ (fun hHeld => ?_); refine with_tabW pq15.tab9 pq15.bits9 (fun HT_ HW_ => ?_)
                generalize wc.drew = w28 at BK326 HB hx330_0 hx330_1 hx330_10 hx330_11 hx330_2 hx330_3 hx330_4 hx330_5 hx330_6 hx330_7 hx330_8 hx330_9 hHeld ⊢
                refine pure_ (i := 0) (N := some 44) (v := ?_) (a' := ?_) #[true, false, false, false, false, false, false, false, false, false, false, false, false] rfl rfl (any_of HT_.out (by kernel_rfl)) (fun _ _ _ h => h) (Or.inl ⟨by rfl, ?_⟩) ?_ ?_
                rotate_left
                ·intro w'
                 go_simp
                 with_reducible rfl
                rotate_left
                ·simp only [Act.put, List.setIfInBounds_toArray, List.set_cons_zero, List.set_cons_succ, i64_w, i32_w]
                 rfl
                refine pure_ (i := 1) (N := some 45) (v := ?_) (a' := ?_) #[true, true, false, false, false, false, false, false, false, false, false, false, false] rfl rfl (any_of HT_.out (by kernel_rfl)) (fun _ _ _ h => h) (Or.inl ⟨by rfl, ?_⟩) ?_ ?_
                rotate_left
                ·intro w'
                 go_simp
                 with_reducible rfl
                rotate_left
                ·simp only [Act.put, List.setIfInBounds_toArray, List.set_cons_zero, List.set_cons_succ, i64_w, i32_w]
                 rfl
                refine pure_ (i := 2) (N := some 46) (v := ?_) (a' := ?_) #[true, true, true, false, false, false, false, false, false, false, false, false, false] rfl rfl (any_of HT_.out (by kernel_rfl)) (fun _ _ _ h => h) (Or.inl ⟨by rfl, ?_⟩) ?_ ?_
                rotate_left
                ·intro w'
                 go_simp
                 with_reducible rfl
                rotate_left
                ·simp only [Act.put, List.setIfInBounds_toArray, List.set_cons_zero, List.set_cons_succ, i64_w, i32_w]
                 rfl
                refine pure_ (i := 3) (N := some 47) (v := ?_) (a' := ?_) #[true, true, true, true, false, false, false, false, false, false, false, false, false] rfl rfl (any_of HT_.out (by kernel_rfl)) (fun _ _ _ h => h) (Or.inl ⟨by rfl, ?_⟩) ?_ ?_
                rotate_left
                ·intro w'
                 go_simp
                 with_reducible rfl
                rotate_left
                ·simp only [Act.put, List.setIfInBounds_toArray, List.set_cons_zero, List.set_cons_succ, i64_w, i32_w]
                 rfl
                refine pure_ (i := 4) (N := some 48) (v := ?_) (a' := ?_) #[true, true, true, true, true, false, false, false, false, false, false, false, false] rfl rfl (any_of HT_.out (by kernel_rfl)) (fun _ _ _ h => h) (Or.inl ⟨by rfl, ?_⟩) ?_ ?_
                rotate_left
                ·intro w'
                 go_simp
                 with_reducible rfl
                rotate_left
                ·simp only [Act.put, List.setIfInBounds_toArray, List.set_cons_zero, List.set_cons_succ, i64_w, i32_w]
                 rfl
                refine pure_ (i := 5) (N := some 49) (v := ?_) (a' := ?_) #[true, true, true, true, true, true, false, false, false, false, false, false, false] rfl rfl (any_of HT_.out (by kernel_rfl)) (fun _ _ _ h => h) (Or.inl ⟨by rfl, ?_⟩) ?_ ?_
                rotate_left
                ·intro w'
                 go_simp
                 with_reducible rfl
                rotate_left
                ·simp only [Act.put, List.setIfInBounds_toArray, List.set_cons_zero, List.set_cons_succ, i64_w, i32_w]
                 rfl
                refine pure_ (i := 6) (N := some 50) (v := ?_) (a' := ?_) #[true, true, true, true, true, true, true, false, false, false, false, false, false] rfl rfl (any_of HT_.out (by kernel_rfl)) (fun _ _ _ h => h) (Or.inl ⟨by rfl, ?_⟩) ?_ ?_
                rotate_left
                ·intro w'
                 go_simp
                 with_reducible rfl
                rotate_left
                ·simp only [Act.put, List.setIfInBounds_toArray, List.set_cons_zero, List.set_cons_succ, i64_w, i32_w]
                 rfl
                refine take_ (i := 7) (N := some 51) (v := ?_) (a' := ?_) #[true, true, true, true, true, true, true, true, false, false, false, false, false] rfl rfl (take_ofW HT_.out HW_.out (by kernel_rfl)) (fun _ _ _ h => h) (Or.inl ⟨by rfl, ?_⟩) hHeld ?_ ?_
                rotate_left
                ·rintro w' ⟨s0, s1, s2, s3, s4, s5, s6, s7, s8, s9, s10, s11, s12, s13, s14, s15, s16, s17, s18, s19, s20, s21, s22, s23⟩
                 go_simp
                 with_reducible rfl
                rotate_left
                ·simp only [Act.put, List.setIfInBounds_toArray, List.set_cons_zero, List.set_cons_succ, i64_w, i32_w]
                 rfl
                refine take_ (i := 8) (N := some 52) (v := ?_) (a' := ?_) #[true, true, true, true, true, true, true, true, true, false, false, false, false] rfl rfl (take_ofW HT_.out HW_.out (by kernel_rfl)) (fun _ _ _ h => h) (Or.inl ⟨by rfl, ?_⟩) hHeld ?_ ?_
                rotate_left
                ·rintro w' ⟨s0, s1, s2, s3, s4, s5, s6, s7, s8, s9, s10, s11, s12, s13, s14, s15, s16, s17, s18, s19, s20, s21, s22, s23⟩
                 go_simp
                 with_reducible rfl
                rotate_left
                ·simp only [Act.put, List.setIfInBounds_toArray, List.set_cons_zero, List.set_cons_succ, i64_w, i32_w]
                 rfl
                refine one_ (i := 9) (N := some 53) #[true, true, true, true, true, true, true, true, true, true, false, false, false] rfl rfl (one_of HT_.out (by kernel_rfl)) (by decide) (fun K hK => ?_)
                refine goes_ Tryz.func54 (by kernel_rfl) rfl #[.agg #[.string ((rd_T38 l0 (ji21)).f0), .int .i64 ((rd_T38 l0 (ji21)).f1), .int .i64 ((rd_T38 l0 (ji21)).f2.f0), .int .i64 ((rd_T38 l0 (ji21)).f2.f1), .int .i64 ((rd_T38 l0 (ji21)).f2.f2), .int .i64 ((rd_T38 l0 (ji21)).f2.f3), .int .i64 ((rd_T38 l0 (ji21)).f2.f4), .string ((rd_T38 l0 (ji21)).f2.f5), .string ((rd_T38 l0 (ji21)).f2.f6), .int .i64 ((rd_T38 l0 (ji21)).f2.f7), .int .i64 ((rd_T38 l0 (ji21)).f2.f8), .string ((rd_T38 l0 (ji21)).f2.f9)], .agg #[.string ((rd_T38 l0 x9_1).f0), .int .i64 ((rd_T38 l0 x9_1).f1), .int .i64 ((rd_T38 l0 x9_1).f2.f0), .int .i64 ((rd_T38 l0 x9_1).f2.f1), .int .i64 ((rd_T38 l0 x9_1).f2.f2), .int .i64 ((rd_T38 l0 x9_1).f2.f3), .int .i64 ((rd_T38 l0 x9_1).f2.f4), .string ((rd_T38 l0 x9_1).f2.f5), .string ((rd_T38 l0 x9_1).f2.f6), .int .i64 ((rd_T38 l0 x9_1).f2.f7), .int .i64 ((rd_T38 l0 x9_1).f2.f8), .string ((rd_T38 l0 x9_1).f2.f9)]] (by rfl) rfl rfl (by (try simp only [List.map_toArray, List.map_cons, List.map_nil]); first | done | (simp only [hji21]; rfl) | rfl | (simp only [List.length_drop, List.length_take]; rfl)) ?_
                with_reducible refine (change_Less.calls kj14 ((rd_T38 l0 (ji21)).f0) ((rd_T38 l0 (ji21)).f1) ((rd_T38 l0 (ji21)).f2.f0) ((rd_T38 l0 (ji21)).f2.f1) ((rd_T38 l0 (ji21)).f2.f2) ((rd_T38 l0 (ji21)).f2.f3) ((rd_T38 l0 (ji21)).f2.f4) ((rd_T38 l0 (ji21)).f2.f5) ((rd_T38 l0 (ji21)).f2.f6) ((rd_T38 l0 (ji21)).f2.f7) ((rd_T38 l0 (ji21)).f2.f8) ((rd_T38 l0 (ji21)).f2.f9) ((rd_T38 l0 x9_1).f0) ((rd_T38 l0 x9_1).f1) ((rd_T38 l0 x9_1).f2.f0) ((rd_T38 l0 x9_1).f2.f1) ((rd_T38 l0 x9_1).f2.f2) ((rd_T38 l0 x9_1).f2.f3) ((rd_T38 l0 x9_1).f2.f4) ((rd_T38 l0 x9_1).f2.f5) ((rd_T38 l0 x9_1).f2.f6) ((rd_T38 l0 x9_1).f2.f7) ((rd_T38 l0 x9_1).f2.f8) ((rd_T38 l0 x9_1).f2.f9) false _ (hG.ext (by repeat (first | (with_reducible first | exact HB.out | apply below_alloc | apply pw_below_drewN | apply below_drew1 | refine below_set ?_ GE326.out) | exact HB.out))) A24.out).mono ?_
                rintro e w29 ⟨rfl, hb⟩
                refine ⟨_, rfl, ?_⟩
                have n0_ := Aside0.mk (blk_below (g := gb326) (o := .cells #[.string ((rd_T38 l0 x9_1).f0), .int .i64 ((rd_T38 l0 x9_1).f1), .int .i64 ((rd_T38 l0 x9_1).f2.f0), .int .i64 ((rd_T38 l0 x9_1).f2.f1), .int .i64 ((rd_T38 l0 x9_1).f2.f2), .int .i64 ((rd_T38 l0 x9_1).f2.f3), .int .i64 ((rd_T38 l0 x9_1).f2.f4), .string ((rd_T38 l0 x9_1).f2.f5), .string ((rd_T38 l0 x9_1).f2.f6), .int .i64 ((rd_T38 l0 x9_1).f2.f7), .int .i64 ((rd_T38 l0 x9_1).f2.f8), .string ((rd_T38 l0 x9_1).f2.f9)] 38 (0, 0)) (by (with_reducible repeat (first | refine blk_drewN ?_ _ | refine blk_drew ?_ | refine blk_alloc ?_ _)); exact BK326.out) hb)
                have n1_ := Aside0.mk (below_step (by repeat (first | (with_reducible first | exact HB.out | apply below_alloc | apply pw_below_drewN | apply below_drew1 | refine below_set ?_ GE326.out) | exact HB.out)) hb)
                clear BK326
                clear HB
                have BK326 := n0_
                have HB := n1_
                clear n0_ n1_
                (try clear hb)
                (try clear hb2)
                (try clear hk)
                (try clear hi)
                refine hK.out _ _ ⟨(blk_cell BK326.out 0).trans rfl, (blk_cell BK326.out 1).trans rfl, (blk_cell BK326.out 2).trans rfl, (blk_cell BK326.out 3).trans rfl, (blk_cell BK326.out 4).trans rfl, (blk_cell BK326.out 5).trans rfl, (blk_cell BK326.out 6).trans rfl, (blk_cell BK326.out 7).trans rfl, (blk_cell BK326.out 8).trans rfl, (blk_cell BK326.out 9).trans rfl, (blk_cell BK326.out 10).trans rfl, (blk_cell BK326.out 11).trans rfl, ((HB.out.cell (World.block_lt_of_cell? w _ hw330_0)).trans hw330_0), ((HB.out.cell (World.block_lt_of_cell? w _ hw330_1)).trans hw330_1), ((HB.out.cell (World.block_lt_of_cell? w _ hw330_2)).trans hw330_2), ((HB.out.cell (World.block_lt_of_cell? w _ hw330_3)).trans hw330_3), ((HB.out.cell (World.block_lt_of_cell? w _ hw330_4)).trans hw330_4), ((HB.out.cell (World.block_lt_of_cell? w _ hw330_5)).trans hw330_5), ((HB.out.cell (World.block_lt_of_cell? w _ hw330_6)).trans hw330_6), ((HB.out.cell (World.block_lt_of_cell? w _ hw330_7)).trans hw330_7), ((HB.out.cell (World.block_lt_of_cell? w _ hw330_8)).trans hw330_8), ((HB.out.cell (World.block_lt_of_cell? w _ hw330_9)).trans hw330_9), ((HB.out.cell (World.block_lt_of_cell? w _ hw330_10)).trans hw330_10), ((HB.out.cell (World.block_lt_of_cell? w _ hw330_11)).trans hw330_11)⟩ (fun hHeld => ?_)
                clear hK K
                refine norm_ (a' := ?_) ?_ ?_
                rotate_left
                ·show Act.put _ (some 53) _ = _
                 simp only [Act.put, List.setIfInBounds_toArray, List.set_cons_zero, List.set_cons_succ, i64_w, i32_w]
                 rfl
                refine pure_ (i := 10) (N := some 54) (v := ?_) (a' := ?_) #[true, true, true, true, true, true, true, true, true, true, true, false, false] rfl rfl (any_of HT_.out (by kernel_rfl)) (fun _ _ _ h => h) (Or.inl ⟨by rfl, ?_⟩) ?_ ?_
                rotate_left
                ·intro w'
                 go_simp
                 with_reducible rfl
                rotate_left
                ·simp only [Act.put, List.setIfInBounds_toArray, List.set_cons_zero, List.set_cons_succ, i64_w, i32_w]
                 rfl
                refine pure_ (i := 11) (N := some 55) (v := ?_) (a' := ?_) #[true, true, true, true, true, true, true, true, true, true, true, true, false] rfl rfl (any_of HT_.out (by kernel_rfl)) (fun _ _ _ h => h) (Or.inl ⟨by rfl, ?_⟩) ?_ ?_
                rotate_left
                ·intro w'
                 go_simp
                 with_reducible rfl
                rotate_left
                ·simp only [Act.put, List.setIfInBounds_toArray, List.set_cons_zero, List.set_cons_succ, i64_w, i32_w]
                 rfl
                refine pure_ (i := 12) (N := some 43) (v := ?_) (a' := ?_) #[true, true, true, true, true, true, true, true, true, true, true, true, true] rfl rfl (any_of HT_.out (by kernel_rfl)) (fun _ _ _ h => h) (Or.inl ⟨by rfl, ?_⟩) ?_ ?_
                rotate_left
                ·intro w'
                 go_simp
                 with_reducible rfl
                rotate_left
                ·simp only [Act.put, List.setIfInBounds_toArray, List.set_cons_zero, List.set_cons_succ, i64_w, i32_w]
                 rfl
                refine done_ (done_of HT_.out (by kernel_rfl)) ?_
                try go_wp2
                go_ret
                exact ⟨by first | rfl | (simp [errW_none, errW_some] <;> rfl) | (simp only [← hji21]; first | rfl | (simp [errW_none, errW_some] <;> rfl)) | (simp [*, errW_none, errW_some] <;> rfl), by repeat (first | (with_reducible first | exact HB.out | apply below_alloc | apply pw_below_drewN | apply below_drew1 | refine below_set ?_ GE326.out) | exact HB.out)⟩
              ·rw [if_neg c23] at H
               exact absurd H (by simp)
             ·rw [if_neg c22] at H
              exact absurd H (by simp)
            ·rw [if_neg c20] at H
             have c20b0 : decide (0 < x9_1) = false := decide_eq_false c20
             clear c20
             have H' := Aside0.mk H
             clear H
             try go_wp2
             have n0_ := Aside0.mk (blk_drew BK326.out)
             have n1_ := Aside0.mk (below_drew1 HB.out)
             clear BK326
             clear HB
             have BK326 := n0_
             have HB := n1_
             clear n0_ n1_
             refine start_ (n := 13) (S := fun w' => True) (ds := []) #[false, false, false, false, false, false, false, false, false, false, false, false, false] (by kernel_rfl) rfl rfl trivial (fun hHeld => ?_); refine with_tabW pq15.tab9 pq15.bits9 (fun HT_ HW_ => ?_)
             generalize wc.drew = w30 at BK326 HB hHeld ⊢
             refine pure_ (i := 0) (N := some 44) (v := ?_) (a' := ?_) #[true, false, false, false, false, false, false, false, false, false, false, false, false] rfl rfl (any_of HT_.out (by kernel_rfl)) (fun _ _ _ h => h) (Or.inl ⟨by rfl, ?_⟩) ?_ ?_
             rotate_left
             ·intro w'
              go_simp
              with_reducible rfl
             rotate_left
             ·simp only [Act.put, List.setIfInBounds_toArray, List.set_cons_zero, List.set_cons_succ, i64_w, i32_w]
              rfl
             refine pure_ (i := 1) (N := some 45) (v := ?_) (a' := ?_) #[true, true, false, false, false, false, false, false, false, false, false, false, false] rfl rfl (any_of HT_.out (by kernel_rfl)) (fun _ _ _ h => h) (Or.inl ⟨by rfl, ?_⟩) ?_ ?_
             rotate_left
             ·intro w'
              go_simp
              with_reducible rfl
             rotate_left
             ·simp only [Act.put, List.setIfInBounds_toArray, List.set_cons_zero, List.set_cons_succ, i64_w, i32_w]
              rfl
             refine pure_ (i := 2) (N := some 46) (v := ?_) (a' := ?_) #[true, true, true, false, false, false, false, false, false, false, false, false, false] rfl rfl (any_of HT_.out (by kernel_rfl)) (fun _ _ _ h => h) (Or.inl ⟨by rfl, ?_⟩) ?_ ?_
             rotate_left
             ·intro w'
              go_simp
              with_reducible rfl
             rotate_left
             ·simp only [Act.put, List.setIfInBounds_toArray, List.set_cons_zero, List.set_cons_succ, i64_w, i32_w]
              rfl
             refine pure_ (i := 3) (N := some 47) (v := undef) (a' := ?_) #[true, true, true, true, false, false, false, false, false, false, false, false, false] rfl rfl (any_of HT_.out (by kernel_rfl)) (fun _ _ _ h => h) (Or.inr ⟨by rfl, rfl⟩) ?_ ?_
             rotate_left
             ·simp only [Act.put, List.setIfInBounds_toArray, List.set_cons_zero, List.set_cons_succ, i64_w, i32_w]
              rfl
             refine pure_ (i := 4) (N := some 48) (v := undef) (a' := ?_) #[true, true, true, true, true, false, false, false, false, false, false, false, false] rfl rfl (any_of HT_.out (by kernel_rfl)) (fun _ _ _ h => h) (Or.inr ⟨by rfl, rfl⟩) ?_ ?_
             rotate_left
             ·simp only [Act.put, List.setIfInBounds_toArray, List.set_cons_zero, List.set_cons_succ, i64_w, i32_w]
              rfl
             refine pure_ (i := 5) (N := some 49) (v := undef) (a' := ?_) #[true, true, true, true, true, true, false, false, false, false, false, false, false] rfl rfl (any_of HT_.out (by kernel_rfl)) (fun _ _ _ h => h) (Or.inr ⟨by rfl, rfl⟩) ?_ ?_
             rotate_left
             ·simp only [Act.put, List.setIfInBounds_toArray, List.set_cons_zero, List.set_cons_succ, i64_w, i32_w]
              rfl
             refine pure_ (i := 6) (N := some 50) (v := undef) (a' := ?_) #[true, true, true, true, true, true, true, false, false, false, false, false, false] rfl rfl (any_of HT_.out (by kernel_rfl)) (fun _ _ _ h => h) (Or.inr ⟨by rfl, rfl⟩) ?_ ?_
             rotate_left
             ·simp only [Act.put, List.setIfInBounds_toArray, List.set_cons_zero, List.set_cons_succ, i64_w, i32_w]
              rfl
             refine pure_ (i := 7) (N := some 51) (v := undef) (a' := ?_) #[true, true, true, true, true, true, true, true, false, false, false, false, false] rfl rfl (any_of HT_.out (by kernel_rfl)) (fun _ _ _ h => h) (Or.inr ⟨by rfl, rfl⟩) ?_ ?_
             rotate_left
             ·simp only [Act.put, List.setIfInBounds_toArray, List.set_cons_zero, List.set_cons_succ, i64_w, i32_w]
              rfl
             refine pure_ (i := 8) (N := some 52) (v := undef) (a' := ?_) #[true, true, true, true, true, true, true, true, true, false, false, false, false] rfl rfl (any_of HT_.out (by kernel_rfl)) (fun _ _ _ h => h) (Or.inr ⟨by rfl, rfl⟩) ?_ ?_
             rotate_left
             ·simp only [Act.put, List.setIfInBounds_toArray, List.set_cons_zero, List.set_cons_succ, i64_w, i32_w]
              rfl
             refine pure_ (i := 9) (N := some 53) (v := undef) (a' := ?_) #[true, true, true, true, true, true, true, true, true, true, false, false, false] rfl rfl (any_of HT_.out (by kernel_rfl)) (fun _ _ _ h => h) (Or.inr ⟨by rfl, rfl⟩) ?_ ?_
             rotate_left
             ·simp only [Act.put, List.setIfInBounds_toArray, List.set_cons_zero, List.set_cons_succ, i64_w, i32_w]
              rfl
             refine pure_ (i := 10) (N := some 54) (v := undef) (a' := ?_) #[true, true, true, true, true, true, true, true, true, true, true, false, false] rfl rfl (any_of HT_.out (by kernel_rfl)) (fun _ _ _ h => h) (Or.inr ⟨by rfl, rfl⟩) ?_ ?_
             rotate_left
             ·simp only [Act.put, List.setIfInBounds_toArray, List.set_cons_zero, List.set_cons_succ, i64_w, i32_w]
              rfl
             refine pure_ (i := 11) (N := some 55) (v := ?_) (a' := ?_) #[true, true, true, true, true, true, true, true, true, true, true, true, false] rfl rfl (any_of HT_.out (by kernel_rfl)) (fun _ _ _ h => h) (Or.inl ⟨by rfl, ?_⟩) ?_ ?_
             rotate_left
             ·intro w'
              go_simp
              with_reducible rfl
             rotate_left
             ·simp only [Act.put, List.setIfInBounds_toArray, List.set_cons_zero, List.set_cons_succ, i64_w, i32_w]
              rfl
             refine pure_ (i := 12) (N := some 43) (v := ?_) (a' := ?_) #[true, true, true, true, true, true, true, true, true, true, true, true, true] rfl rfl (any_of HT_.out (by kernel_rfl)) (fun _ _ _ h => h) (Or.inl ⟨by rfl, ?_⟩) ?_ ?_
             rotate_left
             ·intro w'
              go_simp
              with_reducible rfl
             rotate_left
             ·simp only [Act.put, List.setIfInBounds_toArray, List.set_cons_zero, List.set_cons_succ, i64_w, i32_w]
              rfl
             refine done_ (done_of HT_.out (by kernel_rfl)) ?_
             try go_wp2
             go_roundg kj14
             case measure => have := HK1.out; have := HJ5.out; have := HJ14.out; omega
             case rel => exact ⟨(wrap64 (x9_1 + 1)), (by first | rfl | (simp; done) | (simp [*]; done)), H', ⟨by have := HK1.out; have := HJ5.out; have := HJ14.out; omega⟩, ⟨by repeat (first | (with_reducible first | exact HB.out | apply below_alloc | apply pw_below_drewN | apply below_drew1 | refine below_set ?_ GE326.out) | exact HB.out)⟩⟩
     ·rw [if_neg c4] at H
      exact absurd H (by simp)
    ·rw [if_neg c3] at H
     exact absurd H (by simp)
   ·rw [if_neg c2] at H
    have c2b0 : decide (x9_1 < (l0.length : Int)) = false := decide_eq_false c2
    clear c2
    obtain rfl := Option.some.inj H
    go_wp2
    go_ret
    exact ⟨by first | rfl | (simp [errW_none, errW_some] <;> rfl) | (simp [*, errW_none, errW_some] <;> rfl), by repeat (first | (with_reducible first | exact HB.out | apply below_alloc | apply pw_below_drewN | apply below_drew1) | exact HB.out)⟩
end Go.Proofs.YtdkjinmkallhnaaGreatDoorQ
end
section
namespace Go.Proofs.YtdkjinmkallhnaaGreatDoorQ
open Go.RowKit Go.Proofs.YtdkjinmkallhnaaGreatDoor Go.Proofs.YtdkjinmkallhnaaGreatDoorW.PrintWords Go.Proofs.YtdkjinmkallhnaaGreatDoorW.PrintLast Go.Proofs.YtdkjinmkallhnaaGreatDoorW.PrintMore
open Go.Proofs.YtdkjinmkallhnaaGreatDoorT (partM markedM markM opqM isM parM lastM underM markF unmarkF wouldM tarM belowM Ch Row Lyr rightC keyM lessM plainM)
structure Nd where
  kind : Int
  mode : Int
  uid : Int
  gid : Int
  mtime : Int
  link : Str
  data : Str
  major : Int
  minor : Int
  attrs : Str
  deriving DecidableEq
def ndOf (x : S26) : Nd := ⟨x.f0, x.f1, x.f2, x.f3, x.f4, x.f5.data.toList, x.f6.data.toList, x.f7, x.f8, x.f9.data.toList⟩
def ofNd (n : Nd) : S26 := ⟨n.kind, n.mode, n.uid, n.gid, n.mtime, B n.link, B n.data, n.major, n.minor, B n.attrs⟩
def enOf (x : S40) : Str × Nd := (x.f0.data.toList, ndOf x.f1)
def ofEn (e : Str × Nd) : S40 := ⟨B e.1, ofNd e.2⟩
theorem enOf_ofEn (e : Str × Nd) : enOf (ofEn e) = e := rfl
def chOf (x : S38) : Ch Str Nd := ⟨x.f0.data.toList, x.f1, ndOf x.f2⟩
def ofCh (c : Ch Str Nd) : S38 := ⟨B c.path, c.op, ofNd c.node⟩
theorem chOf_ofCh (c : Ch Str Nd) : chOf (ofCh c) = c := rfl
theorem ens_back (l : List (Str × Nd)) : (l.map ofEn).map enOf = l := by rw [List.map_map]; exact (List.map_congr_left (fun x _ => enOf_ofEn x)).trans (List.map_id _)
theorem chs_back (l : List (Ch Str Nd)) : (l.map ofCh).map chOf = l := by rw [List.map_map]; exact (List.map_congr_left (fun x _ => chOf_ofCh x)).trans (List.map_id _)
def strangeM (s : Str) : Bool := decide (4096 < s.length) || s.contains 0
def numberM (n : Int) : Bool := decide (0 ≤ n) && decide (n ≤ 4611686018427387904)
def deviceM (n : Int) : Bool := decide (0 ≤ n) && decide (n < 72057594037927936)
def nodeOk (n : Nd) : Bool :=
  decide (0 ≤ n.kind) && decide (n.kind < 7) && decide (Go.bits .andNot .i64 n.mode 4095 = 0) && numberM n.uid && numberM n.gid && numberM n.mtime && !strangeM n.link && deviceM n.major && deviceM n.minor && attrsOk n.attrs &&
  (decide (n.kind = 2) || decide (n.kind = 3) || n.link.isEmpty) && (decide (n.kind = 4) || decide (n.kind = 5) || decide (n.major = 0) && decide (n.minor = 0)) && (decide (n.kind = 0) || n.data.isEmpty)
def rtM (s : Str) (n : Nd) : Int := if s.isEmpty || strangeM s then 9 else if nodeOk n then 0 else 1
def zeroN : Nd := ⟨0, 0, 0, 0, 0, [], [], 0, 0, []⟩
theorem strange_is {s : Str} (h : isM s = true) : (s.isEmpty || strangeM s) = false := by
  have hi := YtdkjinmkallhnaaGreatDoorT.isM_iff.1 h
  have hne := YtdkjinmkallhnaaGreatDoorT.is_ne h
  have h0 : (0 : UInt8) ∉ s := by
    intro hm
    have hj := YtdkjinmkallhnaaGreatDoorT.join_cut s
    have : ∀ l : List Str, (∀ x ∈ l, (0 : UInt8) ∉ x) → (0 : UInt8) ∉ YtdkjinmkallhnaaGreatDoorT.joinM l := by
      intro l
      induction l with
      | nil => intro _; simp [YtdkjinmkallhnaaGreatDoorT.joinM]
      | cons x r ih =>
        intro hx
        cases r with
        | nil => exact hx x (by simp)
        | cons y r =>
          rw [YtdkjinmkallhnaaGreatDoorT.joinM_cons _ (by simp)]
          intro hm
          rcases List.mem_append.1 hm with h | h
          · exact hx x (by simp) h
          · rcases List.mem_cons.1 h with h | h
            · exact absurd h (by decide)
            · exact ih (fun z hz => hx z (List.mem_cons_of_mem _ hz)) h
    refine this (YtdkjinmkallhnaaGreatDoorT.cutM s) (fun x hx => ?_) (by rw [hj]; exact hm)
    have := hi.part x hx
    unfold partM at this
    simp only [Bool.and_eq_true, Bool.not_eq_true'] at this
    simpa using this.2
  have hl : s.length ≤ 4096 := by have := hi.all; revert this; split <;> omega
  unfold strangeM
  have e1 : s.isEmpty = false := by cases s with | nil => exact absurd rfl hne | cons _ _ => rfl
  have e2 : s.contains 0 = false := by simpa using h0
  rw [e1, e2]
  simp; omega
theorem zero_ok : nodeOk zeroN = true := by decide
theorem rt_zeroN (s : Str) (h : isM s = true) : rtM s zeroN = 0 := by
  unfold rtM
  rw [strange_is h, zero_ok]; rfl
def Y : YtdkjinmkallhnaaGreatDoorT.Sys Nd := ⟨fun n => decide (n.kind = 1), rtM, zeroN, rt_zeroN⟩
end Go.Proofs.YtdkjinmkallhnaaGreatDoorQ
end
section
namespace Go.Proofs.YtdkjinmkallhnaaGreatDoorQ
open Go.RowKit Go.Proofs.YtdkjinmkallhnaaGreatDoor Go.Proofs.YtdkjinmkallhnaaGreatDoorW.PrintWords Go.Proofs.YtdkjinmkallhnaaGreatDoorW.PrintLast Go.Proofs.YtdkjinmkallhnaaGreatDoorW.PrintMore
open Go.Proofs.YtdkjinmkallhnaaGreatDoorT (partM markedM markM opqM isM parM lastM underM markF unmarkF wouldM tarM belowM Ch Row Lyr rightC keyM lessM plainM)
theorem lay_l (b : Nat) (hb : b ≤ 8) : ∀ (d k : Nat) (x : Int) (out : List Int) (i : Nat), i + d = 7 → out.length = 7 → d < k →
    ∃ out', octal_lay.l0 k x (b : Int) 7 out 7 (i : Int) = some (out', decide (x / 2 ^ (b * d) = 0)) ∧ out'.length = 7 := by
  intro d
  induction d with
  | zero =>
    intro k x out i hi ho hk
    obtain ⟨k, rfl⟩ : ∃ m, k = m + 1 := ⟨k - 1, by omega⟩
    refine ⟨out, ?_, ho⟩
    simp only [octal_lay.l0]
    rw [if_neg (by omega)]
    congr 2
    rw [Nat.mul_zero, Int.pow_zero, Int.ediv_one]
    rfl
  | succ d ih =>
    intro k x out i hi ho hk
    obtain ⟨k, rfl⟩ : ∃ m, k = m + 1 := ⟨k - 1, by omega⟩
    simp only [octal_lay.l0]
    have w1 : wrap64 (wrap64 (7 - 1) - (i : Int)) = 6 - i := by rw [show wrap64 (7 - 1) = 6 from by unfold wrap64; rfl]; exact wrap_in (by omega) (by omega)
    have w2 : wrap64 ((i : Int) + 1) = ((i + 1 : Nat) : Int) := by rw [wrap_in (by omega) (by omega)]; omega
    rw [if_pos (by omega), if_pos (by omega), w1, if_pos (by omega), if_pos (by omega), w2]
    have hs : shr .i64 x (b : Int) = x / 2 ^ b := by
      unfold shr
      rw [show ((b : Nat) : Int).toNat = b from by omega, Nat.min_eq_left (by show b ≤ 64; omega)]
    rw [hs]
    obtain ⟨out', h1, h2⟩ := ih k (x / 2 ^ b) (out.set ((6 - (i : Int)) : Int).toNat ((Go.bits .and .i64 x (wrap64 ((shl .i64 1 (b : Int)) - 1))) % 256)) (i + 1) (by omega) (by rw [List.length_set]; exact ho) (by omega)
    refine ⟨out', ?_, h2⟩
    rw [h1, Int.ediv_ediv_of_nonneg (Int.pow_nonneg (by decide)), ← Int.pow_add, show b + b * d = b * (d + 1) from by rw [Nat.mul_succ]; omega]
theorem lay_f (n : Int) (b : Nat) (hb : b ≤ 8) (k : Nat) (hk : 8 < k) : ∃ out, octal_lay.f k n (b : Int) 7 = some (out, decide (n / 2 ^ (b * 7) = 0)) ∧ out.length = 7 := by
  unfold octal_lay.f
  rw [if_pos (by decide), if_pos (by decide)]
  obtain ⟨out, h1, h2⟩ := lay_l b hb 7 k n (List.replicate (7 : Int).toNat 0) 0 rfl (by simp) (by omega)
  exact ⟨out, h1, h2⟩
theorem write_l : ∀ (d k : Nat) (x : List Int) (i : Nat), i + d = x.length → x.length < 1000 → d < k → ∃ out, octal_Write.l0 k x (x.length : Int) (i : Int) = some (out, true) := by
  intro d
  induction d with
  | zero =>
    intro k x i hi hx hk
    obtain ⟨k, rfl⟩ : ∃ m, k = m + 1 := ⟨k - 1, by omega⟩
    simp only [octal_Write.l0]
    rw [if_neg (by omega), if_pos (by omega)]
    exact ⟨_, rfl⟩
  | succ d ih =>
    intro k x i hi hx hk
    obtain ⟨k, rfl⟩ : ∃ m, k = m + 1 := ⟨k - 1, by omega⟩
    simp only [octal_Write.l0]
    have w2 : wrap64 ((i : Int) + 1) = ((i + 1 : Nat) : Int) := by rw [wrap_in (by omega) (by omega)]; omega
    rw [if_pos (by omega), if_pos (by omega), if_pos (by omega), w2]
    have := ih k (x.set ((i : Nat) : Int).toNat ((rd x i + 48) % 256)) (i + 1) (by rw [List.length_set]; omega) (by rw [List.length_set]; omega) (by omega)
    rw [List.length_set] at this
    exact this
theorem device_f (n : Int) (k : Nat) (hk : 20 < k) : mktar_device.f k n = some (deviceM n) := by
  obtain ⟨k, rfl⟩ : ∃ m, k = m + 1 := ⟨k - 1, by omega⟩
  unfold mktar_device.f octal_Write.f deviceM
  by_cases h1 : n < 0
  · rw [if_pos h1]
    simp only [octal_Write.j0, if_true, Option.bind_some]
    simp; omega
  · rw [if_neg h1]
    by_cases h2 : n > 4611686018427387904
    · rw [if_pos h2]
      simp only [octal_Write.j0, if_true, Option.bind_some]
      simp; omega
    · rw [if_neg h2, if_neg (by decide)]
      simp only [octal_Write.j0]
      rw [if_neg (by decide), show wrap64 (8 - 1) = 7 from by unfold wrap64; rfl]
      obtain ⟨o1, e1, l1⟩ := lay_f n 3 (by decide) k (by omega)
      rw [show ((3 : Nat) : Int) = 3 from rfl] at e1
      rw [e1]
      simp only [Option.bind_some]
      by_cases h3 : n / 2 ^ (3 * 7) = 0
      · rw [if_pos (decide_eq_true h3)]
        obtain ⟨o2, e2⟩ := write_l o1.length k o1 0 (by omega) (by omega) (by omega)
        rw [show ((0 : Nat) : Int) = 0 from rfl] at e2
        rw [e2]
        simp only [Option.bind_some, Option.some.injEq]
        have : (2 : Int) ^ (3 * 7) = 2097152 := by decide
        rw [this] at h3
        simp; omega
      · rw [if_neg (by simpa using h3)]
        obtain ⟨o2, e2, l2⟩ := lay_f n 8 (by decide) k (by omega)
        rw [show ((8 : Nat) : Int) = 8 from rfl] at e2
        rw [e2]
        simp only [Option.bind_some]
        have h8 : (2 : Int) ^ (8 * 7) = 72057594037927936 := by decide
        rw [h8]
        by_cases h4 : n / 72057594037927936 = 0
        · rw [if_pos (decide_eq_true h4), if_pos (by simp; omega)]
          simp only [Option.bind_some, Option.some.injEq]
          simp; omega
        · rw [if_neg (by simpa using h4)]
          simp only [Option.bind_some, Option.some.injEq]
          simp; omega
theorem strange_f (s : Str) : mktar_strange.f (B s) = some (strangeM s) := by
  have h0 := ib_f s 0
  rw [show ((0 : UInt8).toNat : Int) = 0 from rfl] at h0
  unfold mktar_strange.f strangeM
  rw [B_size]
  by_cases h : s.length > 4096
  · rw [if_pos (by omega)]; simp [h]
  · rw [if_neg (by omega), h0]
    simp only [Option.bind_some, Option.some.injEq]
    rw [ib_neg]
    have : decide (4096 < s.length) = false := by simpa using h
    rw [this]; rfl
theorem number_f (n : Int) : mktar_number.f n = some (numberM n) := by
  unfold mktar_number.f numberM
  by_cases h : n ≥ 0
  · rw [if_pos h]; simp; omega
  · rw [if_neg h]; simp; omega
theorem attrs_f (s : Str) (h : s.length ≤ 10000000) : mktar_attrs.f (B s) = some (attrsOk s) := by
  unfold mktar_attrs.f; rw [if_pos (by rw [B_size]; exact h)]
theorem right_j4 (k : Nat) (ok dev : Bool) (kind mode uid gid mtime : Int) (link data : ByteArray) (d : Str) (hd : data = B d) (major minor : Int) (attrs : ByteArray) :
    pq16.j4 (k + 1) ok dev kind mode uid gid mtime link data major minor attrs = some (if ok && (dev || decide (major = 0) && decide (minor = 0)) && (decide (kind = 0) || d.isEmpty) then 0 else 1) := by
  subst hd
  simp only [pq16.j4, toList_B]
  have hd : d = [] ↔ d.isEmpty = true := by cases d <;> simp
  simp only [hd]
  cases ok <;> cases dev <;> by_cases h1 : kind = 0 <;> by_cases h2 : major = 0 <;> by_cases h3 : minor = 0 <;> cases h4 : d.isEmpty <;> simp [*]
theorem right_j3 (k : Nat) (ok : Bool) (kind mode uid gid mtime : Int) (link data : ByteArray) (d : Str) (hd : data = B d) (major minor : Int) (attrs : ByteArray) :
    pq16.j3 (k + 2) ok kind mode uid gid mtime link data major minor attrs = some (if ok && (decide (kind = 4) || decide (kind = 5) || decide (major = 0) && decide (minor = 0)) && (decide (kind = 0) || d.isEmpty) then 0 else 1) := by
  simp only [pq16.j3]
  by_cases h : kind = 4
  · rw [if_pos h, right_j4 _ _ _ _ _ _ _ _ _ _ d hd]; simp [h]
  · rw [if_neg h, right_j4 _ _ _ _ _ _ _ _ _ _ d hd]
    have : decide (kind = 4) = false := by simpa using h
    rw [this]; simp
theorem right_j2 (k : Nat) (ok : Bool) (kind mode uid gid mtime : Int) (link data : ByteArray) (l d : Str) (hl : link = B l) (hd : data = B d) (major minor : Int) (attrs : ByteArray) :
    pq16.j2 (k + 3) ok kind mode uid gid mtime link data major minor attrs = some (if ok && (decide (kind = 2) || decide (kind = 3) || l.isEmpty) && (decide (kind = 4) || decide (kind = 5) || decide (major = 0) && decide (minor = 0)) && (decide (kind = 0) || d.isEmpty) then 0 else 1) := by
  subst hl
  simp only [pq16.j2, toList_B]
  by_cases h2 : kind = 2
  · rw [if_pos h2, right_j3 _ _ _ _ _ _ _ _ _ d hd]; simp [h2]
  · rw [if_neg h2]
    by_cases h3 : kind = 3
    · rw [if_pos h3, right_j3 _ _ _ _ _ _ _ _ _ d hd]; simp [h3]
    · rw [if_neg h3]
      have e1 : decide (kind = 2) = false := by simpa using h2
      have e2 : decide (kind = 3) = false := by simpa using h3
      rw [e1, e2]
      cases ok with
      | true =>
        rw [if_pos rfl, right_j3 _ _ _ _ _ _ _ _ _ d hd]
        have : (l == ([] : Str)) = l.isEmpty := by cases l <;> rfl
        simp only [this, Bool.false_or, Bool.true_and]
      | false =>
        rw [if_neg (by decide), right_j3 _ _ _ _ _ _ _ _ _ d hd]; simp
theorem right_j1 (k : Nat) (hk : 40 < k) (ok : Bool) (n : Nd) (ha : n.attrs.length ≤ 10000000) :
    pq16.j1 k ok n.kind n.mode n.uid n.gid n.mtime (B n.link) (B n.data) n.major n.minor (B n.attrs) = some (if ok && (!strangeM n.link && deviceM n.major && deviceM n.minor && attrsOk n.attrs) && (decide (n.kind = 2) || decide (n.kind = 3) || n.link.isEmpty) && (decide (n.kind = 4) || decide (n.kind = 5) || decide (n.major = 0) && decide (n.minor = 0)) && (decide (n.kind = 0) || n.data.isEmpty) then 0 else 1) := by
  obtain ⟨k, rfl⟩ : ∃ m, k = m + 4 := ⟨k - 4, by omega⟩
  simp only [pq16.j1]
  cases ok with
  | false => rw [if_neg (by decide), right_j2 _ _ _ _ _ _ _ _ _ n.link n.data rfl rfl]; simp
  | true =>
    rw [if_pos rfl, strange_f]
    simp only [Option.bind_some]
    cases h1 : strangeM n.link with
    | true => rw [if_pos rfl, right_j2 _ _ _ _ _ _ _ _ _ n.link n.data rfl rfl]; simp
    | false =>
      rw [if_neg (by decide), device_f _ _ (by omega)]
      simp only [Option.bind_some]
      cases h2 : deviceM n.major with
      | false => rw [if_neg (by decide), right_j2 _ _ _ _ _ _ _ _ _ n.link n.data rfl rfl]; simp
      | true =>
        rw [if_pos rfl, device_f _ _ (by omega)]
        simp only [Option.bind_some]
        cases h3 : deviceM n.minor with
        | false => rw [if_neg (by decide), right_j2 _ _ _ _ _ _ _ _ _ n.link n.data rfl rfl]; simp
        | true =>
          rw [if_pos rfl, attrs_f _ ha]
          simp only [Option.bind_some]
          rw [right_j2 _ _ _ _ _ _ _ _ _ n.link n.data rfl rfl]; simp
theorem right_f (s : Str) (n : Nd) (ha : n.attrs.length ≤ 10000000) (k : Nat) (hk : 50 < k) :
    pq16.f k (B s) n.kind n.mode n.uid n.gid n.mtime (B n.link) (B n.data) n.major n.minor (B n.attrs) = some (rtM s n) := by
  obtain ⟨k, rfl⟩ : ∃ m, k = m + 1 := ⟨k - 1, by omega⟩
  have hj0 : ∀ bad : Bool, pq16.j0 (k + 1) bad n.kind n.mode n.uid n.gid n.mtime (B n.link) (B n.data) n.major n.minor (B n.attrs) = some (if bad then 9 else if nodeOk n then 0 else 1) := by
    intro bad
    simp only [pq16.j0]
    cases bad with
    | true => rfl
    | false =>
      rw [if_neg (by decide)]
      have hj1 := fun ok => right_j1 k (by omega) ok n ha
      unfold nodeOk
      by_cases h1 : n.kind ≥ 0
      · rw [if_pos h1]
        by_cases h2 : n.kind < 7
        · rw [if_pos h2]
          by_cases h3 : Go.bits .andNot .i64 n.mode 4095 = 0
          · rw [if_pos h3, number_f]
            simp only [Option.bind_some]
            have e1 : decide (0 ≤ n.kind) = true := decide_eq_true h1
            have e2 : decide (n.kind < 7) = true := decide_eq_true h2
            have e3 : decide (Go.bits .andNot .i64 n.mode 4095 = 0) = true := decide_eq_true h3
            rw [e1, e2, e3]
            cases h4 : numberM n.uid with
            | false => rw [if_neg (by decide), hj1]; simp
            | true =>
              rw [if_pos rfl, number_f]
              simp only [Option.bind_some]
              cases h5 : numberM n.gid with
              | false => rw [if_neg (by decide), hj1]; simp
              | true =>
                rw [if_pos rfl, number_f]
                simp only [Option.bind_some]
                rw [hj1]
                simp [Bool.and_assoc]
          · rw [if_neg h3, hj1]
            have e3 : decide (Go.bits .andNot .i64 n.mode 4095 = 0) = false := decide_eq_false h3
            rw [e3]; simp
        · rw [if_neg h2, hj1]
          have e2 : decide (n.kind < 7) = false := decide_eq_false h2
          rw [e2]; simp
      · rw [if_neg h1, hj1]
        have e1 : decide (0 ≤ n.kind) = false := decide_eq_false h1
        rw [e1]; simp
  unfold pq16.f rtM
  rw [toList_B]
  by_cases h0 : s = []
  · subst h0
    rw [if_pos rfl, hj0]; rfl
  · rw [if_neg h0, strange_f]
    simp only [Option.bind_some]
    rw [hj0]
    have : s.isEmpty = false := by cases s with | nil => exact absurd rfl h0 | cons _ _ => rfl
    rw [this]; rfl
theorem plain_f (s : Str) (n : Nd) (hs : s.length ≤ 1000000000) (ha : n.attrs.length ≤ 10000000) (k : Nat) (hk : s.length + 60 < k) :
    tree_plain.f k (B s) n.kind n.mode n.uid n.gid n.mtime (B n.link) (B n.data) n.major n.minor (B n.attrs) = some (plainM Y (s, n)) := by
  unfold tree_plain.f plainM
  rw [mark_f s (by omega) k (by omega)]
  simp only [Option.bind_some]
  unfold markR
  cases h : markF s with
  | none => simp
  | some q =>
    obtain ⟨o, p⟩ := q
    simp only [if_true]
    by_cases ho : o = 0
    · subst ho
      have hp := (YtdkjinmkallhnaaGreatDoorT.mark_put h).1
      subst hp
      rw [if_pos rfl, right_f s n ha k (by omega)]
      simp only [Option.bind_some, Option.some.injEq]
      show (rtM s n == 0) = _
      simp only [decide_true, Bool.true_and]
      rfl
    · rw [if_neg ho]
      have : decide (some (o, p) = some (0, s)) = false := by simp [ho]
      rw [this]; rfl
end Go.Proofs.YtdkjinmkallhnaaGreatDoorQ
end
section
namespace Go.Proofs.YtdkjinmkallhnaaGreatDoorQ
open Go.RowKit Go.WideMaps Go.Maps Go.Proofs.YtdkjinmkallhnaaGreatDoor Go.Proofs.YtdkjinmkallhnaaGreatDoorW.PrintWords Go.Proofs.YtdkjinmkallhnaaGreatDoorW.PrintLast Go.Proofs.YtdkjinmkallhnaaGreatDoorW.PrintMore
theorem wpList_insert_own {H : Type} {P : Program} (w : World) {ops : Array Oper} {rest : List Oper} {o : Oper} {a : Act} {Q : Exit → Act → World → Prop}
    (hg : o.guard = none) (m x v : Operand) (t : TypeId) (hop : o.op = Op.insert t m x v)
    (k e : TypeId) (K : Keyed P k) (ht : P.underlying t = some (.map k e)) (R : Value → Option (DataW H × List MemPlace)) (b n : Nat) (D : DataW H)
    (hm : a.eval m = .map (some b)) (hown : w.ownsMap P k R b n D) (hn : n < maxLen) (key val : Value) (kl : Lit) (hx : a.eval x = key) (hv : a.eval v = val) (hkey : keyOf P k key = some kl)
    (d : DataW H) (ps : List MemPlace) (hval : R val = some (d, ps))
    (hK : ∀ w', w'.ownsMap P k R b (n + 1) (D.put kl d) → w.grownBy w' (some b) → wpList P ops Q rest (a.put o.dst undef) w') :
    wpList P ops Q (o :: rest) a w := by
  refine wpList_plain hg fun K' hK' => ?_
  obtain ⟨w', hrun, r1, r2⟩ := hown.update K ht hn hkey hval
  unfold Oper.wp
  simp [execOp, hop, hm, hx, hv, hrun, Result.andThen]
  exact hK' _ _ (hK w' r1 r2)
theorem wpList_cnt_in {P : Program} (hP : P = Tryz.prog) {w : World} {ops : Array Oper} {rest : List Oper} {o : Oper} {a : Act} {Q : Exit → Act → World → Prop}
    (hg : o.guard = none) (m x v : Operand) (hop : o.op = Op.insert 55 m x v) (b n : Nat) (f : Str → Nat) (hm : a.eval m = .map (some b)) (hown : CntMap w b n f) (hn : n ≤ 1000000000)
    (s : Str) (c : Nat) (hx : a.eval x = S s) (hv : a.eval v = .int .i64 c) (hs : s.length ≤ 1000000000) (hc : c ≤ 1000000001)
    (f' : Str → Nat) (hf : ∀ key, f' key = if key == s then c else f key)
    (hK : ∀ w', CntMap w' b (n + 1) f' → w.grownBy w' (some b) → wpList P ops Q rest (a.put o.dst undef) w') :
    wpList P ops Q (o :: rest) a w := by
  subst hP
  obtain ⟨D, h1, h2, h3⟩ := hown
  refine wpList_insert_own _ hg m x v _ hop 9 3 strLaw Tryz.underlying55 _ b n D hm h1 (by unfold maxLen; omega) _ _ _ hx hv (keyStr hs) _ []
    (plainElem_int Tryz.underlying3 (wf_nat (by omega))) ?_
  intro w' h1' hg'
  refine hK w' ⟨_, h1', h2.put _ _, fun key => ?_⟩ hg'
  rw [hf key]
  by_cases hk : key = s
  · subst hk
    rw [atKey_put_same h2 (by trivial)]
    simp
  · rw [atKey_put_other (by simpa using hk), h3]
    have : (key == s) = false := by simpa using hk
    simp [this]
def enCells (e : S40) : List Value := [.string e.f0, .int .i64 e.f1.f0, .int .i64 e.f1.f1, .int .i64 e.f1.f2, .int .i64 e.f1.f3, .int .i64 e.f1.f4, .string e.f1.f5, .string e.f1.f6, .int .i64 e.f1.f7, .int .i64 e.f1.f8, .string e.f1.f9]
theorem en_at {w : World} {A : Option Addr} {xs : List S40} (h : Kd.C k40 w A xs.length xs) (i : Nat) (hi : i < xs.length) :
    ∃ ad, A = some ad ∧ LiesAt w (ad.add (i * 11)) (enCells xs[i]) := by
  obtain ⟨ad, c, e, _, hK, hc0⟩ := Kd.C_get h z40 (i : Int) (by omega) (by omega)
  have hd : xs.getD ((i : Nat) : Int).toNat z40 = xs[i] := by
    rw [show ((i : Nat) : Int).toNat = i from rfl, List.getD_eq_getElem?_getD, List.getElem?_eq_getElem hi]; rfl
  rw [hd] at hK
  obtain rfl := k40_open hK
  refine ⟨ad, e, fun j v hv => ?_⟩
  rw [Addr.add_add]
  exact hc0 j v hv
end Go.Proofs.YtdkjinmkallhnaaGreatDoorQ
end
section
namespace Go.Proofs.YtdkjinmkallhnaaGreatDoorQ
open Go.RowKit Go.WideMaps Go.Maps Go.Proofs.YtdkjinmkallhnaaGreatDoor Go.Proofs.YtdkjinmkallhnaaGreatDoorW.PrintWords Go.Proofs.YtdkjinmkallhnaaGreatDoorW.PrintLast Go.Proofs.YtdkjinmkallhnaaGreatDoorW.PrintMore
def ms (n i : Nat) : Array Bool := (List.replicate i true ++ List.replicate (n - i) false).toArray
theorem yi_agg {P : Program} {ops : Array Oper} {S : World → Prop} {op : Oper} {a : Act} (hw : Region.wanted op (yielded ops a.tmps) = true) (ty : TypeId) (x : Operand) (ho : op.op = .load ty x)
    (ad : Addr) (hx : a.eval x = .pointer (some ad)) (cs : List Value) (d : TypeDesc) (hS : ∀ w, S w → LiesAt w ad cs)
    (hu : P.underlying ty = some d) (hd : d.isRow = true) (hi : (P.info? ty).map (·.size) = some cs.length) : YieldsIf P ops S op (.agg cs.toArray) a :=
  .inl ⟨hw, fun W hw' => by
    have hl : (loadCells ad cs.length).run P W = .ok cs.toArray W := run_loadCells_list (P := P) W ad cs (hS W hw')
    have hv : (loadVar ty ad).run P W = .ok (.agg cs.toArray) W := by
      cases hq : P.info? ty with
      | none => simp [hq] at hi
      | some i =>
        have hs : i.size = cs.length := by simpa [hq] using hi
        have hagg : (isAgg ty).run P W = .ok true W := by
          unfold isAgg
          rw [Sem.run_bind, run_underlying hu W]
          cases d <;> simp_all
        simp [loadVar, Sem.run_bind, hagg, sizeOf, typeInfo, hq, hs, hl]
    unfold execOp
    simp only [ho, hx, Instr.loadAt, Instr.sureAddr, Sem.run_bind, Sem.run_pure, Result.andThen_ok, hv]⟩
end Go.Proofs.YtdkjinmkallhnaaGreatDoorQ
end
