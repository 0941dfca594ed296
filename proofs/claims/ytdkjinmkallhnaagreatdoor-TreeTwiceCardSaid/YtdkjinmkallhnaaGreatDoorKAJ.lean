/- A part of a proof of TreeTwiceCardSaid of this seat: what its walks and its laws lean on; joined by a program of this repo (wip/pack.py) out of the texts QMktarRight. -/
import Derived.Test.YtdkjinmkallhnaaGreatDoorKAB
import Derived.Test.YtdkjinmkallhnaaGreatDoorKAI
section
namespace Go.Proofs.YtdkjinmkallhnaaGreatDoorQ
open Go.RowKit Go.Proofs.YtdkjinmkallhnaaGreatDoorW.PrintWords Go.Proofs.YtdkjinmkallhnaaGreatDoorW.PrintLast Go.Proofs.YtdkjinmkallhnaaGreatDoorW.PrintMore
open Go.Proofs.YtdkjinmkallhnaaGreatDoor (GL)
attribute [local go_sem] max2_int min2_int max_two min_two max_three min_three max_four min_four
mutual
def pq16.j0 : Nat → Bool → Int → Int → Int → Int → Int → ByteArray → ByteArray → Int → Int → ByteArray → Option (Int)
 | 0, _, _, _, _, _, _, _, _, _, _, _ => none
 | k + 1, x14, x254000, x254001, x254002, x254003, x254004, x254005, x254006, x254007, x254008, x254009 => if x14 = true then (some 9) else (if x254000 ≥ 0 then (if x254000 < 7 then (if (Go.bits .andNot .i64 x254001 4095) = 0 then ((mktar_number.f x254002).bind fun t255 => (if t255 = true then ((mktar_number.f x254003).bind fun t256 => (if t256 = true then ((mktar_number.f x254004).bind fun t257 => (pq16.j1 k t257 x254000 x254001 x254002 x254003 x254004 x254005 x254006 x254007 x254008 x254009)) else (pq16.j1 k false x254000 x254001 x254002 x254003 x254004 x254005 x254006 x254007 x254008 x254009))) else (pq16.j1 k false x254000 x254001 x254002 x254003 x254004 x254005 x254006 x254007 x254008 x254009))) else (pq16.j1 k false x254000 x254001 x254002 x254003 x254004 x254005 x254006 x254007 x254008 x254009)) else (pq16.j1 k false x254000 x254001 x254002 x254003 x254004 x254005 x254006 x254007 x254008 x254009)) else (pq16.j1 k false x254000 x254001 x254002 x254003 x254004 x254005 x254006 x254007 x254008 x254009))
def pq16.j1 : Nat → Bool → Int → Int → Int → Int → Int → ByteArray → ByteArray → Int → Int → ByteArray → Option (Int)
 | 0, _, _, _, _, _, _, _, _, _, _, _ => none
 | k + 1, x4, x254000, x254001, x254002, x254003, x254004, x254005, x254006, x254007, x254008, x254009 => if x4 = true then ((mktar_strange.f x254005).bind fun t258 => (if t258 = true then (pq16.j2 k false x254000 x254001 x254002 x254003 x254004 x254005 x254006 x254007 x254008 x254009) else ((mktar_device.f k x254007).bind fun t259 => (if t259 = true then ((mktar_device.f k x254008).bind fun t260 => (if t260 = true then ((mktar_attrs.f x254009).bind fun t261 => (pq16.j2 k t261 x254000 x254001 x254002 x254003 x254004 x254005 x254006 x254007 x254008 x254009)) else (pq16.j2 k false x254000 x254001 x254002 x254003 x254004 x254005 x254006 x254007 x254008 x254009))) else (pq16.j2 k false x254000 x254001 x254002 x254003 x254004 x254005 x254006 x254007 x254008 x254009))))) else (pq16.j2 k false x254000 x254001 x254002 x254003 x254004 x254005 x254006 x254007 x254008 x254009)
def pq16.j2 : Nat → Bool → Int → Int → Int → Int → Int → ByteArray → ByteArray → Int → Int → ByteArray → Option (Int)
 | 0, _, _, _, _, _, _, _, _, _, _, _ => none
 | k + 1, x4, x254000, x254001, x254002, x254003, x254004, x254005, x254006, x254007, x254008, x254009 => if x254000 = 2 then (pq16.j3 k x4 x254000 x254001 x254002 x254003 x254004 x254005 x254006 x254007 x254008 x254009) else (if x254000 = 3 then (pq16.j3 k x4 x254000 x254001 x254002 x254003 x254004 x254005 x254006 x254007 x254008 x254009) else (if x4 = true then (pq16.j3 k (x254005.toList == ([] : List UInt8)) x254000 x254001 x254002 x254003 x254004 x254005 x254006 x254007 x254008 x254009) else (pq16.j3 k false x254000 x254001 x254002 x254003 x254004 x254005 x254006 x254007 x254008 x254009)))
def pq16.j3 : Nat → Bool → Int → Int → Int → Int → Int → ByteArray → ByteArray → Int → Int → ByteArray → Option (Int)
 | 0, _, _, _, _, _, _, _, _, _, _, _ => none
 | k + 1, x4, x254000, x254001, x254002, x254003, x254004, x254005, x254006, x254007, x254008, x254009 => if x254000 = 4 then (pq16.j4 k x4 (x254000 == 4) x254000 x254001 x254002 x254003 x254004 x254005 x254006 x254007 x254008 x254009) else (pq16.j4 k x4 (x254000 == 5) x254000 x254001 x254002 x254003 x254004 x254005 x254006 x254007 x254008 x254009)
def pq16.j4 : Nat → Bool → Bool → Int → Int → Int → Int → Int → ByteArray → ByteArray → Int → Int → ByteArray → Option (Int)
 | 0, _, _, _, _, _, _, _, _, _, _, _, _ => none
 | k + 1, x4, x90, x254000, x254001, x254002, x254003, x254004, x254005, x254006, x254007, x254008, x254009 => if x90 = true then (if x4 = true then (if x254000 = 0 then (some 0) else (if x254006.toList = ([] : List UInt8) then (some 0) else (some 1))) else (some 1)) else (if x4 = true then (if x254007 = 0 then (if x254008 = 0 then (if x254000 = 0 then (some 0) else (if x254006.toList = ([] : List UInt8) then (some 0) else (some 1))) else (some 1)) else (some 1)) else (some 1))
end
def pq16.f (k : Nat) (a0_0 : ByteArray) (a0_1 : Int) (a0_2 : Int) (a0_3 : Int) (a0_4 : Int) (a0_5 : Int) (a0_6 : ByteArray) (a0_7 : ByteArray) (a0_8 : Int) (a0_9 : Int) (a0_10 : ByteArray) : Option (Int) := if a0_0.toList = ([] : List UInt8) then (pq16.j0 k true a0_1 a0_2 a0_3 a0_4 a0_5 a0_6 a0_7 a0_8 a0_9 a0_10) else ((mktar_strange.f a0_0).bind fun t254 => (pq16.j0 k t254 a0_1 a0_2 a0_3 a0_4 a0_5 a0_6 a0_7 a0_8 a0_9 a0_10))
set_option maxHeartbeats 8000000 in
set_option maxRecDepth 100000 in
theorem pq16.calls (k : Nat) (a0_0 : ByteArray) (a0_1 : Int) (a0_2 : Int) (a0_3 : Int) (a0_4 : Int) (a0_5 : Int) (a0_6 : ByteArray) (a0_7 : ByteArray) (a0_8 : Int) (a0_9 : Int) (a0_10 : ByteArray) (r : Int) (w : World) (hG : GL w) (h : pq16.f k a0_0 a0_1 a0_2 a0_3 a0_4 a0_5 a0_6 a0_7 a0_8 a0_9 a0_10 = some r) :
  Calls Tryz.prog 53 #[.agg #[.string a0_0, .int .i64 a0_1, .int .i64 a0_2, .int .i64 a0_3, .int .i64 a0_4, .int .i64 a0_5, .string a0_6, .string a0_7, .int .i64 a0_8, .int .i64 a0_9, .string a0_10]] w fun e w' => e = .returned (.int .i64 r) ∧ Below w.heap.size w w' := by
 have hu40 := Tryz.underlying40
 have hu26 := Tryz.underlying26
 have HB := Aside0.mk (Below.refl w.heap.size w)
 have H : (if a0_0.toList = ([] : List UInt8) then (pq16.j0 k true a0_1 a0_2 a0_3 a0_4 a0_5 a0_6 a0_7 a0_8 a0_9 a0_10) else ((mktar_strange.f a0_0).bind fun t254 => (pq16.j0 k t254 a0_1 a0_2 a0_3 a0_4 a0_5 a0_6 a0_7 a0_8 a0_9 a0_10))) = some r := h
 clear h
 have HC2 := Aside0.mk H
 clear H
 go_enter Tryz.func53, Tryz.ntmps53
 go_upto_region 2 with (first | ((with_reducible refine gate_dst (N := 1) rfl ?_); refine box_event ?hg (N := 1) ?hd (cs := #[.string a0_0, .int .i64 a0_1, .int .i64 a0_2, .int .i64 a0_3, .int .i64 a0_4, .int .i64 a0_5, .string a0_6, .string a0_7, .int .i64 a0_8, .int .i64 a0_9, .string a0_10]) (t := 40) ?hr ?_; (case hd => rfl); (case hg => rfl); (case hr => first | (go_simp; done) | (go_simp; rfl)); intro gb252 hg w3 hbox hb; have n0_ := Aside0.mk (below_step (by repeat (first | (with_reducible first | exact HB.out | apply below_alloc | apply pw_below_drewN | apply below_drew1) | exact HB.out)) hb); have n1_ := Aside0.mk (hbox); have n2_ := Aside0.mk ((by rw [hg]; exact (below_size (by repeat (first | (with_reducible first | exact HB.out | apply below_alloc | apply pw_below_drewN | apply below_drew1) | exact HB.out))) : w.heap.size ≤ gb252)); have n3_ := Aside0.mk ((by rw [hg]; exact (below_size (by repeat (first | (with_reducible first | exact HB.out | apply below_alloc | apply pw_below_drewN | apply below_drew1) | exact HB.out))) : w.heap.size ≤ gb252)); clear HB; have HB := n0_; have BK252 := n1_; have GW252 := n2_; have GE252 := n3_; clear n0_ n1_ n2_ n3_; clear hb hbox hg; have hcz4_0 : w3.cell? ⟨gb252, 0, none⟩ = some (.string a0_0) := (blk_cell BK252.out 0).trans rfl; have hcz4_1 : w3.cell? ⟨gb252, 1, none⟩ = some (.int .i64 a0_1) := (blk_cell BK252.out 1).trans rfl; have hcz4_2 : w3.cell? ⟨gb252, 2, none⟩ = some (.int .i64 a0_2) := (blk_cell BK252.out 2).trans rfl; have hcz4_3 : w3.cell? ⟨gb252, 3, none⟩ = some (.int .i64 a0_3) := (blk_cell BK252.out 3).trans rfl; have hcz4_4 : w3.cell? ⟨gb252, 4, none⟩ = some (.int .i64 a0_4) := (blk_cell BK252.out 4).trans rfl; have hcz4_5 : w3.cell? ⟨gb252, 5, none⟩ = some (.int .i64 a0_5) := (blk_cell BK252.out 5).trans rfl; have hcz4_6 : w3.cell? ⟨gb252, 6, none⟩ = some (.string a0_6) := (blk_cell BK252.out 6).trans rfl; have hcz4_7 : w3.cell? ⟨gb252, 7, none⟩ = some (.string a0_7) := (blk_cell BK252.out 7).trans rfl; have hcz4_8 : w3.cell? ⟨gb252, 8, none⟩ = some (.int .i64 a0_8) := (blk_cell BK252.out 8).trans rfl; have hcz4_9 : w3.cell? ⟨gb252, 9, none⟩ = some (.int .i64 a0_9) := (blk_cell BK252.out 9).trans rfl; have hcz4_10 : w3.cell? ⟨gb252, 10, none⟩ = some (.string a0_10) := (blk_cell BK252.out 10).trans rfl; have hfz4_0 := blk_frozen BK252.out 0; have hfz4_1 := blk_frozen BK252.out 1; have hfz4_2 := blk_frozen BK252.out 2; have hfz4_3 := blk_frozen BK252.out 3; have hfz4_4 := blk_frozen BK252.out 4; have hfz4_5 := blk_frozen BK252.out 5; have hfz4_6 := blk_frozen BK252.out 6; have hfz4_7 := blk_frozen BK252.out 7; have hfz4_8 := blk_frozen BK252.out 8; have hfz4_9 := blk_frozen BK252.out 9; have hfz4_10 := blk_frozen BK252.out 10) | ((with_reducible refine gate_dst (N := 3) rfl ?_); refine box_event ?hg (N := 3) ?hd (cs := #[.int .i64 0, .int .i64 0, .int .i64 0, .int .i64 0, .int .i64 0, .string (⟨#[]⟩ : ByteArray), .string (⟨#[]⟩ : ByteArray), .int .i64 0, .int .i64 0, .string (⟨#[]⟩ : ByteArray)]) (t := 26) ?hr ?_; (case hd => rfl); (case hg => rfl); (case hr => first | (go_simp; done) | (go_simp; rfl)); intro gb253 hg w5 hbox hb; have n0_ := Aside0.mk (blk_below (g := gb252) (o := .cells #[.string a0_0, .int .i64 a0_1, .int .i64 a0_2, .int .i64 a0_3, .int .i64 a0_4, .int .i64 a0_5, .string a0_6, .string a0_7, .int .i64 a0_8, .int .i64 a0_9, .string a0_10] 40 (0, 0)) (by (with_reducible repeat (first | refine blk_drewN ?_ _ | refine blk_drew ?_ | refine blk_alloc ?_ _)); exact BK252.out) hb); have n1_ := Aside0.mk (below_step (by repeat (first | (with_reducible first | exact HB.out | apply below_alloc | apply pw_below_drewN | apply below_drew1 | refine below_set ?_ GE252.out) | exact HB.out)) hb); have n2_ := Aside0.mk (hbox); have n3_ := Aside0.mk ((by rw [hg]; exact (below_size (by repeat (first | (with_reducible first | exact HB.out | apply below_alloc | apply pw_below_drewN | apply below_drew1 | refine below_set ?_ GE252.out) | exact HB.out))) : w.heap.size ≤ gb253)); have n4_ := Aside0.mk ((by rw [hg]; exact (below_size (by repeat (first | (with_reducible first | exact HB.out | apply below_alloc | apply pw_below_drewN | apply below_drew1 | refine below_set ?_ GE252.out) | exact HB.out))) : w.heap.size ≤ gb253)); have n5_ := Aside0.mk ((by rw [hg]; exact Nat.ne_of_lt (blk_lt (g := gb252) (o := .cells #[.string a0_0, .int .i64 a0_1, .int .i64 a0_2, .int .i64 a0_3, .int .i64 a0_4, .int .i64 a0_5, .string a0_6, .string a0_7, .int .i64 a0_8, .int .i64 a0_9, .string a0_10] 40 (0, 0)) (by (with_reducible repeat (first | refine blk_drewN ?_ _ | refine blk_drew ?_ | refine blk_alloc ?_ _)); exact BK252.out)) : gb252 ≠ gb253)); have n6_ := Aside0.mk ((by rw [hg]; exact Nat.ne_of_gt (blk_lt (g := gb252) (o := .cells #[.string a0_0, .int .i64 a0_1, .int .i64 a0_2, .int .i64 a0_3, .int .i64 a0_4, .int .i64 a0_5, .string a0_6, .string a0_7, .int .i64 a0_8, .int .i64 a0_9, .string a0_10] 40 (0, 0)) (by (with_reducible repeat (first | refine blk_drewN ?_ _ | refine blk_drew ?_ | refine blk_alloc ?_ _)); exact BK252.out)) : gb253 ≠ gb252)); clear BK252; clear HB; have BK252 := n0_; have HB := n1_; have BK253 := n2_; have GW253 := n3_; have GE253 := n4_; have NB252_253 := n5_; have NB253_252 := n6_; clear n0_ n1_ n2_ n3_ n4_ n5_ n6_; clear hb hbox hg; have hnb6 := NB253_252.out; have hnc6 := NB252_253.out; have hcz7_0 : w5.cell? ⟨gb253, 0, none⟩ = some (.int .i64 0) := (blk_cell BK253.out 0).trans rfl; have hcz7_1 : w5.cell? ⟨gb253, 1, none⟩ = some (.int .i64 0) := (blk_cell BK253.out 1).trans rfl; have hcz7_2 : w5.cell? ⟨gb253, 2, none⟩ = some (.int .i64 0) := (blk_cell BK253.out 2).trans rfl; have hcz7_3 : w5.cell? ⟨gb253, 3, none⟩ = some (.int .i64 0) := (blk_cell BK253.out 3).trans rfl; have hcz7_4 : w5.cell? ⟨gb253, 4, none⟩ = some (.int .i64 0) := (blk_cell BK253.out 4).trans rfl; have hcz7_5 : w5.cell? ⟨gb253, 5, none⟩ = some (.string (⟨#[]⟩ : ByteArray)) := (blk_cell BK253.out 5).trans rfl; have hcz7_6 : w5.cell? ⟨gb253, 6, none⟩ = some (.string (⟨#[]⟩ : ByteArray)) := (blk_cell BK253.out 6).trans rfl; have hcz7_7 : w5.cell? ⟨gb253, 7, none⟩ = some (.int .i64 0) := (blk_cell BK253.out 7).trans rfl; have hcz7_8 : w5.cell? ⟨gb253, 8, none⟩ = some (.int .i64 0) := (blk_cell BK253.out 8).trans rfl; have hcz7_9 : w5.cell? ⟨gb253, 9, none⟩ = some (.string (⟨#[]⟩ : ByteArray)) := (blk_cell BK253.out 9).trans rfl; have hfz7_0 := blk_frozen BK253.out 0; have hfz7_1 := blk_frozen BK253.out 1; have hfz7_2 := blk_frozen BK253.out 2; have hfz7_3 := blk_frozen BK253.out 3; have hfz7_4 := blk_frozen BK253.out 4; have hfz7_5 := blk_frozen BK253.out 5; have hfz7_6 := blk_frozen BK253.out 6; have hfz7_7 := blk_frozen BK253.out 7; have hfz7_8 := blk_frozen BK253.out 8; have hfz7_9 := blk_frozen BK253.out 9))
 (try simp only [Act.put, List.setIfInBounds_toArray, List.set_cons_zero, List.set_cons_succ])
 go_cut [14] (fun v14 wc => ∃ (kq : Nat) (x14_1 : Bool), v14 = .bool x14_1 ∧ Aside0 (pq16.j0 kq x14_1 a0_1 a0_2 a0_3 a0_4 a0_5 a0_6 a0_7 a0_8 a0_9 a0_10 = some r) ∧ Aside0 (kq ≤ k) ∧ Aside0 (wc.heap[gb252]? = some (.cells #[.string a0_0, .int .i64 a0_1, .int .i64 a0_2, .int .i64 a0_3, .int .i64 a0_4, .int .i64 a0_5, .string a0_6, .string a0_7, .int .i64 a0_8, .int .i64 a0_9, .string a0_10] 40 (0, 0))) ∧ Aside0 (wc.heap[gb253]? = some (.cells #[.int .i64 a0_1, .int .i64 a0_2, .int .i64 a0_3, .int .i64 a0_4, .int .i64 a0_5, .string a0_6, .string a0_7, .int .i64 a0_8, .int .i64 a0_9, .string a0_10] 26 (0, 0))) ∧ Aside0 (Below w.heap.size w wc))
 case first =>
  have H := HC2.out
  clear HC2
  by_cases c8 : a0_0.toList = ([] : List UInt8)
  ·rw [if_pos c8] at H
   have c8b0 : (a0_0.toList == ([] : List UInt8)) = true := beq_iff_eq.mpr c8
   have c8b1 : (a0_0.toList != ([] : List UInt8)) = false := bne_eq_false_iff_eq.mpr c8
   clear c8
   (first | rw [c8b0] | (simp only [i64_w, i32_w]; rw [c8b0]) | skip)
   have H' := Aside0.mk H
   clear H
   have hnb9 := NB252_253.out
   have hnc9 := NB253_252.out
   have hcz10_0 : w5.cell? ⟨gb252, 0, none⟩ = some (.string a0_0) := (blk_cell BK252.out 0).trans rfl
   have hcz10_1 : w5.cell? ⟨gb252, 1, none⟩ = some (.int .i64 a0_1) := (blk_cell BK252.out 1).trans rfl
   have hcz10_2 : w5.cell? ⟨gb252, 2, none⟩ = some (.int .i64 a0_2) := (blk_cell BK252.out 2).trans rfl
   have hcz10_3 : w5.cell? ⟨gb252, 3, none⟩ = some (.int .i64 a0_3) := (blk_cell BK252.out 3).trans rfl
   have hcz10_4 : w5.cell? ⟨gb252, 4, none⟩ = some (.int .i64 a0_4) := (blk_cell BK252.out 4).trans rfl
   have hcz10_5 : w5.cell? ⟨gb252, 5, none⟩ = some (.int .i64 a0_5) := (blk_cell BK252.out 5).trans rfl
   have hcz10_6 : w5.cell? ⟨gb252, 6, none⟩ = some (.string a0_6) := (blk_cell BK252.out 6).trans rfl
   have hcz10_7 : w5.cell? ⟨gb252, 7, none⟩ = some (.string a0_7) := (blk_cell BK252.out 7).trans rfl
   have hcz10_8 : w5.cell? ⟨gb252, 8, none⟩ = some (.int .i64 a0_8) := (blk_cell BK252.out 8).trans rfl
   have hcz10_9 : w5.cell? ⟨gb252, 9, none⟩ = some (.int .i64 a0_9) := (blk_cell BK252.out 9).trans rfl
   have hcz10_10 : w5.cell? ⟨gb252, 10, none⟩ = some (.string a0_10) := (blk_cell BK252.out 10).trans rfl
   have hfz10_0 := blk_frozen BK252.out 0
   have hfz10_1 := blk_frozen BK252.out 1
   have hfz10_2 := blk_frozen BK252.out 2
   have hfz10_3 := blk_frozen BK252.out 3
   have hfz10_4 := blk_frozen BK252.out 4
   have hfz10_5 := blk_frozen BK252.out 5
   have hfz10_6 := blk_frozen BK252.out 6
   have hfz10_7 := blk_frozen BK252.out 7
   have hfz10_8 := blk_frozen BK252.out 8
   have hfz10_9 := blk_frozen BK252.out 9
   have hfz10_10 := blk_frozen BK252.out 10
   go_wp2
   go_meet
   case rel => exact ⟨_, (true), (by first | rfl | (simp; done) | (simp [*]; done)), H', ⟨by first | omega | exact Nat.le_refl _⟩, ⟨by (with_reducible repeat (first | refine blk_drewN ?_ _ | refine blk_drew ?_ | refine blk_alloc ?_ _)); refine blk_far ?_ NB252_253.out _; (with_reducible repeat (first | refine blk_drewN ?_ _ | refine blk_drew ?_ | refine blk_alloc ?_ _)); refine blk_far ?_ NB252_253.out _; (with_reducible repeat (first | refine blk_drewN ?_ _ | refine blk_drew ?_ | refine blk_alloc ?_ _)); refine blk_far ?_ NB252_253.out _; (with_reducible repeat (first | refine blk_drewN ?_ _ | refine blk_drew ?_ | refine blk_alloc ?_ _)); refine blk_far ?_ NB252_253.out _; (with_reducible repeat (first | refine blk_drewN ?_ _ | refine blk_drew ?_ | refine blk_alloc ?_ _)); refine blk_far ?_ NB252_253.out _; (with_reducible repeat (first | refine blk_drewN ?_ _ | refine blk_drew ?_ | refine blk_alloc ?_ _)); refine blk_far ?_ NB252_253.out _; (with_reducible repeat (first | refine blk_drewN ?_ _ | refine blk_drew ?_ | refine blk_alloc ?_ _)); refine blk_far ?_ NB252_253.out _; (with_reducible repeat (first | refine blk_drewN ?_ _ | refine blk_drew ?_ | refine blk_alloc ?_ _)); refine blk_far ?_ NB252_253.out _; (with_reducible repeat (first | refine blk_drewN ?_ _ | refine blk_drew ?_ | refine blk_alloc ?_ _)); refine blk_far ?_ NB252_253.out _; (with_reducible repeat (first | refine blk_drewN ?_ _ | refine blk_drew ?_ | refine blk_alloc ?_ _)); refine blk_far ?_ NB252_253.out _; (with_reducible repeat (first | refine blk_drewN ?_ _ | refine blk_drew ?_ | refine blk_alloc ?_ _)); exact BK252.out⟩, ⟨by (with_reducible repeat (first | refine blk_drewN ?_ _ | refine blk_drew ?_ | refine blk_alloc ?_ _)); refine blk_put (cs := #[.int .i64 a0_1, .int .i64 a0_2, .int .i64 a0_3, .int .i64 a0_4, .int .i64 a0_5, .string a0_6, .string a0_7, .int .i64 a0_8, .int .i64 a0_9, .string (⟨#[]⟩ : ByteArray)]) ?_ 9 _ rfl; (with_reducible repeat (first | refine blk_drewN ?_ _ | refine blk_drew ?_ | refine blk_alloc ?_ _)); refine blk_put (cs := #[.int .i64 a0_1, .int .i64 a0_2, .int .i64 a0_3, .int .i64 a0_4, .int .i64 a0_5, .string a0_6, .string a0_7, .int .i64 a0_8, .int .i64 0, .string (⟨#[]⟩ : ByteArray)]) ?_ 8 _ rfl; (with_reducible repeat (first | refine blk_drewN ?_ _ | refine blk_drew ?_ | refine blk_alloc ?_ _)); refine blk_put (cs := #[.int .i64 a0_1, .int .i64 a0_2, .int .i64 a0_3, .int .i64 a0_4, .int .i64 a0_5, .string a0_6, .string a0_7, .int .i64 0, .int .i64 0, .string (⟨#[]⟩ : ByteArray)]) ?_ 7 _ rfl; (with_reducible repeat (first | refine blk_drewN ?_ _ | refine blk_drew ?_ | refine blk_alloc ?_ _)); refine blk_put (cs := #[.int .i64 a0_1, .int .i64 a0_2, .int .i64 a0_3, .int .i64 a0_4, .int .i64 a0_5, .string a0_6, .string (⟨#[]⟩ : ByteArray), .int .i64 0, .int .i64 0, .string (⟨#[]⟩ : ByteArray)]) ?_ 6 _ rfl; (with_reducible repeat (first | refine blk_drewN ?_ _ | refine blk_drew ?_ | refine blk_alloc ?_ _)); refine blk_put (cs := #[.int .i64 a0_1, .int .i64 a0_2, .int .i64 a0_3, .int .i64 a0_4, .int .i64 a0_5, .string (⟨#[]⟩ : ByteArray), .string (⟨#[]⟩ : ByteArray), .int .i64 0, .int .i64 0, .string (⟨#[]⟩ : ByteArray)]) ?_ 5 _ rfl; (with_reducible repeat (first | refine blk_drewN ?_ _ | refine blk_drew ?_ | refine blk_alloc ?_ _)); refine blk_put (cs := #[.int .i64 a0_1, .int .i64 a0_2, .int .i64 a0_3, .int .i64 a0_4, .int .i64 0, .string (⟨#[]⟩ : ByteArray), .string (⟨#[]⟩ : ByteArray), .int .i64 0, .int .i64 0, .string (⟨#[]⟩ : ByteArray)]) ?_ 4 _ rfl; (with_reducible repeat (first | refine blk_drewN ?_ _ | refine blk_drew ?_ | refine blk_alloc ?_ _)); refine blk_put (cs := #[.int .i64 a0_1, .int .i64 a0_2, .int .i64 a0_3, .int .i64 0, .int .i64 0, .string (⟨#[]⟩ : ByteArray), .string (⟨#[]⟩ : ByteArray), .int .i64 0, .int .i64 0, .string (⟨#[]⟩ : ByteArray)]) ?_ 3 _ rfl; (with_reducible repeat (first | refine blk_drewN ?_ _ | refine blk_drew ?_ | refine blk_alloc ?_ _)); refine blk_put (cs := #[.int .i64 a0_1, .int .i64 a0_2, .int .i64 0, .int .i64 0, .int .i64 0, .string (⟨#[]⟩ : ByteArray), .string (⟨#[]⟩ : ByteArray), .int .i64 0, .int .i64 0, .string (⟨#[]⟩ : ByteArray)]) ?_ 2 _ rfl; (with_reducible repeat (first | refine blk_drewN ?_ _ | refine blk_drew ?_ | refine blk_alloc ?_ _)); refine blk_put (cs := #[.int .i64 a0_1, .int .i64 0, .int .i64 0, .int .i64 0, .int .i64 0, .string (⟨#[]⟩ : ByteArray), .string (⟨#[]⟩ : ByteArray), .int .i64 0, .int .i64 0, .string (⟨#[]⟩ : ByteArray)]) ?_ 1 _ rfl; (with_reducible repeat (first | refine blk_drewN ?_ _ | refine blk_drew ?_ | refine blk_alloc ?_ _)); refine blk_put (cs := #[.int .i64 0, .int .i64 0, .int .i64 0, .int .i64 0, .int .i64 0, .string (⟨#[]⟩ : ByteArray), .string (⟨#[]⟩ : ByteArray), .int .i64 0, .int .i64 0, .string (⟨#[]⟩ : ByteArray)]) ?_ 0 _ rfl; (with_reducible repeat (first | refine blk_drewN ?_ _ | refine blk_drew ?_ | refine blk_alloc ?_ _)); exact BK253.out⟩, ⟨by repeat (first | (with_reducible first | exact HB.out | apply below_alloc | apply pw_below_drewN | apply below_drew1 | refine below_set ?_ GE252.out | refine below_set ?_ GE253.out) | exact HB.out)⟩⟩
  ·rw [if_neg c8] at H
   have c8b0 : (a0_0.toList == ([] : List UInt8)) = false := beq_eq_false_iff_ne.mpr c8
   have c8b1 : (a0_0.toList != ([] : List UInt8)) = true := bne_iff_ne.mpr c8
   (first | rw [c8b0] | (simp only [i64_w, i32_w]; rw [c8b0]) | skip)
   replace H := Option.bind_eq_some_iff.mp H
   obtain ⟨t254, A110, H⟩ := H
   replace H : (pq16.j0 k t254 a0_1 a0_2 a0_3 a0_4 a0_5 a0_6 a0_7 a0_8 a0_9 a0_10) = some r := H
   have A11 := Aside0.mk A110
   clear A110
   have H' := Aside0.mk H
   clear H
   have hnb12 := NB252_253.out
   have hnc12 := NB253_252.out
   have hcz13_0 : w5.cell? ⟨gb252, 0, none⟩ = some (.string a0_0) := (blk_cell BK252.out 0).trans rfl
   have hcz13_1 : w5.cell? ⟨gb252, 1, none⟩ = some (.int .i64 a0_1) := (blk_cell BK252.out 1).trans rfl
   have hcz13_2 : w5.cell? ⟨gb252, 2, none⟩ = some (.int .i64 a0_2) := (blk_cell BK252.out 2).trans rfl
   have hcz13_3 : w5.cell? ⟨gb252, 3, none⟩ = some (.int .i64 a0_3) := (blk_cell BK252.out 3).trans rfl
   have hcz13_4 : w5.cell? ⟨gb252, 4, none⟩ = some (.int .i64 a0_4) := (blk_cell BK252.out 4).trans rfl
   have hcz13_5 : w5.cell? ⟨gb252, 5, none⟩ = some (.int .i64 a0_5) := (blk_cell BK252.out 5).trans rfl
   have hcz13_6 : w5.cell? ⟨gb252, 6, none⟩ = some (.string a0_6) := (blk_cell BK252.out 6).trans rfl
   have hcz13_7 : w5.cell? ⟨gb252, 7, none⟩ = some (.string a0_7) := (blk_cell BK252.out 7).trans rfl
   have hcz13_8 : w5.cell? ⟨gb252, 8, none⟩ = some (.int .i64 a0_8) := (blk_cell BK252.out 8).trans rfl
   have hcz13_9 : w5.cell? ⟨gb252, 9, none⟩ = some (.int .i64 a0_9) := (blk_cell BK252.out 9).trans rfl
   have hcz13_10 : w5.cell? ⟨gb252, 10, none⟩ = some (.string a0_10) := (blk_cell BK252.out 10).trans rfl
   have hfz13_0 := blk_frozen BK252.out 0
   have hfz13_1 := blk_frozen BK252.out 1
   have hfz13_2 := blk_frozen BK252.out 2
   have hfz13_3 := blk_frozen BK252.out 3
   have hfz13_4 := blk_frozen BK252.out 4
   have hfz13_5 := blk_frozen BK252.out 5
   have hfz13_6 := blk_frozen BK252.out 6
   have hfz13_7 := blk_frozen BK252.out 7
   have hfz13_8 := blk_frozen BK252.out 8
   have hfz13_9 := blk_frozen BK252.out 9
   have hfz13_10 := blk_frozen BK252.out 10
   go_wp2_with (first | (go_at_call 84; (with_reducible refine (mktar_strange.calls a0_0 t254 _ A11.out).mono ?_); rintro e w' ⟨rfl, ⟨nd, rfl⟩⟩))
   go_meet
   case rel => exact ⟨_, (t254), (by first | rfl | (simp; done) | (simp [*]; done)), H', ⟨by first | omega | exact Nat.le_refl _⟩, ⟨by (with_reducible repeat (first | refine blk_drewN ?_ _ | refine blk_drew ?_ | refine blk_alloc ?_ _)); refine blk_far ?_ NB252_253.out _; (with_reducible repeat (first | refine blk_drewN ?_ _ | refine blk_drew ?_ | refine blk_alloc ?_ _)); refine blk_far ?_ NB252_253.out _; (with_reducible repeat (first | refine blk_drewN ?_ _ | refine blk_drew ?_ | refine blk_alloc ?_ _)); refine blk_far ?_ NB252_253.out _; (with_reducible repeat (first | refine blk_drewN ?_ _ | refine blk_drew ?_ | refine blk_alloc ?_ _)); refine blk_far ?_ NB252_253.out _; (with_reducible repeat (first | refine blk_drewN ?_ _ | refine blk_drew ?_ | refine blk_alloc ?_ _)); refine blk_far ?_ NB252_253.out _; (with_reducible repeat (first | refine blk_drewN ?_ _ | refine blk_drew ?_ | refine blk_alloc ?_ _)); refine blk_far ?_ NB252_253.out _; (with_reducible repeat (first | refine blk_drewN ?_ _ | refine blk_drew ?_ | refine blk_alloc ?_ _)); refine blk_far ?_ NB252_253.out _; (with_reducible repeat (first | refine blk_drewN ?_ _ | refine blk_drew ?_ | refine blk_alloc ?_ _)); refine blk_far ?_ NB252_253.out _; (with_reducible repeat (first | refine blk_drewN ?_ _ | refine blk_drew ?_ | refine blk_alloc ?_ _)); refine blk_far ?_ NB252_253.out _; (with_reducible repeat (first | refine blk_drewN ?_ _ | refine blk_drew ?_ | refine blk_alloc ?_ _)); refine blk_far ?_ NB252_253.out _; (with_reducible repeat (first | refine blk_drewN ?_ _ | refine blk_drew ?_ | refine blk_alloc ?_ _)); exact BK252.out⟩, ⟨by (with_reducible repeat (first | refine blk_drewN ?_ _ | refine blk_drew ?_ | refine blk_alloc ?_ _)); refine blk_put (cs := #[.int .i64 a0_1, .int .i64 a0_2, .int .i64 a0_3, .int .i64 a0_4, .int .i64 a0_5, .string a0_6, .string a0_7, .int .i64 a0_8, .int .i64 a0_9, .string (⟨#[]⟩ : ByteArray)]) ?_ 9 _ rfl; (with_reducible repeat (first | refine blk_drewN ?_ _ | refine blk_drew ?_ | refine blk_alloc ?_ _)); refine blk_put (cs := #[.int .i64 a0_1, .int .i64 a0_2, .int .i64 a0_3, .int .i64 a0_4, .int .i64 a0_5, .string a0_6, .string a0_7, .int .i64 a0_8, .int .i64 0, .string (⟨#[]⟩ : ByteArray)]) ?_ 8 _ rfl; (with_reducible repeat (first | refine blk_drewN ?_ _ | refine blk_drew ?_ | refine blk_alloc ?_ _)); refine blk_put (cs := #[.int .i64 a0_1, .int .i64 a0_2, .int .i64 a0_3, .int .i64 a0_4, .int .i64 a0_5, .string a0_6, .string a0_7, .int .i64 0, .int .i64 0, .string (⟨#[]⟩ : ByteArray)]) ?_ 7 _ rfl; (with_reducible repeat (first | refine blk_drewN ?_ _ | refine blk_drew ?_ | refine blk_alloc ?_ _)); refine blk_put (cs := #[.int .i64 a0_1, .int .i64 a0_2, .int .i64 a0_3, .int .i64 a0_4, .int .i64 a0_5, .string a0_6, .string (⟨#[]⟩ : ByteArray), .int .i64 0, .int .i64 0, .string (⟨#[]⟩ : ByteArray)]) ?_ 6 _ rfl; (with_reducible repeat (first | refine blk_drewN ?_ _ | refine blk_drew ?_ | refine blk_alloc ?_ _)); refine blk_put (cs := #[.int .i64 a0_1, .int .i64 a0_2, .int .i64 a0_3, .int .i64 a0_4, .int .i64 a0_5, .string (⟨#[]⟩ : ByteArray), .string (⟨#[]⟩ : ByteArray), .int .i64 0, .int .i64 0, .string (⟨#[]⟩ : ByteArray)]) ?_ 5 _ rfl; (with_reducible repeat (first | refine blk_drewN ?_ _ | refine blk_drew ?_ | refine blk_alloc ?_ _)); refine blk_put (cs := #[.int .i64 a0_1, .int .i64 a0_2, .int .i64 a0_3, .int .i64 a0_4, .int .i64 0, .string (⟨#[]⟩ : ByteArray), .string (⟨#[]⟩ : ByteArray), .int .i64 0, .int .i64 0, .string (⟨#[]⟩ : ByteArray)]) ?_ 4 _ rfl; (with_reducible repeat (first | refine blk_drewN ?_ _ | refine blk_drew ?_ | refine blk_alloc ?_ _)); refine blk_put (cs := #[.int .i64 a0_1, .int .i64 a0_2, .int .i64 a0_3, .int .i64 0, .int .i64 0, .string (⟨#[]⟩ : ByteArray), .string (⟨#[]⟩ : ByteArray), .int .i64 0, .int .i64 0, .string (⟨#[]⟩ : ByteArray)]) ?_ 3 _ rfl; (with_reducible repeat (first | refine blk_drewN ?_ _ | refine blk_drew ?_ | refine blk_alloc ?_ _)); refine blk_put (cs := #[.int .i64 a0_1, .int .i64 a0_2, .int .i64 0, .int .i64 0, .int .i64 0, .string (⟨#[]⟩ : ByteArray), .string (⟨#[]⟩ : ByteArray), .int .i64 0, .int .i64 0, .string (⟨#[]⟩ : ByteArray)]) ?_ 2 _ rfl; (with_reducible repeat (first | refine blk_drewN ?_ _ | refine blk_drew ?_ | refine blk_alloc ?_ _)); refine blk_put (cs := #[.int .i64 a0_1, .int .i64 0, .int .i64 0, .int .i64 0, .int .i64 0, .string (⟨#[]⟩ : ByteArray), .string (⟨#[]⟩ : ByteArray), .int .i64 0, .int .i64 0, .string (⟨#[]⟩ : ByteArray)]) ?_ 1 _ rfl; (with_reducible repeat (first | refine blk_drewN ?_ _ | refine blk_drew ?_ | refine blk_alloc ?_ _)); refine blk_put (cs := #[.int .i64 0, .int .i64 0, .int .i64 0, .int .i64 0, .int .i64 0, .string (⟨#[]⟩ : ByteArray), .string (⟨#[]⟩ : ByteArray), .int .i64 0, .int .i64 0, .string (⟨#[]⟩ : ByteArray)]) ?_ 0 _ rfl; (with_reducible repeat (first | refine blk_drewN ?_ _ | refine blk_drew ?_ | refine blk_alloc ?_ _)); exact BK253.out⟩, ⟨by repeat (first | (with_reducible first | exact HB.out | apply below_alloc | apply pw_below_drewN | apply below_drew1 | refine below_set ?_ GE252.out | refine below_set ?_ GE253.out) | exact HB.out)⟩⟩
 case rest =>
  clear HC2
  try clear c1
  try clear p2
  try clear c5
  try clear c6
  try clear c8
  try clear c8b0
  try clear c8b1
  try clear c9
  try clear c12
  try clear hcz10_0
  try clear hcz10_1
  try clear hcz10_10
  try clear hcz10_2
  try clear hcz10_3
  try clear hcz10_4
  try clear hcz10_5
  try clear hcz10_6
  try clear hcz10_7
  try clear hcz10_8
  try clear hcz10_9
  try clear hcz13_0
  try clear hcz13_1
  try clear hcz13_10
  try clear hcz13_2
  try clear hcz13_3
  try clear hcz13_4
  try clear hcz13_5
  try clear hcz13_6
  try clear hcz13_7
  try clear hcz13_8
  try clear hcz13_9
  try clear hcz4_0
  try clear hcz4_1
  try clear hcz4_10
  try clear hcz4_2
  try clear hcz4_3
  try clear hcz4_4
  try clear hcz4_5
  try clear hcz4_6
  try clear hcz4_7
  try clear hcz4_8
  try clear hcz4_9
  try clear hcz7_0
  try clear hcz7_1
  try clear hcz7_2
  try clear hcz7_3
  try clear hcz7_4
  try clear hcz7_5
  try clear hcz7_6
  try clear hcz7_7
  try clear hcz7_8
  try clear hcz7_9
  try clear hfz10_0
  try clear hfz10_1
  try clear hfz10_10
  try clear hfz10_2
  try clear hfz10_3
  try clear hfz10_4
  try clear hfz10_5
  try clear hfz10_6
  try clear hfz10_7
  try clear hfz10_8
  try clear hfz10_9
  try clear hfz13_0
  try clear hfz13_1
  try clear hfz13_10
  try clear hfz13_2
  try clear hfz13_3
  try clear hfz13_4
  try clear hfz13_5
  try clear hfz13_6
  try clear hfz13_7
  try clear hfz13_8
  try clear hfz13_9
  try clear hfz4_0
  try clear hfz4_1
  try clear hfz4_10
  try clear hfz4_2
  try clear hfz4_3
  try clear hfz4_4
  try clear hfz4_5
  try clear hfz4_6
  try clear hfz4_7
  try clear hfz4_8
  try clear hfz4_9
  try clear hfz7_0
  try clear hfz7_1
  try clear hfz7_2
  try clear hfz7_3
  try clear hfz7_4
  try clear hfz7_5
  try clear hfz7_6
  try clear hfz7_7
  try clear hfz7_8
  try clear hfz7_9
  obtain ⟨kq, x14_1, rfl, HA, HJ1, BK252, BK253, HB⟩ := hcut
  cases kq with
  | zero => exact absurd HA.out (by simp [pq16.j0])
  | succ kj1 =>
   have H := HA.out
   clear HA
   simp only [pq16.j0] at H
   by_cases c14 : x14_1 = true
   ·subst c14
    have H1 : (some 9) = some r := by rw [if_pos rfl] at H; exact H
    clear H
    have H := H1
    clear H1
    obtain rfl := Option.some.inj H
    go_wp2
    go_ret
    exact ⟨by first | rfl | (simp [errW_none, errW_some] <;> rfl) | (simp [*, errW_none, errW_some] <;> rfl), by repeat (first | (with_reducible first | exact HB.out | apply below_alloc | apply pw_below_drewN | apply below_drew1 | refine below_set ?_ GE252.out | refine below_set ?_ GE253.out) | exact HB.out)⟩
   ·replace c14 := Bool.eq_false_iff.mpr c14
    subst c14
    have H1 : (if a0_1 ≥ 0 then (if a0_1 < 7 then (if (Go.bits .andNot .i64 a0_2 4095) = 0 then ((mktar_number.f a0_3).bind fun t255 => (if t255 = true then ((mktar_number.f a0_4).bind fun t256 => (if t256 = true then ((mktar_number.f a0_5).bind fun t257 => (pq16.j1 kj1 t257 a0_1 a0_2 a0_3 a0_4 a0_5 a0_6 a0_7 a0_8 a0_9 a0_10)) else (pq16.j1 kj1 false a0_1 a0_2 a0_3 a0_4 a0_5 a0_6 a0_7 a0_8 a0_9 a0_10))) else (pq16.j1 kj1 false a0_1 a0_2 a0_3 a0_4 a0_5 a0_6 a0_7 a0_8 a0_9 a0_10))) else (pq16.j1 kj1 false a0_1 a0_2 a0_3 a0_4 a0_5 a0_6 a0_7 a0_8 a0_9 a0_10)) else (pq16.j1 kj1 false a0_1 a0_2 a0_3 a0_4 a0_5 a0_6 a0_7 a0_8 a0_9 a0_10)) else (pq16.j1 kj1 false a0_1 a0_2 a0_3 a0_4 a0_5 a0_6 a0_7 a0_8 a0_9 a0_10)) = some r := by rw [if_neg (show ¬ (false = true) by decide)] at H; exact H
    clear H
    have H := H1
    clear H1
    have HC15 := Aside0.mk H
    clear H
    go_upto_region 4 with (fail)
    go_cut [4] (fun v4 wc => ∃ (kq : Nat) (x4_14 : Bool), v4 = .bool x4_14 ∧ Aside0 (pq16.j1 kq x4_14 a0_1 a0_2 a0_3 a0_4 a0_5 a0_6 a0_7 a0_8 a0_9 a0_10 = some r) ∧ Aside0 (kq ≤ kj1) ∧ Aside0 (wc.heap[gb252]? = some (.cells #[.string a0_0, .int .i64 a0_1, .int .i64 a0_2, .int .i64 a0_3, .int .i64 a0_4, .int .i64 a0_5, .string a0_6, .string a0_7, .int .i64 a0_8, .int .i64 a0_9, .string a0_10] 40 (0, 0))) ∧ Aside0 (wc.heap[gb253]? = some (.cells #[.int .i64 a0_1, .int .i64 a0_2, .int .i64 a0_3, .int .i64 a0_4, .int .i64 a0_5, .string a0_6, .string a0_7, .int .i64 a0_8, .int .i64 a0_9, .string a0_10] 26 (0, 0))) ∧ Aside0 (Below w.heap.size w wc))
    case first =>
     have H := HC15.out
     clear HC15
     by_cases c16 : a0_1 ≥ 0
     ·rw [if_pos c16] at H
      have c16b0 : decide (0 ≤ a0_1) = true := decide_eq_true c16
      clear c16
      (first | rw [c16b0] | (simp only [i64_w, i32_w]; rw [c16b0]) | skip)
      by_cases c17 : a0_1 < 7
      ·rw [if_pos c17] at H
       have c17b0 : decide (a0_1 < 7) = true := decide_eq_true c17
       clear c17
       by_cases c18 : (Go.bits .andNot .i64 a0_2 4095) = 0
       ·rw [if_pos c18] at H
        have c18b0 : ((Go.bits .andNot .i64 a0_2 4095) == 0) = true := beq_iff_eq.mpr c18
        have c18b1 : ((Go.bits .andNot .i64 a0_2 4095) != 0) = false := bne_eq_false_iff_eq.mpr c18
        clear c18
        replace H := Option.bind_eq_some_iff.mp H
        obtain ⟨t255, A190, H⟩ := H
        replace H : (if t255 = true then ((mktar_number.f a0_4).bind fun t256 => (if t256 = true then ((mktar_number.f a0_5).bind fun t257 => (pq16.j1 kj1 t257 a0_1 a0_2 a0_3 a0_4 a0_5 a0_6 a0_7 a0_8 a0_9 a0_10)) else (pq16.j1 kj1 false a0_1 a0_2 a0_3 a0_4 a0_5 a0_6 a0_7 a0_8 a0_9 a0_10))) else (pq16.j1 kj1 false a0_1 a0_2 a0_3 a0_4 a0_5 a0_6 a0_7 a0_8 a0_9 a0_10)) = some r := H
        have A19 := Aside0.mk A190
        clear A190
        by_cases c20 : t255 = true
        ·subst c20
         have H1 : ((mktar_number.f a0_4).bind fun t256 => (if t256 = true then ((mktar_number.f a0_5).bind fun t257 => (pq16.j1 kj1 t257 a0_1 a0_2 a0_3 a0_4 a0_5 a0_6 a0_7 a0_8 a0_9 a0_10)) else (pq16.j1 kj1 false a0_1 a0_2 a0_3 a0_4 a0_5 a0_6 a0_7 a0_8 a0_9 a0_10))) = some r := by rw [if_pos rfl] at H; exact H
         clear H
         have H := H1
         clear H1
         replace H := Option.bind_eq_some_iff.mp H
         obtain ⟨t256, A210, H⟩ := H
         replace H : (if t256 = true then ((mktar_number.f a0_5).bind fun t257 => (pq16.j1 kj1 t257 a0_1 a0_2 a0_3 a0_4 a0_5 a0_6 a0_7 a0_8 a0_9 a0_10)) else (pq16.j1 kj1 false a0_1 a0_2 a0_3 a0_4 a0_5 a0_6 a0_7 a0_8 a0_9 a0_10)) = some r := H
         have A21 := Aside0.mk A210
         clear A210
         by_cases c22 : t256 = true
         ·subst c22
          have H1 : ((mktar_number.f a0_5).bind fun t257 => (pq16.j1 kj1 t257 a0_1 a0_2 a0_3 a0_4 a0_5 a0_6 a0_7 a0_8 a0_9 a0_10)) = some r := by rw [if_pos rfl] at H; exact H
          clear H
          have H := H1
          clear H1
          replace H := Option.bind_eq_some_iff.mp H
          obtain ⟨t257, A230, H⟩ := H
          replace H : (pq16.j1 kj1 t257 a0_1 a0_2 a0_3 a0_4 a0_5 a0_6 a0_7 a0_8 a0_9 a0_10) = some r := H
          have A23 := Aside0.mk A230
          clear A230
          have H' := Aside0.mk H
          clear H
          have hnb24 := NB253_252.out
          have hnc24 := NB252_253.out
          have hcz25_0 : wc.cell? ⟨gb253, 0, none⟩ = some (.int .i64 a0_1) := (blk_cell BK253.out 0).trans rfl
          have hcz25_1 : wc.cell? ⟨gb253, 1, none⟩ = some (.int .i64 a0_2) := (blk_cell BK253.out 1).trans rfl
          have hcz25_2 : wc.cell? ⟨gb253, 2, none⟩ = some (.int .i64 a0_3) := (blk_cell BK253.out 2).trans rfl
          have hcz25_3 : wc.cell? ⟨gb253, 3, none⟩ = some (.int .i64 a0_4) := (blk_cell BK253.out 3).trans rfl
          have hcz25_4 : wc.cell? ⟨gb253, 4, none⟩ = some (.int .i64 a0_5) := (blk_cell BK253.out 4).trans rfl
          have hcz25_5 : wc.cell? ⟨gb253, 5, none⟩ = some (.string a0_6) := (blk_cell BK253.out 5).trans rfl
          have hcz25_6 : wc.cell? ⟨gb253, 6, none⟩ = some (.string a0_7) := (blk_cell BK253.out 6).trans rfl
          have hcz25_7 : wc.cell? ⟨gb253, 7, none⟩ = some (.int .i64 a0_8) := (blk_cell BK253.out 7).trans rfl
          have hcz25_8 : wc.cell? ⟨gb253, 8, none⟩ = some (.int .i64 a0_9) := (blk_cell BK253.out 8).trans rfl
          have hcz25_9 : wc.cell? ⟨gb253, 9, none⟩ = some (.string a0_10) := (blk_cell BK253.out 9).trans rfl
          have hfz25_0 := blk_frozen BK253.out 0
          have hfz25_1 := blk_frozen BK253.out 1
          have hfz25_2 := blk_frozen BK253.out 2
          have hfz25_3 := blk_frozen BK253.out 3
          have hfz25_4 := blk_frozen BK253.out 4
          have hfz25_5 := blk_frozen BK253.out 5
          have hfz25_6 := blk_frozen BK253.out 6
          have hfz25_7 := blk_frozen BK253.out 7
          have hfz25_8 := blk_frozen BK253.out 8
          have hfz25_9 := blk_frozen BK253.out 9
          go_wp2_with (first | (go_at_call 85; (with_reducible refine (mktar_number.calls a0_3 true _ A19.out).mono ?_); rintro e w' ⟨rfl, ⟨nd, rfl⟩⟩) | (go_at_call 85; (with_reducible refine (mktar_number.calls a0_4 true _ A21.out).mono ?_); rintro e w' ⟨rfl, ⟨nd, rfl⟩⟩) | (go_at_call 85; (with_reducible refine (mktar_number.calls a0_5 t257 _ A23.out).mono ?_); rintro e w' ⟨rfl, ⟨nd, rfl⟩⟩))
          go_meet
          case rel => exact ⟨_, (t257), (by first | rfl | (simp; done) | (simp [*]; done)), H', ⟨by have := HJ1.out; first | omega | exact Nat.le_refl _⟩, ⟨by (with_reducible repeat (first | refine blk_drewN ?_ _ | refine blk_drew ?_ | refine blk_alloc ?_ _)); exact BK252.out⟩, ⟨by (with_reducible repeat (first | refine blk_drewN ?_ _ | refine blk_drew ?_ | refine blk_alloc ?_ _)); exact BK253.out⟩, ⟨by repeat (first | (with_reducible first | exact HB.out | apply below_alloc | apply pw_below_drewN | apply below_drew1 | refine below_set ?_ GE252.out | refine below_set ?_ GE253.out) | exact HB.out)⟩⟩
         ·replace c22 := Bool.eq_false_iff.mpr c22
          subst c22
          have H1 : (pq16.j1 kj1 false a0_1 a0_2 a0_3 a0_4 a0_5 a0_6 a0_7 a0_8 a0_9 a0_10) = some r := by rw [if_neg (show ¬ (false = true) by decide)] at H; exact H
          clear H
          have H := H1
          clear H1
          have H' := Aside0.mk H
          clear H
          have hnb26 := NB253_252.out
          have hnc26 := NB252_253.out
          have hcz27_0 : wc.cell? ⟨gb253, 0, none⟩ = some (.int .i64 a0_1) := (blk_cell BK253.out 0).trans rfl
          have hcz27_1 : wc.cell? ⟨gb253, 1, none⟩ = some (.int .i64 a0_2) := (blk_cell BK253.out 1).trans rfl
          have hcz27_2 : wc.cell? ⟨gb253, 2, none⟩ = some (.int .i64 a0_3) := (blk_cell BK253.out 2).trans rfl
          have hcz27_3 : wc.cell? ⟨gb253, 3, none⟩ = some (.int .i64 a0_4) := (blk_cell BK253.out 3).trans rfl
          have hcz27_4 : wc.cell? ⟨gb253, 4, none⟩ = some (.int .i64 a0_5) := (blk_cell BK253.out 4).trans rfl
          have hcz27_5 : wc.cell? ⟨gb253, 5, none⟩ = some (.string a0_6) := (blk_cell BK253.out 5).trans rfl
          have hcz27_6 : wc.cell? ⟨gb253, 6, none⟩ = some (.string a0_7) := (blk_cell BK253.out 6).trans rfl
          have hcz27_7 : wc.cell? ⟨gb253, 7, none⟩ = some (.int .i64 a0_8) := (blk_cell BK253.out 7).trans rfl
          have hcz27_8 : wc.cell? ⟨gb253, 8, none⟩ = some (.int .i64 a0_9) := (blk_cell BK253.out 8).trans rfl
          have hcz27_9 : wc.cell? ⟨gb253, 9, none⟩ = some (.string a0_10) := (blk_cell BK253.out 9).trans rfl
          have hfz27_0 := blk_frozen BK253.out 0
          have hfz27_1 := blk_frozen BK253.out 1
          have hfz27_2 := blk_frozen BK253.out 2
          have hfz27_3 := blk_frozen BK253.out 3
          have hfz27_4 := blk_frozen BK253.out 4
          have hfz27_5 := blk_frozen BK253.out 5
          have hfz27_6 := blk_frozen BK253.out 6
          have hfz27_7 := blk_frozen BK253.out 7
          have hfz27_8 := blk_frozen BK253.out 8
          have hfz27_9 := blk_frozen BK253.out 9
          go_wp2_with (first | (go_at_call 85; (with_reducible refine (mktar_number.calls a0_3 true _ A19.out).mono ?_); rintro e w' ⟨rfl, ⟨nd, rfl⟩⟩) | (go_at_call 85; (with_reducible refine (mktar_number.calls a0_4 false _ A21.out).mono ?_); rintro e w' ⟨rfl, ⟨nd, rfl⟩⟩))
          go_meet
          case rel => exact ⟨_, (false), (by first | rfl | (simp; done) | (simp [*]; done)), H', ⟨by have := HJ1.out; first | omega | exact Nat.le_refl _⟩, ⟨by (with_reducible repeat (first | refine blk_drewN ?_ _ | refine blk_drew ?_ | refine blk_alloc ?_ _)); exact BK252.out⟩, ⟨by (with_reducible repeat (first | refine blk_drewN ?_ _ | refine blk_drew ?_ | refine blk_alloc ?_ _)); exact BK253.out⟩, ⟨by repeat (first | (with_reducible first | exact HB.out | apply below_alloc | apply pw_below_drewN | apply below_drew1 | refine below_set ?_ GE252.out | refine below_set ?_ GE253.out) | exact HB.out)⟩⟩
        ·replace c20 := Bool.eq_false_iff.mpr c20
         subst c20
         have H1 : (pq16.j1 kj1 false a0_1 a0_2 a0_3 a0_4 a0_5 a0_6 a0_7 a0_8 a0_9 a0_10) = some r := by rw [if_neg (show ¬ (false = true) by decide)] at H; exact H
         clear H
         have H := H1
         clear H1
         have H' := Aside0.mk H
         clear H
         have hnb28 := NB253_252.out
         have hnc28 := NB252_253.out
         have hcz29_0 : wc.cell? ⟨gb253, 0, none⟩ = some (.int .i64 a0_1) := (blk_cell BK253.out 0).trans rfl
         have hcz29_1 : wc.cell? ⟨gb253, 1, none⟩ = some (.int .i64 a0_2) := (blk_cell BK253.out 1).trans rfl
         have hcz29_2 : wc.cell? ⟨gb253, 2, none⟩ = some (.int .i64 a0_3) := (blk_cell BK253.out 2).trans rfl
         have hcz29_3 : wc.cell? ⟨gb253, 3, none⟩ = some (.int .i64 a0_4) := (blk_cell BK253.out 3).trans rfl
         have hcz29_4 : wc.cell? ⟨gb253, 4, none⟩ = some (.int .i64 a0_5) := (blk_cell BK253.out 4).trans rfl
         have hcz29_5 : wc.cell? ⟨gb253, 5, none⟩ = some (.string a0_6) := (blk_cell BK253.out 5).trans rfl
         have hcz29_6 : wc.cell? ⟨gb253, 6, none⟩ = some (.string a0_7) := (blk_cell BK253.out 6).trans rfl
         have hcz29_7 : wc.cell? ⟨gb253, 7, none⟩ = some (.int .i64 a0_8) := (blk_cell BK253.out 7).trans rfl
         have hcz29_8 : wc.cell? ⟨gb253, 8, none⟩ = some (.int .i64 a0_9) := (blk_cell BK253.out 8).trans rfl
         have hcz29_9 : wc.cell? ⟨gb253, 9, none⟩ = some (.string a0_10) := (blk_cell BK253.out 9).trans rfl
         have hfz29_0 := blk_frozen BK253.out 0
         have hfz29_1 := blk_frozen BK253.out 1
         have hfz29_2 := blk_frozen BK253.out 2
         have hfz29_3 := blk_frozen BK253.out 3
         have hfz29_4 := blk_frozen BK253.out 4
         have hfz29_5 := blk_frozen BK253.out 5
         have hfz29_6 := blk_frozen BK253.out 6
         have hfz29_7 := blk_frozen BK253.out 7
         have hfz29_8 := blk_frozen BK253.out 8
         have hfz29_9 := blk_frozen BK253.out 9
         go_wp2_with (first | (go_at_call 85; (with_reducible refine (mktar_number.calls a0_3 false _ A19.out).mono ?_); rintro e w' ⟨rfl, ⟨nd, rfl⟩⟩))
         go_meet
         case rel => exact ⟨_, (false), (by first | rfl | (simp; done) | (simp [*]; done)), H', ⟨by have := HJ1.out; first | omega | exact Nat.le_refl _⟩, ⟨by (with_reducible repeat (first | refine blk_drewN ?_ _ | refine blk_drew ?_ | refine blk_alloc ?_ _)); exact BK252.out⟩, ⟨by (with_reducible repeat (first | refine blk_drewN ?_ _ | refine blk_drew ?_ | refine blk_alloc ?_ _)); exact BK253.out⟩, ⟨by repeat (first | (with_reducible first | exact HB.out | apply below_alloc | apply pw_below_drewN | apply below_drew1 | refine below_set ?_ GE252.out | refine below_set ?_ GE253.out) | exact HB.out)⟩⟩
       ·rw [if_neg c18] at H
        have c18b0 : ((Go.bits .andNot .i64 a0_2 4095) == 0) = false := beq_eq_false_iff_ne.mpr c18
        have c18b1 : ((Go.bits .andNot .i64 a0_2 4095) != 0) = true := bne_iff_ne.mpr c18
        have H' := Aside0.mk H
        clear H
        have hnb30 := NB253_252.out
        have hnc30 := NB252_253.out
        have hcz31_0 : wc.cell? ⟨gb253, 0, none⟩ = some (.int .i64 a0_1) := (blk_cell BK253.out 0).trans rfl
        have hcz31_1 : wc.cell? ⟨gb253, 1, none⟩ = some (.int .i64 a0_2) := (blk_cell BK253.out 1).trans rfl
        have hcz31_2 : wc.cell? ⟨gb253, 2, none⟩ = some (.int .i64 a0_3) := (blk_cell BK253.out 2).trans rfl
        have hcz31_3 : wc.cell? ⟨gb253, 3, none⟩ = some (.int .i64 a0_4) := (blk_cell BK253.out 3).trans rfl
        have hcz31_4 : wc.cell? ⟨gb253, 4, none⟩ = some (.int .i64 a0_5) := (blk_cell BK253.out 4).trans rfl
        have hcz31_5 : wc.cell? ⟨gb253, 5, none⟩ = some (.string a0_6) := (blk_cell BK253.out 5).trans rfl
        have hcz31_6 : wc.cell? ⟨gb253, 6, none⟩ = some (.string a0_7) := (blk_cell BK253.out 6).trans rfl
        have hcz31_7 : wc.cell? ⟨gb253, 7, none⟩ = some (.int .i64 a0_8) := (blk_cell BK253.out 7).trans rfl
        have hcz31_8 : wc.cell? ⟨gb253, 8, none⟩ = some (.int .i64 a0_9) := (blk_cell BK253.out 8).trans rfl
        have hcz31_9 : wc.cell? ⟨gb253, 9, none⟩ = some (.string a0_10) := (blk_cell BK253.out 9).trans rfl
        have hfz31_0 := blk_frozen BK253.out 0
        have hfz31_1 := blk_frozen BK253.out 1
        have hfz31_2 := blk_frozen BK253.out 2
        have hfz31_3 := blk_frozen BK253.out 3
        have hfz31_4 := blk_frozen BK253.out 4
        have hfz31_5 := blk_frozen BK253.out 5
        have hfz31_6 := blk_frozen BK253.out 6
        have hfz31_7 := blk_frozen BK253.out 7
        have hfz31_8 := blk_frozen BK253.out 8
        have hfz31_9 := blk_frozen BK253.out 9
        go_wp2
        go_meet
        case rel => exact ⟨_, (false), (by first | rfl | (simp; done) | (simp [*]; done)), H', ⟨by have := HJ1.out; first | omega | exact Nat.le_refl _⟩, ⟨by (with_reducible repeat (first | refine blk_drewN ?_ _ | refine blk_drew ?_ | refine blk_alloc ?_ _)); exact BK252.out⟩, ⟨by (with_reducible repeat (first | refine blk_drewN ?_ _ | refine blk_drew ?_ | refine blk_alloc ?_ _)); exact BK253.out⟩, ⟨by repeat (first | (with_reducible first | exact HB.out | apply below_alloc | apply pw_below_drewN | apply below_drew1 | refine below_set ?_ GE252.out | refine below_set ?_ GE253.out) | exact HB.out)⟩⟩
      ·rw [if_neg c17] at H
       have c17b0 : decide (a0_1 < 7) = false := decide_eq_false c17
       clear c17
       have H' := Aside0.mk H
       clear H
       have hnb32 := NB253_252.out
       have hnc32 := NB252_253.out
       have hcz33_0 : wc.cell? ⟨gb253, 0, none⟩ = some (.int .i64 a0_1) := (blk_cell BK253.out 0).trans rfl
       have hcz33_1 : wc.cell? ⟨gb253, 1, none⟩ = some (.int .i64 a0_2) := (blk_cell BK253.out 1).trans rfl
       have hcz33_2 : wc.cell? ⟨gb253, 2, none⟩ = some (.int .i64 a0_3) := (blk_cell BK253.out 2).trans rfl
       have hcz33_3 : wc.cell? ⟨gb253, 3, none⟩ = some (.int .i64 a0_4) := (blk_cell BK253.out 3).trans rfl
       have hcz33_4 : wc.cell? ⟨gb253, 4, none⟩ = some (.int .i64 a0_5) := (blk_cell BK253.out 4).trans rfl
       have hcz33_5 : wc.cell? ⟨gb253, 5, none⟩ = some (.string a0_6) := (blk_cell BK253.out 5).trans rfl
       have hcz33_6 : wc.cell? ⟨gb253, 6, none⟩ = some (.string a0_7) := (blk_cell BK253.out 6).trans rfl
       have hcz33_7 : wc.cell? ⟨gb253, 7, none⟩ = some (.int .i64 a0_8) := (blk_cell BK253.out 7).trans rfl
       have hcz33_8 : wc.cell? ⟨gb253, 8, none⟩ = some (.int .i64 a0_9) := (blk_cell BK253.out 8).trans rfl
       have hcz33_9 : wc.cell? ⟨gb253, 9, none⟩ = some (.string a0_10) := (blk_cell BK253.out 9).trans rfl
       have hfz33_0 := blk_frozen BK253.out 0
       have hfz33_1 := blk_frozen BK253.out 1
       have hfz33_2 := blk_frozen BK253.out 2
       have hfz33_3 := blk_frozen BK253.out 3
       have hfz33_4 := blk_frozen BK253.out 4
       have hfz33_5 := blk_frozen BK253.out 5
       have hfz33_6 := blk_frozen BK253.out 6
       have hfz33_7 := blk_frozen BK253.out 7
       have hfz33_8 := blk_frozen BK253.out 8
       have hfz33_9 := blk_frozen BK253.out 9
       go_wp2
       go_meet
       case rel => exact ⟨_, (false), (by first | rfl | (simp; done) | (simp [*]; done)), H', ⟨by have := HJ1.out; first | omega | exact Nat.le_refl _⟩, ⟨by (with_reducible repeat (first | refine blk_drewN ?_ _ | refine blk_drew ?_ | refine blk_alloc ?_ _)); exact BK252.out⟩, ⟨by (with_reducible repeat (first | refine blk_drewN ?_ _ | refine blk_drew ?_ | refine blk_alloc ?_ _)); exact BK253.out⟩, ⟨by repeat (first | (with_reducible first | exact HB.out | apply below_alloc | apply pw_below_drewN | apply below_drew1 | refine below_set ?_ GE252.out | refine below_set ?_ GE253.out) | exact HB.out)⟩⟩
     ·rw [if_neg c16] at H
      have c16b0 : decide (0 ≤ a0_1) = false := decide_eq_false c16
      clear c16
      (first | rw [c16b0] | (simp only [i64_w, i32_w]; rw [c16b0]) | skip)
      have H' := Aside0.mk H
      clear H
      have hnb34 := NB253_252.out
      have hnc34 := NB252_253.out
      have hcz35_0 : wc.cell? ⟨gb253, 0, none⟩ = some (.int .i64 a0_1) := (blk_cell BK253.out 0).trans rfl
      have hcz35_1 : wc.cell? ⟨gb253, 1, none⟩ = some (.int .i64 a0_2) := (blk_cell BK253.out 1).trans rfl
      have hcz35_2 : wc.cell? ⟨gb253, 2, none⟩ = some (.int .i64 a0_3) := (blk_cell BK253.out 2).trans rfl
      have hcz35_3 : wc.cell? ⟨gb253, 3, none⟩ = some (.int .i64 a0_4) := (blk_cell BK253.out 3).trans rfl
      have hcz35_4 : wc.cell? ⟨gb253, 4, none⟩ = some (.int .i64 a0_5) := (blk_cell BK253.out 4).trans rfl
      have hcz35_5 : wc.cell? ⟨gb253, 5, none⟩ = some (.string a0_6) := (blk_cell BK253.out 5).trans rfl
      have hcz35_6 : wc.cell? ⟨gb253, 6, none⟩ = some (.string a0_7) := (blk_cell BK253.out 6).trans rfl
      have hcz35_7 : wc.cell? ⟨gb253, 7, none⟩ = some (.int .i64 a0_8) := (blk_cell BK253.out 7).trans rfl
      have hcz35_8 : wc.cell? ⟨gb253, 8, none⟩ = some (.int .i64 a0_9) := (blk_cell BK253.out 8).trans rfl
      have hcz35_9 : wc.cell? ⟨gb253, 9, none⟩ = some (.string a0_10) := (blk_cell BK253.out 9).trans rfl
      have hfz35_0 := blk_frozen BK253.out 0
      have hfz35_1 := blk_frozen BK253.out 1
      have hfz35_2 := blk_frozen BK253.out 2
      have hfz35_3 := blk_frozen BK253.out 3
      have hfz35_4 := blk_frozen BK253.out 4
      have hfz35_5 := blk_frozen BK253.out 5
      have hfz35_6 := blk_frozen BK253.out 6
      have hfz35_7 := blk_frozen BK253.out 7
      have hfz35_8 := blk_frozen BK253.out 8
      have hfz35_9 := blk_frozen BK253.out 9
      go_wp2
      go_meet
      case rel => exact ⟨_, (false), (by first | rfl | (simp; done) | (simp [*]; done)), H', ⟨by have := HJ1.out; first | omega | exact Nat.le_refl _⟩, ⟨by (with_reducible repeat (first | refine blk_drewN ?_ _ | refine blk_drew ?_ | refine blk_alloc ?_ _)); exact BK252.out⟩, ⟨by (with_reducible repeat (first | refine blk_drewN ?_ _ | refine blk_drew ?_ | refine blk_alloc ?_ _)); exact BK253.out⟩, ⟨by repeat (first | (with_reducible first | exact HB.out | apply below_alloc | apply pw_below_drewN | apply below_drew1 | refine below_set ?_ GE252.out | refine below_set ?_ GE253.out) | exact HB.out)⟩⟩
    case rest =>
     clear HC15
     try clear c1
     try clear c2
     try clear p2
     try clear c3
     try clear c5
     try clear c6
     try clear c8
     try clear c8b0
     try clear c8b1
     try clear c9
     try clear c12
     try clear c14
     try clear c16
     try clear c16b0
     try clear c17
     try clear c17b0
     try clear c18
     try clear c18b0
     try clear c18b1
     try clear c20
     try clear c22
     try clear c24
     try clear c26
     try clear c28
     try clear c30
     try clear c32
     try clear c34
     try clear hcz10_0
     try clear hcz10_1
     try clear hcz10_10
     try clear hcz10_2
     try clear hcz10_3
     try clear hcz10_4
     try clear hcz10_5
     try clear hcz10_6
     try clear hcz10_7
     try clear hcz10_8
     try clear hcz10_9
     try clear hcz13_0
     try clear hcz13_1
     try clear hcz13_10
     try clear hcz13_2
     try clear hcz13_3
     try clear hcz13_4
     try clear hcz13_5
     try clear hcz13_6
     try clear hcz13_7
     try clear hcz13_8
     try clear hcz13_9
     try clear hcz25_0
     try clear hcz25_1
     try clear hcz25_2
     try clear hcz25_3
     try clear hcz25_4
     try clear hcz25_5
     try clear hcz25_6
     try clear hcz25_7
     try clear hcz25_8
     try clear hcz25_9
     try clear hcz27_0
     try clear hcz27_1
     try clear hcz27_2
     try clear hcz27_3
     try clear hcz27_4
     try clear hcz27_5
     try clear hcz27_6
     try clear hcz27_7
     try clear hcz27_8
     try clear hcz27_9
     try clear hcz29_0
     try clear hcz29_1
     try clear hcz29_2
     try clear hcz29_3
     try clear hcz29_4
     try clear hcz29_5
     try clear hcz29_6
     try clear hcz29_7
     try clear hcz29_8
     try clear hcz29_9
     try clear hcz31_0
     try clear hcz31_1
     try clear hcz31_2
     try clear hcz31_3
     try clear hcz31_4
     try clear hcz31_5
     try clear hcz31_6
     try clear hcz31_7
     try clear hcz31_8
     try clear hcz31_9
     try clear hcz33_0
     try clear hcz33_1
     try clear hcz33_2
     try clear hcz33_3
     try clear hcz33_4
     try clear hcz33_5
     try clear hcz33_6
     try clear hcz33_7
     try clear hcz33_8
     try clear hcz33_9
     try clear hcz35_0
     try clear hcz35_1
     try clear hcz35_2
     try clear hcz35_3
     try clear hcz35_4
     try clear hcz35_5
     try clear hcz35_6
     try clear hcz35_7
     try clear hcz35_8
     try clear hcz35_9
     try clear hcz4_0
     try clear hcz4_1
     try clear hcz4_10
     try clear hcz4_2
     try clear hcz4_3
     try clear hcz4_4
     try clear hcz4_5
     try clear hcz4_6
     try clear hcz4_7
     try clear hcz4_8
     try clear hcz4_9
     try clear hcz7_0
     try clear hcz7_1
     try clear hcz7_2
     try clear hcz7_3
     try clear hcz7_4
     try clear hcz7_5
     try clear hcz7_6
     try clear hcz7_7
     try clear hcz7_8
     try clear hcz7_9
     try clear hfz10_0
     try clear hfz10_1
     try clear hfz10_10
     try clear hfz10_2
     try clear hfz10_3
     try clear hfz10_4
     try clear hfz10_5
     try clear hfz10_6
     try clear hfz10_7
     try clear hfz10_8
     try clear hfz10_9
     try clear hfz13_0
     try clear hfz13_1
     try clear hfz13_10
     try clear hfz13_2
     try clear hfz13_3
     try clear hfz13_4
     try clear hfz13_5
     try clear hfz13_6
     try clear hfz13_7
     try clear hfz13_8
     try clear hfz13_9
     try clear hfz25_0
     try clear hfz25_1
     try clear hfz25_2
     try clear hfz25_3
     try clear hfz25_4
     try clear hfz25_5
     try clear hfz25_6
     try clear hfz25_7
     try clear hfz25_8
     try clear hfz25_9
     try clear hfz27_0
     try clear hfz27_1
     try clear hfz27_2
     try clear hfz27_3
     try clear hfz27_4
     try clear hfz27_5
     try clear hfz27_6
     try clear hfz27_7
     try clear hfz27_8
     try clear hfz27_9
     try clear hfz29_0
     try clear hfz29_1
     try clear hfz29_2
     try clear hfz29_3
     try clear hfz29_4
     try clear hfz29_5
     try clear hfz29_6
     try clear hfz29_7
     try clear hfz29_8
     try clear hfz29_9
     try clear hfz31_0
     try clear hfz31_1
     try clear hfz31_2
     try clear hfz31_3
     try clear hfz31_4
     try clear hfz31_5
     try clear hfz31_6
     try clear hfz31_7
     try clear hfz31_8
     try clear hfz31_9
     try clear hfz33_0
     try clear hfz33_1
     try clear hfz33_2
     try clear hfz33_3
     try clear hfz33_4
     try clear hfz33_5
     try clear hfz33_6
     try clear hfz33_7
     try clear hfz33_8
     try clear hfz33_9
     try clear hfz35_0
     try clear hfz35_1
     try clear hfz35_2
     try clear hfz35_3
     try clear hfz35_4
     try clear hfz35_5
     try clear hfz35_6
     try clear hfz35_7
     try clear hfz35_8
     try clear hfz35_9
     try clear hfz4_0
     try clear hfz4_1
     try clear hfz4_10
     try clear hfz4_2
     try clear hfz4_3
     try clear hfz4_4
     try clear hfz4_5
     try clear hfz4_6
     try clear hfz4_7
     try clear hfz4_8
     try clear hfz4_9
     try clear hfz7_0
     try clear hfz7_1
     try clear hfz7_2
     try clear hfz7_3
     try clear hfz7_4
     try clear hfz7_5
     try clear hfz7_6
     try clear hfz7_7
     try clear hfz7_8
     try clear hfz7_9
     try clear p2
     obtain ⟨kq, x4_14, rfl, HA, HJ14, BK252, BK253, HB⟩ := hcut
     cases kq with
     | zero => exact absurd HA.out (by simp [pq16.j1])
     | succ kj14 =>
      have H := HA.out
      clear HA
      simp only [pq16.j1] at H
      have HC36 := Aside0.mk H
      clear H
      go_upto_region 5 with (fail)
      go_cut [4] (fun v4 wc => ∃ (kq : Nat) (x4_35 : Bool), v4 = .bool x4_35 ∧ Aside0 (pq16.j2 kq x4_35 a0_1 a0_2 a0_3 a0_4 a0_5 a0_6 a0_7 a0_8 a0_9 a0_10 = some r) ∧ Aside0 (kq ≤ kj14) ∧ Aside0 (wc.heap[gb252]? = some (.cells #[.string a0_0, .int .i64 a0_1, .int .i64 a0_2, .int .i64 a0_3, .int .i64 a0_4, .int .i64 a0_5, .string a0_6, .string a0_7, .int .i64 a0_8, .int .i64 a0_9, .string a0_10] 40 (0, 0))) ∧ Aside0 (wc.heap[gb253]? = some (.cells #[.int .i64 a0_1, .int .i64 a0_2, .int .i64 a0_3, .int .i64 a0_4, .int .i64 a0_5, .string a0_6, .string a0_7, .int .i64 a0_8, .int .i64 a0_9, .string a0_10] 26 (0, 0))) ∧ Aside0 (Below w.heap.size w wc))
      case first =>
       have H := HC36.out
       clear HC36
       by_cases c37 : x4_14 = true
       ·subst c37
        have H1 : ((mktar_strange.f a0_6).bind fun t258 => (if t258 = true then (pq16.j2 kj14 false a0_1 a0_2 a0_3 a0_4 a0_5 a0_6 a0_7 a0_8 a0_9 a0_10) else ((mktar_device.f kj14 a0_8).bind fun t259 => (if t259 = true then ((mktar_device.f kj14 a0_9).bind fun t260 => (if t260 = true then ((mktar_attrs.f a0_10).bind fun t261 => (pq16.j2 kj14 t261 a0_1 a0_2 a0_3 a0_4 a0_5 a0_6 a0_7 a0_8 a0_9 a0_10)) else (pq16.j2 kj14 false a0_1 a0_2 a0_3 a0_4 a0_5 a0_6 a0_7 a0_8 a0_9 a0_10))) else (pq16.j2 kj14 false a0_1 a0_2 a0_3 a0_4 a0_5 a0_6 a0_7 a0_8 a0_9 a0_10))))) = some r := by rw [if_pos rfl] at H; exact H
        clear H
        have H := H1
        clear H1
        replace H := Option.bind_eq_some_iff.mp H
        obtain ⟨t258, A380, H⟩ := H
        replace H : (if t258 = true then (pq16.j2 kj14 false a0_1 a0_2 a0_3 a0_4 a0_5 a0_6 a0_7 a0_8 a0_9 a0_10) else ((mktar_device.f kj14 a0_8).bind fun t259 => (if t259 = true then ((mktar_device.f kj14 a0_9).bind fun t260 => (if t260 = true then ((mktar_attrs.f a0_10).bind fun t261 => (pq16.j2 kj14 t261 a0_1 a0_2 a0_3 a0_4 a0_5 a0_6 a0_7 a0_8 a0_9 a0_10)) else (pq16.j2 kj14 false a0_1 a0_2 a0_3 a0_4 a0_5 a0_6 a0_7 a0_8 a0_9 a0_10))) else (pq16.j2 kj14 false a0_1 a0_2 a0_3 a0_4 a0_5 a0_6 a0_7 a0_8 a0_9 a0_10)))) = some r := H
        have A38 := Aside0.mk A380
        clear A380
        by_cases c39 : t258 = true
        ·subst c39
         have H1 : (pq16.j2 kj14 false a0_1 a0_2 a0_3 a0_4 a0_5 a0_6 a0_7 a0_8 a0_9 a0_10) = some r := by rw [if_pos rfl] at H; exact H
         clear H
         have H := H1
         clear H1
         have H' := Aside0.mk H
         clear H
         have hnb40 := NB253_252.out
         have hnc40 := NB252_253.out
         have hcz41_0 : wc.cell? ⟨gb253, 0, none⟩ = some (.int .i64 a0_1) := (blk_cell BK253.out 0).trans rfl
         have hcz41_1 : wc.cell? ⟨gb253, 1, none⟩ = some (.int .i64 a0_2) := (blk_cell BK253.out 1).trans rfl
         have hcz41_2 : wc.cell? ⟨gb253, 2, none⟩ = some (.int .i64 a0_3) := (blk_cell BK253.out 2).trans rfl
         have hcz41_3 : wc.cell? ⟨gb253, 3, none⟩ = some (.int .i64 a0_4) := (blk_cell BK253.out 3).trans rfl
         have hcz41_4 : wc.cell? ⟨gb253, 4, none⟩ = some (.int .i64 a0_5) := (blk_cell BK253.out 4).trans rfl
         have hcz41_5 : wc.cell? ⟨gb253, 5, none⟩ = some (.string a0_6) := (blk_cell BK253.out 5).trans rfl
         have hcz41_6 : wc.cell? ⟨gb253, 6, none⟩ = some (.string a0_7) := (blk_cell BK253.out 6).trans rfl
         have hcz41_7 : wc.cell? ⟨gb253, 7, none⟩ = some (.int .i64 a0_8) := (blk_cell BK253.out 7).trans rfl
         have hcz41_8 : wc.cell? ⟨gb253, 8, none⟩ = some (.int .i64 a0_9) := (blk_cell BK253.out 8).trans rfl
         have hcz41_9 : wc.cell? ⟨gb253, 9, none⟩ = some (.string a0_10) := (blk_cell BK253.out 9).trans rfl
         have hfz41_0 := blk_frozen BK253.out 0
         have hfz41_1 := blk_frozen BK253.out 1
         have hfz41_2 := blk_frozen BK253.out 2
         have hfz41_3 := blk_frozen BK253.out 3
         have hfz41_4 := blk_frozen BK253.out 4
         have hfz41_5 := blk_frozen BK253.out 5
         have hfz41_6 := blk_frozen BK253.out 6
         have hfz41_7 := blk_frozen BK253.out 7
         have hfz41_8 := blk_frozen BK253.out 8
         have hfz41_9 := blk_frozen BK253.out 9
         go_wp2_with (first | (go_at_call 84; (with_reducible refine (mktar_strange.calls a0_6 true _ A38.out).mono ?_); rintro e w' ⟨rfl, ⟨nd, rfl⟩⟩))
         go_meet
         case rel => exact ⟨_, (false), (by first | rfl | (simp; done) | (simp [*]; done)), H', ⟨by have := HJ1.out; have := HJ14.out; first | omega | exact Nat.le_refl _⟩, ⟨by (with_reducible repeat (first | refine blk_drewN ?_ _ | refine blk_drew ?_ | refine blk_alloc ?_ _)); exact BK252.out⟩, ⟨by (with_reducible repeat (first | refine blk_drewN ?_ _ | refine blk_drew ?_ | refine blk_alloc ?_ _)); exact BK253.out⟩, ⟨by repeat (first | (with_reducible first | exact HB.out | apply below_alloc | apply pw_below_drewN | apply below_drew1 | refine below_set ?_ GE252.out | refine below_set ?_ GE253.out) | exact HB.out)⟩⟩
        ·replace c39 := Bool.eq_false_iff.mpr c39
         subst c39
         have H1 : ((mktar_device.f kj14 a0_8).bind fun t259 => (if t259 = true then ((mktar_device.f kj14 a0_9).bind fun t260 => (if t260 = true then ((mktar_attrs.f a0_10).bind fun t261 => (pq16.j2 kj14 t261 a0_1 a0_2 a0_3 a0_4 a0_5 a0_6 a0_7 a0_8 a0_9 a0_10)) else (pq16.j2 kj14 false a0_1 a0_2 a0_3 a0_4 a0_5 a0_6 a0_7 a0_8 a0_9 a0_10))) else (pq16.j2 kj14 false a0_1 a0_2 a0_3 a0_4 a0_5 a0_6 a0_7 a0_8 a0_9 a0_10))) = some r := by rw [if_neg (show ¬ (false = true) by decide)] at H; exact H
         clear H
         have H := H1
         clear H1
         replace H := Option.bind_eq_some_iff.mp H
         obtain ⟨t259, A420, H⟩ := H
         replace H : (if t259 = true then ((mktar_device.f kj14 a0_9).bind fun t260 => (if t260 = true then ((mktar_attrs.f a0_10).bind fun t261 => (pq16.j2 kj14 t261 a0_1 a0_2 a0_3 a0_4 a0_5 a0_6 a0_7 a0_8 a0_9 a0_10)) else (pq16.j2 kj14 false a0_1 a0_2 a0_3 a0_4 a0_5 a0_6 a0_7 a0_8 a0_9 a0_10))) else (pq16.j2 kj14 false a0_1 a0_2 a0_3 a0_4 a0_5 a0_6 a0_7 a0_8 a0_9 a0_10)) = some r := H
         have A42 := Aside0.mk A420
         clear A420
         by_cases c43 : t259 = true
         ·subst c43
          have H1 : ((mktar_device.f kj14 a0_9).bind fun t260 => (if t260 = true then ((mktar_attrs.f a0_10).bind fun t261 => (pq16.j2 kj14 t261 a0_1 a0_2 a0_3 a0_4 a0_5 a0_6 a0_7 a0_8 a0_9 a0_10)) else (pq16.j2 kj14 false a0_1 a0_2 a0_3 a0_4 a0_5 a0_6 a0_7 a0_8 a0_9 a0_10))) = some r := by rw [if_pos rfl] at H; exact H
          clear H
          have H := H1
          clear H1
          replace H := Option.bind_eq_some_iff.mp H
          obtain ⟨t260, A440, H⟩ := H
          replace H : (if t260 = true then ((mktar_attrs.f a0_10).bind fun t261 => (pq16.j2 kj14 t261 a0_1 a0_2 a0_3 a0_4 a0_5 a0_6 a0_7 a0_8 a0_9 a0_10)) else (pq16.j2 kj14 false a0_1 a0_2 a0_3 a0_4 a0_5 a0_6 a0_7 a0_8 a0_9 a0_10)) = some r := H
          have A44 := Aside0.mk A440
          clear A440
          by_cases c45 : t260 = true
          ·subst c45
           have H1 : ((mktar_attrs.f a0_10).bind fun t261 => (pq16.j2 kj14 t261 a0_1 a0_2 a0_3 a0_4 a0_5 a0_6 a0_7 a0_8 a0_9 a0_10)) = some r := by rw [if_pos rfl] at H; exact H
           clear H
           have H := H1
           clear H1
           replace H := Option.bind_eq_some_iff.mp H
           obtain ⟨t261, A460, H⟩ := H
           replace H : (pq16.j2 kj14 t261 a0_1 a0_2 a0_3 a0_4 a0_5 a0_6 a0_7 a0_8 a0_9 a0_10) = some r := H
           have A46 := Aside0.mk A460
           clear A460
           have H' := Aside0.mk H
           clear H
           have hnb47 := NB253_252.out
           have hnc47 := NB252_253.out
           have hcz48_0 : wc.cell? ⟨gb253, 0, none⟩ = some (.int .i64 a0_1) := (blk_cell BK253.out 0).trans rfl
           have hcz48_1 : wc.cell? ⟨gb253, 1, none⟩ = some (.int .i64 a0_2) := (blk_cell BK253.out 1).trans rfl
           have hcz48_2 : wc.cell? ⟨gb253, 2, none⟩ = some (.int .i64 a0_3) := (blk_cell BK253.out 2).trans rfl
           have hcz48_3 : wc.cell? ⟨gb253, 3, none⟩ = some (.int .i64 a0_4) := (blk_cell BK253.out 3).trans rfl
           have hcz48_4 : wc.cell? ⟨gb253, 4, none⟩ = some (.int .i64 a0_5) := (blk_cell BK253.out 4).trans rfl
           have hcz48_5 : wc.cell? ⟨gb253, 5, none⟩ = some (.string a0_6) := (blk_cell BK253.out 5).trans rfl
           have hcz48_6 : wc.cell? ⟨gb253, 6, none⟩ = some (.string a0_7) := (blk_cell BK253.out 6).trans rfl
           have hcz48_7 : wc.cell? ⟨gb253, 7, none⟩ = some (.int .i64 a0_8) := (blk_cell BK253.out 7).trans rfl
           have hcz48_8 : wc.cell? ⟨gb253, 8, none⟩ = some (.int .i64 a0_9) := (blk_cell BK253.out 8).trans rfl
           have hcz48_9 : wc.cell? ⟨gb253, 9, none⟩ = some (.string a0_10) := (blk_cell BK253.out 9).trans rfl
           have hfz48_0 := blk_frozen BK253.out 0
           have hfz48_1 := blk_frozen BK253.out 1
           have hfz48_2 := blk_frozen BK253.out 2
           have hfz48_3 := blk_frozen BK253.out 3
           have hfz48_4 := blk_frozen BK253.out 4
           have hfz48_5 := blk_frozen BK253.out 5
           have hfz48_6 := blk_frozen BK253.out 6
           have hfz48_7 := blk_frozen BK253.out 7
           have hfz48_8 := blk_frozen BK253.out 8
           have hfz48_9 := blk_frozen BK253.out 9
           go_wp2_with (first | (go_at_call 84; (with_reducible refine (mktar_strange.calls a0_6 false _ A38.out).mono ?_); rintro e w' ⟨rfl, ⟨nd, rfl⟩⟩) | (go_at_call 86; (with_reducible refine (mktar_device.calls kj14 a0_8 true _ A42.out).mono ?_); rintro e w49 ⟨rfl, hb⟩; have n0_ := Aside0.mk (blk_below (g := gb252) (o := .cells #[.string a0_0, .int .i64 a0_1, .int .i64 a0_2, .int .i64 a0_3, .int .i64 a0_4, .int .i64 a0_5, .string a0_6, .string a0_7, .int .i64 a0_8, .int .i64 a0_9, .string a0_10] 40 (0, 0)) (by (with_reducible repeat (first | refine blk_drewN ?_ _ | refine blk_drew ?_ | refine blk_alloc ?_ _)); exact BK252.out) hb); have n1_ := Aside0.mk (blk_below (g := gb253) (o := .cells #[.int .i64 a0_1, .int .i64 a0_2, .int .i64 a0_3, .int .i64 a0_4, .int .i64 a0_5, .string a0_6, .string a0_7, .int .i64 a0_8, .int .i64 a0_9, .string a0_10] 26 (0, 0)) (by (with_reducible repeat (first | refine blk_drewN ?_ _ | refine blk_drew ?_ | refine blk_alloc ?_ _)); exact BK253.out) hb); have n2_ := Aside0.mk (below_step (by repeat (first | (with_reducible first | exact HB.out | apply below_alloc | apply pw_below_drewN | apply below_drew1 | refine below_set ?_ GE252.out | refine below_set ?_ GE253.out) | exact HB.out)) hb); clear BK252; clear BK253; clear HB; have BK252 := n0_; have BK253 := n1_; have HB := n2_; clear n0_ n1_ n2_; (try clear hb); (try clear hb2); (try clear hk); (try clear hi); have hcz50_0 : w49.cell? ⟨gb253, 0, none⟩ = some (.int .i64 a0_1) := (blk_cell BK253.out 0).trans rfl; have hcz50_1 : w49.cell? ⟨gb253, 1, none⟩ = some (.int .i64 a0_2) := (blk_cell BK253.out 1).trans rfl; have hcz50_2 : w49.cell? ⟨gb253, 2, none⟩ = some (.int .i64 a0_3) := (blk_cell BK253.out 2).trans rfl; have hcz50_3 : w49.cell? ⟨gb253, 3, none⟩ = some (.int .i64 a0_4) := (blk_cell BK253.out 3).trans rfl; have hcz50_4 : w49.cell? ⟨gb253, 4, none⟩ = some (.int .i64 a0_5) := (blk_cell BK253.out 4).trans rfl; have hcz50_5 : w49.cell? ⟨gb253, 5, none⟩ = some (.string a0_6) := (blk_cell BK253.out 5).trans rfl; have hcz50_6 : w49.cell? ⟨gb253, 6, none⟩ = some (.string a0_7) := (blk_cell BK253.out 6).trans rfl; have hcz50_7 : w49.cell? ⟨gb253, 7, none⟩ = some (.int .i64 a0_8) := (blk_cell BK253.out 7).trans rfl; have hcz50_8 : w49.cell? ⟨gb253, 8, none⟩ = some (.int .i64 a0_9) := (blk_cell BK253.out 8).trans rfl; have hcz50_9 : w49.cell? ⟨gb253, 9, none⟩ = some (.string a0_10) := (blk_cell BK253.out 9).trans rfl; have hfz50_0 := blk_frozen BK253.out 0; have hfz50_1 := blk_frozen BK253.out 1; have hfz50_2 := blk_frozen BK253.out 2; have hfz50_3 := blk_frozen BK253.out 3; have hfz50_4 := blk_frozen BK253.out 4; have hfz50_5 := blk_frozen BK253.out 5; have hfz50_6 := blk_frozen BK253.out 6; have hfz50_7 := blk_frozen BK253.out 7; have hfz50_8 := blk_frozen BK253.out 8; have hfz50_9 := blk_frozen BK253.out 9) | (go_at_call 86; (with_reducible refine (mktar_device.calls kj14 a0_9 true _ A44.out).mono ?_); rintro e w51 ⟨rfl, hb⟩; have n0_ := Aside0.mk (blk_below (g := gb252) (o := .cells #[.string a0_0, .int .i64 a0_1, .int .i64 a0_2, .int .i64 a0_3, .int .i64 a0_4, .int .i64 a0_5, .string a0_6, .string a0_7, .int .i64 a0_8, .int .i64 a0_9, .string a0_10] 40 (0, 0)) (by (with_reducible repeat (first | refine blk_drewN ?_ _ | refine blk_drew ?_ | refine blk_alloc ?_ _)); exact BK252.out) hb); have n1_ := Aside0.mk (blk_below (g := gb253) (o := .cells #[.int .i64 a0_1, .int .i64 a0_2, .int .i64 a0_3, .int .i64 a0_4, .int .i64 a0_5, .string a0_6, .string a0_7, .int .i64 a0_8, .int .i64 a0_9, .string a0_10] 26 (0, 0)) (by (with_reducible repeat (first | refine blk_drewN ?_ _ | refine blk_drew ?_ | refine blk_alloc ?_ _)); exact BK253.out) hb); have n2_ := Aside0.mk (below_step (by repeat (first | (with_reducible first | exact HB.out | apply below_alloc | apply pw_below_drewN | apply below_drew1 | refine below_set ?_ GE252.out | refine below_set ?_ GE253.out) | exact HB.out)) hb); clear BK252; clear BK253; clear HB; have BK252 := n0_; have BK253 := n1_; have HB := n2_; clear n0_ n1_ n2_; (try clear hb); (try clear hb2); (try clear hk); (try clear hi); have hcz52_0 : w51.cell? ⟨gb253, 0, none⟩ = some (.int .i64 a0_1) := (blk_cell BK253.out 0).trans rfl; have hcz52_1 : w51.cell? ⟨gb253, 1, none⟩ = some (.int .i64 a0_2) := (blk_cell BK253.out 1).trans rfl; have hcz52_2 : w51.cell? ⟨gb253, 2, none⟩ = some (.int .i64 a0_3) := (blk_cell BK253.out 2).trans rfl; have hcz52_3 : w51.cell? ⟨gb253, 3, none⟩ = some (.int .i64 a0_4) := (blk_cell BK253.out 3).trans rfl; have hcz52_4 : w51.cell? ⟨gb253, 4, none⟩ = some (.int .i64 a0_5) := (blk_cell BK253.out 4).trans rfl; have hcz52_5 : w51.cell? ⟨gb253, 5, none⟩ = some (.string a0_6) := (blk_cell BK253.out 5).trans rfl; have hcz52_6 : w51.cell? ⟨gb253, 6, none⟩ = some (.string a0_7) := (blk_cell BK253.out 6).trans rfl; have hcz52_7 : w51.cell? ⟨gb253, 7, none⟩ = some (.int .i64 a0_8) := (blk_cell BK253.out 7).trans rfl; have hcz52_8 : w51.cell? ⟨gb253, 8, none⟩ = some (.int .i64 a0_9) := (blk_cell BK253.out 8).trans rfl; have hcz52_9 : w51.cell? ⟨gb253, 9, none⟩ = some (.string a0_10) := (blk_cell BK253.out 9).trans rfl; have hfz52_0 := blk_frozen BK253.out 0; have hfz52_1 := blk_frozen BK253.out 1; have hfz52_2 := blk_frozen BK253.out 2; have hfz52_3 := blk_frozen BK253.out 3; have hfz52_4 := blk_frozen BK253.out 4; have hfz52_5 := blk_frozen BK253.out 5; have hfz52_6 := blk_frozen BK253.out 6; have hfz52_7 := blk_frozen BK253.out 7; have hfz52_8 := blk_frozen BK253.out 8; have hfz52_9 := blk_frozen BK253.out 9) | (go_at_call 87; (with_reducible refine (mktar_attrs.calls a0_10 t261 _ (hG.ext (by repeat (first | (with_reducible first | exact HB.out | apply below_alloc | apply pw_below_drewN | apply below_drew1 | refine below_set ?_ GE252.out | refine below_set ?_ GE253.out) | exact HB.out))) A46.out).mono ?_); rintro e w53 ⟨rfl, hb⟩; have n0_ := Aside0.mk (blk_below (g := gb252) (o := .cells #[.string a0_0, .int .i64 a0_1, .int .i64 a0_2, .int .i64 a0_3, .int .i64 a0_4, .int .i64 a0_5, .string a0_6, .string a0_7, .int .i64 a0_8, .int .i64 a0_9, .string a0_10] 40 (0, 0)) (by (with_reducible repeat (first | refine blk_drewN ?_ _ | refine blk_drew ?_ | refine blk_alloc ?_ _)); exact BK252.out) hb); have n1_ := Aside0.mk (blk_below (g := gb253) (o := .cells #[.int .i64 a0_1, .int .i64 a0_2, .int .i64 a0_3, .int .i64 a0_4, .int .i64 a0_5, .string a0_6, .string a0_7, .int .i64 a0_8, .int .i64 a0_9, .string a0_10] 26 (0, 0)) (by (with_reducible repeat (first | refine blk_drewN ?_ _ | refine blk_drew ?_ | refine blk_alloc ?_ _)); exact BK253.out) hb); have n2_ := Aside0.mk (below_step (by repeat (first | (with_reducible first | exact HB.out | apply below_alloc | apply pw_below_drewN | apply below_drew1 | refine below_set ?_ GE252.out | refine below_set ?_ GE253.out) | exact HB.out)) hb); clear BK252; clear BK253; clear HB; have BK252 := n0_; have BK253 := n1_; have HB := n2_; clear n0_ n1_ n2_; (try clear hb); (try clear hb2); (try clear hk); (try clear hi)))
           go_meet
           case rel => exact ⟨_, (t261), (by first | rfl | (simp; done) | (simp [*]; done)), H', ⟨by have := HJ1.out; have := HJ14.out; first | omega | exact Nat.le_refl _⟩, ⟨by (with_reducible repeat (first | refine blk_drewN ?_ _ | refine blk_drew ?_ | refine blk_alloc ?_ _)); exact BK252.out⟩, ⟨by (with_reducible repeat (first | refine blk_drewN ?_ _ | refine blk_drew ?_ | refine blk_alloc ?_ _)); exact BK253.out⟩, ⟨by repeat (first | (with_reducible first | exact HB.out | apply below_alloc | apply pw_below_drewN | apply below_drew1 | refine below_set ?_ GE252.out | refine below_set ?_ GE253.out) | exact HB.out)⟩⟩
          ·replace c45 := Bool.eq_false_iff.mpr c45
           subst c45
           have H1 : (pq16.j2 kj14 false a0_1 a0_2 a0_3 a0_4 a0_5 a0_6 a0_7 a0_8 a0_9 a0_10) = some r := by rw [if_neg (show ¬ (false = true) by decide)] at H; exact H
           clear H
           have H := H1
           clear H1
           have H' := Aside0.mk H
           clear H
           have hnb54 := NB253_252.out
           have hnc54 := NB252_253.out
           have hcz55_0 : wc.cell? ⟨gb253, 0, none⟩ = some (.int .i64 a0_1) := (blk_cell BK253.out 0).trans rfl
           have hcz55_1 : wc.cell? ⟨gb253, 1, none⟩ = some (.int .i64 a0_2) := (blk_cell BK253.out 1).trans rfl
           have hcz55_2 : wc.cell? ⟨gb253, 2, none⟩ = some (.int .i64 a0_3) := (blk_cell BK253.out 2).trans rfl
           have hcz55_3 : wc.cell? ⟨gb253, 3, none⟩ = some (.int .i64 a0_4) := (blk_cell BK253.out 3).trans rfl
           have hcz55_4 : wc.cell? ⟨gb253, 4, none⟩ = some (.int .i64 a0_5) := (blk_cell BK253.out 4).trans rfl
           have hcz55_5 : wc.cell? ⟨gb253, 5, none⟩ = some (.string a0_6) := (blk_cell BK253.out 5).trans rfl
           have hcz55_6 : wc.cell? ⟨gb253, 6, none⟩ = some (.string a0_7) := (blk_cell BK253.out 6).trans rfl
           have hcz55_7 : wc.cell? ⟨gb253, 7, none⟩ = some (.int .i64 a0_8) := (blk_cell BK253.out 7).trans rfl
           have hcz55_8 : wc.cell? ⟨gb253, 8, none⟩ = some (.int .i64 a0_9) := (blk_cell BK253.out 8).trans rfl
           have hcz55_9 : wc.cell? ⟨gb253, 9, none⟩ = some (.string a0_10) := (blk_cell BK253.out 9).trans rfl
           have hfz55_0 := blk_frozen BK253.out 0
           have hfz55_1 := blk_frozen BK253.out 1
           have hfz55_2 := blk_frozen BK253.out 2
           have hfz55_3 := blk_frozen BK253.out 3
           have hfz55_4 := blk_frozen BK253.out 4
           have hfz55_5 := blk_frozen BK253.out 5
           have hfz55_6 := blk_frozen BK253.out 6
           have hfz55_7 := blk_frozen BK253.out 7
           have hfz55_8 := blk_frozen BK253.out 8
           have hfz55_9 := blk_frozen BK253.out 9
           go_wp2_with (first | (go_at_call 84; (with_reducible refine (mktar_strange.calls a0_6 false _ A38.out).mono ?_); rintro e w' ⟨rfl, ⟨nd, rfl⟩⟩) | (go_at_call 86; (with_reducible refine (mktar_device.calls kj14 a0_8 true _ A42.out).mono ?_); rintro e w56 ⟨rfl, hb⟩; have n0_ := Aside0.mk (blk_below (g := gb252) (o := .cells #[.string a0_0, .int .i64 a0_1, .int .i64 a0_2, .int .i64 a0_3, .int .i64 a0_4, .int .i64 a0_5, .string a0_6, .string a0_7, .int .i64 a0_8, .int .i64 a0_9, .string a0_10] 40 (0, 0)) (by (with_reducible repeat (first | refine blk_drewN ?_ _ | refine blk_drew ?_ | refine blk_alloc ?_ _)); exact BK252.out) hb); have n1_ := Aside0.mk (blk_below (g := gb253) (o := .cells #[.int .i64 a0_1, .int .i64 a0_2, .int .i64 a0_3, .int .i64 a0_4, .int .i64 a0_5, .string a0_6, .string a0_7, .int .i64 a0_8, .int .i64 a0_9, .string a0_10] 26 (0, 0)) (by (with_reducible repeat (first | refine blk_drewN ?_ _ | refine blk_drew ?_ | refine blk_alloc ?_ _)); exact BK253.out) hb); have n2_ := Aside0.mk (below_step (by repeat (first | (with_reducible first | exact HB.out | apply below_alloc | apply pw_below_drewN | apply below_drew1 | refine below_set ?_ GE252.out | refine below_set ?_ GE253.out) | exact HB.out)) hb); clear BK252; clear BK253; clear HB; have BK252 := n0_; have BK253 := n1_; have HB := n2_; clear n0_ n1_ n2_; (try clear hb); (try clear hb2); (try clear hk); (try clear hi); have hcz57_0 : w56.cell? ⟨gb253, 0, none⟩ = some (.int .i64 a0_1) := (blk_cell BK253.out 0).trans rfl; have hcz57_1 : w56.cell? ⟨gb253, 1, none⟩ = some (.int .i64 a0_2) := (blk_cell BK253.out 1).trans rfl; have hcz57_2 : w56.cell? ⟨gb253, 2, none⟩ = some (.int .i64 a0_3) := (blk_cell BK253.out 2).trans rfl; have hcz57_3 : w56.cell? ⟨gb253, 3, none⟩ = some (.int .i64 a0_4) := (blk_cell BK253.out 3).trans rfl; have hcz57_4 : w56.cell? ⟨gb253, 4, none⟩ = some (.int .i64 a0_5) := (blk_cell BK253.out 4).trans rfl; have hcz57_5 : w56.cell? ⟨gb253, 5, none⟩ = some (.string a0_6) := (blk_cell BK253.out 5).trans rfl; have hcz57_6 : w56.cell? ⟨gb253, 6, none⟩ = some (.string a0_7) := (blk_cell BK253.out 6).trans rfl; have hcz57_7 : w56.cell? ⟨gb253, 7, none⟩ = some (.int .i64 a0_8) := (blk_cell BK253.out 7).trans rfl; have hcz57_8 : w56.cell? ⟨gb253, 8, none⟩ = some (.int .i64 a0_9) := (blk_cell BK253.out 8).trans rfl; have hcz57_9 : w56.cell? ⟨gb253, 9, none⟩ = some (.string a0_10) := (blk_cell BK253.out 9).trans rfl; have hfz57_0 := blk_frozen BK253.out 0; have hfz57_1 := blk_frozen BK253.out 1; have hfz57_2 := blk_frozen BK253.out 2; have hfz57_3 := blk_frozen BK253.out 3; have hfz57_4 := blk_frozen BK253.out 4; have hfz57_5 := blk_frozen BK253.out 5; have hfz57_6 := blk_frozen BK253.out 6; have hfz57_7 := blk_frozen BK253.out 7; have hfz57_8 := blk_frozen BK253.out 8; have hfz57_9 := blk_frozen BK253.out 9) | (go_at_call 86; (with_reducible refine (mktar_device.calls kj14 a0_9 false _ A44.out).mono ?_); rintro e w58 ⟨rfl, hb⟩; have n0_ := Aside0.mk (blk_below (g := gb252) (o := .cells #[.string a0_0, .int .i64 a0_1, .int .i64 a0_2, .int .i64 a0_3, .int .i64 a0_4, .int .i64 a0_5, .string a0_6, .string a0_7, .int .i64 a0_8, .int .i64 a0_9, .string a0_10] 40 (0, 0)) (by (with_reducible repeat (first | refine blk_drewN ?_ _ | refine blk_drew ?_ | refine blk_alloc ?_ _)); exact BK252.out) hb); have n1_ := Aside0.mk (blk_below (g := gb253) (o := .cells #[.int .i64 a0_1, .int .i64 a0_2, .int .i64 a0_3, .int .i64 a0_4, .int .i64 a0_5, .string a0_6, .string a0_7, .int .i64 a0_8, .int .i64 a0_9, .string a0_10] 26 (0, 0)) (by (with_reducible repeat (first | refine blk_drewN ?_ _ | refine blk_drew ?_ | refine blk_alloc ?_ _)); exact BK253.out) hb); have n2_ := Aside0.mk (below_step (by repeat (first | (with_reducible first | exact HB.out | apply below_alloc | apply pw_below_drewN | apply below_drew1 | refine below_set ?_ GE252.out | refine below_set ?_ GE253.out) | exact HB.out)) hb); clear BK252; clear BK253; clear HB; have BK252 := n0_; have BK253 := n1_; have HB := n2_; clear n0_ n1_ n2_; (try clear hb); (try clear hb2); (try clear hk); (try clear hi)))
           go_meet
           case rel => exact ⟨_, (false), (by first | rfl | (simp; done) | (simp [*]; done)), H', ⟨by have := HJ1.out; have := HJ14.out; first | omega | exact Nat.le_refl _⟩, ⟨by (with_reducible repeat (first | refine blk_drewN ?_ _ | refine blk_drew ?_ | refine blk_alloc ?_ _)); exact BK252.out⟩, ⟨by (with_reducible repeat (first | refine blk_drewN ?_ _ | refine blk_drew ?_ | refine blk_alloc ?_ _)); exact BK253.out⟩, ⟨by repeat (first | (with_reducible first | exact HB.out | apply below_alloc | apply pw_below_drewN | apply below_drew1 | refine below_set ?_ GE252.out | refine below_set ?_ GE253.out) | exact HB.out)⟩⟩
         ·replace c43 := Bool.eq_false_iff.mpr c43
          subst c43
          have H1 : (pq16.j2 kj14 false a0_1 a0_2 a0_3 a0_4 a0_5 a0_6 a0_7 a0_8 a0_9 a0_10) = some r := by rw [if_neg (show ¬ (false = true) by decide)] at H; exact H
          clear H
          have H := H1
          clear H1
          have H' := Aside0.mk H
          clear H
          have hnb59 := NB253_252.out
          have hnc59 := NB252_253.out
          have hcz60_0 : wc.cell? ⟨gb253, 0, none⟩ = some (.int .i64 a0_1) := (blk_cell BK253.out 0).trans rfl
          have hcz60_1 : wc.cell? ⟨gb253, 1, none⟩ = some (.int .i64 a0_2) := (blk_cell BK253.out 1).trans rfl
          have hcz60_2 : wc.cell? ⟨gb253, 2, none⟩ = some (.int .i64 a0_3) := (blk_cell BK253.out 2).trans rfl
          have hcz60_3 : wc.cell? ⟨gb253, 3, none⟩ = some (.int .i64 a0_4) := (blk_cell BK253.out 3).trans rfl
          have hcz60_4 : wc.cell? ⟨gb253, 4, none⟩ = some (.int .i64 a0_5) := (blk_cell BK253.out 4).trans rfl
          have hcz60_5 : wc.cell? ⟨gb253, 5, none⟩ = some (.string a0_6) := (blk_cell BK253.out 5).trans rfl
          have hcz60_6 : wc.cell? ⟨gb253, 6, none⟩ = some (.string a0_7) := (blk_cell BK253.out 6).trans rfl
          have hcz60_7 : wc.cell? ⟨gb253, 7, none⟩ = some (.int .i64 a0_8) := (blk_cell BK253.out 7).trans rfl
          have hcz60_8 : wc.cell? ⟨gb253, 8, none⟩ = some (.int .i64 a0_9) := (blk_cell BK253.out 8).trans rfl
          have hcz60_9 : wc.cell? ⟨gb253, 9, none⟩ = some (.string a0_10) := (blk_cell BK253.out 9).trans rfl
          have hfz60_0 := blk_frozen BK253.out 0
          have hfz60_1 := blk_frozen BK253.out 1
          have hfz60_2 := blk_frozen BK253.out 2
          have hfz60_3 := blk_frozen BK253.out 3
          have hfz60_4 := blk_frozen BK253.out 4
          have hfz60_5 := blk_frozen BK253.out 5
          have hfz60_6 := blk_frozen BK253.out 6
          have hfz60_7 := blk_frozen BK253.out 7
          have hfz60_8 := blk_frozen BK253.out 8
          have hfz60_9 := blk_frozen BK253.out 9
          go_wp2_with (first | (go_at_call 84; (with_reducible refine (mktar_strange.calls a0_6 false _ A38.out).mono ?_); rintro e w' ⟨rfl, ⟨nd, rfl⟩⟩) | (go_at_call 86; (with_reducible refine (mktar_device.calls kj14 a0_8 false _ A42.out).mono ?_); rintro e w61 ⟨rfl, hb⟩; have n0_ := Aside0.mk (blk_below (g := gb252) (o := .cells #[.string a0_0, .int .i64 a0_1, .int .i64 a0_2, .int .i64 a0_3, .int .i64 a0_4, .int .i64 a0_5, .string a0_6, .string a0_7, .int .i64 a0_8, .int .i64 a0_9, .string a0_10] 40 (0, 0)) (by (with_reducible repeat (first | refine blk_drewN ?_ _ | refine blk_drew ?_ | refine blk_alloc ?_ _)); exact BK252.out) hb); have n1_ := Aside0.mk (blk_below (g := gb253) (o := .cells #[.int .i64 a0_1, .int .i64 a0_2, .int .i64 a0_3, .int .i64 a0_4, .int .i64 a0_5, .string a0_6, .string a0_7, .int .i64 a0_8, .int .i64 a0_9, .string a0_10] 26 (0, 0)) (by (with_reducible repeat (first | refine blk_drewN ?_ _ | refine blk_drew ?_ | refine blk_alloc ?_ _)); exact BK253.out) hb); have n2_ := Aside0.mk (below_step (by repeat (first | (with_reducible first | exact HB.out | apply below_alloc | apply pw_below_drewN | apply below_drew1 | refine below_set ?_ GE252.out | refine below_set ?_ GE253.out) | exact HB.out)) hb); clear BK252; clear BK253; clear HB; have BK252 := n0_; have BK253 := n1_; have HB := n2_; clear n0_ n1_ n2_; (try clear hb); (try clear hb2); (try clear hk); (try clear hi)))
          go_meet
          case rel => exact ⟨_, (false), (by first | rfl | (simp; done) | (simp [*]; done)), H', ⟨by have := HJ1.out; have := HJ14.out; first | omega | exact Nat.le_refl _⟩, ⟨by (with_reducible repeat (first | refine blk_drewN ?_ _ | refine blk_drew ?_ | refine blk_alloc ?_ _)); exact BK252.out⟩, ⟨by (with_reducible repeat (first | refine blk_drewN ?_ _ | refine blk_drew ?_ | refine blk_alloc ?_ _)); exact BK253.out⟩, ⟨by repeat (first | (with_reducible first | exact HB.out | apply below_alloc | apply pw_below_drewN | apply below_drew1 | refine below_set ?_ GE252.out | refine below_set ?_ GE253.out) | exact HB.out)⟩⟩
       ·replace c37 := Bool.eq_false_iff.mpr c37
        subst c37
        have H1 : (pq16.j2 kj14 false a0_1 a0_2 a0_3 a0_4 a0_5 a0_6 a0_7 a0_8 a0_9 a0_10) = some r := by rw [if_neg (show ¬ (false = true) by decide)] at H; exact H
        clear H
        have H := H1
        clear H1
        have H' := Aside0.mk H
        clear H
        go_wp2
        go_meet
        case rel => exact ⟨_, (false), (by first | rfl | (simp; done) | (simp [*]; done)), H', ⟨by have := HJ1.out; have := HJ14.out; first | omega | exact Nat.le_refl _⟩, ⟨by (with_reducible repeat (first | refine blk_drewN ?_ _ | refine blk_drew ?_ | refine blk_alloc ?_ _)); exact BK252.out⟩, ⟨by (with_reducible repeat (first | refine blk_drewN ?_ _ | refine blk_drew ?_ | refine blk_alloc ?_ _)); exact BK253.out⟩, ⟨by repeat (first | (with_reducible first | exact HB.out | apply below_alloc | apply pw_below_drewN | apply below_drew1 | refine below_set ?_ GE252.out | refine below_set ?_ GE253.out) | exact HB.out)⟩⟩
      case rest =>
       clear HC36
       try clear c1
       try clear c2
       try clear p2
       try clear c3
       try clear c4
       try clear c5
       try clear c6
       try clear c8
       try clear c8b0
       try clear c8b1
       try clear c9
       try clear c12
       try clear c14
       try clear c16
       try clear c16b0
       try clear c17
       try clear c17b0
       try clear c18
       try clear c18b0
       try clear c18b1
       try clear c20
       try clear c22
       try clear c24
       try clear c26
       try clear c28
       try clear c30
       try clear c32
       try clear c34
       try clear c37
       try clear c39
       try clear c40
       try clear c43
       try clear c45
       try clear c47
       try clear c54
       try clear c59
       try clear hcz10_0
       try clear hcz10_1
       try clear hcz10_10
       try clear hcz10_2
       try clear hcz10_3
       try clear hcz10_4
       try clear hcz10_5
       try clear hcz10_6
       try clear hcz10_7
       try clear hcz10_8
       try clear hcz10_9
       try clear hcz13_0
       try clear hcz13_1
       try clear hcz13_10
       try clear hcz13_2
       try clear hcz13_3
       try clear hcz13_4
       try clear hcz13_5
       try clear hcz13_6
       try clear hcz13_7
       try clear hcz13_8
       try clear hcz13_9
       try clear hcz25_0
       try clear hcz25_1
       try clear hcz25_2
       try clear hcz25_3
       try clear hcz25_4
       try clear hcz25_5
       try clear hcz25_6
       try clear hcz25_7
       try clear hcz25_8
       try clear hcz25_9
       try clear hcz27_0
       try clear hcz27_1
       try clear hcz27_2
       try clear hcz27_3
       try clear hcz27_4
       try clear hcz27_5
       try clear hcz27_6
       try clear hcz27_7
       try clear hcz27_8
       try clear hcz27_9
       try clear hcz29_0
       try clear hcz29_1
       try clear hcz29_2
       try clear hcz29_3
       try clear hcz29_4
       try clear hcz29_5
       try clear hcz29_6
       try clear hcz29_7
       try clear hcz29_8
       try clear hcz29_9
       try clear hcz31_0
       try clear hcz31_1
       try clear hcz31_2
       try clear hcz31_3
       try clear hcz31_4
       try clear hcz31_5
       try clear hcz31_6
       try clear hcz31_7
       try clear hcz31_8
       try clear hcz31_9
       try clear hcz33_0
       try clear hcz33_1
       try clear hcz33_2
       try clear hcz33_3
       try clear hcz33_4
       try clear hcz33_5
       try clear hcz33_6
       try clear hcz33_7
       try clear hcz33_8
       try clear hcz33_9
       try clear hcz35_0
       try clear hcz35_1
       try clear hcz35_2
       try clear hcz35_3
       try clear hcz35_4
       try clear hcz35_5
       try clear hcz35_6
       try clear hcz35_7
       try clear hcz35_8
       try clear hcz35_9
       try clear hcz41_0
       try clear hcz41_1
       try clear hcz41_2
       try clear hcz41_3
       try clear hcz41_4
       try clear hcz41_5
       try clear hcz41_6
       try clear hcz41_7
       try clear hcz41_8
       try clear hcz41_9
       try clear hcz48_0
       try clear hcz48_1
       try clear hcz48_2
       try clear hcz48_3
       try clear hcz48_4
       try clear hcz48_5
       try clear hcz48_6
       try clear hcz48_7
       try clear hcz48_8
       try clear hcz48_9
       try clear hcz4_0
       try clear hcz4_1
       try clear hcz4_10
       try clear hcz4_2
       try clear hcz4_3
       try clear hcz4_4
       try clear hcz4_5
       try clear hcz4_6
       try clear hcz4_7
       try clear hcz4_8
       try clear hcz4_9
       try clear hcz50_0
       try clear hcz50_1
       try clear hcz50_2
       try clear hcz50_3
       try clear hcz50_4
       try clear hcz50_5
       try clear hcz50_6
       try clear hcz50_7
       try clear hcz50_8
       try clear hcz50_9
       try clear hcz52_0
       try clear hcz52_1
       try clear hcz52_2
       try clear hcz52_3
       try clear hcz52_4
       try clear hcz52_5
       try clear hcz52_6
       try clear hcz52_7
       try clear hcz52_8
       try clear hcz52_9
       try clear hcz55_0
       try clear hcz55_1
       try clear hcz55_2
       try clear hcz55_3
       try clear hcz55_4
       try clear hcz55_5
       try clear hcz55_6
       try clear hcz55_7
       try clear hcz55_8
       try clear hcz55_9
       try clear hcz57_0
       try clear hcz57_1
       try clear hcz57_2
       try clear hcz57_3
       try clear hcz57_4
       try clear hcz57_5
       try clear hcz57_6
       try clear hcz57_7
       try clear hcz57_8
       try clear hcz57_9
       try clear hcz60_0
       try clear hcz60_1
       try clear hcz60_2
       try clear hcz60_3
       try clear hcz60_4
       try clear hcz60_5
       try clear hcz60_6
       try clear hcz60_7
       try clear hcz60_8
       try clear hcz60_9
       try clear hcz7_0
       try clear hcz7_1
       try clear hcz7_2
       try clear hcz7_3
       try clear hcz7_4
       try clear hcz7_5
       try clear hcz7_6
       try clear hcz7_7
       try clear hcz7_8
       try clear hcz7_9
       try clear hfz10_0
       try clear hfz10_1
       try clear hfz10_10
       try clear hfz10_2
       try clear hfz10_3
       try clear hfz10_4
       try clear hfz10_5
       try clear hfz10_6
       try clear hfz10_7
       try clear hfz10_8
       try clear hfz10_9
       try clear hfz13_0
       try clear hfz13_1
       try clear hfz13_10
       try clear hfz13_2
       try clear hfz13_3
       try clear hfz13_4
       try clear hfz13_5
       try clear hfz13_6
       try clear hfz13_7
       try clear hfz13_8
       try clear hfz13_9
       try clear hfz25_0
       try clear hfz25_1
       try clear hfz25_2
       try clear hfz25_3
       try clear hfz25_4
       try clear hfz25_5
       try clear hfz25_6
       try clear hfz25_7
       try clear hfz25_8
       try clear hfz25_9
       try clear hfz27_0
       try clear hfz27_1
       try clear hfz27_2
       try clear hfz27_3
       try clear hfz27_4
       try clear hfz27_5
       try clear hfz27_6
       try clear hfz27_7
       try clear hfz27_8
       try clear hfz27_9
       try clear hfz29_0
       try clear hfz29_1
       try clear hfz29_2
       try clear hfz29_3
       try clear hfz29_4
       try clear hfz29_5
       try clear hfz29_6
       try clear hfz29_7
       try clear hfz29_8
       try clear hfz29_9
       try clear hfz31_0
       try clear hfz31_1
       try clear hfz31_2
       try clear hfz31_3
       try clear hfz31_4
       try clear hfz31_5
       try clear hfz31_6
       try clear hfz31_7
       try clear hfz31_8
       try clear hfz31_9
       try clear hfz33_0
       try clear hfz33_1
       try clear hfz33_2
       try clear hfz33_3
       try clear hfz33_4
       try clear hfz33_5
       try clear hfz33_6
       try clear hfz33_7
       try clear hfz33_8
       try clear hfz33_9
       try clear hfz35_0
       try clear hfz35_1
       try clear hfz35_2
       try clear hfz35_3
       try clear hfz35_4
       try clear hfz35_5
       try clear hfz35_6
       try clear hfz35_7
       try clear hfz35_8
       try clear hfz35_9
       try clear hfz41_0
       try clear hfz41_1
       try clear hfz41_2
       try clear hfz41_3
       try clear hfz41_4
       try clear hfz41_5
       try clear hfz41_6
       try clear hfz41_7
       try clear hfz41_8
       try clear hfz41_9
       try clear hfz48_0
       try clear hfz48_1
       try clear hfz48_2
       try clear hfz48_3
       try clear hfz48_4
       try clear hfz48_5
       try clear hfz48_6
       try clear hfz48_7
       try clear hfz48_8
       try clear hfz48_9
       try clear hfz4_0
       try clear hfz4_1
       try clear hfz4_10
       try clear hfz4_2
       try clear hfz4_3
       try clear hfz4_4
       try clear hfz4_5
       try clear hfz4_6
       try clear hfz4_7
       try clear hfz4_8
       try clear hfz4_9
       try clear hfz50_0
       try clear hfz50_1
       try clear hfz50_2
       try clear hfz50_3
       try clear hfz50_4
       try clear hfz50_5
       try clear hfz50_6
       try clear hfz50_7
       try clear hfz50_8
       try clear hfz50_9
       try clear hfz52_0
       try clear hfz52_1
       try clear hfz52_2
       try clear hfz52_3
       try clear hfz52_4
       try clear hfz52_5
       try clear hfz52_6
       try clear hfz52_7
       try clear hfz52_8
       try clear hfz52_9
       try clear hfz55_0
       try clear hfz55_1
       try clear hfz55_2
       try clear hfz55_3
       try clear hfz55_4
       try clear hfz55_5
       try clear hfz55_6
       try clear hfz55_7
       try clear hfz55_8
       try clear hfz55_9
       try clear hfz57_0
       try clear hfz57_1
       try clear hfz57_2
       try clear hfz57_3
       try clear hfz57_4
       try clear hfz57_5
       try clear hfz57_6
       try clear hfz57_7
       try clear hfz57_8
       try clear hfz57_9
       try clear hfz60_0
       try clear hfz60_1
       try clear hfz60_2
       try clear hfz60_3
       try clear hfz60_4
       try clear hfz60_5
       try clear hfz60_6
       try clear hfz60_7
       try clear hfz60_8
       try clear hfz60_9
       try clear hfz7_0
       try clear hfz7_1
       try clear hfz7_2
       try clear hfz7_3
       try clear hfz7_4
       try clear hfz7_5
       try clear hfz7_6
       try clear hfz7_7
       try clear hfz7_8
       try clear hfz7_9
       try clear p2
       obtain ⟨kq, x4_35, rfl, HA, HJ35, BK252, BK253, HB⟩ := hcut
       cases kq with
       | zero => exact absurd HA.out (by simp [pq16.j2])
       | succ kj35 =>
        have H := HA.out
        clear HA
        simp only [pq16.j2] at H
        have HC62 := Aside0.mk H
        clear H
        have hnb63 := NB253_252.out
        have hnc63 := NB252_253.out
        have hcz64_0 : wc.cell? ⟨gb253, 0, none⟩ = some (.int .i64 a0_1) := (blk_cell BK253.out 0).trans rfl
        have hcz64_1 : wc.cell? ⟨gb253, 1, none⟩ = some (.int .i64 a0_2) := (blk_cell BK253.out 1).trans rfl
        have hcz64_2 : wc.cell? ⟨gb253, 2, none⟩ = some (.int .i64 a0_3) := (blk_cell BK253.out 2).trans rfl
        have hcz64_3 : wc.cell? ⟨gb253, 3, none⟩ = some (.int .i64 a0_4) := (blk_cell BK253.out 3).trans rfl
        have hcz64_4 : wc.cell? ⟨gb253, 4, none⟩ = some (.int .i64 a0_5) := (blk_cell BK253.out 4).trans rfl
        have hcz64_5 : wc.cell? ⟨gb253, 5, none⟩ = some (.string a0_6) := (blk_cell BK253.out 5).trans rfl
        have hcz64_6 : wc.cell? ⟨gb253, 6, none⟩ = some (.string a0_7) := (blk_cell BK253.out 6).trans rfl
        have hcz64_7 : wc.cell? ⟨gb253, 7, none⟩ = some (.int .i64 a0_8) := (blk_cell BK253.out 7).trans rfl
        have hcz64_8 : wc.cell? ⟨gb253, 8, none⟩ = some (.int .i64 a0_9) := (blk_cell BK253.out 8).trans rfl
        have hcz64_9 : wc.cell? ⟨gb253, 9, none⟩ = some (.string a0_10) := (blk_cell BK253.out 9).trans rfl
        have hfz64_0 := blk_frozen BK253.out 0
        have hfz64_1 := blk_frozen BK253.out 1
        have hfz64_2 := blk_frozen BK253.out 2
        have hfz64_3 := blk_frozen BK253.out 3
        have hfz64_4 := blk_frozen BK253.out 4
        have hfz64_5 := blk_frozen BK253.out 5
        have hfz64_6 := blk_frozen BK253.out 6
        have hfz64_7 := blk_frozen BK253.out 7
        have hfz64_8 := blk_frozen BK253.out 8
        have hfz64_9 := blk_frozen BK253.out 9
        go_upto_block 0 with (fail)
        go_cut [4] (fun v4 wc => ∃ (kq : Nat) (x4_61 : Bool), v4 = .bool x4_61 ∧ Aside0 (pq16.j3 kq x4_61 a0_1 a0_2 a0_3 a0_4 a0_5 a0_6 a0_7 a0_8 a0_9 a0_10 = some r) ∧ Aside0 (kq ≤ kj35) ∧ Aside0 (wc.heap[gb252]? = some (.cells #[.string a0_0, .int .i64 a0_1, .int .i64 a0_2, .int .i64 a0_3, .int .i64 a0_4, .int .i64 a0_5, .string a0_6, .string a0_7, .int .i64 a0_8, .int .i64 a0_9, .string a0_10] 40 (0, 0))) ∧ Aside0 (wc.heap[gb253]? = some (.cells #[.int .i64 a0_1, .int .i64 a0_2, .int .i64 a0_3, .int .i64 a0_4, .int .i64 a0_5, .string a0_6, .string a0_7, .int .i64 a0_8, .int .i64 a0_9, .string a0_10] 26 (0, 0))) ∧ Aside0 (Below w.heap.size w wc))
        case first =>
         have H := HC62.out
         clear HC62
         by_cases c65 : a0_1 = 2
         ·rw [if_pos c65] at H
          have c65b0 : (a0_1 == 2) = true := beq_iff_eq.mpr c65
          have c65b1 : (a0_1 != 2) = false := bne_eq_false_iff_eq.mpr c65
          clear c65
          (first | rw [c65b0] | (simp only [i64_w, i32_w]; rw [c65b0]) | skip)
          have H' := Aside0.mk H
          clear H
          go_wp2
          go_meet
          case rel => exact ⟨_, (x4_35), (by first | rfl | (simp; done) | (simp [*]; done)), H', ⟨by have := HJ1.out; have := HJ14.out; have := HJ35.out; first | omega | exact Nat.le_refl _⟩, ⟨by (with_reducible repeat (first | refine blk_drewN ?_ _ | refine blk_drew ?_ | refine blk_alloc ?_ _)); exact BK252.out⟩, ⟨by (with_reducible repeat (first | refine blk_drewN ?_ _ | refine blk_drew ?_ | refine blk_alloc ?_ _)); exact BK253.out⟩, ⟨by repeat (first | (with_reducible first | exact HB.out | apply below_alloc | apply pw_below_drewN | apply below_drew1 | refine below_set ?_ GE252.out | refine below_set ?_ GE253.out) | exact HB.out)⟩⟩
         ·rw [if_neg c65] at H
          have c65b0 : (a0_1 == 2) = false := beq_eq_false_iff_ne.mpr c65
          have c65b1 : (a0_1 != 2) = true := bne_iff_ne.mpr c65
          (first | rw [c65b0] | (simp only [i64_w, i32_w]; rw [c65b0]) | skip)
          by_cases c66 : a0_1 = 3
          ·rw [if_pos c66] at H
           have c66b0 : (a0_1 == 3) = true := beq_iff_eq.mpr c66
           have c66b1 : (a0_1 != 3) = false := bne_eq_false_iff_eq.mpr c66
           clear c66
           have H' := Aside0.mk H
           clear H
           go_wp2
           go_meet
           case rel => exact ⟨_, (x4_35), (by first | rfl | (simp; done) | (simp [*]; done)), H', ⟨by have := HJ1.out; have := HJ14.out; have := HJ35.out; first | omega | exact Nat.le_refl _⟩, ⟨by (with_reducible repeat (first | refine blk_drewN ?_ _ | refine blk_drew ?_ | refine blk_alloc ?_ _)); exact BK252.out⟩, ⟨by (with_reducible repeat (first | refine blk_drewN ?_ _ | refine blk_drew ?_ | refine blk_alloc ?_ _)); exact BK253.out⟩, ⟨by repeat (first | (with_reducible first | exact HB.out | apply below_alloc | apply pw_below_drewN | apply below_drew1 | refine below_set ?_ GE252.out | refine below_set ?_ GE253.out) | exact HB.out)⟩⟩
          ·rw [if_neg c66] at H
           have c66b0 : (a0_1 == 3) = false := beq_eq_false_iff_ne.mpr c66
           have c66b1 : (a0_1 != 3) = true := bne_iff_ne.mpr c66
           by_cases c67 : x4_35 = true
           ·subst c67
            have H1 : (pq16.j3 kj35 (a0_6.toList == ([] : List UInt8)) a0_1 a0_2 a0_3 a0_4 a0_5 a0_6 a0_7 a0_8 a0_9 a0_10) = some r := by rw [if_pos rfl] at H; exact H
            clear H
            have H := H1
            clear H1
            have H' := Aside0.mk H
            clear H
            have hnb68 := NB253_252.out
            have hnc68 := NB252_253.out
            have hcz69_0 : wc.cell? ⟨gb253, 0, none⟩ = some (.int .i64 a0_1) := (blk_cell BK253.out 0).trans rfl
            have hcz69_1 : wc.cell? ⟨gb253, 1, none⟩ = some (.int .i64 a0_2) := (blk_cell BK253.out 1).trans rfl
            have hcz69_2 : wc.cell? ⟨gb253, 2, none⟩ = some (.int .i64 a0_3) := (blk_cell BK253.out 2).trans rfl
            have hcz69_3 : wc.cell? ⟨gb253, 3, none⟩ = some (.int .i64 a0_4) := (blk_cell BK253.out 3).trans rfl
            have hcz69_4 : wc.cell? ⟨gb253, 4, none⟩ = some (.int .i64 a0_5) := (blk_cell BK253.out 4).trans rfl
            have hcz69_5 : wc.cell? ⟨gb253, 5, none⟩ = some (.string a0_6) := (blk_cell BK253.out 5).trans rfl
            have hcz69_6 : wc.cell? ⟨gb253, 6, none⟩ = some (.string a0_7) := (blk_cell BK253.out 6).trans rfl
            have hcz69_7 : wc.cell? ⟨gb253, 7, none⟩ = some (.int .i64 a0_8) := (blk_cell BK253.out 7).trans rfl
            have hcz69_8 : wc.cell? ⟨gb253, 8, none⟩ = some (.int .i64 a0_9) := (blk_cell BK253.out 8).trans rfl
            have hcz69_9 : wc.cell? ⟨gb253, 9, none⟩ = some (.string a0_10) := (blk_cell BK253.out 9).trans rfl
            have hfz69_0 := blk_frozen BK253.out 0
            have hfz69_1 := blk_frozen BK253.out 1
            have hfz69_2 := blk_frozen BK253.out 2
            have hfz69_3 := blk_frozen BK253.out 3
            have hfz69_4 := blk_frozen BK253.out 4
            have hfz69_5 := blk_frozen BK253.out 5
            have hfz69_6 := blk_frozen BK253.out 6
            have hfz69_7 := blk_frozen BK253.out 7
            have hfz69_8 := blk_frozen BK253.out 8
            have hfz69_9 := blk_frozen BK253.out 9
            go_wp2
            go_meet
            case rel => exact ⟨_, ((a0_6.toList == ([] : List UInt8))), (by first | rfl | (simp; done) | (simp [*]; done)), H', ⟨by have := HJ1.out; have := HJ14.out; have := HJ35.out; first | omega | exact Nat.le_refl _⟩, ⟨by (with_reducible repeat (first | refine blk_drewN ?_ _ | refine blk_drew ?_ | refine blk_alloc ?_ _)); exact BK252.out⟩, ⟨by (with_reducible repeat (first | refine blk_drewN ?_ _ | refine blk_drew ?_ | refine blk_alloc ?_ _)); exact BK253.out⟩, ⟨by repeat (first | (with_reducible first | exact HB.out | apply below_alloc | apply pw_below_drewN | apply below_drew1 | refine below_set ?_ GE252.out | refine below_set ?_ GE253.out) | exact HB.out)⟩⟩
           ·replace c67 := Bool.eq_false_iff.mpr c67
            subst c67
            have H1 : (pq16.j3 kj35 false a0_1 a0_2 a0_3 a0_4 a0_5 a0_6 a0_7 a0_8 a0_9 a0_10) = some r := by rw [if_neg (show ¬ (false = true) by decide)] at H; exact H
            clear H
            have H := H1
            clear H1
            have H' := Aside0.mk H
            clear H
            go_wp2
            go_meet
            case rel => exact ⟨_, (false), (by first | rfl | (simp; done) | (simp [*]; done)), H', ⟨by have := HJ1.out; have := HJ14.out; have := HJ35.out; first | omega | exact Nat.le_refl _⟩, ⟨by (with_reducible repeat (first | refine blk_drewN ?_ _ | refine blk_drew ?_ | refine blk_alloc ?_ _)); exact BK252.out⟩, ⟨by (with_reducible repeat (first | refine blk_drewN ?_ _ | refine blk_drew ?_ | refine blk_alloc ?_ _)); exact BK253.out⟩, ⟨by repeat (first | (with_reducible first | exact HB.out | apply below_alloc | apply pw_below_drewN | apply below_drew1 | refine below_set ?_ GE252.out | refine below_set ?_ GE253.out) | exact HB.out)⟩⟩
        case rest =>
         clear HC62
         try clear c1
         try clear c2
         try clear p2
         try clear c3
         try clear c4
         try clear c5
         try clear c6
         try clear c8
         try clear c8b0
         try clear c8b1
         try clear c9
         try clear c12
         try clear c14
         try clear c16
         try clear c16b0
         try clear c17
         try clear c17b0
         try clear c18
         try clear c18b0
         try clear c18b1
         try clear c20
         try clear c22
         try clear c24
         try clear c26
         try clear c28
         try clear c30
         try clear c32
         try clear c34
         try clear c37
         try clear c39
         try clear c40
         try clear c43
         try clear c45
         try clear c47
         try clear c54
         try clear c59
         try clear c63
         try clear c65
         try clear c65b0
         try clear c65b1
         try clear c66
         try clear c66b0
         try clear c66b1
         try clear c67
         try clear c68
         try clear hcz10_0
         try clear hcz10_1
         try clear hcz10_10
         try clear hcz10_2
         try clear hcz10_3
         try clear hcz10_4
         try clear hcz10_5
         try clear hcz10_6
         try clear hcz10_7
         try clear hcz10_8
         try clear hcz10_9
         try clear hcz13_0
         try clear hcz13_1
         try clear hcz13_10
         try clear hcz13_2
         try clear hcz13_3
         try clear hcz13_4
         try clear hcz13_5
         try clear hcz13_6
         try clear hcz13_7
         try clear hcz13_8
         try clear hcz13_9
         try clear hcz25_0
         try clear hcz25_1
         try clear hcz25_2
         try clear hcz25_3
         try clear hcz25_4
         try clear hcz25_5
         try clear hcz25_6
         try clear hcz25_7
         try clear hcz25_8
         try clear hcz25_9
         try clear hcz27_0
         try clear hcz27_1
         try clear hcz27_2
         try clear hcz27_3
         try clear hcz27_4
         try clear hcz27_5
         try clear hcz27_6
         try clear hcz27_7
         try clear hcz27_8
         try clear hcz27_9
         try clear hcz29_0
         try clear hcz29_1
         try clear hcz29_2
         try clear hcz29_3
         try clear hcz29_4
         try clear hcz29_5
         try clear hcz29_6
         try clear hcz29_7
         try clear hcz29_8
         try clear hcz29_9
         try clear hcz31_0
         try clear hcz31_1
         try clear hcz31_2
         try clear hcz31_3
         try clear hcz31_4
         try clear hcz31_5
         try clear hcz31_6
         try clear hcz31_7
         try clear hcz31_8
         try clear hcz31_9
         try clear hcz33_0
         try clear hcz33_1
         try clear hcz33_2
         try clear hcz33_3
         try clear hcz33_4
         try clear hcz33_5
         try clear hcz33_6
         try clear hcz33_7
         try clear hcz33_8
         try clear hcz33_9
         try clear hcz35_0
         try clear hcz35_1
         try clear hcz35_2
         try clear hcz35_3
         try clear hcz35_4
         try clear hcz35_5
         try clear hcz35_6
         try clear hcz35_7
         try clear hcz35_8
         try clear hcz35_9
         try clear hcz41_0
         try clear hcz41_1
         try clear hcz41_2
         try clear hcz41_3
         try clear hcz41_4
         try clear hcz41_5
         try clear hcz41_6
         try clear hcz41_7
         try clear hcz41_8
         try clear hcz41_9
         try clear hcz48_0
         try clear hcz48_1
         try clear hcz48_2
         try clear hcz48_3
         try clear hcz48_4
         try clear hcz48_5
         try clear hcz48_6
         try clear hcz48_7
         try clear hcz48_8
         try clear hcz48_9
         try clear hcz4_0
         try clear hcz4_1
         try clear hcz4_10
         try clear hcz4_2
         try clear hcz4_3
         try clear hcz4_4
         try clear hcz4_5
         try clear hcz4_6
         try clear hcz4_7
         try clear hcz4_8
         try clear hcz4_9
         try clear hcz50_0
         try clear hcz50_1
         try clear hcz50_2
         try clear hcz50_3
         try clear hcz50_4
         try clear hcz50_5
         try clear hcz50_6
         try clear hcz50_7
         try clear hcz50_8
         try clear hcz50_9
         try clear hcz52_0
         try clear hcz52_1
         try clear hcz52_2
         try clear hcz52_3
         try clear hcz52_4
         try clear hcz52_5
         try clear hcz52_6
         try clear hcz52_7
         try clear hcz52_8
         try clear hcz52_9
         try clear hcz55_0
         try clear hcz55_1
         try clear hcz55_2
         try clear hcz55_3
         try clear hcz55_4
         try clear hcz55_5
         try clear hcz55_6
         try clear hcz55_7
         try clear hcz55_8
         try clear hcz55_9
         try clear hcz57_0
         try clear hcz57_1
         try clear hcz57_2
         try clear hcz57_3
         try clear hcz57_4
         try clear hcz57_5
         try clear hcz57_6
         try clear hcz57_7
         try clear hcz57_8
         try clear hcz57_9
         try clear hcz60_0
         try clear hcz60_1
         try clear hcz60_2
         try clear hcz60_3
         try clear hcz60_4
         try clear hcz60_5
         try clear hcz60_6
         try clear hcz60_7
         try clear hcz60_8
         try clear hcz60_9
         try clear hcz64_0
         try clear hcz64_1
         try clear hcz64_2
         try clear hcz64_3
         try clear hcz64_4
         try clear hcz64_5
         try clear hcz64_6
         try clear hcz64_7
         try clear hcz64_8
         try clear hcz64_9
         try clear hcz69_0
         try clear hcz69_1
         try clear hcz69_2
         try clear hcz69_3
         try clear hcz69_4
         try clear hcz69_5
         try clear hcz69_6
         try clear hcz69_7
         try clear hcz69_8
         try clear hcz69_9
         try clear hcz7_0
         try clear hcz7_1
         try clear hcz7_2
         try clear hcz7_3
         try clear hcz7_4
         try clear hcz7_5
         try clear hcz7_6
         try clear hcz7_7
         try clear hcz7_8
         try clear hcz7_9
         try clear hfz10_0
         try clear hfz10_1
         try clear hfz10_10
         try clear hfz10_2
         try clear hfz10_3
         try clear hfz10_4
         try clear hfz10_5
         try clear hfz10_6
         try clear hfz10_7
         try clear hfz10_8
         try clear hfz10_9
         try clear hfz13_0
         try clear hfz13_1
         try clear hfz13_10
         try clear hfz13_2
         try clear hfz13_3
         try clear hfz13_4
         try clear hfz13_5
         try clear hfz13_6
         try clear hfz13_7
         try clear hfz13_8
         try clear hfz13_9
         try clear hfz25_0
         try clear hfz25_1
         try clear hfz25_2
         try clear hfz25_3
         try clear hfz25_4
         try clear hfz25_5
         try clear hfz25_6
         try clear hfz25_7
         try clear hfz25_8
         try clear hfz25_9
         try clear hfz27_0
         try clear hfz27_1
         try clear hfz27_2
         try clear hfz27_3
         try clear hfz27_4
         try clear hfz27_5
         try clear hfz27_6
         try clear hfz27_7
         try clear hfz27_8
         try clear hfz27_9
         try clear hfz29_0
         try clear hfz29_1
         try clear hfz29_2
         try clear hfz29_3
         try clear hfz29_4
         try clear hfz29_5
         try clear hfz29_6
         try clear hfz29_7
         try clear hfz29_8
         try clear hfz29_9
         try clear hfz31_0
         try clear hfz31_1
         try clear hfz31_2
         try clear hfz31_3
         try clear hfz31_4
         try clear hfz31_5
         try clear hfz31_6
         try clear hfz31_7
         try clear hfz31_8
         try clear hfz31_9
         try clear hfz33_0
         try clear hfz33_1
         try clear hfz33_2
         try clear hfz33_3
         try clear hfz33_4
         try clear hfz33_5
         try clear hfz33_6
         try clear hfz33_7
         try clear hfz33_8
         try clear hfz33_9
         try clear hfz35_0
         try clear hfz35_1
         try clear hfz35_2
         try clear hfz35_3
         try clear hfz35_4
         try clear hfz35_5
         try clear hfz35_6
         try clear hfz35_7
         try clear hfz35_8
         try clear hfz35_9
         try clear hfz41_0
         try clear hfz41_1
         try clear hfz41_2
         try clear hfz41_3
         try clear hfz41_4
         try clear hfz41_5
         try clear hfz41_6
         try clear hfz41_7
         try clear hfz41_8
         try clear hfz41_9
         try clear hfz48_0
         try clear hfz48_1
         try clear hfz48_2
         try clear hfz48_3
         try clear hfz48_4
         try clear hfz48_5
         try clear hfz48_6
         try clear hfz48_7
         try clear hfz48_8
         try clear hfz48_9
         try clear hfz4_0
         try clear hfz4_1
         try clear hfz4_10
         try clear hfz4_2
         try clear hfz4_3
         try clear hfz4_4
         try clear hfz4_5
         try clear hfz4_6
         try clear hfz4_7
         try clear hfz4_8
         try clear hfz4_9
         try clear hfz50_0
         try clear hfz50_1
         try clear hfz50_2
         try clear hfz50_3
         try clear hfz50_4
         try clear hfz50_5
         try clear hfz50_6
         try clear hfz50_7
         try clear hfz50_8
         try clear hfz50_9
         try clear hfz52_0
         try clear hfz52_1
         try clear hfz52_2
         try clear hfz52_3
         try clear hfz52_4
         try clear hfz52_5
         try clear hfz52_6
         try clear hfz52_7
         try clear hfz52_8
         try clear hfz52_9
         try clear hfz55_0
         try clear hfz55_1
         try clear hfz55_2
         try clear hfz55_3
         try clear hfz55_4
         try clear hfz55_5
         try clear hfz55_6
         try clear hfz55_7
         try clear hfz55_8
         try clear hfz55_9
         try clear hfz57_0
         try clear hfz57_1
         try clear hfz57_2
         try clear hfz57_3
         try clear hfz57_4
         try clear hfz57_5
         try clear hfz57_6
         try clear hfz57_7
         try clear hfz57_8
         try clear hfz57_9
         try clear hfz60_0
         try clear hfz60_1
         try clear hfz60_2
         try clear hfz60_3
         try clear hfz60_4
         try clear hfz60_5
         try clear hfz60_6
         try clear hfz60_7
         try clear hfz60_8
         try clear hfz60_9
         try clear hfz64_0
         try clear hfz64_1
         try clear hfz64_2
         try clear hfz64_3
         try clear hfz64_4
         try clear hfz64_5
         try clear hfz64_6
         try clear hfz64_7
         try clear hfz64_8
         try clear hfz64_9
         try clear hfz69_0
         try clear hfz69_1
         try clear hfz69_2
         try clear hfz69_3
         try clear hfz69_4
         try clear hfz69_5
         try clear hfz69_6
         try clear hfz69_7
         try clear hfz69_8
         try clear hfz69_9
         try clear hfz7_0
         try clear hfz7_1
         try clear hfz7_2
         try clear hfz7_3
         try clear hfz7_4
         try clear hfz7_5
         try clear hfz7_6
         try clear hfz7_7
         try clear hfz7_8
         try clear hfz7_9
         try clear p2
         obtain ⟨kq, x4_61, rfl, HA, HJ61, BK252, BK253, HB⟩ := hcut
         cases kq with
         | zero => exact absurd HA.out (by simp [pq16.j3])
         | succ kj61 =>
          have H := HA.out
          clear HA
          simp only [pq16.j3] at H
          have HC70 := Aside0.mk H
          clear H
          have hnb71 := NB253_252.out
          have hnc71 := NB252_253.out
          have hcz72_0 : wc.cell? ⟨gb253, 0, none⟩ = some (.int .i64 a0_1) := (blk_cell BK253.out 0).trans rfl
          have hcz72_1 : wc.cell? ⟨gb253, 1, none⟩ = some (.int .i64 a0_2) := (blk_cell BK253.out 1).trans rfl
          have hcz72_2 : wc.cell? ⟨gb253, 2, none⟩ = some (.int .i64 a0_3) := (blk_cell BK253.out 2).trans rfl
          have hcz72_3 : wc.cell? ⟨gb253, 3, none⟩ = some (.int .i64 a0_4) := (blk_cell BK253.out 3).trans rfl
          have hcz72_4 : wc.cell? ⟨gb253, 4, none⟩ = some (.int .i64 a0_5) := (blk_cell BK253.out 4).trans rfl
          have hcz72_5 : wc.cell? ⟨gb253, 5, none⟩ = some (.string a0_6) := (blk_cell BK253.out 5).trans rfl
          have hcz72_6 : wc.cell? ⟨gb253, 6, none⟩ = some (.string a0_7) := (blk_cell BK253.out 6).trans rfl
          have hcz72_7 : wc.cell? ⟨gb253, 7, none⟩ = some (.int .i64 a0_8) := (blk_cell BK253.out 7).trans rfl
          have hcz72_8 : wc.cell? ⟨gb253, 8, none⟩ = some (.int .i64 a0_9) := (blk_cell BK253.out 8).trans rfl
          have hcz72_9 : wc.cell? ⟨gb253, 9, none⟩ = some (.string a0_10) := (blk_cell BK253.out 9).trans rfl
          have hfz72_0 := blk_frozen BK253.out 0
          have hfz72_1 := blk_frozen BK253.out 1
          have hfz72_2 := blk_frozen BK253.out 2
          have hfz72_3 := blk_frozen BK253.out 3
          have hfz72_4 := blk_frozen BK253.out 4
          have hfz72_5 := blk_frozen BK253.out 5
          have hfz72_6 := blk_frozen BK253.out 6
          have hfz72_7 := blk_frozen BK253.out 7
          have hfz72_8 := blk_frozen BK253.out 8
          have hfz72_9 := blk_frozen BK253.out 9
          go_upto_if 90 with (fail)
          go_cut [90] (fun v90 wc => ∃ (kq : Nat) (x90_69 : Bool), v90 = .bool x90_69 ∧ Aside0 (pq16.j4 kq x4_61 x90_69 a0_1 a0_2 a0_3 a0_4 a0_5 a0_6 a0_7 a0_8 a0_9 a0_10 = some r) ∧ Aside0 (kq ≤ kj61) ∧ Aside0 (wc.heap[gb252]? = some (.cells #[.string a0_0, .int .i64 a0_1, .int .i64 a0_2, .int .i64 a0_3, .int .i64 a0_4, .int .i64 a0_5, .string a0_6, .string a0_7, .int .i64 a0_8, .int .i64 a0_9, .string a0_10] 40 (0, 0))) ∧ Aside0 (wc.heap[gb253]? = some (.cells #[.int .i64 a0_1, .int .i64 a0_2, .int .i64 a0_3, .int .i64 a0_4, .int .i64 a0_5, .string a0_6, .string a0_7, .int .i64 a0_8, .int .i64 a0_9, .string a0_10] 26 (0, 0))) ∧ Aside0 (Below w.heap.size w wc))
          case first =>
           have H := HC70.out
           clear HC70
           by_cases c73 : a0_1 = 4
           ·rw [if_pos c73] at H
            have c73b0 : (a0_1 == 4) = true := beq_iff_eq.mpr c73
            have c73b1 : (a0_1 != 4) = false := bne_eq_false_iff_eq.mpr c73
            clear c73
            (first | rw [c73b0] | (simp only [i64_w, i32_w]; rw [c73b0]) | skip)
            have H' := Aside0.mk H
            clear H
            go_wp2
            go_meet
            case rel => exact ⟨_, ((a0_1 == 4)), (by first | rfl | (simp; done) | (simp [*]; done)), H', ⟨by have := HJ1.out; have := HJ14.out; have := HJ35.out; have := HJ61.out; first | omega | exact Nat.le_refl _⟩, ⟨by (with_reducible repeat (first | refine blk_drewN ?_ _ | refine blk_drew ?_ | refine blk_alloc ?_ _)); exact BK252.out⟩, ⟨by (with_reducible repeat (first | refine blk_drewN ?_ _ | refine blk_drew ?_ | refine blk_alloc ?_ _)); exact BK253.out⟩, ⟨by repeat (first | (with_reducible first | exact HB.out | apply below_alloc | apply pw_below_drewN | apply below_drew1 | refine below_set ?_ GE252.out | refine below_set ?_ GE253.out) | exact HB.out)⟩⟩
           ·rw [if_neg c73] at H
            have c73b0 : (a0_1 == 4) = false := beq_eq_false_iff_ne.mpr c73
            have c73b1 : (a0_1 != 4) = true := bne_iff_ne.mpr c73
            (first | rw [c73b0] | (simp only [i64_w, i32_w]; rw [c73b0]) | skip)
            have H' := Aside0.mk H
            clear H
            go_wp2
            go_meet
            case rel => exact ⟨_, ((a0_1 == 5)), (by first | rfl | (simp; done) | (simp [*]; done)), H', ⟨by have := HJ1.out; have := HJ14.out; have := HJ35.out; have := HJ61.out; first | omega | exact Nat.le_refl _⟩, ⟨by (with_reducible repeat (first | refine blk_drewN ?_ _ | refine blk_drew ?_ | refine blk_alloc ?_ _)); exact BK252.out⟩, ⟨by (with_reducible repeat (first | refine blk_drewN ?_ _ | refine blk_drew ?_ | refine blk_alloc ?_ _)); exact BK253.out⟩, ⟨by repeat (first | (with_reducible first | exact HB.out | apply below_alloc | apply pw_below_drewN | apply below_drew1 | refine below_set ?_ GE252.out | refine below_set ?_ GE253.out) | exact HB.out)⟩⟩
          case rest =>
           clear HC70
           try clear c1
           try clear c2
           try clear p2
           try clear c3
           try clear c4
           try clear c5
           try clear c6
           try clear c7
           try clear c8
           try clear c8b0
           try clear c8b1
           try clear c9
           try clear c12
           try clear c14
           try clear c16
           try clear c16b0
           try clear c17
           try clear c17b0
           try clear c18
           try clear c18b0
           try clear c18b1
           try clear c20
           try clear c22
           try clear c24
           try clear c26
           try clear c28
           try clear c30
           try clear c32
           try clear c34
           try clear c37
           try clear c39
           try clear c40
           try clear c43
           try clear c45
           try clear c47
           try clear c54
           try clear c59
           try clear c63
           try clear c65
           try clear c65b0
           try clear c65b1
           try clear c66
           try clear c66b0
           try clear c66b1
           try clear c67
           try clear c68
           try clear c71
           try clear c73
           try clear c73b0
           try clear c73b1
           try clear hcz10_0
           try clear hcz10_1
           try clear hcz10_10
           try clear hcz10_2
           try clear hcz10_3
           try clear hcz10_4
           try clear hcz10_5
           try clear hcz10_6
           try clear hcz10_7
           try clear hcz10_8
           try clear hcz10_9
           try clear hcz13_0
           try clear hcz13_1
           try clear hcz13_10
           try clear hcz13_2
           try clear hcz13_3
           try clear hcz13_4
           try clear hcz13_5
           try clear hcz13_6
           try clear hcz13_7
           try clear hcz13_8
           try clear hcz13_9
           try clear hcz25_0
           try clear hcz25_1
           try clear hcz25_2
           try clear hcz25_3
           try clear hcz25_4
           try clear hcz25_5
           try clear hcz25_6
           try clear hcz25_7
           try clear hcz25_8
           try clear hcz25_9
           try clear hcz27_0
           try clear hcz27_1
           try clear hcz27_2
           try clear hcz27_3
           try clear hcz27_4
           try clear hcz27_5
           try clear hcz27_6
           try clear hcz27_7
           try clear hcz27_8
           try clear hcz27_9
           try clear hcz29_0
           try clear hcz29_1
           try clear hcz29_2
           try clear hcz29_3
           try clear hcz29_4
           try clear hcz29_5
           try clear hcz29_6
           try clear hcz29_7
           try clear hcz29_8
           try clear hcz29_9
           try clear hcz31_0
           try clear hcz31_1
           try clear hcz31_2
           try clear hcz31_3
           try clear hcz31_4
           try clear hcz31_5
           try clear hcz31_6
           try clear hcz31_7
           try clear hcz31_8
           try clear hcz31_9
           try clear hcz33_0
           try clear hcz33_1
           try clear hcz33_2
           try clear hcz33_3
           try clear hcz33_4
           try clear hcz33_5
           try clear hcz33_6
           try clear hcz33_7
           try clear hcz33_8
           try clear hcz33_9
           try clear hcz35_0
           try clear hcz35_1
           try clear hcz35_2
           try clear hcz35_3
           try clear hcz35_4
           try clear hcz35_5
           try clear hcz35_6
           try clear hcz35_7
           try clear hcz35_8
           try clear hcz35_9
           try clear hcz41_0
           try clear hcz41_1
           try clear hcz41_2
           try clear hcz41_3
           try clear hcz41_4
           try clear hcz41_5
           try clear hcz41_6
           try clear hcz41_7
           try clear hcz41_8
           try clear hcz41_9
           try clear hcz48_0
           try clear hcz48_1
           try clear hcz48_2
           try clear hcz48_3
           try clear hcz48_4
           try clear hcz48_5
           try clear hcz48_6
           try clear hcz48_7
           try clear hcz48_8
           try clear hcz48_9
           try clear hcz4_0
           try clear hcz4_1
           try clear hcz4_10
           try clear hcz4_2
           try clear hcz4_3
           try clear hcz4_4
           try clear hcz4_5
           try clear hcz4_6
           try clear hcz4_7
           try clear hcz4_8
           try clear hcz4_9
           try clear hcz50_0
           try clear hcz50_1
           try clear hcz50_2
           try clear hcz50_3
           try clear hcz50_4
           try clear hcz50_5
           try clear hcz50_6
           try clear hcz50_7
           try clear hcz50_8
           try clear hcz50_9
           try clear hcz52_0
           try clear hcz52_1
           try clear hcz52_2
           try clear hcz52_3
           try clear hcz52_4
           try clear hcz52_5
           try clear hcz52_6
           try clear hcz52_7
           try clear hcz52_8
           try clear hcz52_9
           try clear hcz55_0
           try clear hcz55_1
           try clear hcz55_2
           try clear hcz55_3
           try clear hcz55_4
           try clear hcz55_5
           try clear hcz55_6
           try clear hcz55_7
           try clear hcz55_8
           try clear hcz55_9
           try clear hcz57_0
           try clear hcz57_1
           try clear hcz57_2
           try clear hcz57_3
           try clear hcz57_4
           try clear hcz57_5
           try clear hcz57_6
           try clear hcz57_7
           try clear hcz57_8
           try clear hcz57_9
           try clear hcz60_0
           try clear hcz60_1
           try clear hcz60_2
           try clear hcz60_3
           try clear hcz60_4
           try clear hcz60_5
           try clear hcz60_6
           try clear hcz60_7
           try clear hcz60_8
           try clear hcz60_9
           try clear hcz64_0
           try clear hcz64_1
           try clear hcz64_2
           try clear hcz64_3
           try clear hcz64_4
           try clear hcz64_5
           try clear hcz64_6
           try clear hcz64_7
           try clear hcz64_8
           try clear hcz64_9
           try clear hcz69_0
           try clear hcz69_1
           try clear hcz69_2
           try clear hcz69_3
           try clear hcz69_4
           try clear hcz69_5
           try clear hcz69_6
           try clear hcz69_7
           try clear hcz69_8
           try clear hcz69_9
           try clear hcz72_0
           try clear hcz72_1
           try clear hcz72_2
           try clear hcz72_3
           try clear hcz72_4
           try clear hcz72_5
           try clear hcz72_6
           try clear hcz72_7
           try clear hcz72_8
           try clear hcz72_9
           try clear hcz7_0
           try clear hcz7_1
           try clear hcz7_2
           try clear hcz7_3
           try clear hcz7_4
           try clear hcz7_5
           try clear hcz7_6
           try clear hcz7_7
           try clear hcz7_8
           try clear hcz7_9
           try clear hfz10_0
           try clear hfz10_1
           try clear hfz10_10
           try clear hfz10_2
           try clear hfz10_3
           try clear hfz10_4
           try clear hfz10_5
           try clear hfz10_6
           try clear hfz10_7
           try clear hfz10_8
           try clear hfz10_9
           try clear hfz13_0
           try clear hfz13_1
           try clear hfz13_10
           try clear hfz13_2
           try clear hfz13_3
           try clear hfz13_4
           try clear hfz13_5
           try clear hfz13_6
           try clear hfz13_7
           try clear hfz13_8
           try clear hfz13_9
           try clear hfz25_0
           try clear hfz25_1
           try clear hfz25_2
           try clear hfz25_3
           try clear hfz25_4
           try clear hfz25_5
           try clear hfz25_6
           try clear hfz25_7
           try clear hfz25_8
           try clear hfz25_9
           try clear hfz27_0
           try clear hfz27_1
           try clear hfz27_2
           try clear hfz27_3
           try clear hfz27_4
           try clear hfz27_5
           try clear hfz27_6
           try clear hfz27_7
           try clear hfz27_8
           try clear hfz27_9
           try clear hfz29_0
           try clear hfz29_1
           try clear hfz29_2
           try clear hfz29_3
           try clear hfz29_4
           try clear hfz29_5
           try clear hfz29_6
           try clear hfz29_7
           try clear hfz29_8
           try clear hfz29_9
           try clear hfz31_0
           try clear hfz31_1
           try clear hfz31_2
           try clear hfz31_3
           try clear hfz31_4
           try clear hfz31_5
           try clear hfz31_6
           try clear hfz31_7
           try clear hfz31_8
           try clear hfz31_9
           try clear hfz33_0
           try clear hfz33_1
           try clear hfz33_2
           try clear hfz33_3
           try clear hfz33_4
           try clear hfz33_5
           try clear hfz33_6
           try clear hfz33_7
           try clear hfz33_8
           try clear hfz33_9
           try clear hfz35_0
           try clear hfz35_1
           try clear hfz35_2
           try clear hfz35_3
           try clear hfz35_4
           try clear hfz35_5
           try clear hfz35_6
           try clear hfz35_7
           try clear hfz35_8
           try clear hfz35_9
           try clear hfz41_0
           try clear hfz41_1
           try clear hfz41_2
           try clear hfz41_3
           try clear hfz41_4
           try clear hfz41_5
           try clear hfz41_6
           try clear hfz41_7
           try clear hfz41_8
           try clear hfz41_9
           try clear hfz48_0
           try clear hfz48_1
           try clear hfz48_2
           try clear hfz48_3
           try clear hfz48_4
           try clear hfz48_5
           try clear hfz48_6
           try clear hfz48_7
           try clear hfz48_8
           try clear hfz48_9
           try clear hfz4_0
           try clear hfz4_1
           try clear hfz4_10
           try clear hfz4_2
           try clear hfz4_3
           try clear hfz4_4
           try clear hfz4_5
           try clear hfz4_6
           try clear hfz4_7
           try clear hfz4_8
           try clear hfz4_9
           try clear hfz50_0
           try clear hfz50_1
           try clear hfz50_2
           try clear hfz50_3
           try clear hfz50_4
           try clear hfz50_5
           try clear hfz50_6
           try clear hfz50_7
           try clear hfz50_8
           try clear hfz50_9
           try clear hfz52_0
           try clear hfz52_1
           try clear hfz52_2
           try clear hfz52_3
           try clear hfz52_4
           try clear hfz52_5
           try clear hfz52_6
           try clear hfz52_7
           try clear hfz52_8
           try clear hfz52_9
           try clear hfz55_0
           try clear hfz55_1
           try clear hfz55_2
           try clear hfz55_3
           try clear hfz55_4
           try clear hfz55_5
           try clear hfz55_6
           try clear hfz55_7
           try clear hfz55_8
           try clear hfz55_9
           try clear hfz57_0
           try clear hfz57_1
           try clear hfz57_2
           try clear hfz57_3
           try clear hfz57_4
           try clear hfz57_5
           try clear hfz57_6
           try clear hfz57_7
           try clear hfz57_8
           try clear hfz57_9
           try clear hfz60_0
           try clear hfz60_1
           try clear hfz60_2
           try clear hfz60_3
           try clear hfz60_4
           try clear hfz60_5
           try clear hfz60_6
           try clear hfz60_7
           try clear hfz60_8
           try clear hfz60_9
           try clear hfz64_0
           try clear hfz64_1
           try clear hfz64_2
           try clear hfz64_3
           try clear hfz64_4
           try clear hfz64_5
           try clear hfz64_6
           try clear hfz64_7
           try clear hfz64_8
           try clear hfz64_9
           try clear hfz69_0
           try clear hfz69_1
           try clear hfz69_2
           try clear hfz69_3
           try clear hfz69_4
           try clear hfz69_5
           try clear hfz69_6
           try clear hfz69_7
           try clear hfz69_8
           try clear hfz69_9
           try clear hfz72_0
           try clear hfz72_1
           try clear hfz72_2
           try clear hfz72_3
           try clear hfz72_4
           try clear hfz72_5
           try clear hfz72_6
           try clear hfz72_7
           try clear hfz72_8
           try clear hfz72_9
           try clear hfz7_0
           try clear hfz7_1
           try clear hfz7_2
           try clear hfz7_3
           try clear hfz7_4
           try clear hfz7_5
           try clear hfz7_6
           try clear hfz7_7
           try clear hfz7_8
           try clear hfz7_9
           try clear p2
           obtain ⟨kq, x90_69, rfl, HA, HJ69, BK252, BK253, HB⟩ := hcut
           cases kq with
           | zero => exact absurd HA.out (by simp [pq16.j4])
           | succ kj69 =>
            have H := HA.out
            clear HA
            simp only [pq16.j4] at H
            by_cases c74 : x90_69 = true
            ·subst c74
             have H1 : (if x4_61 = true then (if a0_1 = 0 then (some 0) else (if a0_7.toList = ([] : List UInt8) then (some 0) else (some 1))) else (some 1)) = some r := by rw [if_pos rfl] at H; exact H
             clear H
             have H := H1
             clear H1
             by_cases c75 : x4_61 = true
             ·subst c75
              have H1 : (if a0_1 = 0 then (some 0) else (if a0_7.toList = ([] : List UInt8) then (some 0) else (some 1))) = some r := by rw [if_pos rfl] at H; exact H
              clear H
              have H := H1
              clear H1
              by_cases c76 : a0_1 = 0
              ·rw [if_pos c76] at H
               have c76b0 : (a0_1 == 0) = true := beq_iff_eq.mpr c76
               have c76b1 : (a0_1 != 0) = false := bne_eq_false_iff_eq.mpr c76
               clear c76
               obtain rfl := Option.some.inj H
               have hnb77 := NB253_252.out
               have hnc77 := NB252_253.out
               have hcz78_0 : wc.cell? ⟨gb253, 0, none⟩ = some (.int .i64 a0_1) := (blk_cell BK253.out 0).trans rfl
               have hcz78_1 : wc.cell? ⟨gb253, 1, none⟩ = some (.int .i64 a0_2) := (blk_cell BK253.out 1).trans rfl
               have hcz78_2 : wc.cell? ⟨gb253, 2, none⟩ = some (.int .i64 a0_3) := (blk_cell BK253.out 2).trans rfl
               have hcz78_3 : wc.cell? ⟨gb253, 3, none⟩ = some (.int .i64 a0_4) := (blk_cell BK253.out 3).trans rfl
               have hcz78_4 : wc.cell? ⟨gb253, 4, none⟩ = some (.int .i64 a0_5) := (blk_cell BK253.out 4).trans rfl
               have hcz78_5 : wc.cell? ⟨gb253, 5, none⟩ = some (.string a0_6) := (blk_cell BK253.out 5).trans rfl
               have hcz78_6 : wc.cell? ⟨gb253, 6, none⟩ = some (.string a0_7) := (blk_cell BK253.out 6).trans rfl
               have hcz78_7 : wc.cell? ⟨gb253, 7, none⟩ = some (.int .i64 a0_8) := (blk_cell BK253.out 7).trans rfl
               have hcz78_8 : wc.cell? ⟨gb253, 8, none⟩ = some (.int .i64 a0_9) := (blk_cell BK253.out 8).trans rfl
               have hcz78_9 : wc.cell? ⟨gb253, 9, none⟩ = some (.string a0_10) := (blk_cell BK253.out 9).trans rfl
               have hfz78_0 := blk_frozen BK253.out 0
               have hfz78_1 := blk_frozen BK253.out 1
               have hfz78_2 := blk_frozen BK253.out 2
               have hfz78_3 := blk_frozen BK253.out 3
               have hfz78_4 := blk_frozen BK253.out 4
               have hfz78_5 := blk_frozen BK253.out 5
               have hfz78_6 := blk_frozen BK253.out 6
               have hfz78_7 := blk_frozen BK253.out 7
               have hfz78_8 := blk_frozen BK253.out 8
               have hfz78_9 := blk_frozen BK253.out 9
               go_wp2
               go_ret
               exact ⟨by first | rfl | (simp [errW_none, errW_some] <;> rfl) | (simp [*, errW_none, errW_some] <;> rfl), by repeat (first | (with_reducible first | exact HB.out | apply below_alloc | apply pw_below_drewN | apply below_drew1 | refine below_set ?_ GE252.out | refine below_set ?_ GE253.out) | exact HB.out)⟩
              ·rw [if_neg c76] at H
               have c76b0 : (a0_1 == 0) = false := beq_eq_false_iff_ne.mpr c76
               have c76b1 : (a0_1 != 0) = true := bne_iff_ne.mpr c76
               by_cases c79 : a0_7.toList = ([] : List UInt8)
               ·rw [if_pos c79] at H
                have c79b0 : (a0_7.toList == ([] : List UInt8)) = true := beq_iff_eq.mpr c79
                have c79b1 : (a0_7.toList != ([] : List UInt8)) = false := bne_eq_false_iff_eq.mpr c79
                clear c79
                obtain rfl := Option.some.inj H
                have hnb80 := NB253_252.out
                have hnc80 := NB252_253.out
                have hcz81_0 : wc.cell? ⟨gb253, 0, none⟩ = some (.int .i64 a0_1) := (blk_cell BK253.out 0).trans rfl
                have hcz81_1 : wc.cell? ⟨gb253, 1, none⟩ = some (.int .i64 a0_2) := (blk_cell BK253.out 1).trans rfl
                have hcz81_2 : wc.cell? ⟨gb253, 2, none⟩ = some (.int .i64 a0_3) := (blk_cell BK253.out 2).trans rfl
                have hcz81_3 : wc.cell? ⟨gb253, 3, none⟩ = some (.int .i64 a0_4) := (blk_cell BK253.out 3).trans rfl
                have hcz81_4 : wc.cell? ⟨gb253, 4, none⟩ = some (.int .i64 a0_5) := (blk_cell BK253.out 4).trans rfl
                have hcz81_5 : wc.cell? ⟨gb253, 5, none⟩ = some (.string a0_6) := (blk_cell BK253.out 5).trans rfl
                have hcz81_6 : wc.cell? ⟨gb253, 6, none⟩ = some (.string a0_7) := (blk_cell BK253.out 6).trans rfl
                have hcz81_7 : wc.cell? ⟨gb253, 7, none⟩ = some (.int .i64 a0_8) := (blk_cell BK253.out 7).trans rfl
                have hcz81_8 : wc.cell? ⟨gb253, 8, none⟩ = some (.int .i64 a0_9) := (blk_cell BK253.out 8).trans rfl
                have hcz81_9 : wc.cell? ⟨gb253, 9, none⟩ = some (.string a0_10) := (blk_cell BK253.out 9).trans rfl
                have hfz81_0 := blk_frozen BK253.out 0
                have hfz81_1 := blk_frozen BK253.out 1
                have hfz81_2 := blk_frozen BK253.out 2
                have hfz81_3 := blk_frozen BK253.out 3
                have hfz81_4 := blk_frozen BK253.out 4
                have hfz81_5 := blk_frozen BK253.out 5
                have hfz81_6 := blk_frozen BK253.out 6
                have hfz81_7 := blk_frozen BK253.out 7
                have hfz81_8 := blk_frozen BK253.out 8
                have hfz81_9 := blk_frozen BK253.out 9
                go_wp2
                go_ret
                exact ⟨by first | rfl | (simp [errW_none, errW_some] <;> rfl) | (simp [*, errW_none, errW_some] <;> rfl), by repeat (first | (with_reducible first | exact HB.out | apply below_alloc | apply pw_below_drewN | apply below_drew1 | refine below_set ?_ GE252.out | refine below_set ?_ GE253.out) | exact HB.out)⟩
               ·rw [if_neg c79] at H
                have c79b0 : (a0_7.toList == ([] : List UInt8)) = false := beq_eq_false_iff_ne.mpr c79
                have c79b1 : (a0_7.toList != ([] : List UInt8)) = true := bne_iff_ne.mpr c79
                obtain rfl := Option.some.inj H
                have hnb82 := NB253_252.out
                have hnc82 := NB252_253.out
                have hcz83_0 : wc.cell? ⟨gb253, 0, none⟩ = some (.int .i64 a0_1) := (blk_cell BK253.out 0).trans rfl
                have hcz83_1 : wc.cell? ⟨gb253, 1, none⟩ = some (.int .i64 a0_2) := (blk_cell BK253.out 1).trans rfl
                have hcz83_2 : wc.cell? ⟨gb253, 2, none⟩ = some (.int .i64 a0_3) := (blk_cell BK253.out 2).trans rfl
                have hcz83_3 : wc.cell? ⟨gb253, 3, none⟩ = some (.int .i64 a0_4) := (blk_cell BK253.out 3).trans rfl
                have hcz83_4 : wc.cell? ⟨gb253, 4, none⟩ = some (.int .i64 a0_5) := (blk_cell BK253.out 4).trans rfl
                have hcz83_5 : wc.cell? ⟨gb253, 5, none⟩ = some (.string a0_6) := (blk_cell BK253.out 5).trans rfl
                have hcz83_6 : wc.cell? ⟨gb253, 6, none⟩ = some (.string a0_7) := (blk_cell BK253.out 6).trans rfl
                have hcz83_7 : wc.cell? ⟨gb253, 7, none⟩ = some (.int .i64 a0_8) := (blk_cell BK253.out 7).trans rfl
                have hcz83_8 : wc.cell? ⟨gb253, 8, none⟩ = some (.int .i64 a0_9) := (blk_cell BK253.out 8).trans rfl
                have hcz83_9 : wc.cell? ⟨gb253, 9, none⟩ = some (.string a0_10) := (blk_cell BK253.out 9).trans rfl
                have hfz83_0 := blk_frozen BK253.out 0
                have hfz83_1 := blk_frozen BK253.out 1
                have hfz83_2 := blk_frozen BK253.out 2
                have hfz83_3 := blk_frozen BK253.out 3
                have hfz83_4 := blk_frozen BK253.out 4
                have hfz83_5 := blk_frozen BK253.out 5
                have hfz83_6 := blk_frozen BK253.out 6
                have hfz83_7 := blk_frozen BK253.out 7
                have hfz83_8 := blk_frozen BK253.out 8
                have hfz83_9 := blk_frozen BK253.out 9
                go_wp2
                go_ret
                exact ⟨by first | rfl | (simp [errW_none, errW_some] <;> rfl) | (simp [*, errW_none, errW_some] <;> rfl), by repeat (first | (with_reducible first | exact HB.out | apply below_alloc | apply pw_below_drewN | apply below_drew1 | refine below_set ?_ GE252.out | refine below_set ?_ GE253.out) | exact HB.out)⟩
             ·replace c75 := Bool.eq_false_iff.mpr c75
              subst c75
              have H1 : (some 1) = some r := by rw [if_neg (show ¬ (false = true) by decide)] at H; exact H
              clear H
              have H := H1
              clear H1
              obtain rfl := Option.some.inj H
              go_wp2
              go_ret
              exact ⟨by first | rfl | (simp [errW_none, errW_some] <;> rfl) | (simp [*, errW_none, errW_some] <;> rfl), by repeat (first | (with_reducible first | exact HB.out | apply below_alloc | apply pw_below_drewN | apply below_drew1 | refine below_set ?_ GE252.out | refine below_set ?_ GE253.out) | exact HB.out)⟩
            ·replace c74 := Bool.eq_false_iff.mpr c74
             subst c74
             have H1 : (if x4_61 = true then (if a0_8 = 0 then (if a0_9 = 0 then (if a0_1 = 0 then (some 0) else (if a0_7.toList = ([] : List UInt8) then (some 0) else (some 1))) else (some 1)) else (some 1)) else (some 1)) = some r := by rw [if_neg (show ¬ (false = true) by decide)] at H; exact H
             clear H
             have H := H1
             clear H1
             by_cases c84 : x4_61 = true
             ·subst c84
              have H1 : (if a0_8 = 0 then (if a0_9 = 0 then (if a0_1 = 0 then (some 0) else (if a0_7.toList = ([] : List UInt8) then (some 0) else (some 1))) else (some 1)) else (some 1)) = some r := by rw [if_pos rfl] at H; exact H
              clear H
              have H := H1
              clear H1
              by_cases c85 : a0_8 = 0
              ·rw [if_pos c85] at H
               have c85b0 : (a0_8 == 0) = true := beq_iff_eq.mpr c85
               have c85b1 : (a0_8 != 0) = false := bne_eq_false_iff_eq.mpr c85
               clear c85
               by_cases c86 : a0_9 = 0
               ·rw [if_pos c86] at H
                have c86b0 : (a0_9 == 0) = true := beq_iff_eq.mpr c86
                have c86b1 : (a0_9 != 0) = false := bne_eq_false_iff_eq.mpr c86
                clear c86
                by_cases c87 : a0_1 = 0
                ·rw [if_pos c87] at H
                 have c87b0 : (a0_1 == 0) = true := beq_iff_eq.mpr c87
                 have c87b1 : (a0_1 != 0) = false := bne_eq_false_iff_eq.mpr c87
                 clear c87
                 obtain rfl := Option.some.inj H
                 have hnb88 := NB253_252.out
                 have hnc88 := NB252_253.out
                 have hcz89_0 : wc.cell? ⟨gb253, 0, none⟩ = some (.int .i64 a0_1) := (blk_cell BK253.out 0).trans rfl
                 have hcz89_1 : wc.cell? ⟨gb253, 1, none⟩ = some (.int .i64 a0_2) := (blk_cell BK253.out 1).trans rfl
                 have hcz89_2 : wc.cell? ⟨gb253, 2, none⟩ = some (.int .i64 a0_3) := (blk_cell BK253.out 2).trans rfl
                 have hcz89_3 : wc.cell? ⟨gb253, 3, none⟩ = some (.int .i64 a0_4) := (blk_cell BK253.out 3).trans rfl
                 have hcz89_4 : wc.cell? ⟨gb253, 4, none⟩ = some (.int .i64 a0_5) := (blk_cell BK253.out 4).trans rfl
                 have hcz89_5 : wc.cell? ⟨gb253, 5, none⟩ = some (.string a0_6) := (blk_cell BK253.out 5).trans rfl
                 have hcz89_6 : wc.cell? ⟨gb253, 6, none⟩ = some (.string a0_7) := (blk_cell BK253.out 6).trans rfl
                 have hcz89_7 : wc.cell? ⟨gb253, 7, none⟩ = some (.int .i64 a0_8) := (blk_cell BK253.out 7).trans rfl
                 have hcz89_8 : wc.cell? ⟨gb253, 8, none⟩ = some (.int .i64 a0_9) := (blk_cell BK253.out 8).trans rfl
                 have hcz89_9 : wc.cell? ⟨gb253, 9, none⟩ = some (.string a0_10) := (blk_cell BK253.out 9).trans rfl
                 have hfz89_0 := blk_frozen BK253.out 0
                 have hfz89_1 := blk_frozen BK253.out 1
                 have hfz89_2 := blk_frozen BK253.out 2
                 have hfz89_3 := blk_frozen BK253.out 3
                 have hfz89_4 := blk_frozen BK253.out 4
                 have hfz89_5 := blk_frozen BK253.out 5
                 have hfz89_6 := blk_frozen BK253.out 6
                 have hfz89_7 := blk_frozen BK253.out 7
                 have hfz89_8 := blk_frozen BK253.out 8
                 have hfz89_9 := blk_frozen BK253.out 9
                 go_wp2
                 go_ret
                 exact ⟨by first | rfl | (simp [errW_none, errW_some] <;> rfl) | (simp [*, errW_none, errW_some] <;> rfl), by repeat (first | (with_reducible first | exact HB.out | apply below_alloc | apply pw_below_drewN | apply below_drew1 | refine below_set ?_ GE252.out | refine below_set ?_ GE253.out) | exact HB.out)⟩
                ·rw [if_neg c87] at H
                 have c87b0 : (a0_1 == 0) = false := beq_eq_false_iff_ne.mpr c87
                 have c87b1 : (a0_1 != 0) = true := bne_iff_ne.mpr c87
                 by_cases c90 : a0_7.toList = ([] : List UInt8)
                 ·rw [if_pos c90] at H
                  have c90b0 : (a0_7.toList == ([] : List UInt8)) = true := beq_iff_eq.mpr c90
                  have c90b1 : (a0_7.toList != ([] : List UInt8)) = false := bne_eq_false_iff_eq.mpr c90
                  clear c90
                  obtain rfl := Option.some.inj H
                  have hnb91 := NB253_252.out
                  have hnc91 := NB252_253.out
                  have hcz92_0 : wc.cell? ⟨gb253, 0, none⟩ = some (.int .i64 a0_1) := (blk_cell BK253.out 0).trans rfl
                  have hcz92_1 : wc.cell? ⟨gb253, 1, none⟩ = some (.int .i64 a0_2) := (blk_cell BK253.out 1).trans rfl
                  have hcz92_2 : wc.cell? ⟨gb253, 2, none⟩ = some (.int .i64 a0_3) := (blk_cell BK253.out 2).trans rfl
                  have hcz92_3 : wc.cell? ⟨gb253, 3, none⟩ = some (.int .i64 a0_4) := (blk_cell BK253.out 3).trans rfl
                  have hcz92_4 : wc.cell? ⟨gb253, 4, none⟩ = some (.int .i64 a0_5) := (blk_cell BK253.out 4).trans rfl
                  have hcz92_5 : wc.cell? ⟨gb253, 5, none⟩ = some (.string a0_6) := (blk_cell BK253.out 5).trans rfl
                  have hcz92_6 : wc.cell? ⟨gb253, 6, none⟩ = some (.string a0_7) := (blk_cell BK253.out 6).trans rfl
                  have hcz92_7 : wc.cell? ⟨gb253, 7, none⟩ = some (.int .i64 a0_8) := (blk_cell BK253.out 7).trans rfl
                  have hcz92_8 : wc.cell? ⟨gb253, 8, none⟩ = some (.int .i64 a0_9) := (blk_cell BK253.out 8).trans rfl
                  have hcz92_9 : wc.cell? ⟨gb253, 9, none⟩ = some (.string a0_10) := (blk_cell BK253.out 9).trans rfl
                  have hfz92_0 := blk_frozen BK253.out 0
                  have hfz92_1 := blk_frozen BK253.out 1
                  have hfz92_2 := blk_frozen BK253.out 2
                  have hfz92_3 := blk_frozen BK253.out 3
                  have hfz92_4 := blk_frozen BK253.out 4
                  have hfz92_5 := blk_frozen BK253.out 5
                  have hfz92_6 := blk_frozen BK253.out 6
                  have hfz92_7 := blk_frozen BK253.out 7
                  have hfz92_8 := blk_frozen BK253.out 8
                  have hfz92_9 := blk_frozen BK253.out 9
                  go_wp2
                  go_ret
                  exact ⟨by first | rfl | (simp [errW_none, errW_some] <;> rfl) | (simp [*, errW_none, errW_some] <;> rfl), by repeat (first | (with_reducible first | exact HB.out | apply below_alloc | apply pw_below_drewN | apply below_drew1 | refine below_set ?_ GE252.out | refine below_set ?_ GE253.out) | exact HB.out)⟩
                 ·rw [if_neg c90] at H
                  have c90b0 : (a0_7.toList == ([] : List UInt8)) = false := beq_eq_false_iff_ne.mpr c90
                  have c90b1 : (a0_7.toList != ([] : List UInt8)) = true := bne_iff_ne.mpr c90
                  obtain rfl := Option.some.inj H
                  have hnb93 := NB253_252.out
                  have hnc93 := NB252_253.out
                  have hcz94_0 : wc.cell? ⟨gb253, 0, none⟩ = some (.int .i64 a0_1) := (blk_cell BK253.out 0).trans rfl
                  have hcz94_1 : wc.cell? ⟨gb253, 1, none⟩ = some (.int .i64 a0_2) := (blk_cell BK253.out 1).trans rfl
                  have hcz94_2 : wc.cell? ⟨gb253, 2, none⟩ = some (.int .i64 a0_3) := (blk_cell BK253.out 2).trans rfl
                  have hcz94_3 : wc.cell? ⟨gb253, 3, none⟩ = some (.int .i64 a0_4) := (blk_cell BK253.out 3).trans rfl
                  have hcz94_4 : wc.cell? ⟨gb253, 4, none⟩ = some (.int .i64 a0_5) := (blk_cell BK253.out 4).trans rfl
                  have hcz94_5 : wc.cell? ⟨gb253, 5, none⟩ = some (.string a0_6) := (blk_cell BK253.out 5).trans rfl
                  have hcz94_6 : wc.cell? ⟨gb253, 6, none⟩ = some (.string a0_7) := (blk_cell BK253.out 6).trans rfl
                  have hcz94_7 : wc.cell? ⟨gb253, 7, none⟩ = some (.int .i64 a0_8) := (blk_cell BK253.out 7).trans rfl
                  have hcz94_8 : wc.cell? ⟨gb253, 8, none⟩ = some (.int .i64 a0_9) := (blk_cell BK253.out 8).trans rfl
                  have hcz94_9 : wc.cell? ⟨gb253, 9, none⟩ = some (.string a0_10) := (blk_cell BK253.out 9).trans rfl
                  have hfz94_0 := blk_frozen BK253.out 0
                  have hfz94_1 := blk_frozen BK253.out 1
                  have hfz94_2 := blk_frozen BK253.out 2
                  have hfz94_3 := blk_frozen BK253.out 3
                  have hfz94_4 := blk_frozen BK253.out 4
                  have hfz94_5 := blk_frozen BK253.out 5
                  have hfz94_6 := blk_frozen BK253.out 6
                  have hfz94_7 := blk_frozen BK253.out 7
                  have hfz94_8 := blk_frozen BK253.out 8
                  have hfz94_9 := blk_frozen BK253.out 9
                  go_wp2
                  go_ret
                  exact ⟨by first | rfl | (simp [errW_none, errW_some] <;> rfl) | (simp [*, errW_none, errW_some] <;> rfl), by repeat (first | (with_reducible first | exact HB.out | apply below_alloc | apply pw_below_drewN | apply below_drew1 | refine below_set ?_ GE252.out | refine below_set ?_ GE253.out) | exact HB.out)⟩
               ·rw [if_neg c86] at H
                have c86b0 : (a0_9 == 0) = false := beq_eq_false_iff_ne.mpr c86
                have c86b1 : (a0_9 != 0) = true := bne_iff_ne.mpr c86
                obtain rfl := Option.some.inj H
                have hnb95 := NB253_252.out
                have hnc95 := NB252_253.out
                have hcz96_0 : wc.cell? ⟨gb253, 0, none⟩ = some (.int .i64 a0_1) := (blk_cell BK253.out 0).trans rfl
                have hcz96_1 : wc.cell? ⟨gb253, 1, none⟩ = some (.int .i64 a0_2) := (blk_cell BK253.out 1).trans rfl
                have hcz96_2 : wc.cell? ⟨gb253, 2, none⟩ = some (.int .i64 a0_3) := (blk_cell BK253.out 2).trans rfl
                have hcz96_3 : wc.cell? ⟨gb253, 3, none⟩ = some (.int .i64 a0_4) := (blk_cell BK253.out 3).trans rfl
                have hcz96_4 : wc.cell? ⟨gb253, 4, none⟩ = some (.int .i64 a0_5) := (blk_cell BK253.out 4).trans rfl
                have hcz96_5 : wc.cell? ⟨gb253, 5, none⟩ = some (.string a0_6) := (blk_cell BK253.out 5).trans rfl
                have hcz96_6 : wc.cell? ⟨gb253, 6, none⟩ = some (.string a0_7) := (blk_cell BK253.out 6).trans rfl
                have hcz96_7 : wc.cell? ⟨gb253, 7, none⟩ = some (.int .i64 a0_8) := (blk_cell BK253.out 7).trans rfl
                have hcz96_8 : wc.cell? ⟨gb253, 8, none⟩ = some (.int .i64 a0_9) := (blk_cell BK253.out 8).trans rfl
                have hcz96_9 : wc.cell? ⟨gb253, 9, none⟩ = some (.string a0_10) := (blk_cell BK253.out 9).trans rfl
                have hfz96_0 := blk_frozen BK253.out 0
                have hfz96_1 := blk_frozen BK253.out 1
                have hfz96_2 := blk_frozen BK253.out 2
                have hfz96_3 := blk_frozen BK253.out 3
                have hfz96_4 := blk_frozen BK253.out 4
                have hfz96_5 := blk_frozen BK253.out 5
                have hfz96_6 := blk_frozen BK253.out 6
                have hfz96_7 := blk_frozen BK253.out 7
                have hfz96_8 := blk_frozen BK253.out 8
                have hfz96_9 := blk_frozen BK253.out 9
                go_wp2
                go_ret
                exact ⟨by first | rfl | (simp [errW_none, errW_some] <;> rfl) | (simp [*, errW_none, errW_some] <;> rfl), by repeat (first | (with_reducible first | exact HB.out | apply below_alloc | apply pw_below_drewN | apply below_drew1 | refine below_set ?_ GE252.out | refine below_set ?_ GE253.out) | exact HB.out)⟩
              ·rw [if_neg c85] at H
               have c85b0 : (a0_8 == 0) = false := beq_eq_false_iff_ne.mpr c85
               have c85b1 : (a0_8 != 0) = true := bne_iff_ne.mpr c85
               obtain rfl := Option.some.inj H
               have hnb97 := NB253_252.out
               have hnc97 := NB252_253.out
               have hcz98_0 : wc.cell? ⟨gb253, 0, none⟩ = some (.int .i64 a0_1) := (blk_cell BK253.out 0).trans rfl
               have hcz98_1 : wc.cell? ⟨gb253, 1, none⟩ = some (.int .i64 a0_2) := (blk_cell BK253.out 1).trans rfl
               have hcz98_2 : wc.cell? ⟨gb253, 2, none⟩ = some (.int .i64 a0_3) := (blk_cell BK253.out 2).trans rfl
               have hcz98_3 : wc.cell? ⟨gb253, 3, none⟩ = some (.int .i64 a0_4) := (blk_cell BK253.out 3).trans rfl
               have hcz98_4 : wc.cell? ⟨gb253, 4, none⟩ = some (.int .i64 a0_5) := (blk_cell BK253.out 4).trans rfl
               have hcz98_5 : wc.cell? ⟨gb253, 5, none⟩ = some (.string a0_6) := (blk_cell BK253.out 5).trans rfl
               have hcz98_6 : wc.cell? ⟨gb253, 6, none⟩ = some (.string a0_7) := (blk_cell BK253.out 6).trans rfl
               have hcz98_7 : wc.cell? ⟨gb253, 7, none⟩ = some (.int .i64 a0_8) := (blk_cell BK253.out 7).trans rfl
               have hcz98_8 : wc.cell? ⟨gb253, 8, none⟩ = some (.int .i64 a0_9) := (blk_cell BK253.out 8).trans rfl
               have hcz98_9 : wc.cell? ⟨gb253, 9, none⟩ = some (.string a0_10) := (blk_cell BK253.out 9).trans rfl
               have hfz98_0 := blk_frozen BK253.out 0
               have hfz98_1 := blk_frozen BK253.out 1
               have hfz98_2 := blk_frozen BK253.out 2
               have hfz98_3 := blk_frozen BK253.out 3
               have hfz98_4 := blk_frozen BK253.out 4
               have hfz98_5 := blk_frozen BK253.out 5
               have hfz98_6 := blk_frozen BK253.out 6
               have hfz98_7 := blk_frozen BK253.out 7
               have hfz98_8 := blk_frozen BK253.out 8
               have hfz98_9 := blk_frozen BK253.out 9
               go_wp2
               go_ret
               exact ⟨by first | rfl | (simp [errW_none, errW_some] <;> rfl) | (simp [*, errW_none, errW_some] <;> rfl), by repeat (first | (with_reducible first | exact HB.out | apply below_alloc | apply pw_below_drewN | apply below_drew1 | refine below_set ?_ GE252.out | refine below_set ?_ GE253.out) | exact HB.out)⟩
             ·replace c84 := Bool.eq_false_iff.mpr c84
              subst c84
              have H1 : (some 1) = some r := by rw [if_neg (show ¬ (false = true) by decide)] at H; exact H
              clear H
              have H := H1
              clear H1
              obtain rfl := Option.some.inj H
              go_wp2
              go_ret
              exact ⟨by first | rfl | (simp [errW_none, errW_some] <;> rfl) | (simp [*, errW_none, errW_some] <;> rfl), by repeat (first | (with_reducible first | exact HB.out | apply below_alloc | apply pw_below_drewN | apply below_drew1 | refine below_set ?_ GE252.out | refine below_set ?_ GE253.out) | exact HB.out)⟩
end Go.Proofs.YtdkjinmkallhnaaGreatDoorQ
end
