/- A part of a proof of TreeTwiceCardSaid of this seat: what its walks and its laws lean on; joined by a program of this repo (wip/pack.py) out of the texts QTreeGet, XSm17b, XArgs, XHd, QOnionskinlaw09Few, QOnionskinlaw16Few, QEq40, QOnionskinref08Same, XEnt, XArgs2, XSm17, QOnionskinlaw17TreeTwice, Twice. -/
import Derived.Below
import Derived.Carry
import Derived.ChangeSame
import Derived.Deep.DeepHandedRow
import Derived.Deep.DeepWitnessRowRef
import Derived.Deep.Slices
import Derived.Lib.LaidTab
import Derived.OpenShut
import Derived.ProofKit
import Derived.Shelf.Vars
import Derived.SizedLaws
import Derived.Stop.LaidErr
import Derived.Test.YtdkjinmkallhnaaGreatDoorCards
import Derived.Test.YtdkjinmkallhnaaGreatDoorTie
import Derived.Test.YtdkjinmkallhnaaGreatDoorKAA
import Derived.Test.YtdkjinmkallhnaaGreatDoorKAB
import Derived.Test.YtdkjinmkallhnaaGreatDoorKAI
import Derived.Test.YtdkjinmkallhnaaGreatDoorKAJ
set_option linter.unusedSimpArgs false
set_option linter.unusedVariables false
section
namespace Go.Proofs.YtdkjinmkallhnaaGreatDoorQ
open Go.RowKit Go.Proofs.YtdkjinmkallhnaaGreatDoorW.PrintWords Go.Proofs.YtdkjinmkallhnaaGreatDoorW.PrintLast Go.Proofs.YtdkjinmkallhnaaGreatDoorW.PrintMore
open Go.Proofs.YtdkjinmkallhnaaGreatDoor (GL)
attribute [local go_sem] max2_int min2_int max_two min_two max_three min_three max_four min_four
def tree_Get.l0:Nat→ByteArray→List (S40)→Int→Int→Option (Int×Int×Int×Int×Int×ByteArray×ByteArray×Int×Int×ByteArray×Bool)
 | 0,_,_,_,_=>none
 | k + 1,x1,x8,x9,x10=>if x10<x9 then (if 0≤x10 then (if x10<(x8.length:Int) then (if ((rd_T40 x8 x10).f0).toList=x1.toList then (some ((rd_T40 x8 x10).f1.f0,(rd_T40 x8 x10).f1.f1,(rd_T40 x8 x10).f1.f2,(rd_T40 x8 x10).f1.f3,(rd_T40 x8 x10).f1.f4,(rd_T40 x8 x10).f1.f5,(rd_T40 x8 x10).f1.f6,(rd_T40 x8 x10).f1.f7,(rd_T40 x8 x10).f1.f8,(rd_T40 x8 x10).f1.f9,true)) else (tree_Get.l0 k x1 x8 x9 (wrap64 (x10 + 1)))) else (none)) else (none)) else (some (0,0,0,0,0,(⟨#[]⟩:ByteArray),(⟨#[]⟩:ByteArray),0,0,(⟨#[]⟩:ByteArray),false))
def tree_Get.f (k:Nat) (l0:List (S40)) (a1:ByteArray):Option (Int×Int×Int×Int×Int×ByteArray×ByteArray×Int×Int×ByteArray×Bool):=tree_Get.l0 k a1 l0 (l0.length:Int) 0
set_option maxHeartbeats 8000000 in
set_option maxRecDepth 100000 in
theorem tree_Get.calls (k:Nat) (A0:Option Addr) (c0:Nat) (l0:List (S40)) (a1:ByteArray) (r1:Int) (r2:Int) (r3:Int) (r4:Int) (r5:Int) (r6:ByteArray) (r7:ByteArray) (r8:Int) (r9:Int) (r10:ByteArray) (r11:Bool) (w:World) (hr0:Kd.C k40 w A0 l0.length l0) (hc0:l0.length≤c0) (h:tree_Get.f k l0 a1=some (r1,r2,r3,r4,r5,r6,r7,r8,r9,r10,r11)) :
  Calls Tryz.prog 17 #[.slice A0 l0.length c0,.string a1] w fun e w'=>e=.returned (.tuple #[.agg #[.int .i64 r1,.int .i64 r2,.int .i64 r3,.int .i64 r4,.int .i64 r5,.string r6,.string r7,.int .i64 r8,.int .i64 r9,.string r10],.bool r11])∧Below w.heap.size w w':=by
 have hu26:=Tryz.underlying26
 have hu40:=Tryz.underlying40
 have HR0:=Aside0.mk hr0
 have HC0:=Aside0.mk hc0
 clear hr0 hc0
 have HB:=Aside0.mk (Below.refl w.heap.size w)
 have H:(tree_Get.l0 k a1 l0 (l0.length:Int) 0)=some (r1,r2,r3,r4,r5,r6,r7,r8,r9,r10,r11):=h
 clear h
 have H':=Aside0.mk H
 clear H
 go_enter Tryz.func17,Tryz.ntmps17
 go_wp2_with (first|((with_reducible refine gate_dst (N:=4) rfl ?_);refine box_event ?hg (N:=4) ?hd (cs:=#[.int .i64 0,.int .i64 0,.int .i64 0,.int .i64 0,.int .i64 0,.string (⟨#[]⟩:ByteArray),.string (⟨#[]⟩:ByteArray),.int .i64 0,.int .i64 0,.string (⟨#[]⟩:ByteArray)]) (t:=26) ?hr ?_;(case hd=>rfl);(case hg=>rfl);(case hr=>first|(go_simp;done)|(go_simp;rfl));intro gb101 hg w3 hbox hb;have n0_:=Aside0.mk (below_step (by repeat (first|(with_reducible first|exact HB.out|apply below_alloc|apply pw_below_drewN|apply below_drew1)|exact HB.out)) hb);have n1_:=Aside0.mk (hbox);have n2_:=Aside0.mk ((by rw [hg];exact (below_size (by repeat (first|(with_reducible first|exact HB.out|apply below_alloc|apply pw_below_drewN|apply below_drew1)|exact HB.out))):w.heap.size≤gb101));have n3_:=Aside0.mk ((by rw [hg];exact (below_size (by repeat (first|(with_reducible first|exact HB.out|apply below_alloc|apply pw_below_drewN|apply below_drew1)|exact HB.out))):w.heap.size≤gb101));clear HB;have HB:=n0_;have BK101:=n1_;have GW101:=n2_;have GE101:=n3_;clear n0_ n1_ n2_ n3_;clear hb hbox hg))
 go_loopg [10] k (fun kq v10 w'=>∃ (x10_1:Int) (x102000_1:Int) (x102001_1:Int) (x102002_1:Int) (x102003_1:Int) (x102004_1:Int) (x102005_1:ByteArray) (x102006_1:ByteArray) (x102007_1:Int) (x102008_1:Int) (x102009_1:ByteArray),v10=.int .i64 x10_1∧Aside0 (tree_Get.l0 kq a1 l0 (l0.length:Int) x10_1=some (r1,r2,r3,r4,r5,r6,r7,r8,r9,r10,r11))∧Aside0 (kq≤k)∧Aside0 (w'.heap[gb101]?=some (.cells #[.int .i64 x102000_1,.int .i64 x102001_1,.int .i64 x102002_1,.int .i64 x102003_1,.int .i64 x102004_1,.string x102005_1,.string x102006_1,.int .i64 x102007_1,.int .i64 x102008_1,.string x102009_1] 26 (0,0)))∧Aside0 (Below w.heap.size w w'))
 case atStart=>exact ⟨(0),(0),(0),(0),(0),(0),((⟨#[]⟩:ByteArray)),((⟨#[]⟩:ByteArray)),(0),(0),((⟨#[]⟩:ByteArray)),(by first|rfl|(simp;done)|(simp [*];done)),H',⟨Nat.le_refl _⟩,⟨by (with_reducible repeat (first|refine blk_drewN ?_ _|refine blk_drew ?_|refine blk_alloc ?_ _));exact BK101.out⟩,⟨by repeat (first|(with_reducible first|exact HB.out|apply below_alloc|apply pw_below_drewN|apply below_drew1|refine below_set ?_ GE101.out)|exact HB.out)⟩⟩
 case round =>
  clear H'
  try clear c1;try clear p2
  obtain ⟨x10_1,x102000_1,x102001_1,x102002_1,x102003_1,x102004_1,x102005_1,x102006_1,x102007_1,x102008_1,x102009_1,rfl,HA,HK1,BK101,HB⟩:=hrel
  cases gk with
  | zero=>exact absurd HA.out (by simp [tree_Get.l0])
  | succ k1 =>
   have H:=HA.out
   clear HA
   simp only [tree_Get.l0] at H
   by_cases c4:x10_1<(l0.length:Int)
   ·rw [if_pos c4] at H
    have c4b0:decide (x10_1<(l0.length:Int))=true:=decide_eq_true c4
    clear c4
    by_cases c5:0≤x10_1
    ·rw [if_pos c5] at H
     have c5b0:decide (0≤x10_1)=true:=decide_eq_true c5
     clear c5
     by_cases c6:x10_1<(l0.length:Int)
     ·rw [if_pos c6] at H
      have c6b0:decide (x10_1<(l0.length:Int))=true:=decide_eq_true c6
      clear c6
      by_cases c7:((rd_T40 l0 x10_1).f0).toList=a1.toList
      ·rw [if_pos c7] at H
       have c7b0:(((rd_T40 l0 x10_1).f0).toList == a1.toList)=true:=beq_iff_eq.mpr c7
       have c7b1:(((rd_T40 l0 x10_1).f0).toList != a1.toList)=false:=bne_eq_false_iff_eq.mpr c7
       clear c7
       simp only [Option.some.injEq,Prod.mk.injEq] at H
       obtain ⟨rfl,rfl,rfl,rfl,rfl,rfl,rfl,rfl,rfl,rfl,rfl⟩:=H
       have p102:0≤(x10_1:Int):=of_decide_eq_true (by first|(with_reducible assumption)|assumption)
       have q102:x10_1<(l0.length:Int):=of_decide_eq_true (by first|(with_reducible assumption)|assumption)
       obtain ⟨ad102,e102,hx102_0,hx102_1,hx102_2,hx102_3,hx102_4,hx102_5,hx102_6,hx102_7,hx102_8,hx102_9,hx102_10⟩:=at_T40 HR0.out x10_1 p102 q102
       cases e102
       replace hx102_0:=(HB.out.cell (World.block_lt_of_cell? w _ hx102_0)).trans hx102_0
       replace hx102_1:=(HB.out.cell (World.block_lt_of_cell? w _ hx102_1)).trans hx102_1
       replace hx102_2:=(HB.out.cell (World.block_lt_of_cell? w _ hx102_2)).trans hx102_2
       replace hx102_3:=(HB.out.cell (World.block_lt_of_cell? w _ hx102_3)).trans hx102_3
       replace hx102_4:=(HB.out.cell (World.block_lt_of_cell? w _ hx102_4)).trans hx102_4
       replace hx102_5:=(HB.out.cell (World.block_lt_of_cell? w _ hx102_5)).trans hx102_5
       replace hx102_6:=(HB.out.cell (World.block_lt_of_cell? w _ hx102_6)).trans hx102_6
       replace hx102_7:=(HB.out.cell (World.block_lt_of_cell? w _ hx102_7)).trans hx102_7
       replace hx102_8:=(HB.out.cell (World.block_lt_of_cell? w _ hx102_8)).trans hx102_8
       replace hx102_9:=(HB.out.cell (World.block_lt_of_cell? w _ hx102_9)).trans hx102_9
       replace hx102_10:=(HB.out.cell (World.block_lt_of_cell? w _ hx102_10)).trans hx102_10
       replace p102:=eq_true p102
       replace q102:=eq_true q102
       go_wp2_with (first|((with_reducible refine gate_dst (N:=7) rfl ?_);refine box_event ?hg (N:=7) ?hd (cs:=#[.string (⟨#[]⟩:ByteArray),.int .i64 0,.int .i64 0,.int .i64 0,.int .i64 0,.int .i64 0,.string (⟨#[]⟩:ByteArray),.string (⟨#[]⟩:ByteArray),.int .i64 0,.int .i64 0,.string (⟨#[]⟩:ByteArray)]) (t:=40) ?hr ?_;(case hd=>rfl);(case hg=>rfl);(case hr=>first|(go_simp;done)|(go_simp;rfl));intro gb103 hg w8 hbox hb;have n0_:=Aside0.mk (blk_below (g:=gb101) (o:=.cells #[.int .i64 x102000_1,.int .i64 x102001_1,.int .i64 x102002_1,.int .i64 x102003_1,.int .i64 x102004_1,.string x102005_1,.string x102006_1,.int .i64 x102007_1,.int .i64 x102008_1,.string x102009_1] 26 (0,0)) (by (with_reducible repeat (first|refine blk_drewN ?_ _|refine blk_drew ?_|refine blk_alloc ?_ _));exact BK101.out) hb);have n1_:=Aside0.mk (below_step (by repeat (first|(with_reducible first|exact HB.out|apply below_alloc|apply pw_below_drewN|apply below_drew1|refine below_set ?_ GE101.out)|exact HB.out)) hb);have n2_:=Aside0.mk (hbox);have n3_:=Aside0.mk ((by rw [hg];exact (below_size (by repeat (first|(with_reducible first|exact HB.out|apply below_alloc|apply pw_below_drewN|apply below_drew1|refine below_set ?_ GE101.out)|exact HB.out))):w.heap.size≤gb103));have n4_:=Aside0.mk ((by rw [hg];exact (below_size (by repeat (first|(with_reducible first|exact HB.out|apply below_alloc|apply pw_below_drewN|apply below_drew1|refine below_set ?_ GE101.out)|exact HB.out))):w.heap.size≤gb103));have n5_:=Aside0.mk ((by rw [hg];exact Nat.ne_of_lt (blk_lt (g:=gb101) (o:=.cells #[.int .i64 x102000_1,.int .i64 x102001_1,.int .i64 x102002_1,.int .i64 x102003_1,.int .i64 x102004_1,.string x102005_1,.string x102006_1,.int .i64 x102007_1,.int .i64 x102008_1,.string x102009_1] 26 (0,0)) (by (with_reducible repeat (first|refine blk_drewN ?_ _|refine blk_drew ?_|refine blk_alloc ?_ _));exact BK101.out)):gb101≠gb103));have n6_:=Aside0.mk ((by rw [hg];exact Nat.ne_of_gt (blk_lt (g:=gb101) (o:=.cells #[.int .i64 x102000_1,.int .i64 x102001_1,.int .i64 x102002_1,.int .i64 x102003_1,.int .i64 x102004_1,.string x102005_1,.string x102006_1,.int .i64 x102007_1,.int .i64 x102008_1,.string x102009_1] 26 (0,0)) (by (with_reducible repeat (first|refine blk_drewN ?_ _|refine blk_drew ?_|refine blk_alloc ?_ _));exact BK101.out)):gb103≠gb101));clear BK101;clear HB;have BK101:=n0_;have HB:=n1_;have BK103:=n2_;have GW103:=n3_;have GE103:=n4_;have NB101_103:=n5_;have NB103_101:=n6_;clear n0_ n1_ n2_ n3_ n4_ n5_ n6_;clear hb hbox hg;have hnb9:=NB103_101.out;have hnc9:=NB101_103.out;have hcz10_0:w8.cell? ⟨gb103,0,none⟩=some (.string (⟨#[]⟩:ByteArray)):=(blk_cell BK103.out 0).trans rfl;have hcz10_1:w8.cell? ⟨gb103,1,none⟩=some (.int .i64 0):=(blk_cell BK103.out 1).trans rfl;have hcz10_2:w8.cell? ⟨gb103,2,none⟩=some (.int .i64 0):=(blk_cell BK103.out 2).trans rfl;have hcz10_3:w8.cell? ⟨gb103,3,none⟩=some (.int .i64 0):=(blk_cell BK103.out 3).trans rfl;have hcz10_4:w8.cell? ⟨gb103,4,none⟩=some (.int .i64 0):=(blk_cell BK103.out 4).trans rfl;have hcz10_5:w8.cell? ⟨gb103,5,none⟩=some (.int .i64 0):=(blk_cell BK103.out 5).trans rfl;have hcz10_6:w8.cell? ⟨gb103,6,none⟩=some (.string (⟨#[]⟩:ByteArray)):=(blk_cell BK103.out 6).trans rfl;have hcz10_7:w8.cell? ⟨gb103,7,none⟩=some (.string (⟨#[]⟩:ByteArray)):=(blk_cell BK103.out 7).trans rfl;have hcz10_8:w8.cell? ⟨gb103,8,none⟩=some (.int .i64 0):=(blk_cell BK103.out 8).trans rfl;have hcz10_9:w8.cell? ⟨gb103,9,none⟩=some (.int .i64 0):=(blk_cell BK103.out 9).trans rfl;have hcz10_10:w8.cell? ⟨gb103,10,none⟩=some (.string (⟨#[]⟩:ByteArray)):=(blk_cell BK103.out 10).trans rfl;have hfz10_0:=blk_frozen BK103.out 0;have hfz10_1:=blk_frozen BK103.out 1;have hfz10_2:=blk_frozen BK103.out 2;have hfz10_3:=blk_frozen BK103.out 3;have hfz10_4:=blk_frozen BK103.out 4;have hfz10_5:=blk_frozen BK103.out 5;have hfz10_6:=blk_frozen BK103.out 6;have hfz10_7:=blk_frozen BK103.out 7;have hfz10_8:=blk_frozen BK103.out 8;have hfz10_9:=blk_frozen BK103.out 9;have hfz10_10:=blk_frozen BK103.out 10;have hcz11_0:w8.cell? ⟨gb101,0,none⟩=some (.int .i64 x102000_1):=(blk_cell BK101.out 0).trans rfl;have hcz11_1:w8.cell? ⟨gb101,1,none⟩=some (.int .i64 x102001_1):=(blk_cell BK101.out 1).trans rfl;have hcz11_2:w8.cell? ⟨gb101,2,none⟩=some (.int .i64 x102002_1):=(blk_cell BK101.out 2).trans rfl;have hcz11_3:w8.cell? ⟨gb101,3,none⟩=some (.int .i64 x102003_1):=(blk_cell BK101.out 3).trans rfl;have hcz11_4:w8.cell? ⟨gb101,4,none⟩=some (.int .i64 x102004_1):=(blk_cell BK101.out 4).trans rfl;have hcz11_5:w8.cell? ⟨gb101,5,none⟩=some (.string x102005_1):=(blk_cell BK101.out 5).trans rfl;have hcz11_6:w8.cell? ⟨gb101,6,none⟩=some (.string x102006_1):=(blk_cell BK101.out 6).trans rfl;have hcz11_7:w8.cell? ⟨gb101,7,none⟩=some (.int .i64 x102007_1):=(blk_cell BK101.out 7).trans rfl;have hcz11_8:w8.cell? ⟨gb101,8,none⟩=some (.int .i64 x102008_1):=(blk_cell BK101.out 8).trans rfl;have hcz11_9:w8.cell? ⟨gb101,9,none⟩=some (.string x102009_1):=(blk_cell BK101.out 9).trans rfl;have hfz11_0:=blk_frozen BK101.out 0;have hfz11_1:=blk_frozen BK101.out 1;have hfz11_2:=blk_frozen BK101.out 2;have hfz11_3:=blk_frozen BK101.out 3;have hfz11_4:=blk_frozen BK101.out 4;have hfz11_5:=blk_frozen BK101.out 5;have hfz11_6:=blk_frozen BK101.out 6;have hfz11_7:=blk_frozen BK101.out 7;have hfz11_8:=blk_frozen BK101.out 8;have hfz11_9:=blk_frozen BK101.out 9))
       refine bodyPost_ret (results_ct rfl _ _ gb101 26 #[.int .i64 ((rd_T40 l0 x10_1).f1.f0),.int .i64 ((rd_T40 l0 x10_1).f1.f1),.int .i64 ((rd_T40 l0 x10_1).f1.f2),.int .i64 ((rd_T40 l0 x10_1).f1.f3),.int .i64 ((rd_T40 l0 x10_1).f1.f4),.string ((rd_T40 l0 x10_1).f1.f5),.string ((rd_T40 l0 x10_1).f1.f6),.int .i64 ((rd_T40 l0 x10_1).f1.f7),.int .i64 ((rd_T40 l0 x10_1).f1.f8),.string ((rd_T40 l0 x10_1).f1.f9)] (0,0) _ rfl (by (with_reducible repeat (first|refine blk_drewN ?_ _|refine blk_drew ?_|refine blk_alloc ?_ _));refine blk_put (cs:=#[.int .i64 ((rd_T40 l0 x10_1).f1.f0),.int .i64 ((rd_T40 l0 x10_1).f1.f1),.int .i64 ((rd_T40 l0 x10_1).f1.f2),.int .i64 ((rd_T40 l0 x10_1).f1.f3),.int .i64 ((rd_T40 l0 x10_1).f1.f4),.string ((rd_T40 l0 x10_1).f1.f5),.string ((rd_T40 l0 x10_1).f1.f6),.int .i64 ((rd_T40 l0 x10_1).f1.f7),.int .i64 ((rd_T40 l0 x10_1).f1.f8),.string x102009_1]) ?_ 9 _ rfl;(with_reducible repeat (first|refine blk_drewN ?_ _|refine blk_drew ?_|refine blk_alloc ?_ _));refine blk_put (cs:=#[.int .i64 ((rd_T40 l0 x10_1).f1.f0),.int .i64 ((rd_T40 l0 x10_1).f1.f1),.int .i64 ((rd_T40 l0 x10_1).f1.f2),.int .i64 ((rd_T40 l0 x10_1).f1.f3),.int .i64 ((rd_T40 l0 x10_1).f1.f4),.string ((rd_T40 l0 x10_1).f1.f5),.string ((rd_T40 l0 x10_1).f1.f6),.int .i64 ((rd_T40 l0 x10_1).f1.f7),.int .i64 x102008_1,.string x102009_1]) ?_ 8 _ rfl;(with_reducible repeat (first|refine blk_drewN ?_ _|refine blk_drew ?_|refine blk_alloc ?_ _));refine blk_put (cs:=#[.int .i64 ((rd_T40 l0 x10_1).f1.f0),.int .i64 ((rd_T40 l0 x10_1).f1.f1),.int .i64 ((rd_T40 l0 x10_1).f1.f2),.int .i64 ((rd_T40 l0 x10_1).f1.f3),.int .i64 ((rd_T40 l0 x10_1).f1.f4),.string ((rd_T40 l0 x10_1).f1.f5),.string ((rd_T40 l0 x10_1).f1.f6),.int .i64 x102007_1,.int .i64 x102008_1,.string x102009_1]) ?_ 7 _ rfl;(with_reducible repeat (first|refine blk_drewN ?_ _|refine blk_drew ?_|refine blk_alloc ?_ _));refine blk_put (cs:=#[.int .i64 ((rd_T40 l0 x10_1).f1.f0),.int .i64 ((rd_T40 l0 x10_1).f1.f1),.int .i64 ((rd_T40 l0 x10_1).f1.f2),.int .i64 ((rd_T40 l0 x10_1).f1.f3),.int .i64 ((rd_T40 l0 x10_1).f1.f4),.string ((rd_T40 l0 x10_1).f1.f5),.string x102006_1,.int .i64 x102007_1,.int .i64 x102008_1,.string x102009_1]) ?_ 6 _ rfl;(with_reducible repeat (first|refine blk_drewN ?_ _|refine blk_drew ?_|refine blk_alloc ?_ _));refine blk_put (cs:=#[.int .i64 ((rd_T40 l0 x10_1).f1.f0),.int .i64 ((rd_T40 l0 x10_1).f1.f1),.int .i64 ((rd_T40 l0 x10_1).f1.f2),.int .i64 ((rd_T40 l0 x10_1).f1.f3),.int .i64 ((rd_T40 l0 x10_1).f1.f4),.string x102005_1,.string x102006_1,.int .i64 x102007_1,.int .i64 x102008_1,.string x102009_1]) ?_ 5 _ rfl;(with_reducible repeat (first|refine blk_drewN ?_ _|refine blk_drew ?_|refine blk_alloc ?_ _));refine blk_put (cs:=#[.int .i64 ((rd_T40 l0 x10_1).f1.f0),.int .i64 ((rd_T40 l0 x10_1).f1.f1),.int .i64 ((rd_T40 l0 x10_1).f1.f2),.int .i64 ((rd_T40 l0 x10_1).f1.f3),.int .i64 x102004_1,.string x102005_1,.string x102006_1,.int .i64 x102007_1,.int .i64 x102008_1,.string x102009_1]) ?_ 4 _ rfl;(with_reducible repeat (first|refine blk_drewN ?_ _|refine blk_drew ?_|refine blk_alloc ?_ _));refine blk_put (cs:=#[.int .i64 ((rd_T40 l0 x10_1).f1.f0),.int .i64 ((rd_T40 l0 x10_1).f1.f1),.int .i64 ((rd_T40 l0 x10_1).f1.f2),.int .i64 x102003_1,.int .i64 x102004_1,.string x102005_1,.string x102006_1,.int .i64 x102007_1,.int .i64 x102008_1,.string x102009_1]) ?_ 3 _ rfl;(with_reducible repeat (first|refine blk_drewN ?_ _|refine blk_drew ?_|refine blk_alloc ?_ _));refine blk_put (cs:=#[.int .i64 ((rd_T40 l0 x10_1).f1.f0),.int .i64 ((rd_T40 l0 x10_1).f1.f1),.int .i64 x102002_1,.int .i64 x102003_1,.int .i64 x102004_1,.string x102005_1,.string x102006_1,.int .i64 x102007_1,.int .i64 x102008_1,.string x102009_1]) ?_ 2 _ rfl;(with_reducible repeat (first|refine blk_drewN ?_ _|refine blk_drew ?_|refine blk_alloc ?_ _));refine blk_put (cs:=#[.int .i64 ((rd_T40 l0 x10_1).f1.f0),.int .i64 x102001_1,.int .i64 x102002_1,.int .i64 x102003_1,.int .i64 x102004_1,.string x102005_1,.string x102006_1,.int .i64 x102007_1,.int .i64 x102008_1,.string x102009_1]) ?_ 1 _ rfl;(with_reducible repeat (first|refine blk_drewN ?_ _|refine blk_drew ?_|refine blk_alloc ?_ _));refine blk_put (cs:=#[.int .i64 x102000_1,.int .i64 x102001_1,.int .i64 x102002_1,.int .i64 x102003_1,.int .i64 x102004_1,.string x102005_1,.string x102006_1,.int .i64 x102007_1,.int .i64 x102008_1,.string x102009_1]) ?_ 0 _ rfl;(with_reducible repeat (first|refine blk_drewN ?_ _|refine blk_drew ?_|refine blk_alloc ?_ _));refine blk_far ?_ NB101_103.out _;(with_reducible repeat (first|refine blk_drewN ?_ _|refine blk_drew ?_|refine blk_alloc ?_ _));refine blk_far ?_ NB101_103.out _;(with_reducible repeat (first|refine blk_drewN ?_ _|refine blk_drew ?_|refine blk_alloc ?_ _));refine blk_far ?_ NB101_103.out _;(with_reducible repeat (first|refine blk_drewN ?_ _|refine blk_drew ?_|refine blk_alloc ?_ _));refine blk_far ?_ NB101_103.out _;(with_reducible repeat (first|refine blk_drewN ?_ _|refine blk_drew ?_|refine blk_alloc ?_ _));refine blk_far ?_ NB101_103.out _;(with_reducible repeat (first|refine blk_drewN ?_ _|refine blk_drew ?_|refine blk_alloc ?_ _));refine blk_far ?_ NB101_103.out _;(with_reducible repeat (first|refine blk_drewN ?_ _|refine blk_drew ?_|refine blk_alloc ?_ _));refine blk_far ?_ NB101_103.out _;(with_reducible repeat (first|refine blk_drewN ?_ _|refine blk_drew ?_|refine blk_alloc ?_ _));refine blk_far ?_ NB101_103.out _;(with_reducible repeat (first|refine blk_drewN ?_ _|refine blk_drew ?_|refine blk_alloc ?_ _));refine blk_far ?_ NB101_103.out _;(with_reducible repeat (first|refine blk_drewN ?_ _|refine blk_drew ?_|refine blk_alloc ?_ _));refine blk_far ?_ NB101_103.out _;(with_reducible repeat (first|refine blk_drewN ?_ _|refine blk_drew ?_|refine blk_alloc ?_ _));refine blk_far ?_ NB101_103.out _;(with_reducible repeat (first|refine blk_drewN ?_ _|refine blk_drew ?_|refine blk_alloc ?_ _));exact BK101.out) Tryz.underlying26 rfl (by kernel_rfl)) rfl ?_
       exact ⟨by first|rfl|(simp [errW_none,errW_some] <;> rfl)|(simp [*,errW_none,errW_some] <;> rfl),by repeat (first|(with_reducible first|exact HB.out|apply below_alloc|apply pw_below_drewN|apply below_drew1|refine below_set ?_ GE101.out|refine below_set ?_ GE103.out)|exact HB.out)⟩
      ·rw [if_neg c7] at H
       have c7b0:(((rd_T40 l0 x10_1).f0).toList == a1.toList)=false:=beq_eq_false_iff_ne.mpr c7
       have c7b1:(((rd_T40 l0 x10_1).f0).toList != a1.toList)=true:=bne_iff_ne.mpr c7
       have H':=Aside0.mk H
       clear H
       have p102:0≤(x10_1:Int):=of_decide_eq_true (by first|(with_reducible assumption)|assumption)
       have q102:x10_1<(l0.length:Int):=of_decide_eq_true (by first|(with_reducible assumption)|assumption)
       obtain ⟨ad102,e102,hx102_0,hx102_1,hx102_2,hx102_3,hx102_4,hx102_5,hx102_6,hx102_7,hx102_8,hx102_9,hx102_10⟩:=at_T40 HR0.out x10_1 p102 q102
       cases e102
       replace hx102_0:=(HB.out.cell (World.block_lt_of_cell? w _ hx102_0)).trans hx102_0
       replace hx102_1:=(HB.out.cell (World.block_lt_of_cell? w _ hx102_1)).trans hx102_1
       replace hx102_2:=(HB.out.cell (World.block_lt_of_cell? w _ hx102_2)).trans hx102_2
       replace hx102_3:=(HB.out.cell (World.block_lt_of_cell? w _ hx102_3)).trans hx102_3
       replace hx102_4:=(HB.out.cell (World.block_lt_of_cell? w _ hx102_4)).trans hx102_4
       replace hx102_5:=(HB.out.cell (World.block_lt_of_cell? w _ hx102_5)).trans hx102_5
       replace hx102_6:=(HB.out.cell (World.block_lt_of_cell? w _ hx102_6)).trans hx102_6
       replace hx102_7:=(HB.out.cell (World.block_lt_of_cell? w _ hx102_7)).trans hx102_7
       replace hx102_8:=(HB.out.cell (World.block_lt_of_cell? w _ hx102_8)).trans hx102_8
       replace hx102_9:=(HB.out.cell (World.block_lt_of_cell? w _ hx102_9)).trans hx102_9
       replace hx102_10:=(HB.out.cell (World.block_lt_of_cell? w _ hx102_10)).trans hx102_10
       replace p102:=eq_true p102
       replace q102:=eq_true q102
       go_wp2_with (first|((with_reducible refine gate_dst (N:=7) rfl ?_);refine box_event ?hg (N:=7) ?hd (cs:=#[.string (⟨#[]⟩:ByteArray),.int .i64 0,.int .i64 0,.int .i64 0,.int .i64 0,.int .i64 0,.string (⟨#[]⟩:ByteArray),.string (⟨#[]⟩:ByteArray),.int .i64 0,.int .i64 0,.string (⟨#[]⟩:ByteArray)]) (t:=40) ?hr ?_;(case hd=>rfl);(case hg=>rfl);(case hr=>first|(go_simp;done)|(go_simp;rfl));intro gb103 hg w12 hbox hb;have n0_:=Aside0.mk (blk_below (g:=gb101) (o:=.cells #[.int .i64 x102000_1,.int .i64 x102001_1,.int .i64 x102002_1,.int .i64 x102003_1,.int .i64 x102004_1,.string x102005_1,.string x102006_1,.int .i64 x102007_1,.int .i64 x102008_1,.string x102009_1] 26 (0,0)) (by (with_reducible repeat (first|refine blk_drewN ?_ _|refine blk_drew ?_|refine blk_alloc ?_ _));exact BK101.out) hb);have n1_:=Aside0.mk (below_step (by repeat (first|(with_reducible first|exact HB.out|apply below_alloc|apply pw_below_drewN|apply below_drew1|refine below_set ?_ GE101.out)|exact HB.out)) hb);have n2_:=Aside0.mk (hbox);have n3_:=Aside0.mk ((by rw [hg];exact (below_size (by repeat (first|(with_reducible first|exact HB.out|apply below_alloc|apply pw_below_drewN|apply below_drew1|refine below_set ?_ GE101.out)|exact HB.out))):w.heap.size≤gb103));have n4_:=Aside0.mk ((by rw [hg];exact (below_size (by repeat (first|(with_reducible first|exact HB.out|apply below_alloc|apply pw_below_drewN|apply below_drew1|refine below_set ?_ GE101.out)|exact HB.out))):w.heap.size≤gb103));have n5_:=Aside0.mk ((by rw [hg];exact Nat.ne_of_lt (blk_lt (g:=gb101) (o:=.cells #[.int .i64 x102000_1,.int .i64 x102001_1,.int .i64 x102002_1,.int .i64 x102003_1,.int .i64 x102004_1,.string x102005_1,.string x102006_1,.int .i64 x102007_1,.int .i64 x102008_1,.string x102009_1] 26 (0,0)) (by (with_reducible repeat (first|refine blk_drewN ?_ _|refine blk_drew ?_|refine blk_alloc ?_ _));exact BK101.out)):gb101≠gb103));have n6_:=Aside0.mk ((by rw [hg];exact Nat.ne_of_gt (blk_lt (g:=gb101) (o:=.cells #[.int .i64 x102000_1,.int .i64 x102001_1,.int .i64 x102002_1,.int .i64 x102003_1,.int .i64 x102004_1,.string x102005_1,.string x102006_1,.int .i64 x102007_1,.int .i64 x102008_1,.string x102009_1] 26 (0,0)) (by (with_reducible repeat (first|refine blk_drewN ?_ _|refine blk_drew ?_|refine blk_alloc ?_ _));exact BK101.out)):gb103≠gb101));clear BK101;clear HB;have BK101:=n0_;have HB:=n1_;have BK103:=n2_;have GW103:=n3_;have GE103:=n4_;have NB101_103:=n5_;have NB103_101:=n6_;clear n0_ n1_ n2_ n3_ n4_ n5_ n6_;clear hb hbox hg;have hnb13:=NB103_101.out;have hnc13:=NB101_103.out;have hcz14_0:w12.cell? ⟨gb103,0,none⟩=some (.string (⟨#[]⟩:ByteArray)):=(blk_cell BK103.out 0).trans rfl;have hcz14_1:w12.cell? ⟨gb103,1,none⟩=some (.int .i64 0):=(blk_cell BK103.out 1).trans rfl;have hcz14_2:w12.cell? ⟨gb103,2,none⟩=some (.int .i64 0):=(blk_cell BK103.out 2).trans rfl;have hcz14_3:w12.cell? ⟨gb103,3,none⟩=some (.int .i64 0):=(blk_cell BK103.out 3).trans rfl;have hcz14_4:w12.cell? ⟨gb103,4,none⟩=some (.int .i64 0):=(blk_cell BK103.out 4).trans rfl;have hcz14_5:w12.cell? ⟨gb103,5,none⟩=some (.int .i64 0):=(blk_cell BK103.out 5).trans rfl;have hcz14_6:w12.cell? ⟨gb103,6,none⟩=some (.string (⟨#[]⟩:ByteArray)):=(blk_cell BK103.out 6).trans rfl;have hcz14_7:w12.cell? ⟨gb103,7,none⟩=some (.string (⟨#[]⟩:ByteArray)):=(blk_cell BK103.out 7).trans rfl;have hcz14_8:w12.cell? ⟨gb103,8,none⟩=some (.int .i64 0):=(blk_cell BK103.out 8).trans rfl;have hcz14_9:w12.cell? ⟨gb103,9,none⟩=some (.int .i64 0):=(blk_cell BK103.out 9).trans rfl;have hcz14_10:w12.cell? ⟨gb103,10,none⟩=some (.string (⟨#[]⟩:ByteArray)):=(blk_cell BK103.out 10).trans rfl;have hfz14_0:=blk_frozen BK103.out 0;have hfz14_1:=blk_frozen BK103.out 1;have hfz14_2:=blk_frozen BK103.out 2;have hfz14_3:=blk_frozen BK103.out 3;have hfz14_4:=blk_frozen BK103.out 4;have hfz14_5:=blk_frozen BK103.out 5;have hfz14_6:=blk_frozen BK103.out 6;have hfz14_7:=blk_frozen BK103.out 7;have hfz14_8:=blk_frozen BK103.out 8;have hfz14_9:=blk_frozen BK103.out 9;have hfz14_10:=blk_frozen BK103.out 10))
       go_roundg k1
       case measure=>have:=HK1.out;omega
       case rel=>exact ⟨(wrap64 (x10_1 + 1)),(x102000_1),(x102001_1),(x102002_1),(x102003_1),(x102004_1),(x102005_1),(x102006_1),(x102007_1),(x102008_1),(x102009_1),(by first|rfl|(simp;done)|(simp [*];done)),H',⟨by have:=HK1.out;omega⟩,⟨by (with_reducible repeat (first|refine blk_drewN ?_ _|refine blk_drew ?_|refine blk_alloc ?_ _));refine blk_far ?_ NB101_103.out _;(with_reducible repeat (first|refine blk_drewN ?_ _|refine blk_drew ?_|refine blk_alloc ?_ _));refine blk_far ?_ NB101_103.out _;(with_reducible repeat (first|refine blk_drewN ?_ _|refine blk_drew ?_|refine blk_alloc ?_ _));refine blk_far ?_ NB101_103.out _;(with_reducible repeat (first|refine blk_drewN ?_ _|refine blk_drew ?_|refine blk_alloc ?_ _));refine blk_far ?_ NB101_103.out _;(with_reducible repeat (first|refine blk_drewN ?_ _|refine blk_drew ?_|refine blk_alloc ?_ _));refine blk_far ?_ NB101_103.out _;(with_reducible repeat (first|refine blk_drewN ?_ _|refine blk_drew ?_|refine blk_alloc ?_ _));refine blk_far ?_ NB101_103.out _;(with_reducible repeat (first|refine blk_drewN ?_ _|refine blk_drew ?_|refine blk_alloc ?_ _));refine blk_far ?_ NB101_103.out _;(with_reducible repeat (first|refine blk_drewN ?_ _|refine blk_drew ?_|refine blk_alloc ?_ _));refine blk_far ?_ NB101_103.out _;(with_reducible repeat (first|refine blk_drewN ?_ _|refine blk_drew ?_|refine blk_alloc ?_ _));refine blk_far ?_ NB101_103.out _;(with_reducible repeat (first|refine blk_drewN ?_ _|refine blk_drew ?_|refine blk_alloc ?_ _));refine blk_far ?_ NB101_103.out _;(with_reducible repeat (first|refine blk_drewN ?_ _|refine blk_drew ?_|refine blk_alloc ?_ _));refine blk_far ?_ NB101_103.out _;(with_reducible repeat (first|refine blk_drewN ?_ _|refine blk_drew ?_|refine blk_alloc ?_ _));exact BK101.out⟩,⟨by repeat (first|(with_reducible first|exact HB.out|apply below_alloc|apply pw_below_drewN|apply below_drew1|refine below_set ?_ GE101.out|refine below_set ?_ GE103.out)|exact HB.out)⟩⟩
     ·rw [if_neg c6] at H
      exact absurd H (by simp)
    ·rw [if_neg c5] at H
     exact absurd H (by simp)
   ·rw [if_neg c4] at H
    have c4b0:decide (x10_1<(l0.length:Int))=false:=decide_eq_false c4
    clear c4
    simp only [Option.some.injEq,Prod.mk.injEq] at H
    obtain ⟨rfl,rfl,rfl,rfl,rfl,rfl,rfl,rfl,rfl,rfl,rfl⟩:=H
    have hcz15_0:wr.cell? ⟨gb101,0,none⟩=some (.int .i64 x102000_1):=(blk_cell BK101.out 0).trans rfl
    have hcz15_1:wr.cell? ⟨gb101,1,none⟩=some (.int .i64 x102001_1):=(blk_cell BK101.out 1).trans rfl
    have hcz15_2:wr.cell? ⟨gb101,2,none⟩=some (.int .i64 x102002_1):=(blk_cell BK101.out 2).trans rfl
    have hcz15_3:wr.cell? ⟨gb101,3,none⟩=some (.int .i64 x102003_1):=(blk_cell BK101.out 3).trans rfl
    have hcz15_4:wr.cell? ⟨gb101,4,none⟩=some (.int .i64 x102004_1):=(blk_cell BK101.out 4).trans rfl
    have hcz15_5:wr.cell? ⟨gb101,5,none⟩=some (.string x102005_1):=(blk_cell BK101.out 5).trans rfl
    have hcz15_6:wr.cell? ⟨gb101,6,none⟩=some (.string x102006_1):=(blk_cell BK101.out 6).trans rfl
    have hcz15_7:wr.cell? ⟨gb101,7,none⟩=some (.int .i64 x102007_1):=(blk_cell BK101.out 7).trans rfl
    have hcz15_8:wr.cell? ⟨gb101,8,none⟩=some (.int .i64 x102008_1):=(blk_cell BK101.out 8).trans rfl
    have hcz15_9:wr.cell? ⟨gb101,9,none⟩=some (.string x102009_1):=(blk_cell BK101.out 9).trans rfl
    have hfz15_0:=blk_frozen BK101.out 0
    have hfz15_1:=blk_frozen BK101.out 1
    have hfz15_2:=blk_frozen BK101.out 2
    have hfz15_3:=blk_frozen BK101.out 3
    have hfz15_4:=blk_frozen BK101.out 4
    have hfz15_5:=blk_frozen BK101.out 5
    have hfz15_6:=blk_frozen BK101.out 6
    have hfz15_7:=blk_frozen BK101.out 7
    have hfz15_8:=blk_frozen BK101.out 8
    have hfz15_9:=blk_frozen BK101.out 9
    go_wp2
    refine bodyPost_ret (results_ct rfl _ _ gb101 26 #[.int .i64 0,.int .i64 0,.int .i64 0,.int .i64 0,.int .i64 0,.string (⟨#[]⟩:ByteArray),.string (⟨#[]⟩:ByteArray),.int .i64 0,.int .i64 0,.string (⟨#[]⟩:ByteArray)] (0,0) _ rfl (by (with_reducible repeat (first|refine blk_drewN ?_ _|refine blk_drew ?_|refine blk_alloc ?_ _));refine blk_put (cs:=#[.int .i64 0,.int .i64 0,.int .i64 0,.int .i64 0,.int .i64 0,.string (⟨#[]⟩:ByteArray),.string (⟨#[]⟩:ByteArray),.int .i64 0,.int .i64 0,.string x102009_1]) ?_ 9 _ rfl;(with_reducible repeat (first|refine blk_drewN ?_ _|refine blk_drew ?_|refine blk_alloc ?_ _));refine blk_put (cs:=#[.int .i64 0,.int .i64 0,.int .i64 0,.int .i64 0,.int .i64 0,.string (⟨#[]⟩:ByteArray),.string (⟨#[]⟩:ByteArray),.int .i64 0,.int .i64 x102008_1,.string x102009_1]) ?_ 8 _ rfl;(with_reducible repeat (first|refine blk_drewN ?_ _|refine blk_drew ?_|refine blk_alloc ?_ _));refine blk_put (cs:=#[.int .i64 0,.int .i64 0,.int .i64 0,.int .i64 0,.int .i64 0,.string (⟨#[]⟩:ByteArray),.string (⟨#[]⟩:ByteArray),.int .i64 x102007_1,.int .i64 x102008_1,.string x102009_1]) ?_ 7 _ rfl;(with_reducible repeat (first|refine blk_drewN ?_ _|refine blk_drew ?_|refine blk_alloc ?_ _));refine blk_put (cs:=#[.int .i64 0,.int .i64 0,.int .i64 0,.int .i64 0,.int .i64 0,.string (⟨#[]⟩:ByteArray),.string x102006_1,.int .i64 x102007_1,.int .i64 x102008_1,.string x102009_1]) ?_ 6 _ rfl;(with_reducible repeat (first|refine blk_drewN ?_ _|refine blk_drew ?_|refine blk_alloc ?_ _));refine blk_put (cs:=#[.int .i64 0,.int .i64 0,.int .i64 0,.int .i64 0,.int .i64 0,.string x102005_1,.string x102006_1,.int .i64 x102007_1,.int .i64 x102008_1,.string x102009_1]) ?_ 5 _ rfl;(with_reducible repeat (first|refine blk_drewN ?_ _|refine blk_drew ?_|refine blk_alloc ?_ _));refine blk_put (cs:=#[.int .i64 0,.int .i64 0,.int .i64 0,.int .i64 0,.int .i64 x102004_1,.string x102005_1,.string x102006_1,.int .i64 x102007_1,.int .i64 x102008_1,.string x102009_1]) ?_ 4 _ rfl;(with_reducible repeat (first|refine blk_drewN ?_ _|refine blk_drew ?_|refine blk_alloc ?_ _));refine blk_put (cs:=#[.int .i64 0,.int .i64 0,.int .i64 0,.int .i64 x102003_1,.int .i64 x102004_1,.string x102005_1,.string x102006_1,.int .i64 x102007_1,.int .i64 x102008_1,.string x102009_1]) ?_ 3 _ rfl;(with_reducible repeat (first|refine blk_drewN ?_ _|refine blk_drew ?_|refine blk_alloc ?_ _));refine blk_put (cs:=#[.int .i64 0,.int .i64 0,.int .i64 x102002_1,.int .i64 x102003_1,.int .i64 x102004_1,.string x102005_1,.string x102006_1,.int .i64 x102007_1,.int .i64 x102008_1,.string x102009_1]) ?_ 2 _ rfl;(with_reducible repeat (first|refine blk_drewN ?_ _|refine blk_drew ?_|refine blk_alloc ?_ _));refine blk_put (cs:=#[.int .i64 0,.int .i64 x102001_1,.int .i64 x102002_1,.int .i64 x102003_1,.int .i64 x102004_1,.string x102005_1,.string x102006_1,.int .i64 x102007_1,.int .i64 x102008_1,.string x102009_1]) ?_ 1 _ rfl;(with_reducible repeat (first|refine blk_drewN ?_ _|refine blk_drew ?_|refine blk_alloc ?_ _));refine blk_put (cs:=#[.int .i64 x102000_1,.int .i64 x102001_1,.int .i64 x102002_1,.int .i64 x102003_1,.int .i64 x102004_1,.string x102005_1,.string x102006_1,.int .i64 x102007_1,.int .i64 x102008_1,.string x102009_1]) ?_ 0 _ rfl;(with_reducible repeat (first|refine blk_drewN ?_ _|refine blk_drew ?_|refine blk_alloc ?_ _));exact BK101.out) Tryz.underlying26 rfl (by kernel_rfl)) rfl ?_
    exact ⟨by first|rfl|(simp [errW_none,errW_some] <;> rfl)|(simp [*,errW_none,errW_some] <;> rfl),by repeat (first|(with_reducible first|exact HB.out|apply below_alloc|apply pw_below_drewN|apply below_drew1|refine below_set ?_ GE101.out)|exact HB.out)⟩
end Go.Proofs.YtdkjinmkallhnaaGreatDoorQ
end
section
namespace Go.Proofs.YtdkjinmkallhnaaGreatDoorQ
open Go.RowKit Go.WideMaps Go.Maps Go.Proofs.YtdkjinmkallhnaaGreatDoor Go.Proofs.YtdkjinmkallhnaaGreatDoorW.PrintWords Go.Proofs.YtdkjinmkallhnaaGreatDoorW.PrintLast Go.Proofs.YtdkjinmkallhnaaGreatDoorW.PrintMore
open Go.Proofs.YtdkjinmkallhnaaGreatDoorT (applyM rightT Ch)
theorem en_C {w:World} {A:Option Addr} {xs:List S40} (h:RowAt eCells 11 w A (xs.map enOf)) (hn:xs.length≤9223372036854775807):Kd.C k40 w A xs.length xs :=
  C_of_row (d:=k40) (fun w x=>by rw [← eCells_en];exact k40_mk w x) h hn
theorem chCells_of (x:S38):chCells (chOf x)=[.string x.f0,.int .i64 x.f1,.int .i64 x.f2.f0,.int .i64 x.f2.f1,.int .i64 x.f2.f2,.int .i64 x.f2.f3,.int .i64 x.f2.f4,.string x.f2.f5,.string x.f2.f6,.int .i64 x.f2.f7,.int .i64 x.f2.f8,.string x.f2.f9]:=by
  obtain ⟨p,o,x⟩:=x
  obtain ⟨a1,a2,a3,a4,a5,a6,a7,a8,a9,a10⟩:=x
  simp [chCells,ndCells,chOf,ndOf,B_L]
theorem chCells_len (e:Ch Str Nd):(chCells e).length=12:=rfl
theorem ch_C {w:World} {A:Option Addr} {xs:List S38} (h:RowAt chCells 12 w A (xs.map chOf)) (hn:xs.length≤9223372036854775807):Kd.C k38 w A xs.length xs :=
  C_of_row (d:=k38) (fun w x=>by rw [chCells_of];exact k38_mk w x) h hn
theorem row_of_block {α:Type} {enc:α→List Value} {k:Nat} (hk:∀ x,(enc x).length=k) {w:World} {g:Nat} {T:TypeId} {l:List α} (hl:l.length≤maxLen) (h:w.heap[g]?=some (.cells (flat enc l).toArray T (0,0))):RowAt enc k w (some ⟨g,0,none⟩) l:=by
  have hf:(flat enc l).length=l.length * k:=flat_length hk l
  have:Own enc T k 0 w (.slice (some ⟨g,0,none⟩) l.length l.length) l:=⟨hf,.inr ⟨g,l.length,_,rfl,Nat.zero_le _,h,Nat.le_refl _,hl,by simpa using hf,by rw [List.toList_toArray,← hf,List.take_length]⟩⟩
  exact this.row hk
theorem apply_lit (w:World) (hG:GL w) (g g2:Nat) (t:List (Str×Nd)) (l:List (Ch Str Nd)) (h1:w.heap[g]?=some (.cells (flat eCells t).toArray 40 (0,0))) (h2:w.heap[g2]?=some (.cells (flat chCells l).toArray 38 (0,0)))
    (ht:t.length≤1000000) (hl:l.length≤1000000) (hf:rowFits t=true) (hf2:lyrFits l=true) :
    Calls Tryz.prog 22 #[.slice (some ⟨g,0,none⟩) t.length t.length,.slice (some ⟨g2,0,none⟩) l.length l.length] w fun e w'=>∃ v:Value,e=.returned (.tuple #[v,.int .i64 (applyM Y t l).2]) ∧
      Own eCells 40 11 w.heap.size w' v (applyM Y t l).1∧Below w.heap.size w w':=by
  have r1:=row_of_block eCells_len (by unfold maxLen;omega) h1
  have r2:=row_of_block chCells_len (by unfold maxLen;omega) h2
  have e1:(t.map ofEn).map enOf=t:=ens_back t
  have e2:(l.map ofCh).map chOf=l:=chs_back l
  have:=tapply_calls w hG (some ⟨g,0,none⟩) t.length (t.map ofEn) (en_C (by rw [e1];exact r1) (by rw [List.length_map];omega)) (by simp) (by rw [e1];exact hf) (by simpa using ht)
    (some ⟨g2,0,none⟩) l.length (l.map ofCh) (ch_C (by rw [e2];exact r2) (by rw [List.length_map];omega)) (by simp) (by rw [e2];exact hf2) (by simpa using hl)
  rw [e1,e2,List.length_map,List.length_map] at this
  exact this
theorem own_some {α:Type} {enc:α→List Value} {k:Nat} (hk:∀ x,(enc x).length=k) {T base:Nat} {w:World} {v:Value} {l:List α} (h:Own enc T k base w v l) (hne:l≠[]) :
    ∃ g cap,v=.slice (some ⟨g,0,none⟩) l.length cap∧∀ i x,l[i]?=some x→LiesAt w ⟨g,i * k,none⟩ (enc x):=by
  rcases h.2 with ⟨_,h0⟩|⟨g,cap,cur,hv,_⟩
  · exact absurd (List.length_eq_zero_iff.1 h0) hne
  · subst hv
    refine ⟨g,cap,rfl,fun i x hx j u hu=>?_⟩
    obtain ⟨b,o,he,hc⟩:=h.row hk i x hx
    cases he
    rw [Addr.add_mid]
    have:=hc j u hu
    rwa [Nat.zero_add] at this
theorem apply_lit0 (w:World) (hG:GL w) (g:Nat) (t:List (Str×Nd)) (h1:w.heap[g]?=some (.cells (flat eCells t).toArray 40 (0,0)))
    (ht:t.length≤1000000) (hf:rowFits t=true) :
    Calls Tryz.prog 22 #[.slice (some ⟨g,0,none⟩) t.length t.length,.slice none 0 0] w fun e w'=>∃ v:Value,e=.returned (.tuple #[v,.int .i64 (applyM Y t []).2]) ∧
      Own eCells 40 11 w.heap.size w' v (applyM Y t []).1∧Below w.heap.size w w':=by
  have r1:=row_of_block eCells_len (by unfold maxLen;omega) h1
  have e1:(t.map ofEn).map enOf=t:=ens_back t
  have:=tapply_calls w hG (some ⟨g,0,none⟩) t.length (t.map ofEn) (en_C (by rw [e1];exact r1) (by rw [List.length_map];omega)) (by simp) (by rw [e1];exact hf) (by simpa using ht)
    none 0 [] (ch_C (fun i x h=>by simp at h) (by simp)) (by simp) rfl (by simp)
  rw [e1,List.length_map] at this
  exact this
theorem get_lit (w:World) (g:Nat) (t:List (Str×Nd)) (h1:w.heap[g]?=some (.cells (flat eCells t).toArray 40 (0,0))) (ht:t.length≤1000000) (p:Str) (n:Nd) (b:Bool) (k:Nat)
    (h:tree_Get.f k (t.map ofEn) (B p)=some (n.kind,n.mode,n.uid,n.gid,n.mtime,B n.link,B n.data,n.major,n.minor,B n.attrs,b)) :
    Calls Tryz.prog 17 #[.slice (some ⟨g,0,none⟩) t.length t.length,.string (B p)] w fun e w'=>e=.returned (.tuple #[.agg (ndCells n).toArray,.bool b])∧Below w.heap.size w w':=by
  have r1:=row_of_block eCells_len (by unfold maxLen;omega) h1
  have e1:(t.map ofEn).map enOf=t:=ens_back t
  have:=tree_Get.calls k (some ⟨g,0,none⟩) t.length (t.map ofEn) (B p) _ _ _ _ _ _ _ _ _ _ _ w (en_C (by rw [e1];exact r1) (by rw [List.length_map];omega)) (by simp) h
  rw [List.length_map] at this
  exact this
section
variable {P:Program} {ops:Array Oper} {rest:List Oper} {o:Oper} {a:Act} {Q:Exit→Act→World→Prop} {W:World}
theorem row_event (hgd:o.guard=none) {N:Tmp} (_hd:o.dst=some N) {cs:Array Value} {t:TypeId} {n:Nat}
    (hrun:(execOp a.eval o).run P W=.ok (.value (.slice (some ⟨W.heap.size,0,none⟩) n n)) (W.alloc (.cells cs t (0,0))))
    (h:∀ g,g=W.heap.size→∀ w1,w1.heap[g]?=some (.cells cs t (0,0))→Below W.heap.size W w1→wpList P ops Q rest (a.put o.dst (.slice (some ⟨g,0,none⟩) n n)) w1):wpList P ops Q (o :: rest) a W :=
  Kd.event_run hgd hrun (h _ rfl _ (Go.Proofs.YtdkjinmkallhnaaGreatDoorW.PrintWords.blk_new W _) (Go.Proofs.YtdkjinmkallhnaaGreatDoorW.PrintWords.below_alloc (Below.refl _ _) _))
theorem build_event (hgd:o.guard=none) {N:Tmp} (_hd:o.dst=some N) (t:TypeId) (parts:Array (Nat×Operand)) (ho:o.op=.build t parts) (cs:Array Value) (hb:P.built t (parts.map fun (i,x)=>(i,a.eval x)).toList=some cs)
    (h:wpList P ops Q rest (a.put o.dst (.agg cs)) W):wpList P ops Q (o :: rest) a W :=
  wpList_build hgd t parts ho (by rw [hb];rfl) (by rw [hb];exact h)
end
section
variable {P:Program} {ops:Array Oper} {rest:List Oper} {o:Oper} {a:Act} {Q:Exit→Act→World→Prop} {W:World}
theorem wpList_gives (hw:Region.wanted o (yielded ops a.tmps)=true) {v:Value} (hrun:(execOp a.eval o).run P W=.ok (.value v) W)
    (h:wpList P ops Q rest (a.put o.dst v) W):wpList P ops Q (o :: rest) a W:=by
  unfold wpList
  rw [if_pos hw]
  refine Or.inl ?_
  unfold Oper.wp
  rw [hrun]
  exact h
theorem wpList_row (hw:Region.wanted o (yielded ops a.tmps)=true) {cs:Array Value} {t:TypeId} {n:Nat}
    (hrun:(execOp a.eval o).run P W=.ok (.value (.slice (some ⟨W.heap.size,0,none⟩) n n)) (W.alloc (.cells cs t (0,0))))
    (h:∀ g,g=W.heap.size→∀ w1,w1.heap[g]?=some (.cells cs t (0,0))→Below W.heap.size W w1→wpList P ops Q rest (a.put o.dst (.slice (some ⟨g,0,none⟩) n n)) w1):wpList P ops Q (o :: rest) a W:=by
  unfold wpList
  rw [if_pos hw]
  refine Or.inl ?_
  unfold Oper.wp
  rw [hrun]
  exact h _ rfl _ (Go.Proofs.YtdkjinmkallhnaaGreatDoorW.PrintWords.blk_new W _) (Go.Proofs.YtdkjinmkallhnaaGreatDoorW.PrintWords.below_alloc (Below.refl _ _) _)
end
theorem right_lit (w:World) (hG:GL w) (g:Nat) (t:List (Str×Nd)) (h1:w.heap[g]?=some (.cells (flat eCells t).toArray 40 (0,0))) (ht:t.length≤1000000) (hf:rowFits t=true) (b:Bool) (hb:rightT Y t=b) :
    Calls Tryz.prog 19 #[.slice (some ⟨g,0,none⟩) t.length t.length] w fun e w'=>e=.returned (.bool b)∧Below w.heap.size w w':=by
  subst hb
  have r1:=row_of_block eCells_len (by unfold maxLen;omega) h1
  have e1:(t.map ofEn).map enOf=t:=ens_back t
  have:=tright_calls w hG (some ⟨g,0,none⟩) t.length (t.map ofEn) (en_C (by rw [e1];exact r1) (by rw [List.length_map];omega)) (by simp) (by rw [e1];exact hf) (by simpa using ht)
  rw [e1,List.length_map] at this
  exact this
def d17b:Nd:={ zeroN with data:=[49] }
def m17 (k m:Int):Nd:={ zeroN with kind:=k,mode:=m }
set_option maxRecDepth 100000 in
set_option maxHeartbeats 1000000 in
theorem small17_calls (w:World) (hG:GL w):Calls Tryz.prog 15 #[] w fun e w'=>e=.returned (.bool true)∧Below w.heap.size w w':=by
  have h31:=Tryz.underlying26
  go_enter Tryz.func15,Tryz.ntmps15
  go_wp2_with (first|((with_reducible refine gate_dst (N:=1) rfl ?_);refine box_event rfl (N:=1) rfl (cs:=ndZero) (t:=26) ?hr ?_;(case hr=>first|(go_simp;done)|(go_simp;rfl));intro g1 hg w2 hb2 hbl2;have HB1:=Lib.hid hb2;have HBL1:=Lib.hid hbl2;have HGE1:Hid (w.heap.size≤g1):=Lib.hid (by rw [hg];exact Nat.le_refl _);clear hg hb2 hbl2;go_frame)|((with_reducible refine gate_store (t:=26) (p:=1) rfl ?_);refine wpList_store_agg rfl rfl 26 _ _ rfl g1 (ndCells dN).toArray rfl rfl 26 ndZero HB1.out rfl rfl (ndCells_all _) ?_;intro w3 hb3 hg3;have HB3:=Lib.hid hb3;have HBL3:Hid (Below w.heap.size w w3):=Lib.hid (HBL1.out.grown hg3 HBL1.out.size (fun j hj=>by cases hj;exact HGE1.out));clear hb3 hg3)|((with_reducible refine gate_dst (N:=18) rfl ?_);refine wpList_load_agg rfl 26 _ rfl _ rfl (ndCells dN) _ (lies_of HB3.out) h31 rfl rfl ?_;go_frame)|((with_reducible refine gate_dst (N:=22) rfl ?_);refine wpList_load_agg rfl 26 _ rfl _ rfl (ndCells dN) _ (lies_of HB3.out) h31 rfl rfl ?_;go_frame)|((with_reducible refine gate_dst (N:=17) rfl ?_);refine build_event rfl (N:=17) rfl 26 _ rfl (ndCells dN).toArray (by kernel_rfl) ?_;go_frame)|((with_reducible refine gate_dst (N:=19) rfl ?_);refine build_event rfl (N:=19) rfl 40 _ rfl (eCells ([97],dN)).toArray (by kernel_rfl) ?_;go_frame)|((with_reducible refine gate_dst (N:=20) rfl ?_);refine build_event rfl (N:=20) rfl 26 _ rfl (ndCells d17b).toArray (by kernel_rfl) ?_;go_frame)|((with_reducible refine gate_dst (N:=21) rfl ?_);refine build_event rfl (N:=21) rfl 40 _ rfl (eCells ([97,47,98],d17b)).toArray (by kernel_rfl) ?_;go_frame)|((with_reducible refine gate_dst (N:=23) rfl ?_);refine build_event rfl (N:=23) rfl 40 _ rfl (eCells ([97,47,99],dN)).toArray (by kernel_rfl) ?_;go_frame)|((with_reducible refine gate_dst (N:=24) rfl ?_);refine build_event rfl (N:=24) rfl 40 _ rfl (eCells ([97,47,99,47,100],zeroN)).toArray (by kernel_rfl) ?_;go_frame)|((with_reducible refine gate_dst (N:=28) rfl ?_);refine build_event rfl (N:=28) rfl 38 _ rfl (chCells ⟨[97],2,zeroN⟩).toArray (by kernel_rfl) ?_;go_frame)|((with_reducible refine gate_dst (N:=29) rfl ?_);refine build_event rfl (N:=29) rfl 26 _ rfl (ndCells (m17 0 1)).toArray (by kernel_rfl) ?_;go_frame)|((with_reducible refine gate_dst (N:=30) rfl ?_);refine build_event rfl (N:=30) rfl 38 _ rfl (chCells ⟨[97,47,120],0,m17 0 1⟩).toArray (by kernel_rfl) ?_;go_frame)|((with_reducible refine gate_dst (N:=25) rfl ?_);refine row_event rfl (N:=25) rfl (cs:=(flat eCells t17).toArray) (t:=40) (n:=4) (by kernel_rfl) ?_;intro g25 hg w25 hb hbl;have HB25:=Lib.hid hb;have HBL25:=Lib.hid hbl;clear hg hb hbl;go_frame)|((with_reducible refine gate_dst (N:=31) rfl ?_);refine row_event rfl (N:=31) rfl (cs:=(flat chCells [⟨[97],2,zeroN⟩,⟨[97,47,120],0,m17 0 1⟩]).toArray) (t:=38) (n:=2) (by kernel_rfl) ?_;intro g31 hg w31 hb hbl;have HB31:=Lib.hid hb;have HBL31:=Lib.hid hbl;clear hg hb hbl;go_frame))
  have HW31:Hid (Below w.heap.size w w31):=Lib.hid (Go.Proofs.YtdkjinmkallhnaaGreatDoor.below_then (Go.Proofs.YtdkjinmkallhnaaGreatDoor.below_then HBL3.out HBL25.out) HBL31.out)
  refine (apply_lit w31 (hG.ext HW31.out) g25 g31 t17 [⟨[97],2,zeroN⟩,⟨[97,47,120],0,m17 0 1⟩] (blk_below HB25.out HBL31.out) HB31.out (by decide) (by decide) (by kernel_rfl) (by kernel_rfl)).mono ?_
  rw [show applyM Y t17 [⟨[97],2,zeroN⟩,⟨[97,47,120],0,m17 0 1⟩]=([([97],dN),([97,47,120],m17 0 1)],0) from by kernel_rfl]
  rintro e w32 ⟨vx,rfl,ho,hb⟩
  have HX:=Lib.hid ho
  have HW32:Hid (Below w.heap.size w w32):=Lib.hid (Go.Proofs.YtdkjinmkallhnaaGreatDoor.below_then HW31.out hb)
  have HT32:=Lib.hid (blk_below (blk_below HB25.out HBL31.out) hb)
  clear ho hb
  go_wp2_with (first|((with_reducible refine gate_dst (N:=37) rfl ?_);refine build_event rfl (N:=37) rfl 26 _ rfl (ndCells (m17 0 2)).toArray (by kernel_rfl) ?_;go_frame)|((with_reducible refine gate_dst (N:=38) rfl ?_);refine build_event rfl (N:=38) rfl 38 _ rfl (chCells ⟨[97,47,99],0,m17 0 2⟩).toArray (by kernel_rfl) ?_;go_frame)|((with_reducible refine gate_dst (N:=39) rfl ?_);refine row_event rfl (N:=39) rfl (cs:=(flat chCells [⟨[97,47,99],0,m17 0 2⟩]).toArray) (t:=38) (n:=1) (by kernel_rfl) ?_;intro g39 hg w39 hb hbl;have HB39:=Lib.hid hb;have HBL39:=Lib.hid hbl;clear hg hb hbl;go_frame))
  have HW39:Hid (Below w.heap.size w w39):=Lib.hid (Go.Proofs.YtdkjinmkallhnaaGreatDoor.below_then HW32.out HBL39.out)
  refine (apply_lit w39 (hG.ext HW39.out) g25 g39 t17 [⟨[97,47,99],0,m17 0 2⟩] (blk_below HT32.out HBL39.out) HB39.out (by decide) (by decide) (by kernel_rfl) (by kernel_rfl)).mono ?_
  rw [show applyM Y t17 [⟨[97,47,99],0,m17 0 2⟩]=([([97],dN),([97,47,98],d17b),([97,47,99],m17 0 2)],0) from by kernel_rfl]
  rintro e w40 ⟨vy,rfl,ho,hb⟩
  have Hvy:=Lib.hid ho
  have HW40:Hid (Below w.heap.size w w40):=Lib.hid (Go.Proofs.YtdkjinmkallhnaaGreatDoor.below_then HW39.out hb)
  have HT40:=Lib.hid (blk_below (blk_below HT32.out HBL39.out) hb)
  have HD40:Hid (Below w32.heap.size w32 w40):=Lib.hid (Go.Proofs.YtdkjinmkallhnaaGreatDoor.below_then HBL39.out hb)
  clear ho hb
  go_wp2_with (first|((with_reducible refine gate_dst (N:=45) rfl ?_);refine build_event rfl (N:=45) rfl 26 _ rfl (ndCells (m17 1 3)).toArray (by kernel_rfl) ?_;go_frame)|((with_reducible refine gate_dst (N:=46) rfl ?_);refine build_event rfl (N:=46) rfl 38 _ rfl (chCells ⟨[97,47,99],0,m17 1 3⟩).toArray (by kernel_rfl) ?_;go_frame)|((with_reducible refine gate_dst (N:=47) rfl ?_);refine build_event rfl (N:=47) rfl 38 _ rfl (chCells ⟨[97,47,98],1,zeroN⟩).toArray (by kernel_rfl) ?_;go_frame)|((with_reducible refine gate_dst (N:=48) rfl ?_);refine row_event rfl (N:=48) rfl (cs:=(flat chCells [⟨[97,47,99],0,m17 1 3⟩,⟨[97,47,98],1,zeroN⟩]).toArray) (t:=38) (n:=2) (by kernel_rfl) ?_;intro g48 hg w48 hb hbl;have HB48:=Lib.hid hb;have HBL48:=Lib.hid hbl;clear hg hb hbl;go_frame))
  have HW48:Hid (Below w.heap.size w w48):=Lib.hid (Go.Proofs.YtdkjinmkallhnaaGreatDoor.below_then HW40.out HBL48.out)
  refine (apply_lit w48 (hG.ext HW48.out) g25 g48 t17 [⟨[97,47,99],0,m17 1 3⟩,⟨[97,47,98],1,zeroN⟩] (blk_below HT40.out HBL48.out) HB48.out (by decide) (by decide) (by kernel_rfl) (by kernel_rfl)).mono ?_
  rw [show applyM Y t17 [⟨[97,47,99],0,m17 1 3⟩,⟨[97,47,98],1,zeroN⟩]=([],1) from by kernel_rfl]
  rintro e w49 ⟨vz,rfl,ho,hb⟩
  have Hvz:=Lib.hid ho
  have HW49:Hid (Below w.heap.size w w49):=Lib.hid (Go.Proofs.YtdkjinmkallhnaaGreatDoor.below_then HW48.out hb)
  have HT49:=Lib.hid (blk_below (blk_below HT40.out HBL48.out) hb)
  have HD49:Hid (Below w40.heap.size w40 w49):=Lib.hid (Go.Proofs.YtdkjinmkallhnaaGreatDoor.below_then HBL48.out hb)
  clear ho hb
  go_wp2_with (first|((with_reducible refine gate_dst (N:=54) rfl ?_);refine build_event rfl (N:=54) rfl 38 _ rfl (chCells ⟨[113,47,120],0,zeroN⟩).toArray (by kernel_rfl) ?_;go_frame)|((with_reducible refine gate_dst (N:=55) rfl ?_);refine row_event rfl (N:=55) rfl (cs:=(flat chCells [⟨[113,47,120],0,zeroN⟩]).toArray) (t:=38) (n:=1) (by kernel_rfl) ?_;intro g55 hg w55 hb hbl;have HB55:=Lib.hid hb;have HBL55:=Lib.hid hbl;clear hg hb hbl;go_frame))
  have HW55:Hid (Below w.heap.size w w55):=Lib.hid (Go.Proofs.YtdkjinmkallhnaaGreatDoor.below_then HW49.out HBL55.out)
  refine (apply_lit w55 (hG.ext HW55.out) g25 g55 t17 [⟨[113,47,120],0,zeroN⟩] (blk_below HT49.out HBL55.out) HB55.out (by decide) (by decide) (by kernel_rfl) (by kernel_rfl)).mono ?_
  rw [show applyM Y t17 [⟨[113,47,120],0,zeroN⟩]=([],10) from by kernel_rfl]
  rintro e w56 ⟨vh,rfl,ho,hb⟩
  have Hvh:=Lib.hid ho
  have HW56:Hid (Below w.heap.size w w56):=Lib.hid (Go.Proofs.YtdkjinmkallhnaaGreatDoor.below_then HW55.out hb)
  have HT56:=Lib.hid (blk_below (blk_below HT49.out HBL55.out) hb)
  have HD56:Hid (Below w49.heap.size w49 w56):=Lib.hid (Go.Proofs.YtdkjinmkallhnaaGreatDoor.below_then HBL55.out hb)
  clear ho hb
  go_wp2_with (first|((with_reducible refine gate_dst (N:=60) rfl ?_);refine build_event rfl (N:=60) rfl 40 _ rfl (eCells ([97,47,98],zeroN)).toArray (by kernel_rfl) ?_;go_frame)|((with_reducible refine gate_dst (N:=61) rfl ?_);refine row_event rfl (N:=61) rfl (cs:=(flat eCells [([97,47,98],zeroN)]).toArray) (t:=40) (n:=1) (by kernel_rfl) ?_;intro g61 hg w61 hb hbl;have HB61:=Lib.hid hb;have HBL61:=Lib.hid hbl;clear hg hb hbl;go_frame))
  have HW61:Hid (Below w.heap.size w w61):=Lib.hid (Go.Proofs.YtdkjinmkallhnaaGreatDoor.below_then HW56.out HBL61.out)
  refine (apply_lit0 w61 (hG.ext HW61.out) g61 [([97,47,98],zeroN)] HB61.out (by decide) (by kernel_rfl)).mono ?_
  rw [show applyM Y [([97,47,98],zeroN)] []=([],1) from by kernel_rfl]
  rintro e w62 ⟨vi,rfl,ho,hb⟩
  have HW62:Hid (Below w.heap.size w w62):=Lib.hid (Go.Proofs.YtdkjinmkallhnaaGreatDoor.below_then HW61.out hb)
  have HT62:=Lib.hid (blk_below (blk_below HT56.out HBL61.out) hb)
  have HD62:Hid (Below w56.heap.size w56 w62):=Lib.hid (Go.Proofs.YtdkjinmkallhnaaGreatDoor.below_then HBL61.out hb)
  clear ho hb
  go_wp2_with fail
  refine (get_lit w62 g25 t17 HT62.out (by decide) [97,47,98] d17b true 10 (by kernel_rfl)).mono ?_
  rintro e w67 ⟨rfl,hb⟩
  have HW67:Hid (Below w.heap.size w w67):=Lib.hid (Go.Proofs.YtdkjinmkallhnaaGreatDoor.below_then HW62.out hb)
  have HT67:=Lib.hid (blk_below HT62.out hb)
  have HD67:Hid (Below w62.heap.size w62 w67):=Lib.hid hb
  clear hb
  go_wp2_with (first|((with_reducible refine gate_dst (N:=13) rfl ?_);refine box_event rfl (N:=13) rfl (cs:=ndZero) (t:=26) ?hr ?_;(case hr=>first|(go_simp;done)|(go_simp;rfl));intro g13 hg w12 hb2 hbl2;have HB12:=Lib.hid hb2;have HBL12:=Lib.hid hbl2;have HGE13:Hid (w67.heap.size≤g13):=Lib.hid (by rw [hg];exact Nat.le_refl _);clear hg hb2 hbl2;go_frame)|((with_reducible refine gate_store (t:=26) (p:=13) rfl ?_);refine wpList_store_agg rfl rfl 26 _ _ rfl g13 (ndCells d17b).toArray rfl rfl 26 ndZero HB12.out rfl rfl (ndCells_all _) ?_;intro w13 hb3 hg3;have HB13:=Lib.hid hb3;have HD13:Hid (Below w67.heap.size w67 w13):=Lib.hid (HBL12.out.grown hg3 HBL12.out.size (fun j hj=>by cases hj;exact HGE13.out));clear hb3 hg3)|((with_reducible refine gate_dst (N:=72) rfl ?_);refine build_event rfl (N:=72) rfl 26 _ rfl (ndCells (m17 1 3)).toArray (by kernel_rfl) ?_;go_frame)|((with_reducible refine gate_dst (N:=73) rfl ?_);refine build_event rfl (N:=73) rfl 38 _ rfl (chCells ⟨[97,47,99],0,m17 1 3⟩).toArray (by kernel_rfl) ?_;go_frame)|((with_reducible refine gate_dst (N:=74) rfl ?_);refine row_event rfl (N:=74) rfl (cs:=(flat chCells [⟨[97,47,99],0,m17 1 3⟩]).toArray) (t:=38) (n:=1) (by kernel_rfl) ?_;intro g74 hg w74 hb hbl;have HB74:=Lib.hid hb;have HBL74:Hid (Below w13.heap.size w13 w74):=Lib.hid hbl;clear hg hb hbl;go_frame))
  have HW74:Hid (Below w.heap.size w w74):=Lib.hid (Go.Proofs.YtdkjinmkallhnaaGreatDoor.below_then (Go.Proofs.YtdkjinmkallhnaaGreatDoor.below_then HW67.out HD13.out) HBL74.out)
  refine (apply_lit w74 (hG.ext HW74.out) g25 g74 t17 [⟨[97,47,99],0,m17 1 3⟩] (blk_below (blk_below HT67.out HD13.out) HBL74.out) HB74.out (by decide) (by decide) (by kernel_rfl) (by kernel_rfl)).mono ?_
  rw [show applyM Y t17 [⟨[97,47,99],0,m17 1 3⟩]=([([97],dN),([97,47,98],d17b),([97,47,99],m17 1 3),([97,47,99,47,100],zeroN)],0) from by kernel_rfl]
  rintro e w75 ⟨vw,rfl,ho,hb⟩
  have Hvw:=Lib.hid ho
  have HW75:Hid (Below w.heap.size w w75):=Lib.hid (Go.Proofs.YtdkjinmkallhnaaGreatDoor.below_then HW74.out hb)
  have HT75:=Lib.hid (blk_below (blk_below (blk_below HT67.out HD13.out) HBL74.out) hb)
  have HD75:Hid (Below w13.heap.size w13 w75):=Lib.hid (Go.Proofs.YtdkjinmkallhnaaGreatDoor.below_then HBL74.out hb)
  clear ho hb
  obtain ⟨gx,cx,rfl,hlx⟩:=own_some eCells_len HX.out (by simp)
  obtain ⟨gy,cy,rfl,hly⟩:=own_some eCells_len Hvy.out (by simp)
  obtain ⟨az,cz,rfl,_,_⟩:=Hvz.out.val
  obtain ⟨gw,cw,rfl,hlw⟩:=own_some eCells_len Hvw.out (by simp)
  have HLX:=Lib.hid (hlx 1 _ rfl)
  have HLY:=Lib.hid (hly 2 _ rfl)
  have HLW2:=Lib.hid (hlw 2 _ rfl)
  have HLW3:=Lib.hid (hlw 3 _ rfl)
  clear hlx hly hlw
  have HLX2:=Lib.hid ((((((HLX.out.below HD40.out).below HD49.out).below HD56.out).below HD62.out).below HD67.out).below HD13.out |>.below HD75.out)
  have HLY2:=Lib.hid (((((HLY.out.below HD49.out).below HD56.out).below HD62.out).below HD67.out).below HD13.out |>.below HD75.out)
  have q1:w75.cell? ⟨g13,6,none⟩=some (.string (B [49])):=(Go.Proofs.YtdkjinmkallhnaaGreatDoor.blk_cell (blk_below HB13.out HD75.out) 6).trans rfl
  have q2:=HLY2.out 2 (.int .i64 2) rfl
  have q3:=HLW2.out 2 (.int .i64 3) rfl
  have q4:=HLW3.out 0 (.string (B [97,47,99,47,100])) rfl
  simp only [Addr.add_mid] at q2 q3 q4
  have H49:=Lib.hid Tryz.underlying40
  clear h31
  clear HX Hvy Hvz Hvw HLY HLX HLW2 HLW3 HLY2 HB74 HB55 HB61 HB48 HB39 HB31 HB25 HB12
  go_upto_region 12 with (fail)
  go_step
  simp only [List.append_eq,List.cons_append,List.nil_append]
  go_wp2_with (first|((with_reducible refine gate_dst (N:=96) rfl ?_);refine wpList_load_agg rfl 40 _ rfl _ rfl (eCells ([97,47,120],m17 0 1)) _ HLX2.out H49.out rfl rfl ?_;go_frame)|((with_reducible refine gate_dst (N:=97) rfl ?_);refine wpList_gives rfl (v:=.agg (ndCells (m17 0 1)).toArray) (by kernel_rfl) ?_;go_frame)|((with_reducible refine gate_dst (N:=98) rfl ?_);refine wpList_gives rfl (v:=.agg (eCells ([97,47,120],m17 0 1)).toArray) (by kernel_rfl) ?_;go_frame)|((with_reducible refine gate_dst (N:=99) rfl ?_);refine wpList_gives rfl (v:=.bool true) (by kernel_rfl) ?_;go_frame))
  refine (right_lit w75 (hG.ext HW75.out) g25 t17 HT75.out (by decide) (by kernel_rfl) true r17).mono ?_
  rintro e w76 ⟨rfl,hb⟩
  have HD76:=Lib.hid hb
  have HW76:Hid (Below w.heap.size w w76):=Lib.hid (Go.Proofs.YtdkjinmkallhnaaGreatDoor.below_then HW75.out hb)
  clear hb
  go_wp2_with (first|((with_reducible refine gate_dst (N:=162) rfl ?_);refine wpList_gives rfl (v:=.agg (eCells ([98],zeroN)).toArray) (by kernel_rfl) ?_;go_frame)|((with_reducible refine gate_dst (N:=163) rfl ?_);refine wpList_gives rfl (v:=.agg (eCells ([97],zeroN)).toArray) (by kernel_rfl) ?_;go_frame)|((with_reducible refine gate_dst (N:=164) rfl ?_);refine wpList_row rfl (cs:=(flat eCells [([98],zeroN),([97],zeroN)]).toArray) (t:=40) (n:=2) (by kernel_rfl) ?_;intro g164 hg w164 hb hbl;have HB164:=Lib.hid hb;have HBL164:=Lib.hid hbl;clear hg hb hbl;go_frame))
  have HW164:Hid (Below w.heap.size w w164):=Lib.hid (Go.Proofs.YtdkjinmkallhnaaGreatDoor.below_then HW76.out HBL164.out)
  refine (right_lit w164 (hG.ext HW164.out) g164 [([98],zeroN),([97],zeroN)] HB164.out (by decide) (by kernel_rfl) false r17b).mono ?_
  rintro e w77 ⟨rfl,hb⟩
  have HW77:Hid (Below w.heap.size w w77):=Lib.hid (Go.Proofs.YtdkjinmkallhnaaGreatDoor.below_then HW164.out hb)
  clear hb
  go_wp2_with fail
  go_ret
  exact ⟨rfl,HW77.out⟩
end Go.Proofs.YtdkjinmkallhnaaGreatDoorQ
end
section
namespace Go.Proofs.YtdkjinmkallhnaaGreatDoorQ
open Go.ChangeShapes Go.WideShapes Go.ChangeAt Go.RowKit Go.WideElems Go.Proofs.YtdkjinmkallhnaaGreatDoor Go.Proofs.YtdkjinmkallhnaaGreatDoorW.PrintWords
section
variable {H:Type} {enc:TypeId×Value→H}
theorem w_all {P:Program} {e:TypeId}:∀ {l:List (DataW H)} {d:DataW H},d ∈ l→∀ n ∈ d.weights P e,n ∈ DataW.weightsAll P e l
  | x :: r,d,hd,n,hn=>by
    simp only [DataW.weightsAll,List.mem_append]
    rcases List.mem_cons.1 hd with h|h
    · rw [← h];exact .inl hn
    · exact .inr (w_all h n hn)
theorem w_slice {P:Program} {t e:TypeId} {elems spare:List (DataW H)} (hu:P.underlying t=some (.slice e)) {d:DataW H} (hd:d ∈ elems) {n:Nat} (hn:n ∈ d.weights P e):n ∈ (DataW.slice elems spare).weights P t:=by
  simp only [DataW.weights,hu]
  exact List.mem_cons_of_mem _ (List.mem_append_left _ (w_all hd n hn))
theorem w_len {P:Program} {t e:TypeId} {elems spare:List (DataW H)} (hu:P.underlying t=some (.slice e)):(elems.length + spare.length) * P.bytesOf e ∈ (DataW.slice elems spare).weights P t:=by
  simp [DataW.weights,hu]
theorem w_field {P:Program} {t:TypeId} {fs:Array Field} {parts:List (DataW H)} (hu:P.underlying t=some (.struct fs)) {j:Nat} {f:Field} (hf:fs[j]?=some f) {d:DataW H} (hd:parts[j]?=some d) {n:Nat} (hn:n ∈ d.weights P f.type):n ∈ (DataW.agg parts).weights P t:=by
  simp only [DataW.weights,hu]
  refine DataW.weights_mem_each (t:=f.type) (j:=j) ?_ hd n hn
  rw [List.getElem?_map,Array.getElem?_toList,hf];rfl
theorem w_str {P:Program} {t:TypeId} (l:List UInt8):l.length ∈ (DataW.lit (.string l):DataW H).weights P t:=by simp [DataW.weights]
variable {W:World} {base:Nat} {spare:Nat→Bool} {held:Bool}
theorem str_open {fuel:Nat} {cs:List Value} {y:DataW H×List MemPlace} (h:DataW.trod enc Tryz.prog W base spare held fuel 9 cs=some y):∃ s:ByteArray,cs=[.string s]∧y.1=.lit (.string s.data.toList):=by
  obtain ⟨s,h1,h2,_⟩:=DataW.trod_string Tryz.underlying9 h
  exact ⟨s,h1,by rw [h2]⟩
theorem int_open {fuel:Nat} {cs:List Value} {y:DataW H×List MemPlace} (h:DataW.trod enc Tryz.prog W base spare held fuel 3 cs=some y):∃ n:Int,cs=[.int .i64 n]:=by
  obtain ⟨n,h1,_⟩:=DataW.trod_int Tryz.underlying3 h
  exact ⟨n,h1⟩
theorem b_len (s:ByteArray):s.data.toList.length=s.size:=by rw [Array.length_toList];rfl
set_option maxRecDepth 100000 in
theorem nd_open {fuel:Nat} {cs:List Value} {y:DataW H×List MemPlace} (h:DataW.trod enc Tryz.prog W base spare held fuel 26 cs=some y) :
    ∃ n:S26,cs=ndCells (ndOf n)∧∀ x,(x=n.f5.size∨x=n.f6.size∨x=n.f9.size)→x ∈ y.1.weights Tryz.prog 26:=by
  obtain ⟨xs,m,_,hx,hl,hlen,hf⟩:=DataW.trod_struct Tryz.underlying26 h
  have hC:cs.length=10:=hl.trans (by kernel_rfl)
  have hI:Tryz.prog.cellsOf 3=1:=by kernel_rfl
  have hS:Tryz.prog.cellsOf 9=1:=by kernel_rfl
  have hxs:xs.length=10:=hlen
  match cs,hC with
  | [c0, c1,c2,c3,c4,c5,c6,c7,c8,c9],_ =>
    match xs,hxs with
    | [y0,y1,y2,y3,y4,y5,y6,y7,y8,y9],_ =>
      have f0:DataW.trod enc Tryz.prog W base spare held m 3 ((List.drop 0 [c0,c1,c2,c3,c4,c5,c6,c7,c8,c9]).take (Tryz.prog.cellsOf 3))=some y0:=hf 0 _ rfl
      have f1:DataW.trod enc Tryz.prog W base spare held m 3 ((List.drop 1 [c0,c1,c2,c3,c4,c5,c6,c7,c8,c9]).take (Tryz.prog.cellsOf 3))=some y1:=hf 1 _ rfl
      have f2:DataW.trod enc Tryz.prog W base spare held m 3 ((List.drop 2 [c0,c1,c2,c3,c4,c5,c6,c7,c8,c9]).take (Tryz.prog.cellsOf 3))=some y2:=hf 2 _ rfl
      have f3:DataW.trod enc Tryz.prog W base spare held m 3 ((List.drop 3 [c0,c1,c2,c3,c4,c5,c6,c7,c8,c9]).take (Tryz.prog.cellsOf 3))=some y3:=hf 3 _ rfl
      have f4:DataW.trod enc Tryz.prog W base spare held m 3 ((List.drop 4 [c0,c1,c2,c3,c4,c5,c6,c7,c8,c9]).take (Tryz.prog.cellsOf 3))=some y4:=hf 4 _ rfl
      have f5:DataW.trod enc Tryz.prog W base spare held m 9 ((List.drop 5 [c0,c1,c2,c3,c4,c5,c6,c7,c8,c9]).take (Tryz.prog.cellsOf 9))=some y5:=hf 5 _ rfl
      have f6:DataW.trod enc Tryz.prog W base spare held m 9 ((List.drop 6 [c0,c1,c2,c3,c4,c5,c6,c7,c8,c9]).take (Tryz.prog.cellsOf 9))=some y6:=hf 6 _ rfl
      have f7:DataW.trod enc Tryz.prog W base spare held m 3 ((List.drop 7 [c0,c1,c2,c3,c4,c5,c6,c7,c8,c9]).take (Tryz.prog.cellsOf 3))=some y7:=hf 7 _ rfl
      have f8:DataW.trod enc Tryz.prog W base spare held m 3 ((List.drop 8 [c0,c1,c2,c3,c4,c5,c6,c7,c8,c9]).take (Tryz.prog.cellsOf 3))=some y8:=hf 8 _ rfl
      have f9:DataW.trod enc Tryz.prog W base spare held m 9 ((List.drop 9 [c0,c1,c2,c3,c4,c5,c6,c7,c8,c9]).take (Tryz.prog.cellsOf 9))=some y9:=hf 9 _ rfl
      rw [hI] at f0 f1 f2 f3 f4 f7 f8
      rw [hS] at f5 f6 f9
      obtain ⟨n0,e0⟩:=int_open f0
      obtain ⟨n1,e1⟩:=int_open f1
      obtain ⟨n2,e2⟩:=int_open f2
      obtain ⟨n3,e3⟩:=int_open f3
      obtain ⟨n4,e4⟩:=int_open f4
      obtain ⟨s5,e5,d5⟩:=str_open f5
      obtain ⟨s6,e6,d6⟩:=str_open f6
      obtain ⟨n7,e7⟩:=int_open f7
      obtain ⟨n8,e8⟩:=int_open f8
      obtain ⟨s9,e9,d9⟩:=str_open f9
      simp only [List.drop_zero,List.drop_succ_cons,List.take_succ_cons,List.take_zero,List.cons.injEq,and_true] at e0 e1 e2 e3 e4 e5 e6 e7 e8 e9
      refine ⟨⟨n0,n1,n2,n3,n4,s5,s6,n7,n8,s9⟩,?_,?_⟩
      · rw [e0,e1,e2,e3,e4,e5,e6,e7,e8,e9]
        simp [ndCells,ndOf,B_L]
      · rw [hx]
        intro x hx'
        rcases hx' with rfl|rfl|rfl
        · exact w_field (j:=5) (d:=y5.1) Tryz.underlying26 rfl rfl (by rw [d5,← b_len];exact w_str _)
        · exact w_field (j:=6) (d:=y6.1) Tryz.underlying26 rfl rfl (by rw [d6,← b_len];exact w_str _)
        · exact w_field (j:=9) (d:=y9.1) Tryz.underlying26 rfl rfl (by rw [d9,← b_len];exact w_str _)
def enSz (e:S40) (x:Nat):Prop:=x=e.f0.size∨x=e.f1.f5.size∨x=e.f1.f6.size∨x=e.f1.f9.size
def chSz (e:S38) (x:Nat):Prop:=x=e.f0.size∨x=e.f2.f5.size∨x=e.f2.f6.size∨x=e.f2.f9.size
set_option maxRecDepth 100000 in
theorem en_open {fuel:Nat} {cs:List Value} {y:DataW H×List MemPlace} (h:DataW.trod enc Tryz.prog W base spare held fuel 40 cs=some y) :
    ∃ e:S40,cs=eCells (enOf e)∧∀ x,enSz e x→x ∈ y.1.weights Tryz.prog 40:=by
  obtain ⟨xs,m,_,hx,hl,hlen,hf⟩:=DataW.trod_struct Tryz.underlying40 h
  have hC:cs.length=11:=hl.trans (by kernel_rfl)
  have hN:Tryz.prog.cellsOf 26=10:=by kernel_rfl
  have hS:Tryz.prog.cellsOf 9=1:=by kernel_rfl
  have hxs:xs.length=2:=hlen
  match cs,hC with
  | c0 :: r,hr =>
    match xs,hxs with
    | [y0,y1],_ =>
      have f0:DataW.trod enc Tryz.prog W base spare held m 9 ((List.drop 0 (c0 :: r)).take (Tryz.prog.cellsOf 9))=some y0:=hf 0 _ rfl
      have f1:DataW.trod enc Tryz.prog W base spare held m 26 ((List.drop 1 (c0 :: r)).take (Tryz.prog.cellsOf 26))=some y1:=hf 1 _ rfl
      rw [hS] at f0
      rw [hN] at f1
      obtain ⟨s0,e0,d0⟩:=str_open f0
      obtain ⟨n1,e1,d1⟩:=nd_open f1
      have hrl:r.length=10:=by simpa using hr
      have er:(List.drop 1 (c0 :: r)).take 10=r:=by
        show r.take 10=r
        rw [List.take_of_length_le (by omega)]
      have e1':r=ndCells (ndOf n1):=er.symm.trans e1
      simp only [List.drop_zero,List.take_succ_cons,List.take_zero,List.cons.injEq,and_true] at e0
      refine ⟨⟨s0,n1⟩,?_,?_⟩
      · rw [e0,e1']
        simp [eCells,enOf,B_L]
      · rw [hx]
        intro x hx'
        rcases hx' with rfl|hx'
        · exact w_field (j:=0) (d:=y0.1) Tryz.underlying40 rfl rfl (by rw [d0,← b_len];exact w_str _)
        · exact w_field (j:=1) (d:=y1.1) Tryz.underlying40 rfl rfl (d1 x hx')
set_option maxRecDepth 100000 in
theorem ch_open {fuel:Nat} {cs:List Value} {y:DataW H×List MemPlace} (h:DataW.trod enc Tryz.prog W base spare held fuel 38 cs=some y) :
    ∃ e:S38,cs=chCells (chOf e)∧∀ x,chSz e x→x ∈ y.1.weights Tryz.prog 38:=by
  obtain ⟨xs,m,_,hx,hl,hlen,hf⟩:=DataW.trod_struct Tryz.underlying38 h
  have hC:cs.length=12:=hl.trans (by kernel_rfl)
  have hN:Tryz.prog.cellsOf 26=10:=by kernel_rfl
  have hI:Tryz.prog.cellsOf 3=1:=by kernel_rfl
  have hS:Tryz.prog.cellsOf 9=1:=by kernel_rfl
  have hxs:xs.length=3:=hlen
  match cs,hC with
  | c0 :: c1 :: r,hr =>
    match xs,hxs with
    | [y0,y1,y2],_ =>
      have f0:DataW.trod enc Tryz.prog W base spare held m 9 ((List.drop 0 (c0 :: c1 :: r)).take (Tryz.prog.cellsOf 9))=some y0:=hf 0 _ rfl
      have f1:DataW.trod enc Tryz.prog W base spare held m 3 ((List.drop 1 (c0 :: c1 :: r)).take (Tryz.prog.cellsOf 3))=some y1:=hf 1 _ rfl
      have f2:DataW.trod enc Tryz.prog W base spare held m 26 ((List.drop 2 (c0 :: c1 :: r)).take (Tryz.prog.cellsOf 26))=some y2:=hf 2 _ rfl
      rw [hS] at f0
      rw [hI] at f1
      rw [hN] at f2
      obtain ⟨s0,e0,d0⟩:=str_open f0
      obtain ⟨i1,e1⟩:=int_open f1
      obtain ⟨n2,e2,d2⟩:=nd_open f2
      have hrl:r.length=10:=by simpa using hr
      have er:(List.drop 2 (c0 :: c1 :: r)).take 10=r:=by
        show r.take 10=r
        rw [List.take_of_length_le (by omega)]
      have e2':r=ndCells (ndOf n2):=er.symm.trans e2
      simp only [List.drop_zero,List.drop_succ_cons,List.take_succ_cons,List.take_zero,List.cons.injEq,and_true] at e0 e1
      refine ⟨⟨s0,i1,n2⟩,?_,?_⟩
      · rw [e0,e1,e2']
        simp [chCells,chOf,B_L]
      · rw [hx]
        intro x hx'
        rcases hx' with rfl|hx'
        · exact w_field (j:=0) (d:=y0.1) Tryz.underlying38 rfl rfl (by rw [d0,← b_len];exact w_str _)
        · exact w_field (j:=2) (d:=y2.1) Tryz.underlying38 rfl rfl (d2 x hx')
theorem row_open {α:Type} [Inhabited α] {t e k:Nat} {cells:α→List Value} {sz:α→Nat→Prop} (hu:Tryz.prog.underlying t=some (.slice e)) (hk:Tryz.prog.cellsOf e=k) (hk0:0<k) (hkl:∀ x,(cells x).length=k)
    (hel:∀ {fuel:Nat} {cs:List Value} {y:DataW H×List MemPlace},DataW.trod enc Tryz.prog W base spare held fuel e cs=some y→∃ x:α,cs=cells x∧∀ n,sz x n→n ∈ y.1.weights Tryz.prog e)
    {fuel:Nat} {cs:List Value} {y:DataW H×List MemPlace} (h:DataW.trod enc Tryz.prog W base spare held fuel t cs=some y) :
    ∃ (a:Option Addr) (l:List α) (cap:Nat),cs=[.slice a l.length cap]∧RowAt cells k W a l∧l.length≤cap∧cap≤maxLen∧(∀ x ∈ l,∀ n,sz x n→n ∈ y.1.weights Tryz.prog t)∧(l≠[]→∃ n ∈ y.1.weights Tryz.prog t,l.length * Tryz.prog.bytesOf e≤n):=by
  rcases Deep.open_slice hu h with ⟨h0,hy⟩|⟨a,len,cap,m,n,D,Pl,hcs,_,hl,hm,hmm,hx,hcell⟩
  · exact ⟨none,[],0,h0,RowAt.nil _ _ _ _,Nat.le_refl _,Nat.zero_le _,fun x hx=>(List.not_mem_nil hx).elim,fun h=>absurd rfl h⟩
  · have hlm:len≤m:=by rw [hmm];split <;> omega
    have hch:∃ F:Nat→α,∀ i,i<len→∃ cs',W.cells? base (a.add (i * k)) k=some cs'∧cs'=cells (F i)∧∀ n,sz (F i) n→n ∈ (D i).weights Tryz.prog e:=by
      refine Deep.choose_lt (p:=fun i x=>∃ cs',W.cells? base (a.add (i * k)) k=some cs'∧cs'=cells x∧∀ n,sz x n→n ∈ (D i).weights Tryz.prog e) fun i hi=>?_
      obtain ⟨cs',h1,h2⟩:=hcell i (by omega)
      rw [hk] at h1
      obtain ⟨x,h3,h4⟩:=hel h2
      exact ⟨x,cs',h1,h3,h4⟩
    obtain ⟨F,hF⟩:=hch
    have hlen:((List.range len).map F).length=len:=by simp
    refine ⟨some a,(List.range len).map F,cap,by rw [hlen];exact hcs,?_,by rw [hlen];exact hl,hm,?_,?_⟩
    · intro i x hx'
      have hi:i<len:=by
        have:=(List.getElem?_eq_some_iff.1 hx').1
        rwa [hlen] at this
      have hxi:x=F i:=by
        rw [List.getElem?_map,List.getElem?_range hi] at hx'
        exact (Option.some.inj hx').symm
      subst hxi
      obtain ⟨cs0,c1,c2,_⟩:=hF 0 (by omega)
      obtain ⟨csi,d1,d2,_⟩:=hF i hi
      obtain ⟨_,g1,g2⟩:=World.cells?_some c1
      obtain ⟨_,g3,g4⟩:=World.cells?_some d1
      have z0:=g2 0 hk0
      rw [Nat.zero_mul,Deep.add_add,Nat.add_zero,c2] at z0
      have hz0:(cells (F 0))[0]?=some ((cells (F 0))[0]'(by rw [hkl];exact hk0)):=List.getElem?_eq_getElem _
      rw [hz0] at z0
      obtain ⟨b,o,sp⟩:=a
      obtain rfl:sp=none:=by simpa [Addr.add] using World.cell?_spot z0
      refine ⟨b,o,rfl,fun j u hu'=>?_⟩
      have hj:j<k:=by
        have:=(List.getElem?_eq_some_iff.1 hu').1
        rwa [hkl] at this
      have:=g4 j hj
      rw [Deep.add_add,Addr.add_mid,d2,hu'] at this
      rw [Nat.add_assoc];exact this
    · intro x hx' n hn
      obtain ⟨i,hi,rfl⟩:=List.mem_map.1 hx'
      have hi:=List.mem_range.1 hi
      obtain ⟨_,_,_,h4⟩:=hF i hi
      rw [hx]
      exact w_slice hu (List.mem_map.2 ⟨i,List.mem_range.2 hi,rfl⟩) (h4 n hn)
    · intro _
      rw [hx]
      refine ⟨_,w_len hu,?_⟩
      rw [List.length_map,List.length_map,List.length_range]
      exact Nat.mul_le_mul_right _ (by simp)
end
end Go.Proofs.YtdkjinmkallhnaaGreatDoorQ
end
section
namespace Go.Proofs.YtdkjinmkallhnaaGreatDoor
open Go.ChangeShapes Go.WideShapes Go.ChangeAt Go.RowKit Go.WideElems
theorem own:ownKnob Tryz.prog.godebug=none:=by kernel_rfl
theorem laidOut:laidOutB Tryz.prog=true:=by kernel_rfl
theorem star : "*" ++ "errors.errorString" = "*errors.errorString" := by decide
theorem rowErr (u : TypeId) (h : Tryz.prog.typeName? 3 u = some "*errors.errorString") : u = 202 :=
  typeName_ptr_named (nm := "errors.errorString") (by rw [star]; kernel_rfl) (by kernel_rfl) (by decide) u (by rw [star]; exact h)
theorem gl_of {W : World} (hL : laidMet Tryz.prog [("math/bits.deBruijn32tab", Rows.laid_math_bits_deBruijn32tab), ("math/bits.deBruijn64tab", Rows.laid_math_bits_deBruijn64tab), ("internal/strconv.uint64pow10", Rows.laid_internal_strconv_uint64pow10), ("unicode/utf8.acceptRanges", Rows.laid_unicode_utf8_acceptRanges), ("strconv.ErrRange", Rows.laid_strconv_ErrRange), ("strconv.ErrSyntax", Rows.laid_strconv_ErrSyntax), ("unicode/utf8.first", Rows.laid_unicode_utf8_first)] W) (hsh : W.ShapedOpen Tryz.prog) : GL W := by
  have h0 : laidMet Tryz.prog (("math/bits.deBruijn32tab", Rows.laid_math_bits_deBruijn32tab) :: ("math/bits.deBruijn64tab", Rows.laid_math_bits_deBruijn64tab) :: ("internal/strconv.uint64pow10", Lib.tabData .u64 Lib.pow10Tab) :: ("unicode/utf8.acceptRanges", Rows.laid_unicode_utf8_acceptRanges) :: ("strconv.ErrRange", Rows.laid_strconv_ErrRange) :: ("strconv.ErrSyntax", Rows.laid_strconv_ErrSyntax) :: ("unicode/utf8.first", Rows.laid_unicode_utf8_first) :: []) W := hL
  have h2:=h0.tail.tail
  have h3:=h2.tail.tail
  have h4:=h3.tail
  obtain ⟨a1,s1,hv1,_⟩:=laid_sentinel h3 (g:=2) (ti:=160) (tp:=202) (te:=204) (by kernel_rfl) (by kernel_rfl) Tryz.underlying160 rowErr Tryz.underlying202 Tryz.underlying204 rfl rfl Tryz.underlying9 (by kernel_rfl) (by kernel_rfl)
  obtain ⟨a2,s2,hv2,_⟩:=laid_sentinel h4 (g:=1) (ti:=160) (tp:=202) (te:=204) (by kernel_rfl) (by kernel_rfl) Tryz.underlying160 rowErr Tryz.underlying202 Tryz.underlying204 rfl rfl Tryz.underlying9 (by kernel_rfl) (by kernel_rfl)
  exact {
    max:=cell_of_shapedOpen_int (t:=3) (zero:=#[.int .i64 0]) hsh (of_decide_eq_true (by kernel_rfl)) (by kernel_rfl) rfl (by kernel_rfl) (by kernel_rfl) Tryz.underlying3
    pow:=Lib.tabIs_of_head (g:=5) (by kernel_rfl) (by kernel_rfl) Tryz.underlying206 Tryz.underlying136 (by kernel_rfl) (by kernel_rfl) h2
    syn:=⟨_,_,hv2⟩
    rng:=⟨_,_,hv1⟩ }
section
variable {H:Type} {enc:TypeId×Value→H}
theorem again_all {W W':World} (hb:Below W.heap.size W W') {sp:Nat→Bool}:∀ {ts:List TypeId} {vs:List Value} {ds:List (DataW H)} {ps:List MemPlace},(∀ t ∈ ts,Tryz.prog.readableRec t=true∧t<Tryz.prog.types.size) →
    DataW.TrodAll enc Tryz.prog W 0 (fun _=>true) true ts vs ds ps→(∀ x ∈ ps,x.block<W.heap.size)→(∀ x ∈ ps,sp x.block=true)→DataW.TrodAll enc Tryz.prog W' 0 sp true ts vs ds ps
  | [],[],[],_,_,h,_,_=>h
  | [],_ :: _,_,_,_,h,_,_=>h.elim
  | [],[],_ :: _,_,_,h,_,_=>h.elim
  | _ :: _,[],_,_,_,h,_,_=>h.elim
  | _ :: _,_ :: _,[],_,_,h,_,_=>h.elim
  | t :: ts,v :: vs,d :: ds,ps,ht,h,hlt,hsp=>by
    obtain ⟨p,q,h1,h2,rfl⟩:=h
    have hr:=ht t (List.mem_cons_self ..)
    exact ⟨p,q,Trod_stays laidOut hr.1 hr.2 h1 (fun x hx=>hb.same (hlt x (List.mem_append_left _ hx))) (fun x hx=>hsp x (List.mem_append_left _ hx)),
      again_all hb (fun t h=>ht t (List.mem_cons_of_mem _ h)) h2 (fun x hx=>hlt x (List.mem_append_right _ hx)) (fun x hx=>hsp x (List.mem_append_right _ hx)),rfl⟩
set_option maxRecDepth 100000 in
theorem law_post {f:Func} {s:ChangeSpec} {apart fresh handsOn again:Bool} {W W':World} {args:Array Value} {ds gs:List (DataW H)} {before:List MemPlace} (hs:s.vars=[]) (hf:f.resultTypes=#[4])
    (hfn:s.fn H ds={ results:=[.lit (.bool true)],args:=ds }) (ht:∀ t ∈ f.params.toList,Tryz.prog.readableRec t=true∧t<Tryz.prog.types.size)
    (hW:DataW.Whole enc Tryz.prog f.params.toList s.vars apart W args.toList ds gs before) (hb:Below W.heap.size W W') :
    s.post enc Tryz.prog f apart fresh handsOn again W args (.bool true) W':=by
  obtain ⟨p,q,hA,hV,rfl,hz,hn⟩:=id hW
  have hlt:∀ x ∈ p ++ q,x.block<W.heap.size:=fun x hx=>hW.lt x hx
  rw [hs] at hV
  obtain ⟨rfl,rfl⟩:=trodVars_none hV
  have hA':DataW.TrodAll enc Tryz.prog W 0 (fun _=>true) true f.params.toList args.toList ds p:=hA
  have hold:∀ x ∈ p ++ [],(fun b=>decide (b<W.heap.size)) x.block=true:=fun x hx=>by simpa using hlt x hx
  have hargs:∀ sp:Nat→Bool,(∀ x ∈ p ++ [],sp x.block=true)→DataW.TrodAll enc Tryz.prog W' 0 sp true f.params.toList args.toList (s.fn H (ds ++ [])).args p:=fun sp hsp=>by
    rw [List.append_nil,hfn]
    exact again_all hb ht hA' (fun x hx=>hlt x (List.mem_append_left _ hx)) (fun x hx=>hsp x (List.mem_append_left _ hx))
  have hres:∀ (b:Nat) (sp:Nat→Bool) (hd:Bool),DataW.TrodAll enc Tryz.prog W' b sp hd f.resultTypes.toList ((Value.bool true).resultList f.resultTypes.size) (s.fn H (ds ++ [])).results []:=fun b sp hd=>by
    rw [List.append_nil,hfn,hf]
    exact trodAll_mk1 (shut_bool Tryz.underlying4 _)
  have hvars:∀ sp:Nat→Bool,DataW.TrodVars enc Tryz.prog W' sp s.vars (s.fn H (ds ++ [])).vars []:=fun sp=>by
    rw [List.append_nil,hfn,hs];rfl
  refine ⟨ds,[],p ++ [],[],p,[],hW,hres _ _ _,hargs _ hold,hvars _,World.keptBut_mono (fun x hx=>⟨hx,?_⟩) (hb.frame (· ∈ p ++ [])),fun _=>?_⟩
  · exact Or.inr (by simpa using hx)
  · refine ⟨?_,_,_,([] ++ p) ++ [],⟨[] ++ p,[],trodAll_append (hargs _ (fun _ _=>rfl)) (hres _ _ _),hvars _,rfl,?_,?_⟩,?_⟩
    · exact ok_one hf rfl (okWide_bool_mk Tryz.underlying4 _)
    · intro b off hp
      have hin:MemPlace.cell b off ∈ p ++ []:=by simpa using hp
      rw [hb.frozen (hlt _ hin)]
      exact hz b off hin
    · intro ha
      simpa using hn ha
    · intro x hx _
      simpa using hx
end
def litCell:DataW Unit→Value
  | .lit (.int k z)=>Value.int k z
  | _=>Value.int .u8 0
def tabCells:DataW Unit→Array Value
  | .agg l=>(l.flatMap fun d=>match d with|.agg m=>m.map litCell|d=>[litCell d]).toArray
  | _=>#[]
abbrev synS:ByteArray:={ data:=#[105,110,118,97,108,105,100,32,115,121,110,116,97,120] }
abbrev rngS:ByteArray:={ data:=#[118,97,108,117,101,32,111,117,116,32,111,102,32,114,97,110,103,101] }
noncomputable def low:Nat:=(World.holding Tryz.prog default ⟨#[],#[],[]⟩).heap.size
def putVar (cs:Array Value):Obj→Obj
  | .cells _ t frozen=>.cells cs t frozen
  | o=>o
noncomputable def laidWorld (os:Os):World :=
  let w0:=World.holding Tryz.prog os ⟨#[.cells #[.string rngS] 204,.cells #[.string synS] 204],#[],[]⟩
  { w0 with heap:=((((((w0.heap.modify 6 (putVar (tabCells Rows.laid_math_bits_deBruijn32tab))).modify 7 (putVar (tabCells Rows.laid_math_bits_deBruijn64tab))).modify 5 (putVar (tabCells Rows.laid_internal_strconv_uint64pow10))).modify 4 (putVar (tabCells Rows.laid_unicode_utf8_acceptRanges))).modify 3 (putVar (tabCells Rows.laid_unicode_utf8_first))).modify 2
      (putVar #[.iface 202 (.pointer (some ⟨low,0,none⟩))])).modify 1 (putVar #[.iface 202 (.pointer (some ⟨low + 1,0,none⟩))]) }
theorem laid_met (os : Os) (args : Array Value) : laidMet Tryz.prog [("math/bits.deBruijn32tab", Rows.laid_math_bits_deBruijn32tab), ("math/bits.deBruijn64tab", Rows.laid_math_bits_deBruijn64tab), ("internal/strconv.uint64pow10", Rows.laid_internal_strconv_uint64pow10), ("unicode/utf8.acceptRanges", Rows.laid_unicode_utf8_acceptRanges), ("strconv.ErrRange", Rows.laid_strconv_ErrRange), ("strconv.ErrSyntax", Rows.laid_strconv_ErrSyntax), ("unicode/utf8.first", Rows.laid_unicode_utf8_first)] ((laidWorld os).forCall (fun _ _ => 0) ⟨#[], args, []⟩).memory :=
  laidMet_of_run' 8 (by kernel_rfl) (by kernel_rfl)
end Go.Proofs.YtdkjinmkallhnaaGreatDoor
end
section
namespace Go.Proofs.YtdkjinmkallhnaaGreatDoorQ
open Go.RowKit Go.Proofs.YtdkjinmkallhnaaGreatDoorW.PrintWords Go.Proofs.YtdkjinmkallhnaaGreatDoorW.PrintLast Go.Proofs.YtdkjinmkallhnaaGreatDoorW.PrintMore
open Go.Proofs.YtdkjinmkallhnaaGreatDoor (GL)
attribute [local go_sem] max2_int min2_int max_two min_two max_three min_three max_four min_four
def onionskinlaw09_Few.l0:Nat→List (S40)→Int→Int→Option (Bool)
 | 0,_,_,_=>none
 | k + 1,x0,x3,x4=>if x4<(x0.length:Int) then (if 0≤x4 then (onionskinlaw09_Few.l0 k x0 (wrap64 ((wrap64 ((wrap64 ((wrap64 (x3 + (((rd_T40 x0 x4).f0).size:Int))) + (((rd_T40 x0 x4).f1.f5).size:Int))) + (((rd_T40 x0 x4).f1.f6).size:Int))) + (((rd_T40 x0 x4).f1.f9).size:Int))) (wrap64 (x4 + 1))) else (none)) else (if (x0.length:Int)≤30 then (some (decide (x3≤12000))) else (some false))
def onionskinlaw09_Few.f (k:Nat) (l0:List (S40)):Option (Bool):=onionskinlaw09_Few.l0 k l0 0 0
set_option maxHeartbeats 8000000 in
set_option maxRecDepth 100000 in
theorem onionskinlaw09_Few.calls (k:Nat) (A0:Option Addr) (c0:Nat) (l0:List (S40)) (r:Bool) (w:World) (hr0:Kd.C k40 w A0 l0.length l0) (hc0:l0.length≤c0) (h:onionskinlaw09_Few.f k l0=some r) :
  Calls Tryz.prog 16 #[.slice A0 l0.length c0] w fun e w'=>e=.returned (.bool r)∧Drawn0 w w':=by
 have HR0:=Aside0.mk hr0
 have HC0:=Aside0.mk hc0
 clear hr0 hc0
 have H:(onionskinlaw09_Few.l0 k l0 0 0)=some r:=h
 clear h
 have H':=Aside0.mk H
 clear H
 go_enter Tryz.func16,Tryz.ntmps16
 go_wp2
 repeat (go_quiet (fail);try go_wp2)
 go_loopg [3,4] k (fun kq v3 v4 w'=>∃ (x3_1:Int) (x4_1:Int),v3=.int .i64 x3_1∧v4=.int .i64 x4_1∧Aside0 (onionskinlaw09_Few.l0 kq l0 x3_1 x4_1=some r)∧Aside0 (kq≤k)∧Drawn0 w w')
 case atStart=>exact ⟨(0),(0),(by first|rfl|(simp;done)|(simp [*];done)),(by first|rfl|(simp;done)|(simp [*];done)),H',⟨Nat.le_refl _⟩,by repeat (first|exact Drawn0.refl _|apply Drawn0.step)⟩
 case round =>
  clear H'
  try clear c1
  obtain ⟨x3_1,x4_1,rfl,rfl,HA,HK1,⟨m1,rfl⟩⟩:=hrel
  cases gk with
  | zero=>exact absurd HA.out (by simp [onionskinlaw09_Few.l0])
  | succ k1 =>
   have H:=HA.out
   clear HA
   simp only [onionskinlaw09_Few.l0] at H
   by_cases c2:x4_1<(l0.length:Int)
   ·rw [if_pos c2] at H
    have c2b0:decide (x4_1<(l0.length:Int))=true:=decide_eq_true c2
    clear c2
    by_cases c3:0≤x4_1
    ·rw [if_pos c3] at H
     have c3b0:decide (0≤x4_1)=true:=decide_eq_true c3
     clear c3
     have H':=Aside0.mk H
     clear H
     have p324:0≤(x4_1:Int):=of_decide_eq_true (by first|(with_reducible assumption)|assumption)
     have q324:x4_1<(l0.length:Int):=of_decide_eq_true (by first|(with_reducible assumption)|assumption)
     obtain ⟨ad324,e324,hx324_0,hx324_1,hx324_2,hx324_3,hx324_4,hx324_5,hx324_6,hx324_7,hx324_8,hx324_9,hx324_10⟩:=at_T40 HR0.out x4_1 p324 q324
     cases e324
     replace p324:=eq_true p324
     replace q324:=eq_true q324
     have p325:0≤(x4_1:Int):=of_decide_eq_true (by first|(with_reducible assumption)|assumption)
     have q325:x4_1<(l0.length:Int):=of_decide_eq_true (by first|(with_reducible assumption)|assumption)
     obtain ⟨ad325,e325,hx325_0,hx325_1,hx325_2,hx325_3,hx325_4,hx325_5,hx325_6,hx325_7,hx325_8,hx325_9,hx325_10⟩:=at_T40 HR0.out x4_1 p325 q325
     obtain rfl:ad324=ad325:=(by injection e325)
     replace p325:=eq_true p325
     replace q325:=eq_true q325
     have p326:0≤(x4_1:Int):=of_decide_eq_true (by first|(with_reducible assumption)|assumption)
     have q326:x4_1<(l0.length:Int):=of_decide_eq_true (by first|(with_reducible assumption)|assumption)
     obtain ⟨ad326,e326,hx326_0,hx326_1,hx326_2,hx326_3,hx326_4,hx326_5,hx326_6,hx326_7,hx326_8,hx326_9,hx326_10⟩:=at_T40 HR0.out x4_1 p326 q326
     obtain rfl:ad324=ad326:=(by injection e326)
     replace p326:=eq_true p326
     replace q326:=eq_true q326
     have p327:0≤(x4_1:Int):=of_decide_eq_true (by first|(with_reducible assumption)|assumption)
     have q327:x4_1<(l0.length:Int):=of_decide_eq_true (by first|(with_reducible assumption)|assumption)
     obtain ⟨ad327,e327,hx327_0,hx327_1,hx327_2,hx327_3,hx327_4,hx327_5,hx327_6,hx327_7,hx327_8,hx327_9,hx327_10⟩:=at_T40 HR0.out x4_1 p327 q327
     obtain rfl:ad324=ad327:=(by injection e327)
     replace p327:=eq_true p327
     replace q327:=eq_true q327
     go_wp2
     repeat (go_quiet (fail);try go_wp2)
     go_roundg k1
     case measure=>have:=HK1.out;omega
     case rel=>exact ⟨(wrap64 ((wrap64 ((wrap64 ((wrap64 (x3_1 + (((rd_T40 l0 x4_1).f0).size:Int))) + (((rd_T40 l0 x4_1).f1.f5).size:Int))) + (((rd_T40 l0 x4_1).f1.f6).size:Int))) + (((rd_T40 l0 x4_1).f1.f9).size:Int))),(wrap64 (x4_1 + 1)),(by first|rfl|(simp;done)|(simp [*];done)),(by first|rfl|(simp;done)|(simp [*];done)),H',⟨by have:=HK1.out;omega⟩,by repeat (first|exact Drawn0.refl _|apply Drawn0.step)⟩
    ·rw [if_neg c3] at H
     exact absurd H (by simp)
   ·rw [if_neg c2] at H
    have c2b0:decide (x4_1<(l0.length:Int))=false:=decide_eq_false c2
    clear c2
    by_cases c4:(l0.length:Int)≤30
    ·rw [if_pos c4] at H
     have c4b0:decide ((l0.length:Int)≤30)=true:=decide_eq_true c4
     have c4b1:decide (l0.length≤30)=true:=decide_eq_true (by omega)
     clear c4
     obtain rfl:=Option.some.inj H
     go_wp2
     repeat (go_quiet (fail);try go_wp2)
     go_ret
     exact ⟨by first|rfl|(simp;done)|(simp [*];done),by repeat (first|exact Drawn0.refl _|apply Drawn0.step)⟩
    ·rw [if_neg c4] at H
     have c4b0:decide ((l0.length:Int)≤30)=false:=decide_eq_false c4
     have c4b1:decide (l0.length≤30)=false:=decide_eq_false (by omega)
     clear c4
     obtain rfl:=Option.some.inj H
     go_wp2
     repeat (go_quiet (fail);try go_wp2)
     go_ret
     exact ⟨by first|rfl|(simp;done)|(simp [*];done),by repeat (first|exact Drawn0.refl _|apply Drawn0.step)⟩
def onionskinlaw16_Few.l0:Nat→List (S38)→Int→Int→Option (Bool)
 | 0,_,_,_=>none
 | k + 1,x0,x3,x4=>if x4<(x0.length:Int) then (if 0≤x4 then (onionskinlaw16_Few.l0 k x0 (wrap64 ((wrap64 ((wrap64 ((wrap64 (x3 + (((rd_T38 x0 x4).f0).size:Int))) + (((rd_T38 x0 x4).f2.f5).size:Int))) + (((rd_T38 x0 x4).f2.f6).size:Int))) + (((rd_T38 x0 x4).f2.f9).size:Int))) (wrap64 (x4 + 1))) else (none)) else (if (x0.length:Int)≤30 then (some (decide (x3≤6000))) else (some false))
def onionskinlaw16_Few.f (k:Nat) (l0:List (S38)):Option (Bool):=onionskinlaw16_Few.l0 k l0 0 0
set_option maxHeartbeats 8000000 in
set_option maxRecDepth 100000 in
theorem onionskinlaw16_Few.calls (k:Nat) (A0:Option Addr) (c0:Nat) (l0:List (S38)) (r:Bool) (w:World) (hr0:Kd.C k38 w A0 l0.length l0) (hc0:l0.length≤c0) (h:onionskinlaw16_Few.f k l0=some r) :
  Calls Tryz.prog 21 #[.slice A0 l0.length c0] w fun e w'=>e=.returned (.bool r)∧Drawn0 w w':=by
 have HR0:=Aside0.mk hr0
 have HC0:=Aside0.mk hc0
 clear hr0 hc0
 have H:(onionskinlaw16_Few.l0 k l0 0 0)=some r:=h
 clear h
 have H':=Aside0.mk H
 clear H
 go_enter Tryz.func21,Tryz.ntmps21
 go_wp2
 repeat (go_quiet (fail);try go_wp2)
 go_loopg [3,4] k (fun kq v3 v4 w'=>∃ (x3_1:Int) (x4_1:Int),v3=.int .i64 x3_1∧v4=.int .i64 x4_1∧Aside0 (onionskinlaw16_Few.l0 kq l0 x3_1 x4_1=some r)∧Aside0 (kq≤k)∧Drawn0 w w')
 case atStart=>exact ⟨(0),(0),(by first|rfl|(simp;done)|(simp [*];done)),(by first|rfl|(simp;done)|(simp [*];done)),H',⟨Nat.le_refl _⟩,by repeat (first|exact Drawn0.refl _|apply Drawn0.step)⟩
 case round =>
  clear H'
  obtain ⟨x3_1,x4_1,rfl,rfl,HA,HK1,⟨m1,rfl⟩⟩:=hrel
  cases gk with
  | zero=>exact absurd HA.out (by simp [onionskinlaw16_Few.l0])
  | succ k1 =>
   have H:=HA.out
   clear HA
   simp only [onionskinlaw16_Few.l0] at H
   by_cases c2:x4_1<(l0.length:Int)
   ·rw [if_pos c2] at H
    have c2b0:decide (x4_1<(l0.length:Int))=true:=decide_eq_true c2
    clear c2
    by_cases c3:0≤x4_1
    ·rw [if_pos c3] at H
     have c3b0:decide (0≤x4_1)=true:=decide_eq_true c3
     clear c3
     have H':=Aside0.mk H
     clear H
     have p564:0≤(x4_1:Int):=of_decide_eq_true (by first|(with_reducible assumption)|assumption)
     have q564:x4_1<(l0.length:Int):=of_decide_eq_true (by first|(with_reducible assumption)|assumption)
     obtain ⟨ad564,e564,hx564_0,hx564_1,hx564_2,hx564_3,hx564_4,hx564_5,hx564_6,hx564_7,hx564_8,hx564_9,hx564_10,hx564_11⟩:=at_T38 HR0.out x4_1 p564 q564
     cases e564
     replace p564:=eq_true p564
     replace q564:=eq_true q564
     have p565:0≤(x4_1:Int):=of_decide_eq_true (by first|(with_reducible assumption)|assumption)
     have q565:x4_1<(l0.length:Int):=of_decide_eq_true (by first|(with_reducible assumption)|assumption)
     obtain ⟨ad565,e565,hx565_0,hx565_1,hx565_2,hx565_3,hx565_4,hx565_5,hx565_6,hx565_7,hx565_8,hx565_9,hx565_10,hx565_11⟩:=at_T38 HR0.out x4_1 p565 q565
     obtain rfl:ad564=ad565:=(by injection e565)
     replace p565:=eq_true p565
     replace q565:=eq_true q565
     have p566:0≤(x4_1:Int):=of_decide_eq_true (by first|(with_reducible assumption)|assumption)
     have q566:x4_1<(l0.length:Int):=of_decide_eq_true (by first|(with_reducible assumption)|assumption)
     obtain ⟨ad566,e566,hx566_0,hx566_1,hx566_2,hx566_3,hx566_4,hx566_5,hx566_6,hx566_7,hx566_8,hx566_9,hx566_10,hx566_11⟩:=at_T38 HR0.out x4_1 p566 q566
     obtain rfl:ad564=ad566:=(by injection e566)
     replace p566:=eq_true p566
     replace q566:=eq_true q566
     have p567:0≤(x4_1:Int):=of_decide_eq_true (by first|(with_reducible assumption)|assumption)
     have q567:x4_1<(l0.length:Int):=of_decide_eq_true (by first|(with_reducible assumption)|assumption)
     obtain ⟨ad567,e567,hx567_0,hx567_1,hx567_2,hx567_3,hx567_4,hx567_5,hx567_6,hx567_7,hx567_8,hx567_9,hx567_10,hx567_11⟩:=at_T38 HR0.out x4_1 p567 q567
     obtain rfl:ad564=ad567:=(by injection e567)
     replace p567:=eq_true p567
     replace q567:=eq_true q567
     go_wp2
     repeat (go_quiet (fail);try go_wp2)
     go_roundg k1
     case measure=>have:=HK1.out;omega
     case rel=>exact ⟨(wrap64 ((wrap64 ((wrap64 ((wrap64 (x3_1 + (((rd_T38 l0 x4_1).f0).size:Int))) + (((rd_T38 l0 x4_1).f2.f5).size:Int))) + (((rd_T38 l0 x4_1).f2.f6).size:Int))) + (((rd_T38 l0 x4_1).f2.f9).size:Int))),(wrap64 (x4_1 + 1)),(by first|rfl|(simp;done)|(simp [*];done)),(by first|rfl|(simp;done)|(simp [*];done)),H',⟨by have:=HK1.out;omega⟩,by repeat (first|exact Drawn0.refl _|apply Drawn0.step)⟩
    ·rw [if_neg c3] at H
     exact absurd H (by simp)
   ·rw [if_neg c2] at H
    have c2b0:decide (x4_1<(l0.length:Int))=false:=decide_eq_false c2
    clear c2
    by_cases c4:(l0.length:Int)≤30
    ·rw [if_pos c4] at H
     have c4b0:decide ((l0.length:Int)≤30)=true:=decide_eq_true c4
     have c4b1:decide (l0.length≤30)=true:=decide_eq_true (by omega)
     clear c4
     obtain rfl:=Option.some.inj H
     go_wp2
     repeat (go_quiet (fail);try go_wp2)
     go_ret
     exact ⟨by first|rfl|(simp;done)|(simp [*];done),by repeat (first|exact Drawn0.refl _|apply Drawn0.step)⟩
    ·rw [if_neg c4] at H
     have c4b0:decide ((l0.length:Int)≤30)=false:=decide_eq_false c4
     have c4b1:decide (l0.length≤30)=false:=decide_eq_false (by omega)
     clear c4
     obtain rfl:=Option.some.inj H
     go_wp2
     repeat (go_quiet (fail);try go_wp2)
     go_ret
     exact ⟨by first|rfl|(simp;done)|(simp [*];done),by repeat (first|exact Drawn0.refl _|apply Drawn0.step)⟩
theorem eqA40 (d:Nat) (w:World) (x0 y0:ByteArray) (x1 y1:Int) (x2 y2:Int) (x3 y3:Int) (x4 y4:Int) (x5 y5:Int) (x6 y6:ByteArray) (x7 y7:ByteArray) (x8 y8:Int) (x9 y9:Int) (x10 y10:ByteArray) :
  (Op.equalIn (d + 3) 40 (.agg #[.string x0,.int .i64 x1,.int .i64 x2,.int .i64 x3,.int .i64 x4,.int .i64 x5,.string x6,.string x7,.int .i64 x8,.int .i64 x9,.string x10]) (.agg #[.string y0,.int .i64 y1,.int .i64 y2,.int .i64 y3,.int .i64 y4,.int .i64 y5,.string y6,.string y7,.int .i64 y8,.int .i64 y9,.string y10])).run Tryz.prog w=.ok (x0.toList == y0.toList && ((x1 == y1 && (x2 == y2 && (x3 == y3 && (x4 == y4 && (x5 == y5 && (x6.toList == y6.toList && (x7.toList == y7.toList && (x8 == y8 && (x9 == y9 && (x10.toList == y10.toList)))))))))))) w:=by
 refine eqA_of Tryz.underlying40 (by kernel_rfl) ?_
 refine eqf_cons (by rfl) (by go_simp;rfl) (by go_simp;rfl) (by go_simp) ?_
 exact eqf_last (by rfl) (by go_simp) (by go_simp) (eqA26 (d + 0) w _ _ _ _ _ _ _ _ _ _ _ _ _ _ _ _ _ _ _ _)
end Go.Proofs.YtdkjinmkallhnaaGreatDoorQ
end
section
namespace Go.Proofs.YtdkjinmkallhnaaGreatDoorQ
open Go.RowKit Go.Proofs.YtdkjinmkallhnaaGreatDoorW.PrintWords Go.Proofs.YtdkjinmkallhnaaGreatDoorW.PrintLast Go.Proofs.YtdkjinmkallhnaaGreatDoorW.PrintMore
open Go.Proofs.YtdkjinmkallhnaaGreatDoor (GL)
attribute [local go_sem] max2_int min2_int max_two min_two max_three min_three max_four min_four
attribute [local go_sem high] eqA40
def pq11.l0:Nat→List (S40)→List (S40)→Int→Option (Bool)
 | 0,_,_,_=>none
 | k + 1,x0,x1,x5=>if x5<(x0.length:Int) then (if 0≤x5 then (if x5<(x1.length:Int) then (if (!((((rd_T40 x0 x5).f0).toList) == (((rd_T40 x1 x5).f0).toList)) || ((!(((rd_T40 x0 x5).f1.f0) == ((rd_T40 x1 x5).f1.f0)) || (!(((rd_T40 x0 x5).f1.f1) == ((rd_T40 x1 x5).f1.f1)) || (!(((rd_T40 x0 x5).f1.f2) == ((rd_T40 x1 x5).f1.f2)) || (!(((rd_T40 x0 x5).f1.f3) == ((rd_T40 x1 x5).f1.f3)) || (!(((rd_T40 x0 x5).f1.f4) == ((rd_T40 x1 x5).f1.f4)) || (!((((rd_T40 x0 x5).f1.f5).toList) == (((rd_T40 x1 x5).f1.f5).toList)) || (!((((rd_T40 x0 x5).f1.f6).toList) == (((rd_T40 x1 x5).f1.f6).toList)) || (!(((rd_T40 x0 x5).f1.f7) == ((rd_T40 x1 x5).f1.f7)) || (!(((rd_T40 x0 x5).f1.f8) == ((rd_T40 x1 x5).f1.f8)) || (!((((rd_T40 x0 x5).f1.f9).toList) == (((rd_T40 x1 x5).f1.f9).toList))))))))))))))=true then (some false) else (pq11.l0 k x0 x1 (wrap64 (x5 + 1)))) else (none)) else (none)) else (some true)
def pq11.f (k:Nat) (l0:List (S40)) (l1:List (S40)):Option (Bool):=if (l0.length:Int)=(l1.length:Int) then (pq11.l0 k l0 l1 0) else (some false)
set_option maxHeartbeats 8000000 in
set_option maxRecDepth 100000 in
theorem pq11.calls (k:Nat) (A0:Option Addr) (c0:Nat) (l0:List (S40)) (A1:Option Addr) (c1:Nat) (l1:List (S40)) (r:Bool) (w:World) (hr0:Kd.C k40 w A0 l0.length l0) (hc0:l0.length≤c0) (hr1:Kd.C k40 w A1 l1.length l1) (hc1:l1.length≤c1) (h:pq11.f k l0 l1=some r) :
  Calls Tryz.prog 24 #[.slice A0 l0.length c0,.slice A1 l1.length c1] w fun e w'=>e=.returned (.bool r)∧Drawn0 w w':=by
 have hu40:=Tryz.underlying40
 have HR0:=Aside0.mk hr0
 have HC0:=Aside0.mk hc0
 clear hr0 hc0
 have HR1:=Aside0.mk hr1
 have HC1:=Aside0.mk hc1
 clear hr1 hc1
 have H:(if (l0.length:Int)=(l1.length:Int) then (pq11.l0 k l0 l1 0) else (some false))=some r:=h
 clear h
 by_cases c3:(l0.length:Int)=(l1.length:Int)
 ·rw [if_pos c3] at H
  have c3b0:((l0.length:Int) == (l1.length:Int))=true:=beq_iff_eq.mpr c3
  have c3b1:((l0.length:Int) != (l1.length:Int))=false:=bne_eq_false_iff_eq.mpr c3
  have c3b2:(l0.length == l1.length)=true:=by first|simpa using c3|(simp at c3 ⊢;omega)
  clear c3
  have H':=Aside0.mk H
  clear H
  go_enter Tryz.func24,Tryz.ntmps24
  go_wp2
  repeat (go_quiet (fail);try go_wp2)
  go_loopg [5] k (fun kq v5 w'=>∃ (x5_1:Int),v5=.int .i64 x5_1∧Aside0 (pq11.l0 kq l0 l1 x5_1=some r)∧Aside0 (kq≤k)∧Drawn0 w w')
  case atStart=>exact ⟨(0),(by first|rfl|(simp;done)|(simp [*];done)),H',⟨Nat.le_refl _⟩,by repeat (first|exact Drawn0.refl _|apply Drawn0.step)⟩
  case round =>
   clear H'
   try clear c1;try clear c2;try clear p2;try clear c3;try clear c3b0;try clear c3b1;try clear c3b2
   obtain ⟨x5_1,rfl,HA,HK1,⟨m1,rfl⟩⟩:=hrel
   cases gk with
   | zero=>exact absurd HA.out (by simp [pq11.l0])
   | succ k1 =>
    have H:=HA.out
    clear HA
    simp only [pq11.l0] at H
    by_cases c4:x5_1<(l0.length:Int)
    ·rw [if_pos c4] at H
     have c4b0:decide (x5_1<(l0.length:Int))=true:=decide_eq_true c4
     clear c4
     by_cases c5:0≤x5_1
     ·rw [if_pos c5] at H
      have c5b0:decide (0≤x5_1)=true:=decide_eq_true c5
      clear c5
      by_cases c6:x5_1<(l1.length:Int)
      ·rw [if_pos c6] at H
       have c6b0:decide (x5_1<(l1.length:Int))=true:=decide_eq_true c6
       clear c6
       by_cases c7:(!((((rd_T40 l0 x5_1).f0).toList) == (((rd_T40 l1 x5_1).f0).toList)) || ((!(((rd_T40 l0 x5_1).f1.f0) == ((rd_T40 l1 x5_1).f1.f0)) || (!(((rd_T40 l0 x5_1).f1.f1) == ((rd_T40 l1 x5_1).f1.f1)) || (!(((rd_T40 l0 x5_1).f1.f2) == ((rd_T40 l1 x5_1).f1.f2)) || (!(((rd_T40 l0 x5_1).f1.f3) == ((rd_T40 l1 x5_1).f1.f3)) || (!(((rd_T40 l0 x5_1).f1.f4) == ((rd_T40 l1 x5_1).f1.f4)) || (!((((rd_T40 l0 x5_1).f1.f5).toList) == (((rd_T40 l1 x5_1).f1.f5).toList)) || (!((((rd_T40 l0 x5_1).f1.f6).toList) == (((rd_T40 l1 x5_1).f1.f6).toList)) || (!(((rd_T40 l0 x5_1).f1.f7) == ((rd_T40 l1 x5_1).f1.f7)) || (!(((rd_T40 l0 x5_1).f1.f8) == ((rd_T40 l1 x5_1).f1.f8)) || (!((((rd_T40 l0 x5_1).f1.f9).toList) == (((rd_T40 l1 x5_1).f1.f9).toList))))))))))))))=true
       ·rw [if_pos c7] at H
        have c7b0:(!((((rd_T40 l0 x5_1).f0).toList) == (((rd_T40 l1 x5_1).f0).toList)) || ((!(((rd_T40 l0 x5_1).f1.f0) == ((rd_T40 l1 x5_1).f1.f0)) || (!(((rd_T40 l0 x5_1).f1.f1) == ((rd_T40 l1 x5_1).f1.f1)) || (!(((rd_T40 l0 x5_1).f1.f2) == ((rd_T40 l1 x5_1).f1.f2)) || (!(((rd_T40 l0 x5_1).f1.f3) == ((rd_T40 l1 x5_1).f1.f3)) || (!(((rd_T40 l0 x5_1).f1.f4) == ((rd_T40 l1 x5_1).f1.f4)) || (!((((rd_T40 l0 x5_1).f1.f5).toList) == (((rd_T40 l1 x5_1).f1.f5).toList)) || (!((((rd_T40 l0 x5_1).f1.f6).toList) == (((rd_T40 l1 x5_1).f1.f6).toList)) || (!(((rd_T40 l0 x5_1).f1.f7) == ((rd_T40 l1 x5_1).f1.f7)) || (!(((rd_T40 l0 x5_1).f1.f8) == ((rd_T40 l1 x5_1).f1.f8)) || (!((((rd_T40 l0 x5_1).f1.f9).toList) == (((rd_T40 l1 x5_1).f1.f9).toList))))))))))))))=true:=c7
        clear c7
        obtain rfl:=Option.some.inj H
        have p699:0≤(x5_1:Int):=of_decide_eq_true (by first|(with_reducible assumption)|assumption)
        have q699:x5_1<(l0.length:Int):=of_decide_eq_true (by first|(with_reducible assumption)|assumption)
        obtain ⟨ad699,e699,hx699_0,hx699_1,hx699_2,hx699_3,hx699_4,hx699_5,hx699_6,hx699_7,hx699_8,hx699_9,hx699_10⟩:=at_T40 HR0.out x5_1 p699 q699
        cases e699
        replace p699:=eq_true p699
        replace q699:=eq_true q699
        have p700:0≤(x5_1:Int):=of_decide_eq_true (by first|(with_reducible assumption)|assumption)
        have q700:x5_1<(l1.length:Int):=of_decide_eq_true (by first|(with_reducible assumption)|assumption)
        obtain ⟨ad700,e700,hx700_0,hx700_1,hx700_2,hx700_3,hx700_4,hx700_5,hx700_6,hx700_7,hx700_8,hx700_9,hx700_10⟩:=at_T40 HR1.out x5_1 p700 q700
        cases e700
        replace p700:=eq_true p700
        replace q700:=eq_true q700
        go_wp2
        repeat (go_quiet (fail);try go_wp2)
        go_ret
        exact ⟨by first|rfl|(simp;done)|(simp [*];done),by repeat (first|exact Drawn0.refl _|apply Drawn0.step)⟩
       ·rw [if_neg c7] at H
        have c7b0:(!((((rd_T40 l0 x5_1).f0).toList) == (((rd_T40 l1 x5_1).f0).toList)) || ((!(((rd_T40 l0 x5_1).f1.f0) == ((rd_T40 l1 x5_1).f1.f0)) || (!(((rd_T40 l0 x5_1).f1.f1) == ((rd_T40 l1 x5_1).f1.f1)) || (!(((rd_T40 l0 x5_1).f1.f2) == ((rd_T40 l1 x5_1).f1.f2)) || (!(((rd_T40 l0 x5_1).f1.f3) == ((rd_T40 l1 x5_1).f1.f3)) || (!(((rd_T40 l0 x5_1).f1.f4) == ((rd_T40 l1 x5_1).f1.f4)) || (!((((rd_T40 l0 x5_1).f1.f5).toList) == (((rd_T40 l1 x5_1).f1.f5).toList)) || (!((((rd_T40 l0 x5_1).f1.f6).toList) == (((rd_T40 l1 x5_1).f1.f6).toList)) || (!(((rd_T40 l0 x5_1).f1.f7) == ((rd_T40 l1 x5_1).f1.f7)) || (!(((rd_T40 l0 x5_1).f1.f8) == ((rd_T40 l1 x5_1).f1.f8)) || (!((((rd_T40 l0 x5_1).f1.f9).toList) == (((rd_T40 l1 x5_1).f1.f9).toList))))))))))))))=false:=by simpa using c7
        clear c7
        have H':=Aside0.mk H
        clear H
        have p699:0≤(x5_1:Int):=of_decide_eq_true (by first|(with_reducible assumption)|assumption)
        have q699:x5_1<(l0.length:Int):=of_decide_eq_true (by first|(with_reducible assumption)|assumption)
        obtain ⟨ad699,e699,hx699_0,hx699_1,hx699_2,hx699_3,hx699_4,hx699_5,hx699_6,hx699_7,hx699_8,hx699_9,hx699_10⟩:=at_T40 HR0.out x5_1 p699 q699
        cases e699
        replace p699:=eq_true p699
        replace q699:=eq_true q699
        have p700:0≤(x5_1:Int):=of_decide_eq_true (by first|(with_reducible assumption)|assumption)
        have q700:x5_1<(l1.length:Int):=of_decide_eq_true (by first|(with_reducible assumption)|assumption)
        obtain ⟨ad700,e700,hx700_0,hx700_1,hx700_2,hx700_3,hx700_4,hx700_5,hx700_6,hx700_7,hx700_8,hx700_9,hx700_10⟩:=at_T40 HR1.out x5_1 p700 q700
        cases e700
        replace p700:=eq_true p700
        replace q700:=eq_true q700
        go_wp2
        repeat (go_quiet (fail);try go_wp2)
        go_roundg k1
        case measure=>have:=HK1.out;omega
        case rel=>exact ⟨(wrap64 (x5_1 + 1)),(by first|rfl|(simp;done)|(simp [*];done)),H',⟨by have:=HK1.out;omega⟩,by repeat (first|exact Drawn0.refl _|apply Drawn0.step)⟩
      ·rw [if_neg c6] at H
       exact absurd H (by simp)
     ·rw [if_neg c5] at H
      exact absurd H (by simp)
    ·rw [if_neg c4] at H
     have c4b0:decide (x5_1<(l0.length:Int))=false:=decide_eq_false c4
     clear c4
     obtain rfl:=Option.some.inj H
     go_wp2
     repeat (go_quiet (fail);try go_wp2)
     go_ret
     exact ⟨by first|rfl|(simp;done)|(simp [*];done),by repeat (first|exact Drawn0.refl _|apply Drawn0.step)⟩
 ·rw [if_neg c3] at H
  have c3b0:((l0.length:Int) == (l1.length:Int))=false:=beq_eq_false_iff_ne.mpr c3
  have c3b1:((l0.length:Int) != (l1.length:Int))=true:=bne_iff_ne.mpr c3
  have c3b2:(l0.length == l1.length)=false:=by first|simpa using c3|(simp at c3 ⊢;omega)
  obtain rfl:=Option.some.inj H
  go_enter Tryz.func24,Tryz.ntmps24
  go_wp2
  repeat (go_quiet (fail);try go_wp2)
  go_ret
  exact ⟨by first|rfl|(simp;done)|(simp [*];done),by repeat (first|exact Drawn0.refl _|apply Drawn0.step)⟩
end Go.Proofs.YtdkjinmkallhnaaGreatDoorQ
end
section
namespace Go.Proofs.YtdkjinmkallhnaaGreatDoorQ
open Go.RowKit Go.Proofs.YtdkjinmkallhnaaGreatDoor Go.Proofs.YtdkjinmkallhnaaGreatDoorW.PrintWords Go.Proofs.YtdkjinmkallhnaaGreatDoorW.PrintLast Go.Proofs.YtdkjinmkallhnaaGreatDoorW.PrintMore
open Go.Proofs.YtdkjinmkallhnaaGreatDoorT (applyM rightT rightC Ch getL)
theorem w64 {x:Int} (h0 : -9223372036854775808≤x) (h1:x≤9223372036854775807):wrap64 x=x:=wrap_in h0 h1
theorem rdE {l:List S40} {i:Nat} (h:i<l.length):rd_T40 l (i:Int)=l[i]:=by
  unfold rd_T40
  rw [show ((i:Nat):Int).toNat=i from rfl,List.getD_eq_getElem?_getD,List.getElem?_eq_getElem h];rfl
theorem rdC {l:List S38} {i:Nat} (h:i<l.length):rd_T38 l (i:Int)=l[i]:=by
  unfold rd_T38
  rw [show ((i:Nat):Int).toNat=i from rfl,List.getD_eq_getElem?_getD,List.getElem?_eq_getElem h];rfl
def enTot (x:S40):Nat:=x.f0.size + x.f1.f5.size + x.f1.f6.size + x.f1.f9.size
def chTot (x:S38):Nat:=x.f0.size + x.f2.f5.size + x.f2.f6.size + x.f2.f9.size
def SzE (l:List S40):Prop:=∀ x ∈ l,enTot x≤562949953404928
def SzC (l:List S38):Prop:=∀ x ∈ l,chTot x≤562949953404928
def totE (l:List S40):Nat:=(l.map enTot).sum
def totC (l:List S38):Nat:=(l.map chTot).sum
theorem totE_snoc (l:List S40) (x:S40):totE (l ++ [x])=totE l + enTot x:=by simp [totE]
theorem totC_snoc (l:List S38) (x:S38):totC (l ++ [x])=totC l + chTot x:=by simp [totC]
theorem totE_mem:∀ (l:List S40) {x:S40},x ∈ l→enTot x≤totE l
  | y :: r,x,h=>by
    have e:totE (y :: r)=enTot y + totE r:=by simp [totE]
    rcases List.mem_cons.1 h with h|h
    · rw [e,h];omega
    · have:=totE_mem r h;omega
theorem totC_mem:∀ (l:List S38) {x:S38},x ∈ l→chTot x≤totC l
  | y :: r,x,h=>by
    have e:totC (y :: r)=chTot y + totC r:=by simp [totC]
    rcases List.mem_cons.1 h with h|h
    · rw [e,h];omega
    · have:=totC_mem r h;omega
theorem few09_l (l:List S40) (hs:SzE l) (hn:l.length≤1000000000000000):∀ d i (z:Int),i + d=l.length→(i≤30→∃ s:Nat,z=(s:Int)∧s=totE (l.take i)∧s≤i * 562949953404928) →
    ∃ b,Ev (fun k=>onionskinlaw09_Few.l0 k l z i) b∧(b=true→l.length≤30∧totE l≤12000):=by
  intro d
  induction d with
  | zero =>
    intro i z hi hz
    refine ⟨decide (l.length≤30∧z≤12000),Ev.step (f:=fun _=>some (decide (l.length≤30∧z≤12000))) (fun k=>?_) (Ev.now _),fun hb=>?_⟩
    · simp only [onionskinlaw09_Few.l0]
      rw [if_neg (by omega)]
      by_cases h:l.length≤30
      · rw [if_pos (by omega)];simp [h]
      · rw [if_neg (by omega)];simp [h]
    · have hb:=of_decide_eq_true hb
      obtain ⟨s,h1,h2,_⟩:=hz (by omega)
      rw [List.take_of_length_le (by omega)] at h2
      exact ⟨hb.1,by omega⟩
  | succ d ih =>
    intro i z hi hz
    have hlt:i<l.length:=by omega
    obtain ⟨z',hz'⟩:∃ z',z'=(wrap64 ((wrap64 ((wrap64 ((wrap64 (z + (((rd_T40 l i).f0).size:Int))) + (((rd_T40 l i).f1.f5).size:Int))) + (((rd_T40 l i).f1.f6).size:Int))) + (((rd_T40 l i).f1.f9).size:Int))):=⟨_,rfl⟩
    obtain ⟨b,e,hb⟩:=ih (i + 1) z' (by omega) (fun h30=>by
      obtain ⟨s,h1,h2,h3⟩:=hz (by omega)
      have hx:=hs _ (List.getElem_mem hlt)
      refine ⟨s + enTot l[i],?_,?_,by omega⟩
      · rw [hz',rdE hlt]
        unfold enTot at hx ⊢
        rw [w64 (x:=z + (l[i].f0.size:Int)) (by omega) (by omega),w64 (x:=z + (l[i].f0.size:Int) + (l[i].f1.f5.size:Int)) (by omega) (by omega),w64 (x:=z + (l[i].f0.size:Int) + (l[i].f1.f5.size:Int) + (l[i].f1.f6.size:Int)) (by omega) (by omega),w64 (by omega) (by omega)]
        omega
      · rw [List.take_succ_eq_append_getElem hlt,totE_snoc,h2])
    refine ⟨b,Ev.step (fun k=>?_) e,hb⟩
    simp only [onionskinlaw09_Few.l0]
    rw [if_pos (by omega),if_pos (by omega),← hz',w64 (by omega) (by omega)]
    rfl
theorem few09_ev (l:List S40) (hs:SzE l) (hn:l.length≤1000000000000000):∃ b,Ev (fun k=>onionskinlaw09_Few.f k l) b∧(b=true→l.length≤30∧totE l≤12000) :=
  few09_l l hs hn l.length 0 0 (by omega) (fun _=>⟨0,rfl,by simp [totE],by omega⟩)
theorem few16_l (l:List S38) (hs:SzC l) (hn:l.length≤1000000000000000):∀ d i (z:Int),i + d=l.length→(i≤30→∃ s:Nat,z=(s:Int)∧s=totC (l.take i)∧s≤i * 562949953404928) →
    ∃ b,Ev (fun k=>onionskinlaw16_Few.l0 k l z i) b∧(b=true→l.length≤30∧totC l≤6000):=by
  intro d
  induction d with
  | zero =>
    intro i z hi hz
    refine ⟨decide (l.length≤30∧z≤6000),Ev.step (f:=fun _=>some (decide (l.length≤30∧z≤6000))) (fun k=>?_) (Ev.now _),fun hb=>?_⟩
    · simp only [onionskinlaw16_Few.l0]
      rw [if_neg (by omega)]
      by_cases h:l.length≤30
      · rw [if_pos (by omega)];simp [h]
      · rw [if_neg (by omega)];simp [h]
    · have hb:=of_decide_eq_true hb
      obtain ⟨s,h1,h2,_⟩:=hz (by omega)
      rw [List.take_of_length_le (by omega)] at h2
      exact ⟨hb.1,by omega⟩
  | succ d ih =>
    intro i z hi hz
    have hlt:i<l.length:=by omega
    obtain ⟨z',hz'⟩:∃ z',z'=(wrap64 ((wrap64 ((wrap64 ((wrap64 (z + (((rd_T38 l i).f0).size:Int))) + (((rd_T38 l i).f2.f5).size:Int))) + (((rd_T38 l i).f2.f6).size:Int))) + (((rd_T38 l i).f2.f9).size:Int))):=⟨_,rfl⟩
    obtain ⟨b,e,hb⟩:=ih (i + 1) z' (by omega) (fun h30=>by
      obtain ⟨s,h1,h2,h3⟩:=hz (by omega)
      have hx:=hs _ (List.getElem_mem hlt)
      refine ⟨s + chTot l[i],?_,?_,by omega⟩
      · rw [hz',rdC hlt]
        unfold chTot at hx ⊢
        rw [w64 (x:=z + (l[i].f0.size:Int)) (by omega) (by omega),w64 (x:=z + (l[i].f0.size:Int) + (l[i].f2.f5.size:Int)) (by omega) (by omega),w64 (x:=z + (l[i].f0.size:Int) + (l[i].f2.f5.size:Int) + (l[i].f2.f6.size:Int)) (by omega) (by omega),w64 (by omega) (by omega)]
        omega
      · rw [List.take_succ_eq_append_getElem hlt,totC_snoc,h2])
    refine ⟨b,Ev.step (fun k=>?_) e,hb⟩
    simp only [onionskinlaw16_Few.l0]
    rw [if_pos (by omega),if_pos (by omega),← hz',w64 (by omega) (by omega)]
    rfl
theorem few16_ev (l:List S38) (hs:SzC l) (hn:l.length≤1000000000000000):∃ b,Ev (fun k=>onionskinlaw16_Few.f k l) b∧(b=true→l.length≤30∧totC l≤6000) :=
  few16_l l hs hn l.length 0 0 (by omega) (fun _=>⟨0,rfl,by simp [totC],by omega⟩)
theorem fitsE_of {l:List S40} (h:l.length≤30∧totE l≤12000):rowFits' l:=by
  refine ⟨?_,by omega⟩
  unfold rowFits
  rw [List.all_eq_true]
  intro x hx
  obtain ⟨y,hy,rfl⟩:=List.mem_map.1 hx
  have:=totE_mem l hy
  unfold enTot at this
  have e1:(enOf y).1.length=y.f0.size:=by show y.f0.data.toList.length=_;rw [Array.length_toList];rfl
  have e2:(enOf y).2.attrs.length=y.f1.f9.size:=by show y.f1.f9.data.toList.length=_;rw [Array.length_toList];rfl
  unfold ndFits
  rw [e1,e2]
  simp;omega
theorem fitsC_of {l:List S38} (h:l.length≤30∧totC l≤6000):lyrFits' l:=by
  refine ⟨?_,by omega⟩
  unfold lyrFits
  rw [List.all_eq_true]
  intro x hx
  obtain ⟨y,hy,rfl⟩:=List.mem_map.1 hx
  have:=totC_mem l hy
  unfold chTot at this
  have e1:(chOf y).path.length=y.f0.size:=by show y.f0.data.toList.length=_;rw [Array.length_toList];rfl
  have e2:(chOf y).node.attrs.length=y.f2.f9.size:=by show y.f2.f9.data.toList.length=_;rw [Array.length_toList];rfl
  unfold ndFits
  rw [e1,e2]
  simp;omega
theorem ba_eq (a b:ByteArray):(a.toList == b.toList)=decide (a=b):=by
  rw [Bool.eq_iff_iff,beq_iff_eq,decide_eq_true_eq]
  constructor
  · intro h
    rw [ByteArray.toList_eq,ByteArray.toList_eq] at h
    obtain ⟨x⟩:=a;obtain ⟨y⟩:=b
    congr 1
    exact Array.toList_inj.1 h
  · rintro rfl;rfl
theorem same_l (a b:List S40) (hl:a.length=b.length) (hn:a.length≤1000000000000000) (d0:Bool) (hd0:d0=true↔a=b):∀ d i,i + d=a.length→a.take i=b.take i→Ev (fun k=>pq11.l0 k a b i) d0:=by
  intro d
  induction d with
  | zero =>
    intro i hi ht
    have:a=b:=by rwa [List.take_of_length_le (by omega),List.take_of_length_le (by omega)] at ht
    rw [hd0.2 this]
    refine Ev.step (f:=fun _=>some true) (fun k=>?_) (Ev.now _)
    simp only [pq11.l0];rw [if_neg (by omega)]
  | succ d ih =>
    intro i hi ht
    have h1:i<a.length:=by omega
    have h2:i<b.length:=by omega
    by_cases he:a[i]=b[i]
    · refine Ev.step (fun k=>?_) (ih (i + 1) (by omega) (by rw [List.take_succ_eq_append_getElem h1,List.take_succ_eq_append_getElem h2,ht,he]))
      simp only [pq11.l0,ba_eq]
      rw [rdE h1,rdE h2,he,if_pos (by omega),if_pos (by omega),if_pos (by omega),if_neg (by simp),w64 (by omega) (by omega)]
      rfl
    · have hne:d0=false:=by
        cases hd:d0 with
        | false=>rfl
        | true =>
          have:=hd0.1 hd
          subst this
          exact absurd rfl he
      rw [hne]
      refine Ev.step (f:=fun _=>some false) (fun k=>?_) (Ev.now _)
      simp only [pq11.l0,ba_eq]
      rw [rdE h1,rdE h2,if_pos (by omega),if_pos (by omega),if_pos (by omega),if_pos ?_]
      generalize a[i]=x at he
      generalize b[i]=y at he
      obtain ⟨x0,x1,x2,x3,x4,x5,x6,x7,x8,x9,x10⟩:=x
      obtain ⟨y0,y1,y2,y3,y4,y5,y6,y7,y8,y9,y10⟩:=y
      apply Classical.byContradiction
      intro hc
      apply he
      simp at hc
      obtain ⟨q0,q1,q2,q3,q4,q5,q6,q7,q8,q9,q10⟩:=hc
      subst q0;subst q1;subst q2;subst q3;subst q4;subst q5;subst q6;subst q7;subst q8;subst q9;subst q10
      rfl
theorem same_ev (a b:List S40) (hn:a.length≤1000000000000000) {d0:Bool} (hd0:d0=true↔a=b):Ev (fun k=>pq11.f k a b) d0:=by
  unfold pq11.f
  by_cases hl:a.length=b.length
  · refine Ev.congr (fun k=>?_) (same_l a b hl hn d0 hd0 a.length 0 (by omega) rfl)
    rw [if_pos (by omega)];rfl
  · have hne:d0=false:=by
      cases hd:d0 with
      | false=>rfl
      | true=>exact absurd (by rw [hd0.1 hd]) hl
    rw [hne]
    exact Ev.congr (fun k=>by rw [if_neg (by omega)]) (Ev.now _)
theorem fit_len {a:List (Str×Nd)} {t:List (Str×Nd)} {l:List (Ch Str Nd)} (h:applyM Y t l=(a,0)):a.length≤5000:=by
  obtain ⟨_,_,ha,_⟩:=YtdkjinmkallhnaaGreatDoorT.applyM_ok Y h
  exact ha.len
theorem fit_apply {t:List (Str×Nd)} {l:List (Ch Str Nd)} {a:List (Str×Nd)} (h:applyM Y t l=(a,0)) (ht:rowFits t=true) (hl:lyrFits l=true):rowFits a=true:=by
  obtain ⟨_,_,ha,_⟩:=YtdkjinmkallhnaaGreatDoorT.applyM_ok Y h
  unfold rowFits
  rw [List.all_eq_true]
  intro x hx
  have hg:=ha.srt.get (n:=x.2) hx
  have hv:=ha.srt.v x hx
  have hp:=isM_short hv
  have hn:ndFits x.2=true:=by
    by_cases hc:∃ c ∈ l,c.op=0∧c.path=x.1
    · obtain ⟨c,hc,h0,hcp⟩:=hc
      have:=YtdkjinmkallhnaaGreatDoorT.stays_put h hc h0
      rw [hcp,hg] at this
      rw [Option.some.inj this]
      exact (lyr_get hl hc).2
    · have:=YtdkjinmkallhnaaGreatDoorT.stays_had h hg (fun c hc' h=>hc ⟨c,hc',h⟩)
      have hm:=YtdkjinmkallhnaaGreatDoorT.getL_mem this
      have:=List.all_eq_true.1 ht _ hm
      simp at this
      exact this.2
  simp [hn];exact hp
theorem fits_apply {l0:List S40} {l1:List S38} {a:List (Str×Nd)} (h:applyM Y (l0.map enOf) (l1.map chOf)=(a,0)) (h0:rowFits' l0) (h1:lyrFits' l1):rowFits' (a.map ofEn) :=
  ⟨by rw [ens_back];exact fit_apply h h0.1 h1.1,by rw [List.length_map];have:=fit_len h;omega⟩
theorem apply_f {l0:List S40} {l1:List S38} (h0:rowFits' l0) (h1:lyrFits' l1):tree_Apply.f l0 l1=some ((applyM Y (l0.map enOf) (l1.map chOf)).1.map ofEn,(applyM Y (l0.map enOf) (l1.map chOf)).2):=by
  unfold tree_Apply.f;rw [if_pos ⟨h0,h1⟩]
end Go.Proofs.YtdkjinmkallhnaaGreatDoorQ
end
section
namespace Go.Proofs.YtdkjinmkallhnaaGreatDoorQ
open Go.ChangeShapes Go.WideShapes Go.ChangeAt Go.RowKit Go.WideElems Go.Proofs.YtdkjinmkallhnaaGreatDoor Go.Proofs.YtdkjinmkallhnaaGreatDoorW.PrintWords
section
variable {H:Type} {enc:TypeId×Value→H} {W:World} {base:Nat}
theorem weighs {ts:List TypeId} {ds:List (DataW H)} (h:(DataW.weightsEach Tryz.prog ts ds).all (·≤reachBytes)=true) (j:Nat) {t:TypeId} {d:DataW H} (ht:ts[j]?=some t) (hd:ds[j]?=some d):∀ n ∈ d.weights Tryz.prog t,n≤reachBytes:=fun n hn=>by
  have:=List.all_eq_true.1 h n (DataW.weights_mem_each ht hd n hn)
  simpa using this
theorem rowAt_map {α β:Type} {cells:β→List Value} {f:α→β} {k:Nat} {w:World} {a:Option Addr} {l:List α} (h:RowAt (fun x=>cells (f x)) k w a l):RowAt cells k w a (l.map f):=by
  intro i y hy
  rw [List.getElem?_map] at hy
  cases hx:l[i]? with
  | none=>rw [hx] at hy;cases hy
  | some x =>
    rw [hx] at hy
    cases hy
    exact h i x hx
instance:Inhabited S40:=⟨z40⟩
instance:Inhabited S38:=⟨z38⟩
theorem reach_is:reachBytes=140737488351232:=by decide
set_option maxRecDepth 100000 in
theorem ens_arg {v:Value} {d:DataW H} {p:List MemPlace} (hv:Value.okWide Tryz.prog W .any base 22 v) (h:DataW.Trod enc Tryz.prog W 0 (fun _=>true) true 22 v d p) (hw:∀ n ∈ d.weights Tryz.prog 22,n≤reachBytes) :
    ∃ (a:Option Addr) (l:List S40) (cap:Nat),v=.slice a l.length cap∧Kd.C k40 W a l.length l∧l.length≤cap∧SzE l∧l.length≤1000000000000000:=by
  obtain ⟨a0,len0,cap0,rfl⟩:=okWide_slice Tryz.underlying22 hv
  obtain ⟨fuel,hf⟩:=h
  obtain ⟨a,l,cap,hcs,hrow,hlc,hcm,hsz,hlen⟩:=row_open (k:=11) (cells:=fun x=>eCells (enOf x)) (sz:=enSz) Tryz.underlying22 (by kernel_rfl) (by decide) (fun _=>rfl) en_open hf
  simp [Value.cells] at hcs
  obtain ⟨rfl,rfl,rfl⟩:=hcs
  have hb:Tryz.prog.bytesOf 40=120:=by kernel_rfl
  have hl:l.length≤1000000000000000:=by
    by_cases h0:l=[]
    · rw [h0];simp
    · obtain ⟨n,h1,h2⟩:=hlen h0
      have:=hw n h1
      rw [reach_is] at this
      rw [hb] at h2
      omega
  refine ⟨a0,l,cap0,rfl,en_C (rowAt_map hrow) (by omega),hlc,fun x hx=>?_,hl⟩
  have h1:=hw _ (hsz x hx _ (.inl rfl))
  have h2:=hw _ (hsz x hx _ (.inr (.inl rfl)))
  have h3:=hw _ (hsz x hx _ (.inr (.inr (.inl rfl))))
  have h4:=hw _ (hsz x hx _ (.inr (.inr (.inr rfl))))
  rw [reach_is] at h1 h2 h3 h4
  unfold enTot
  omega
set_option maxRecDepth 100000 in
theorem chs_arg {v:Value} {d:DataW H} {p:List MemPlace} (hv:Value.okWide Tryz.prog W .any base 30 v) (h:DataW.Trod enc Tryz.prog W 0 (fun _=>true) true 30 v d p) (hw:∀ n ∈ d.weights Tryz.prog 30,n≤reachBytes) :
    ∃ (a:Option Addr) (l:List S38) (cap:Nat),v=.slice a l.length cap∧Kd.C k38 W a l.length l∧l.length≤cap∧SzC l∧l.length≤1000000000000000:=by
  obtain ⟨a0,len0,cap0,rfl⟩:=okWide_slice Tryz.underlying30 hv
  obtain ⟨fuel,hf⟩:=h
  obtain ⟨a,l,cap,hcs,hrow,hlc,hcm,hsz,hlen⟩:=row_open (k:=12) (cells:=fun x=>chCells (chOf x)) (sz:=chSz) Tryz.underlying30 (by kernel_rfl) (by decide) (fun _=>rfl) ch_open hf
  simp [Value.cells] at hcs
  obtain ⟨rfl,rfl,rfl⟩:=hcs
  have hb:Tryz.prog.bytesOf 38=128:=by kernel_rfl
  have hl:l.length≤1000000000000000:=by
    by_cases h0:l=[]
    · rw [h0];simp
    · obtain ⟨n,h1,h2⟩:=hlen h0
      have:=hw n h1
      rw [reach_is] at this
      rw [hb] at h2
      omega
  refine ⟨a0,l,cap0,rfl,ch_C (rowAt_map hrow) (by omega),hlc,fun x hx=>?_,hl⟩
  have h1:=hw _ (hsz x hx _ (.inl rfl))
  have h2:=hw _ (hsz x hx _ (.inr (.inl rfl)))
  have h3:=hw _ (hsz x hx _ (.inr (.inr (.inl rfl))))
  have h4:=hw _ (hsz x hx _ (.inr (.inr (.inr rfl))))
  rw [reach_is] at h1 h2 h3 h4
  unfold chTot
  omega
end
end Go.Proofs.YtdkjinmkallhnaaGreatDoorQ
end
section
namespace Go.Proofs.YtdkjinmkallhnaaGreatDoorQ
open Go.RowKit Go.Proofs.YtdkjinmkallhnaaGreatDoor
def onionskinlaw17_small.f:Option Bool:=some true
theorem onionskinlaw17_small.calls (r:Bool) (w:World) (hG:GL w) (h:onionskinlaw17_small.f=some r) :
    Calls Tryz.prog 15 #[] w fun e w'=>e=.returned (.bool r)∧Below w.heap.size w w':=by
  cases h
  exact small17_calls w hG
end Go.Proofs.YtdkjinmkallhnaaGreatDoorQ
end
section
namespace Go.Proofs.YtdkjinmkallhnaaGreatDoorQ
open Go.RowKit Go.Proofs.YtdkjinmkallhnaaGreatDoorW.PrintWords Go.Proofs.YtdkjinmkallhnaaGreatDoorW.PrintLast Go.Proofs.YtdkjinmkallhnaaGreatDoorW.PrintMore
open Go.Proofs.YtdkjinmkallhnaaGreatDoor (GL)
attribute [local go_sem] max2_int min2_int max_two min_two max_three min_three max_four min_four
def pq10.j0:Nat→List (S40)→List (S38)→Bool→Bool→Option (Bool)
 | 0,_,_,_,_=>none
 | k + 1,x0,x1,x5,x22=>if x22=true then (some x5) else ((tree_Apply.f x0 x1).bind fun bt847=>(if bt847.2=0 then ((tree_Apply.f bt847.1 x1).bind fun bt851=>(if x5=true then (if bt851.2=0 then ((pq11.f k bt847.1 bt851.1).bind fun t855=>(some t855)) else (some false)) else (some false))) else (some x5)))
def pq10.f (k:Nat) (l0:List (S40)) (l1:List (S38)):Option (Bool):=(onionskinlaw17_small.f).bind fun t844=>((onionskinlaw09_Few.f k l0).bind fun t845=>((onionskinlaw16_Few.f k l1).bind fun t846=>(if t845=true then (pq10.j0 k l0 l1 t844 (!t846)) else (pq10.j0 k l0 l1 t844 true))))
set_option maxHeartbeats 8000000 in
set_option maxRecDepth 100000 in
theorem pq10.calls (k:Nat) (A0:Option Addr) (c0:Nat) (l0:List (S40)) (A1:Option Addr) (c1:Nat) (l1:List (S38)) (r:Bool) (w:World) (hG:GL w) (hr0:Kd.C k40 w A0 l0.length l0) (hc0:l0.length≤c0) (hr1:Kd.C k38 w A1 l1.length l1) (hc1:l1.length≤c1) (h:pq10.f k l0 l1=some r) :
  Calls Tryz.prog 8 #[.slice A0 l0.length c0,.slice A1 l1.length c1] w fun e w'=>e=.returned (.bool r)∧Below w.heap.size w w':=by
 have HR0:=Aside0.mk hr0
 have HC0:=Aside0.mk hc0
 clear hr0 hc0
 have HR1:=Aside0.mk hr1
 have HC1:=Aside0.mk hc1
 clear hr1 hc1
 have HB:=Aside0.mk (Below.refl w.heap.size w)
 have H:((onionskinlaw17_small.f).bind fun t844=>((onionskinlaw09_Few.f k l0).bind fun t845=>((onionskinlaw16_Few.f k l1).bind fun t846=>(if t845=true then (pq10.j0 k l0 l1 t844 (!t846)) else (pq10.j0 k l0 l1 t844 true)))))=some r:=h
 clear h
 replace H:=Option.bind_eq_some_iff.mp H
 obtain ⟨t844,A30,H⟩:=H
 replace H:((onionskinlaw09_Few.f k l0).bind fun t845=>((onionskinlaw16_Few.f k l1).bind fun t846=>(if t845=true then (pq10.j0 k l0 l1 t844 (!t846)) else (pq10.j0 k l0 l1 t844 true))))=some r:=H
 have A3:=Aside0.mk A30
 clear A30
 replace H:=Option.bind_eq_some_iff.mp H
 obtain ⟨t845,A40,H⟩:=H
 replace H:((onionskinlaw16_Few.f k l1).bind fun t846=>(if t845=true then (pq10.j0 k l0 l1 t844 (!t846)) else (pq10.j0 k l0 l1 t844 true)))=some r:=H
 have A4:=Aside0.mk A40
 clear A40
 replace H:=Option.bind_eq_some_iff.mp H
 obtain ⟨t846,A50,H⟩:=H
 replace H:(if t845=true then (pq10.j0 k l0 l1 t844 (!t846)) else (pq10.j0 k l0 l1 t844 true))=some r:=H
 have A5:=Aside0.mk A50
 clear A50
 have HC6:=Aside0.mk H
 clear H
 go_enter Tryz.func8,Tryz.ntmps8
 go_upto_region 4 with (first|((with_reducible refine gate_callee (f:=15) rfl ?_);refine goesL_ (some 12) rfl rfl Tryz.func15 (by kernel_rfl) rfl #[] rfl (by (try simp only [List.map_toArray,List.map_cons,List.map_nil]);first|done|rfl|(simp only [List.length_drop,List.length_take];rfl)) ?_;(with_reducible refine (onionskinlaw17_small.calls  t844 _ (hG.ext (by repeat (first|(with_reducible first|exact HB.out|apply below_alloc|apply pw_below_drewN|apply below_drew1)|exact HB.out))) A3.out).mono ?_);rintro e w7 ⟨rfl,hb⟩;refine ⟨_,rfl,?_⟩;have n0_:=Aside0.mk (below_step (by repeat (first|(with_reducible first|exact HB.out|apply below_alloc|apply pw_below_drewN|apply below_drew1)|exact HB.out)) hb);clear HB;have HB:=n0_;clear n0_;(try clear hb);(try clear hb2);(try clear hk);(try clear hi))|((with_reducible refine gate_callee (f:=16) rfl ?_);refine goesL_ (some 14) rfl rfl Tryz.func16 (by kernel_rfl) rfl #[.slice A0 l0.length c0] rfl (by (try simp only [List.map_toArray,List.map_cons,List.map_nil]);first|done|rfl|(simp only [List.length_drop,List.length_take];rfl)) ?_;(with_reducible refine (onionskinlaw09_Few.calls k _ _ l0 t845 _ ?side1 ?side2 A4.out).mono ?_);(case side1=>repeat (first|exact (Kd.C_below HR0.out HB.out)|(with_reducible refine Kd.C_alloc ?_ _)|(with_reducible refine Kd.C_drewN ?_ _)|(with_reducible refine Kd.C_drew ?_)));(case side2=>exact HC0.out);rintro e w' ⟨rfl,⟨nd,rfl⟩⟩;refine ⟨_,rfl,?_⟩)|((with_reducible refine gate_callee (f:=21) rfl ?_);refine goesL_ (some 16) rfl rfl Tryz.func21 (by kernel_rfl) rfl #[.slice A1 l1.length c1] rfl (by (try simp only [List.map_toArray,List.map_cons,List.map_nil]);first|done|rfl|(simp only [List.length_drop,List.length_take];rfl)) ?_;(with_reducible refine (onionskinlaw16_Few.calls k _ _ l1 t846 _ ?side1 ?side2 A5.out).mono ?_);(case side1=>repeat (first|exact (Kd.C_below HR1.out (by repeat (first|(with_reducible first|exact HB.out|apply below_alloc|apply pw_below_drewN|apply below_drew1)|exact HB.out)))|(with_reducible refine Kd.C_alloc ?_ _)|(with_reducible refine Kd.C_drewN ?_ _)|(with_reducible refine Kd.C_drew ?_)));(case side2=>exact HC1.out);rintro e w' ⟨rfl,⟨nd,rfl⟩⟩;refine ⟨_,rfl,?_⟩))
 (try simp only [Act.put,List.setIfInBounds_toArray,List.set_cons_zero,List.set_cons_succ])
 go_cut [22] (fun v22 wc=>∃ (kq:Nat) (x22_5:Bool),v22=.bool x22_5∧Aside0 (pq10.j0 kq l0 l1 t844 x22_5=some r)∧Aside0 (kq≤k)∧Aside0 (Below w.heap.size w wc))
 case first =>
  have H:=HC6.out
  clear HC6
  by_cases c8:t845=true
  ·subst c8
   have H1:(pq10.j0 k l0 l1 t844 (!t846))=some r:=by rw [if_pos rfl] at H;exact H
   clear H
   have H:=H1
   clear H1
   have H':=Aside0.mk H
   clear H
   go_wp2
   go_meet
   case rel=>exact ⟨_,(!t846),(by first|rfl|(simp;done)|(simp [*];done)),H',⟨by first|omega|exact Nat.le_refl _⟩,⟨by repeat (first|(with_reducible first|exact HB.out|apply below_alloc|apply pw_below_drewN|apply below_drew1)|exact HB.out)⟩⟩
  ·replace c8:=Bool.eq_false_iff.mpr c8
   subst c8
   have H1:(pq10.j0 k l0 l1 t844 true)=some r:=by rw [if_neg (show ¬ (false=true) by decide)] at H;exact H
   clear H
   have H:=H1
   clear H1
   have H':=Aside0.mk H
   clear H
   go_wp2
   go_meet
   case rel=>exact ⟨_,(true),(by first|rfl|(simp;done)|(simp [*];done)),H',⟨by first|omega|exact Nat.le_refl _⟩,⟨by repeat (first|(with_reducible first|exact HB.out|apply below_alloc|apply pw_below_drewN|apply below_drew1)|exact HB.out)⟩⟩
 case rest =>
  clear HC6
  try clear c1;try clear c2;try clear p2;try clear c8
  obtain ⟨kq,x22_5,rfl,HA,HJ5,HB⟩:=hcut
  cases kq with
  | zero=>exact absurd HA.out (by simp [pq10.j0])
  | succ kj5 =>
   have H:=HA.out
   clear HA
   simp only [pq10.j0] at H
   by_cases c9:x22_5=true
   ·subst c9
    have H1:(some t844)=some r:=by rw [if_pos rfl] at H;exact H
    clear H
    have H:=H1
    clear H1
    obtain rfl:=Option.some.inj H
    go_wp2
    go_ret
    exact ⟨by first|rfl|(simp [errW_none,errW_some] <;> rfl)|(simp [*,errW_none,errW_some] <;> rfl),by repeat (first|(with_reducible first|exact HB.out|apply below_alloc|apply pw_below_drewN|apply below_drew1)|exact HB.out)⟩
   ·replace c9:=Bool.eq_false_iff.mpr c9
    subst c9
    have H1:((tree_Apply.f l0 l1).bind fun bt847=>(if bt847.2=0 then ((tree_Apply.f bt847.1 l1).bind fun bt851=>(if t844=true then (if bt851.2=0 then ((pq11.f kj5 bt847.1 bt851.1).bind fun t855=>(some t855)) else (some false)) else (some false))) else (some t844)))=some r:=by rw [if_neg (show ¬ (false=true) by decide)] at H;exact H
    clear H
    have H:=H1
    clear H1
    replace H:=Option.bind_eq_some_iff.mp H
    obtain ⟨⟨t847,t848⟩,A100,H⟩:=H
    replace H:(if t848=0 then ((tree_Apply.f t847 l1).bind fun bt851=>(if t844=true then (if bt851.2=0 then ((pq11.f kj5 t847 bt851.1).bind fun t855=>(some t855)) else (some false)) else (some false))) else (some t844))=some r:=H
    have A10:=Aside0.mk A100
    clear A100
    by_cases c11:t848=0
    ·rw [if_pos c11] at H
     have c11b0:(t848 == 0)=true:=beq_iff_eq.mpr c11
     have c11b1:(t848 != 0)=false:=bne_eq_false_iff_eq.mpr c11
     clear c11
     replace H:=Option.bind_eq_some_iff.mp H
     obtain ⟨⟨t851,t852⟩,A120,H⟩:=H
     replace H:(if t844=true then (if t852=0 then ((pq11.f kj5 t847 t851).bind fun t855=>(some t855)) else (some false)) else (some false))=some r:=H
     have A12:=Aside0.mk A120
     clear A120
     by_cases c13:t844=true
     ·subst c13
      have H1:(if t852=0 then ((pq11.f kj5 t847 t851).bind fun t855=>(some t855)) else (some false))=some r:=by rw [if_pos rfl] at H;exact H
      clear H
      have H:=H1
      clear H1
      by_cases c14:t852=0
      ·rw [if_pos c14] at H
       have c14b0:(t852 == 0)=true:=beq_iff_eq.mpr c14
       have c14b1:(t852 != 0)=false:=bne_eq_false_iff_eq.mpr c14
       clear c14
       replace H:=Option.bind_eq_some_iff.mp H
       obtain ⟨t855,A150,H⟩:=H
       replace H:(some t855)=some r:=H
       have A15:=Aside0.mk A150
       clear A150
       obtain rfl:=Option.some.inj H
       go_wp2_with (first|((with_reducible refine gate_callee (f:=22) rfl ?_);refine goesL_ (some 27) rfl rfl Tryz.func22 (by kernel_rfl) rfl #[.slice A0 l0.length c0,.slice A1 l1.length c1] rfl (by (try simp only [List.map_toArray,List.map_cons,List.map_nil]);first|done|rfl|(simp only [List.length_drop,List.length_take];rfl)) ?_;(with_reducible refine (tree_Apply.calls _ _ l0 _ _ l1 t847 t848 _ (hG.ext (by repeat (first|(with_reducible first|exact HB.out|apply below_alloc|apply pw_below_drewN|apply below_drew1)|exact HB.out))) ?side1 ?side2 ?side3 ?side4 A10.out).mono ?_);(case side1=>repeat (first|exact (Kd.C_below HR0.out HB.out)|(with_reducible refine Kd.C_alloc ?_ _)|(with_reducible refine Kd.C_drewN ?_ _)|(with_reducible refine Kd.C_drew ?_)));(case side2=>exact HC0.out);(case side3=>repeat (first|exact (Kd.C_below HR1.out HB.out)|(with_reducible refine Kd.C_alloc ?_ _)|(with_reducible refine Kd.C_drewN ?_ _)|(with_reducible refine Kd.C_drew ?_)));(case side4=>exact HC1.out);rintro e w16 ⟨v849,rfl,ho0,hb⟩;refine ⟨_,rfl,?_⟩;have n0_:=Aside0.mk (Kd.R_lower ho0 (below_size (by repeat (first|(with_reducible first|exact HB.out|apply below_alloc|apply pw_below_drewN|apply below_drew1)|exact HB.out))));have n1_:=Aside0.mk (below_step (by repeat (first|(with_reducible first|exact HB.out|apply below_alloc|apply pw_below_drewN|apply below_drew1)|exact HB.out)) hb);clear HB;have HO850:=n0_;have HB:=n1_;clear n0_ n1_;(try clear hb);(try clear hb2);(try clear hk);(try clear hi);(try clear ho0);obtain ⟨Ao17,co17,eo17⟩:=Kd.R_slice HO850.out;subst eo17)|((with_reducible refine gate_callee (f:=22) rfl ?_);refine goesL_ (some 36) rfl rfl Tryz.func22 (by kernel_rfl) rfl #[.slice Ao17 t847.length co17,.slice A1 l1.length c1] rfl (by (try simp only [List.map_toArray,List.map_cons,List.map_nil]);first|done|rfl|(simp only [List.length_drop,List.length_take];rfl)) ?_;(with_reducible refine (tree_Apply.calls _ _ t847 _ _ l1 t851 t852 _ (hG.ext (by repeat (first|(with_reducible first|exact HB.out|apply below_alloc|apply pw_below_drewN|apply below_drew1)|exact HB.out))) ?side1 ?side2 ?side3 ?side4 A12.out).mono ?_);(case side1=>repeat (first|exact (Kd.R_reads' HO850.out).2.2|(with_reducible refine Kd.C_alloc ?_ _)|(with_reducible refine Kd.C_drewN ?_ _)|(with_reducible refine Kd.C_drew ?_)));(case side2=>exact (Kd.R_reads' HO850.out).2.1);(case side3=>repeat (first|exact (Kd.C_below HR1.out HB.out)|(with_reducible refine Kd.C_alloc ?_ _)|(with_reducible refine Kd.C_drewN ?_ _)|(with_reducible refine Kd.C_drew ?_)));(case side4=>exact HC1.out);rintro e w18 ⟨v853,rfl,ho0,hb⟩;refine ⟨_,rfl,?_⟩;have n0_:=Aside0.mk (Kd.R_elder' (by (with_reducible repeat (first|apply Kd.R_alloc|apply Kd.R_drewN|apply Kd.R_drew));exact HO850.out) (Kd.R_base ho0) hb);have n1_:=Aside0.mk (Kd.R_lower (Kd.R_new' ho0 (Kd.R_lt (by (with_reducible repeat (first|apply Kd.R_alloc|apply Kd.R_drewN|apply Kd.R_drew));exact HO850.out))) (below_size (by repeat (first|(with_reducible first|exact HB.out|apply below_alloc|apply pw_below_drewN|apply below_drew1)|exact HB.out))));have n2_:=Aside0.mk (below_step (by repeat (first|(with_reducible first|exact HB.out|apply below_alloc|apply pw_below_drewN|apply below_drew1)|exact HB.out)) hb);clear HO850;clear HB;have HO850:=n0_;have HO854:=n1_;have HB:=n2_;clear n0_ n1_ n2_;(try clear hb);(try clear hb2);(try clear hk);(try clear hi);(try clear ho0);obtain ⟨Ao19,co19,eo19⟩:=Kd.R_slice HO854.out;subst eo19)|(go_at_call 24;(with_reducible refine (pq11.calls kj5 _ _ t847 _ _ t851 t855 _ ?side1 ?side2 ?side3 ?side4 A15.out).mono ?_);(case side1=>repeat (first|exact (Kd.R_reads' HO850.out).2.2|(with_reducible refine Kd.C_alloc ?_ _)|(with_reducible refine Kd.C_drewN ?_ _)|(with_reducible refine Kd.C_drew ?_)));(case side2=>exact (Kd.R_reads' HO850.out).2.1);(case side3=>repeat (first|exact (Kd.R_reads' HO854.out).2.2|(with_reducible refine Kd.C_alloc ?_ _)|(with_reducible refine Kd.C_drewN ?_ _)|(with_reducible refine Kd.C_drew ?_)));(case side4=>exact (Kd.R_reads' HO854.out).2.1);rintro e w' ⟨rfl,⟨nd,rfl⟩⟩))
       go_ret
       exact ⟨by first|rfl|(simp [errW_none,errW_some] <;> rfl)|(simp [*,errW_none,errW_some] <;> rfl),by repeat (first|(with_reducible first|exact HB.out|apply below_alloc|apply pw_below_drewN|apply below_drew1)|exact HB.out)⟩
      ·rw [if_neg c14] at H
       have c14b0:(t852 == 0)=false:=beq_eq_false_iff_ne.mpr c14
       have c14b1:(t852 != 0)=true:=bne_iff_ne.mpr c14
       obtain rfl:=Option.some.inj H
       go_wp2_with (first|((with_reducible refine gate_callee (f:=22) rfl ?_);refine goesL_ (some 27) rfl rfl Tryz.func22 (by kernel_rfl) rfl #[.slice A0 l0.length c0,.slice A1 l1.length c1] rfl (by (try simp only [List.map_toArray,List.map_cons,List.map_nil]);first|done|rfl|(simp only [List.length_drop,List.length_take];rfl)) ?_;(with_reducible refine (tree_Apply.calls _ _ l0 _ _ l1 t847 t848 _ (hG.ext (by repeat (first|(with_reducible first|exact HB.out|apply below_alloc|apply pw_below_drewN|apply below_drew1)|exact HB.out))) ?side1 ?side2 ?side3 ?side4 A10.out).mono ?_);(case side1=>repeat (first|exact (Kd.C_below HR0.out HB.out)|(with_reducible refine Kd.C_alloc ?_ _)|(with_reducible refine Kd.C_drewN ?_ _)|(with_reducible refine Kd.C_drew ?_)));(case side2=>exact HC0.out);(case side3=>repeat (first|exact (Kd.C_below HR1.out HB.out)|(with_reducible refine Kd.C_alloc ?_ _)|(with_reducible refine Kd.C_drewN ?_ _)|(with_reducible refine Kd.C_drew ?_)));(case side4=>exact HC1.out);rintro e w20 ⟨v849,rfl,ho0,hb⟩;refine ⟨_,rfl,?_⟩;have n0_:=Aside0.mk (Kd.R_lower ho0 (below_size (by repeat (first|(with_reducible first|exact HB.out|apply below_alloc|apply pw_below_drewN|apply below_drew1)|exact HB.out))));have n1_:=Aside0.mk (below_step (by repeat (first|(with_reducible first|exact HB.out|apply below_alloc|apply pw_below_drewN|apply below_drew1)|exact HB.out)) hb);clear HB;have HO850:=n0_;have HB:=n1_;clear n0_ n1_;(try clear hb);(try clear hb2);(try clear hk);(try clear hi);(try clear ho0);obtain ⟨Ao21,co21,eo21⟩:=Kd.R_slice HO850.out;subst eo21)|((with_reducible refine gate_callee (f:=22) rfl ?_);refine goesL_ (some 36) rfl rfl Tryz.func22 (by kernel_rfl) rfl #[.slice Ao21 t847.length co21,.slice A1 l1.length c1] rfl (by (try simp only [List.map_toArray,List.map_cons,List.map_nil]);first|done|rfl|(simp only [List.length_drop,List.length_take];rfl)) ?_;(with_reducible refine (tree_Apply.calls _ _ t847 _ _ l1 t851 t852 _ (hG.ext (by repeat (first|(with_reducible first|exact HB.out|apply below_alloc|apply pw_below_drewN|apply below_drew1)|exact HB.out))) ?side1 ?side2 ?side3 ?side4 A12.out).mono ?_);(case side1=>repeat (first|exact (Kd.R_reads' HO850.out).2.2|(with_reducible refine Kd.C_alloc ?_ _)|(with_reducible refine Kd.C_drewN ?_ _)|(with_reducible refine Kd.C_drew ?_)));(case side2=>exact (Kd.R_reads' HO850.out).2.1);(case side3=>repeat (first|exact (Kd.C_below HR1.out HB.out)|(with_reducible refine Kd.C_alloc ?_ _)|(with_reducible refine Kd.C_drewN ?_ _)|(with_reducible refine Kd.C_drew ?_)));(case side4=>exact HC1.out);rintro e w22 ⟨v853,rfl,ho0,hb⟩;refine ⟨_,rfl,?_⟩;have n0_:=Aside0.mk (Kd.R_elder' (by (with_reducible repeat (first|apply Kd.R_alloc|apply Kd.R_drewN|apply Kd.R_drew));exact HO850.out) (Kd.R_base ho0) hb);have n1_:=Aside0.mk (Kd.R_lower (Kd.R_new' ho0 (Kd.R_lt (by (with_reducible repeat (first|apply Kd.R_alloc|apply Kd.R_drewN|apply Kd.R_drew));exact HO850.out))) (below_size (by repeat (first|(with_reducible first|exact HB.out|apply below_alloc|apply pw_below_drewN|apply below_drew1)|exact HB.out))));have n2_:=Aside0.mk (below_step (by repeat (first|(with_reducible first|exact HB.out|apply below_alloc|apply pw_below_drewN|apply below_drew1)|exact HB.out)) hb);clear HO850;clear HB;have HO850:=n0_;have HO854:=n1_;have HB:=n2_;clear n0_ n1_ n2_;(try clear hb);(try clear hb2);(try clear hk);(try clear hi);(try clear ho0)))
       go_ret
       exact ⟨by first|rfl|(simp [errW_none,errW_some] <;> rfl)|(simp [*,errW_none,errW_some] <;> rfl),by repeat (first|(with_reducible first|exact HB.out|apply below_alloc|apply pw_below_drewN|apply below_drew1)|exact HB.out)⟩
     ·replace c13:=Bool.eq_false_iff.mpr c13
      subst c13
      have H1:(some false)=some r:=by rw [if_neg (show ¬ (false=true) by decide)] at H;exact H
      clear H
      have H:=H1
      clear H1
      obtain rfl:=Option.some.inj H
      go_wp2_with (first|((with_reducible refine gate_callee (f:=22) rfl ?_);refine goesL_ (some 27) rfl rfl Tryz.func22 (by kernel_rfl) rfl #[.slice A0 l0.length c0,.slice A1 l1.length c1] rfl (by (try simp only [List.map_toArray,List.map_cons,List.map_nil]);first|done|rfl|(simp only [List.length_drop,List.length_take];rfl)) ?_;(with_reducible refine (tree_Apply.calls _ _ l0 _ _ l1 t847 t848 _ (hG.ext (by repeat (first|(with_reducible first|exact HB.out|apply below_alloc|apply pw_below_drewN|apply below_drew1)|exact HB.out))) ?side1 ?side2 ?side3 ?side4 A10.out).mono ?_);(case side1=>repeat (first|exact (Kd.C_below HR0.out HB.out)|(with_reducible refine Kd.C_alloc ?_ _)|(with_reducible refine Kd.C_drewN ?_ _)|(with_reducible refine Kd.C_drew ?_)));(case side2=>exact HC0.out);(case side3=>repeat (first|exact (Kd.C_below HR1.out HB.out)|(with_reducible refine Kd.C_alloc ?_ _)|(with_reducible refine Kd.C_drewN ?_ _)|(with_reducible refine Kd.C_drew ?_)));(case side4=>exact HC1.out);rintro e w23 ⟨v849,rfl,ho0,hb⟩;refine ⟨_,rfl,?_⟩;have n0_:=Aside0.mk (Kd.R_lower ho0 (below_size (by repeat (first|(with_reducible first|exact HB.out|apply below_alloc|apply pw_below_drewN|apply below_drew1)|exact HB.out))));have n1_:=Aside0.mk (below_step (by repeat (first|(with_reducible first|exact HB.out|apply below_alloc|apply pw_below_drewN|apply below_drew1)|exact HB.out)) hb);clear HB;have HO850:=n0_;have HB:=n1_;clear n0_ n1_;(try clear hb);(try clear hb2);(try clear hk);(try clear hi);(try clear ho0);obtain ⟨Ao24,co24,eo24⟩:=Kd.R_slice HO850.out;subst eo24)|((with_reducible refine gate_callee (f:=22) rfl ?_);refine goesL_ (some 36) rfl rfl Tryz.func22 (by kernel_rfl) rfl #[.slice Ao24 t847.length co24,.slice A1 l1.length c1] rfl (by (try simp only [List.map_toArray,List.map_cons,List.map_nil]);first|done|rfl|(simp only [List.length_drop,List.length_take];rfl)) ?_;(with_reducible refine (tree_Apply.calls _ _ t847 _ _ l1 t851 t852 _ (hG.ext (by repeat (first|(with_reducible first|exact HB.out|apply below_alloc|apply pw_below_drewN|apply below_drew1)|exact HB.out))) ?side1 ?side2 ?side3 ?side4 A12.out).mono ?_);(case side1=>repeat (first|exact (Kd.R_reads' HO850.out).2.2|(with_reducible refine Kd.C_alloc ?_ _)|(with_reducible refine Kd.C_drewN ?_ _)|(with_reducible refine Kd.C_drew ?_)));(case side2=>exact (Kd.R_reads' HO850.out).2.1);(case side3=>repeat (first|exact (Kd.C_below HR1.out HB.out)|(with_reducible refine Kd.C_alloc ?_ _)|(with_reducible refine Kd.C_drewN ?_ _)|(with_reducible refine Kd.C_drew ?_)));(case side4=>exact HC1.out);rintro e w25 ⟨v853,rfl,ho0,hb⟩;refine ⟨_,rfl,?_⟩;have n0_:=Aside0.mk (Kd.R_elder' (by (with_reducible repeat (first|apply Kd.R_alloc|apply Kd.R_drewN|apply Kd.R_drew));exact HO850.out) (Kd.R_base ho0) hb);have n1_:=Aside0.mk (Kd.R_lower (Kd.R_new' ho0 (Kd.R_lt (by (with_reducible repeat (first|apply Kd.R_alloc|apply Kd.R_drewN|apply Kd.R_drew));exact HO850.out))) (below_size (by repeat (first|(with_reducible first|exact HB.out|apply below_alloc|apply pw_below_drewN|apply below_drew1)|exact HB.out))));have n2_:=Aside0.mk (below_step (by repeat (first|(with_reducible first|exact HB.out|apply below_alloc|apply pw_below_drewN|apply below_drew1)|exact HB.out)) hb);clear HO850;clear HB;have HO850:=n0_;have HO854:=n1_;have HB:=n2_;clear n0_ n1_ n2_;(try clear hb);(try clear hb2);(try clear hk);(try clear hi);(try clear ho0)))
      go_ret
      exact ⟨by first|rfl|(simp [errW_none,errW_some] <;> rfl)|(simp [*,errW_none,errW_some] <;> rfl),by repeat (first|(with_reducible first|exact HB.out|apply below_alloc|apply pw_below_drewN|apply below_drew1)|exact HB.out)⟩
    ·rw [if_neg c11] at H
     have c11b0:(t848 == 0)=false:=beq_eq_false_iff_ne.mpr c11
     have c11b1:(t848 != 0)=true:=bne_iff_ne.mpr c11
     obtain rfl:=Option.some.inj H
     go_wp2_with (first|((with_reducible refine gate_callee (f:=22) rfl ?_);refine goesL_ (some 27) rfl rfl Tryz.func22 (by kernel_rfl) rfl #[.slice A0 l0.length c0,.slice A1 l1.length c1] rfl (by (try simp only [List.map_toArray,List.map_cons,List.map_nil]);first|done|rfl|(simp only [List.length_drop,List.length_take];rfl)) ?_;(with_reducible refine (tree_Apply.calls _ _ l0 _ _ l1 t847 t848 _ (hG.ext (by repeat (first|(with_reducible first|exact HB.out|apply below_alloc|apply pw_below_drewN|apply below_drew1)|exact HB.out))) ?side1 ?side2 ?side3 ?side4 A10.out).mono ?_);(case side1=>repeat (first|exact (Kd.C_below HR0.out HB.out)|(with_reducible refine Kd.C_alloc ?_ _)|(with_reducible refine Kd.C_drewN ?_ _)|(with_reducible refine Kd.C_drew ?_)));(case side2=>exact HC0.out);(case side3=>repeat (first|exact (Kd.C_below HR1.out HB.out)|(with_reducible refine Kd.C_alloc ?_ _)|(with_reducible refine Kd.C_drewN ?_ _)|(with_reducible refine Kd.C_drew ?_)));(case side4=>exact HC1.out);rintro e w26 ⟨v849,rfl,ho0,hb⟩;refine ⟨_,rfl,?_⟩;have n0_:=Aside0.mk (Kd.R_lower ho0 (below_size (by repeat (first|(with_reducible first|exact HB.out|apply below_alloc|apply pw_below_drewN|apply below_drew1)|exact HB.out))));have n1_:=Aside0.mk (below_step (by repeat (first|(with_reducible first|exact HB.out|apply below_alloc|apply pw_below_drewN|apply below_drew1)|exact HB.out)) hb);clear HB;have HO850:=n0_;have HB:=n1_;clear n0_ n1_;(try clear hb);(try clear hb2);(try clear hk);(try clear hi);(try clear ho0)))
     go_ret
     exact ⟨by first|rfl|(simp [errW_none,errW_some] <;> rfl)|(simp [*,errW_none,errW_some] <;> rfl),by repeat (first|(with_reducible first|exact HB.out|apply below_alloc|apply pw_below_drewN|apply below_drew1)|exact HB.out)⟩
end Go.Proofs.YtdkjinmkallhnaaGreatDoorQ
end
section
namespace Go.Proofs.YtdkjinmkallhnaaGreatDoorQ
open Go.RowKit Go.Proofs.YtdkjinmkallhnaaGreatDoor Go.Proofs.YtdkjinmkallhnaaGreatDoorW.PrintWords Go.Proofs.YtdkjinmkallhnaaGreatDoorW.PrintLast Go.Proofs.YtdkjinmkallhnaaGreatDoorW.PrintMore
open Go.Proofs.YtdkjinmkallhnaaGreatDoorT (applyM rightT rightC Ch getL)
theorem treeTwice_f (l0:List S40) (l1:List S38) (h0:SzE l0) (h1:SzC l1) (n0:l0.length≤1000000000000000) (n1:l1.length≤1000000000000000):∃ k,pq10.f k l0 l1=some true:=by
  obtain ⟨b0,e0,q0⟩:=few09_ev l0 h0 n0
  obtain ⟨b1,e1,q1⟩:=few16_ev l1 h1 n1
  refine Ev.rounds ?_
  unfold pq10.f onionskinlaw17_small.f
  simp only [Option.bind_some]
  refine Ev.bind e0 (Ev.bind e1 ?_)
  have end0:∀ b,Ev (fun k=>pq10.j0 k l0 l1 b true) b:=fun b=>Ev.step (f:=fun _=>some b) (fun k=>by simp only [pq10.j0];rw [if_pos trivial]) (Ev.now _)
  cases b0 with
  | false=>exact Ev.congr (fun k=>by rw [if_neg (by decide)]) (end0 true)
  | true =>
    cases b1 with
    | false=>exact Ev.congr (fun k=>by rw [if_pos rfl];rfl) (end0 true)
    | true =>
      have f0:=fitsE_of (q0 rfl)
      have f1:=fitsC_of (q1 rfl)
      refine Ev.congr (f:=fun k=>pq10.j0 k l0 l1 true false) (fun k=>by rw [if_pos rfl];rfl) ?_
      obtain ⟨a,e,hae⟩:∃ a e,applyM Y (l0.map enOf) (l1.map chOf)=(a,e):=⟨_,_,rfl⟩
      by_cases he:e=0
      · subst he
        have ha:=fits_apply hae f0 f1
        have h2:=YtdkjinmkallhnaaGreatDoorT.twice hae
        refine Ev.step (f:=fun k=>(pq11.f k (a.map ofEn) (a.map ofEn)).bind fun t=>some t) (fun k=>?_) (Ev.bind (same_ev _ _ (by have:=ha.2;omega) (d0:=true) (by simp)) (Ev.now _))
        simp only [pq10.j0]
        rw [if_neg (by decide),apply_f f0 f1,hae]
        simp only [Option.bind_some]
        rw [if_pos trivial,apply_f ha f1,ens_back,h2]
        simp only [Option.bind_some]
        rw [if_pos trivial,if_pos trivial]
      · refine Ev.step (f:=fun _=>some true) (fun k=>?_) (Ev.now _)
        simp only [pq10.j0]
        rw [if_neg (by decide),apply_f f0 f1,hae]
        simp only [Option.bind_some]
        rw [if_neg he]
end Go.Proofs.YtdkjinmkallhnaaGreatDoorQ
end
