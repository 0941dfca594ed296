/- A part of a proof of DiffBothCardSaid of this seat: what its walks and its laws lean on; joined by a program of this repo (wip/pack.py) out of the texts XMRight, QTreePlain, XNode2, XBox, XDraw, XNd1, XNd2, XNd3, XNd4, Mod8, XTree1, XCRight, XApp1, QEq28, XCRW, XApp2, XTree, XSm17a, XGet, XSm17b, XArgs, XHd, QOnionskinlaw09Few, QOnionskinlaw16Few, QEq32, QOnionskinref08Same, XEnt, XArgs2. -/
import Derived.Below
import Derived.Carry
import Derived.ChangeSame
import Derived.Deep.DeepHandedRow
import Derived.Deep.DeepWitnessRowRef
import Derived.Deep.LoopGhost
import Derived.Deep.MidRow
import Derived.Deep.Slices
import Derived.Ground.GgzProg
import Derived.Ground.SlsfProg
import Derived.IntWalk
import Derived.Laws.IdiomRangeMap
import Derived.Lib.LaidTab
import Derived.Lib.OwnBridge
import Derived.Lib.SlMapFilter
import Derived.Maps.OwnSet
import Derived.Maps.RangeWalk
import Derived.OpenShut
import Derived.ProofKit
import Derived.Shelf.SlGeneric
import Derived.Shelf.SlIter.Collect
import Derived.Shelf.SlSortCmp.NoneTotal
import Derived.Shelf.SlSortCmp.Whole1
import Derived.Shelf.Vars
import Derived.SizedLaws
import Derived.Sort.KeysCollected
import Derived.Sort.MapsRangeIn
import Derived.Stop.LaidErr
import Derived.Test.YtjghikkboekonaaGreatDoorCards
import Derived.Test.YtjghikkboekonaaGreatDoorProg
import Derived.Test.YtjghikkboekonaaGreatDoorTie
import Derived.Test.YtjghikkboekonaaGreatDoorKAA
import Derived.Test.YtjghikkboekonaaGreatDoorKAB
import Derived.Test.YtjghikkboekonaaGreatDoorKAC
import Derived.Test.YtjghikkboekonaaGreatDoorKAD
import Derived.Test.YtjghikkboekonaaGreatDoorKAE
import Derived.Test.YtjghikkboekonaaGreatDoorKAH
set_option linter.unusedSimpArgs false
set_option linter.unusedVariables false
section
namespace Go.Proofs.Zq
open Go.RowKit Go.Proofs.YtjghikkboekonaaGreatDoor Go.Proofs.Zw.PrintWords Go.Proofs.Zw.PrintLast Go.Proofs.Zw.PrintMore
theorem strange_calls (w:World) (s:Str):Calls Tryz.prog 95 #[.string (B s)] w fun e w'=>e=.returned (.bool (strangeM s))∧Below w.heap.size w w' :=
 (mktar_strange.calls (B s) _ w (strange_f s)).mono fun _ _ ⟨h,hd⟩=>⟨h,hd.below⟩
theorem number_calls (w:World) (n:Int):Calls Tryz.prog 96 #[.int .i64 n] w fun e w'=>e=.returned (.bool (numberM n))∧Below w.heap.size w w' :=
 (mktar_number.calls n _ w (number_f n)).mono fun _ _ ⟨h,hd⟩=>⟨h,hd.below⟩
theorem device_calls (w:World) (n:Int):Calls Tryz.prog 97 #[.int .i64 n] w fun e w'=>e=.returned (.bool (deviceM n))∧Below w.heap.size w w' :=
 mktar_device.calls 21 n _ w (device_f n 21 (by omega))
def ndZero0:Array Value:=#[.int .i64 0,.int .i64 0,.int .i64 0,.int .i64 0,.int .i64 0,.string (⟨#[]⟩:ByteArray),.string (⟨#[]⟩:ByteArray),.int .i64 0,.int .i64 0,.string (⟨#[]⟩:ByteArray)]
def nodeA (n:Nd):Bool:=decide (0≤n.kind) && decide (n.kind<7) && decide (Go.bits .andNot .i64 n.mode 4095=0) && numberM n.uid && numberM n.gid && numberM n.mtime
def nodeB (n:Nd):Bool:=nodeA n && !strangeM n.link && deviceM n.major && deviceM n.minor && attrsOk n.attrs
def nodeC (n:Nd):Bool:=nodeB n && (decide (n.kind=2) || decide (n.kind=3) || n.link.isEmpty)
def nodeD (n:Nd):Bool:=nodeC n && (decide (n.kind=4) || decide (n.kind=5) || decide (n.major=0) && decide (n.minor=0))
structure AtN (w0 w:World) (g:Nat) (n:Nd):Prop where
 blk:w.heap[g]?=some (.cells (ndCells n).toArray 28 (0,0))
 below:Below w0.heap.size w0 w
theorem AtN.ext {w0 w w1:World} {g:Nat} {n:Nd} (h:AtN w0 w g n) (hb:Below w.heap.size w w1):AtN w0 w1 g n:=⟨blk_below h.blk hb,YtjghikkboekonaaGreatDoor.below_then h.below hb⟩
theorem AtN.at {w0 w:World} {g:Nat} {n:Nd} (h:AtN w0 w g n) (j:Nat) {v:Value} (hv:(ndCells n)[j]?=some v):w.cell? ⟨g,j,none⟩=some v:=by
 rw [YtjghikkboekonaaGreatDoor.blk_cell h.blk];simpa using hv
set_option maxRecDepth 100000 in
set_option maxHeartbeats 1000000 in
theorem right_calls (w:World) (hG:GL w) (s:Str) (n:Nd) (ha:n.attrs.length≤10000000) :
  Calls Tryz.prog 65 #[.agg (eCells (s,n)).toArray] w fun e w'=>e=.returned (.int .i64 (rtM s n))∧Below w.heap.size w w':=by
 have HAT:=Lib.hid ha
 clear ha
 have HU:=Lib.hid Tryz.underlying28
 go_enter Tryz.func65,Tryz.ntmps65
 go_upto_region 2 with (first|((with_reducible refine gate_dst (N:=1) rfl ?_);refine box_event rfl (N:=1) rfl (cs:=(eCells (s,n)).toArray) (t:=32) (by kernel_rfl) ?_;intro g1 hg w1 hb hbl;have HB1:=Lib.hid hb;have HBL1:=Lib.hid hbl;clear hg hb hbl;go_frame)|((with_reducible refine gate_dst (N:=6) rfl ?_);refine wpList_load_mid rfl 28 _ rfl g1 1 rfl (ndCells n) _ ?hl HU.out rfl rfl ?_;(case hl=>intro j v hv;rw [YtjghikkboekonaaGreatDoor.blk_cell HB1.out];simp [eCells];rw [Nat.add_comm 1 j,List.getElem?_cons_succ];exact hv);go_frame)|((with_reducible refine gate_dst (N:=3) rfl ?_);refine box_event rfl (N:=3) rfl (cs:=ndZero0) (t:=28) ?hr ?_;(case hr=>first|(go_simp;done)|(go_simp;rfl));intro g3 hg w2 hb2 hbl2;have HB2:=Lib.hid hb2;have HBL2:=Lib.hid hbl2;have HGE3:Hid (w1.heap.size≤g3):=Lib.hid (by rw [hg];exact Nat.le_refl _);clear hg hb2 hbl2;go_frame)|((with_reducible refine gate_store (t:=28) (p:=3) rfl ?_);refine wpList_store_agg rfl rfl 28 _ _ rfl g3 (ndCells n).toArray rfl rfl 28 ndZero0 HB2.out rfl rfl (by simp [ndCells,Value.oneCell']) ?_;intro w3 hb3 hg3;have HB3:=Lib.hid hb3;have HBL3:Hid (Below w1.heap.size w1 w3):=Lib.hid (HBL2.out.grown hg3 HBL2.out.size (fun j hj=>by cases hj;exact HGE3.out));clear hb3 hg3))
 have HN:Hid (AtN w w3 g3 n):=Lib.hid ⟨HB3.out,YtjghikkboekonaaGreatDoor.below_then HBL1.out HBL3.out⟩
 have q0:w3.cell? ⟨g1,0,none⟩=some (.string (B s)):=(YtjghikkboekonaaGreatDoor.blk_cell (blk_below HB1.out HBL3.out) 0).trans (by simp [eCells])
 clear HB1 HB2 HB3 HBL1 HBL2 HBL3 HGE3
 by_cases hs:s=[]
 ·subst hs
  go_wp2_with fail
  go_ret
  exact ⟨rfl,HN.out.below⟩
 have hse:s.isEmpty=false:=by cases s with|nil=>exact absurd rfl hs|cons _ _=>rfl
 clear hs
 go_wp2_with fail
 refine (strange_calls w3 s).mono ?_
 rintro e w4 ⟨rfl,hb⟩
 have HN4:=Lib.hid (HN.out.ext hb)
 clear hb q0 HN
 cases hst:strangeM s with
 | true =>
  have HR:Hid (rtM s n=9):=Lib.hid (by unfold rtM;rw [hst,Bool.or_true];rfl)
  go_wp2_with fail
  go_ret
  exact ⟨by rw [HR.out];rfl,HN4.out.below⟩
 | false =>
 have HR:Hid (rtM s n=if nodeD n && (decide (n.kind=0) || n.data.isEmpty) then 0 else 1):=Lib.hid (by
  unfold rtM nodeD nodeC nodeB nodeA nodeOk
  rw [hst,hse]
  simp [Bool.and_assoc])
 have c0:=HN4.out.at 0 (v:=.int .i64 n.kind) rfl
 have c1:=HN4.out.at 1 (v:=.int .i64 n.mode) rfl
 have c2:=HN4.out.at 2 (v:=.int .i64 n.uid) rfl
 have c3:=HN4.out.at 3 (v:=.int .i64 n.gid) rfl
 have c4:=HN4.out.at 4 (v:=.int .i64 n.mtime) rfl
 have c5:=HN4.out.at 5 (v:=.string (B n.link)) rfl
 have c6:=HN4.out.at 6 (v:=.string (B n.data)) rfl
 have c7:=HN4.out.at 7 (v:=.int .i64 n.major) rfl
 have c8:=HN4.out.at 8 (v:=.int .i64 n.minor) rfl
 have c9:=HN4.out.at 9 (v:=.string (B n.attrs)) rfl
 go_upto_region 4 with (fail)
 clear hse
 go_cut [4] (fun v4 wc=>v4=.bool (nodeA n)∧Hid (AtN w wc g3 n))
 case first =>
  cases h1:decide (0≤n.kind) with
  | false =>
   have HV:Hid (nodeA n=false):=Lib.hid (by unfold nodeA;simp [h1])
   go_wp2_with fail
   go_meet
   exact ⟨by rw [HV.out],HN4⟩
  | true =>
  cases h2:decide (n.kind<7) with
  | false =>
   have HV:Hid (nodeA n=false):=Lib.hid (by unfold nodeA;simp [h2])
   go_wp2_with fail
   go_meet
   exact ⟨by rw [HV.out],HN4⟩
  | true =>
  cases h3:(Go.bits .andNot .i64 n.mode 4095 == 0) with
  | false =>
   have h3':¬ Go.bits .andNot .i64 n.mode 4095=0:=by simpa using h3
   have HV:Hid (nodeA n=false):=Lib.hid (by unfold nodeA;simp [h3'])
   go_wp2_with fail
   go_meet
   exact ⟨by rw [HV.out],HN4⟩
  | true =>
  have h3':Go.bits .andNot .i64 n.mode 4095=0:=by simpa using h3
  have H3:=Lib.hid h3'
  clear h3'
  go_wp2_with fail
  refine (number_calls _ n.uid).mono ?_
  rintro e w5 ⟨rfl,hb⟩
  have HN5:=Lib.hid (HN4.out.ext hb)
  clear hb c0 c1 c2 c3 c4 c5 c6 c7 c8 c9
  have c0:=HN5.out.at 0 (v:=.int .i64 n.kind) rfl
  have c1:=HN5.out.at 1 (v:=.int .i64 n.mode) rfl
  have c2:=HN5.out.at 2 (v:=.int .i64 n.uid) rfl
  have c3:=HN5.out.at 3 (v:=.int .i64 n.gid) rfl
  have c4:=HN5.out.at 4 (v:=.int .i64 n.mtime) rfl
  have c5:=HN5.out.at 5 (v:=.string (B n.link)) rfl
  have c6:=HN5.out.at 6 (v:=.string (B n.data)) rfl
  have c7:=HN5.out.at 7 (v:=.int .i64 n.major) rfl
  have c8:=HN5.out.at 8 (v:=.int .i64 n.minor) rfl
  have c9:=HN5.out.at 9 (v:=.string (B n.attrs)) rfl
  cases h4:numberM n.uid with
  | false =>
   have HV:Hid (nodeA n=false):=Lib.hid (by unfold nodeA;simp [h4])
   go_wp2_with fail
   go_meet
   exact ⟨by rw [HV.out],HN5⟩
  | true =>
  go_wp2_with fail
  refine (number_calls _ n.gid).mono ?_
  rintro e w6 ⟨rfl,hb⟩
  have HN6:=Lib.hid (HN5.out.ext hb)
  clear hb c0 c1 c2 c3 c4 c5 c6 c7 c8 c9
  have c0:=HN6.out.at 0 (v:=.int .i64 n.kind) rfl
  have c1:=HN6.out.at 1 (v:=.int .i64 n.mode) rfl
  have c2:=HN6.out.at 2 (v:=.int .i64 n.uid) rfl
  have c3:=HN6.out.at 3 (v:=.int .i64 n.gid) rfl
  have c4:=HN6.out.at 4 (v:=.int .i64 n.mtime) rfl
  have c5:=HN6.out.at 5 (v:=.string (B n.link)) rfl
  have c6:=HN6.out.at 6 (v:=.string (B n.data)) rfl
  have c7:=HN6.out.at 7 (v:=.int .i64 n.major) rfl
  have c8:=HN6.out.at 8 (v:=.int .i64 n.minor) rfl
  have c9:=HN6.out.at 9 (v:=.string (B n.attrs)) rfl
  cases h5:numberM n.gid with
  | false =>
   have HV:Hid (nodeA n=false):=Lib.hid (by unfold nodeA;simp [h5])
   go_wp2_with fail
   go_meet
   exact ⟨by rw [HV.out],HN6⟩
  | true =>
  go_wp2_with fail
  refine (number_calls _ n.mtime).mono ?_
  rintro e w7 ⟨rfl,hb⟩
  have HN7:=Lib.hid (HN6.out.ext hb)
  clear hb c0 c1 c2 c3 c4 c5 c6 c7 c8 c9
  have c0:=HN7.out.at 0 (v:=.int .i64 n.kind) rfl
  have c1:=HN7.out.at 1 (v:=.int .i64 n.mode) rfl
  have c2:=HN7.out.at 2 (v:=.int .i64 n.uid) rfl
  have c3:=HN7.out.at 3 (v:=.int .i64 n.gid) rfl
  have c4:=HN7.out.at 4 (v:=.int .i64 n.mtime) rfl
  have c5:=HN7.out.at 5 (v:=.string (B n.link)) rfl
  have c6:=HN7.out.at 6 (v:=.string (B n.data)) rfl
  have c7:=HN7.out.at 7 (v:=.int .i64 n.major) rfl
  have c8:=HN7.out.at 8 (v:=.int .i64 n.minor) rfl
  have c9:=HN7.out.at 9 (v:=.string (B n.attrs)) rfl
  have HV:Hid (nodeA n=numberM n.mtime):=Lib.hid (by unfold nodeA;rw [h1,h2,decide_eq_true H3.out,h4,h5];simp)
  go_wp2_with fail
  go_meet
  exact ⟨by rw [HV.out],HN7⟩
 case rest =>
 clear c0 c1 c2 c3 c4 c5 c6 c7 c8 c9 HN4
 obtain ⟨rfl,HN4⟩:=hcut
 have c0:=HN4.out.at 0 (v:=.int .i64 n.kind) rfl
 have c1:=HN4.out.at 1 (v:=.int .i64 n.mode) rfl
 have c2:=HN4.out.at 2 (v:=.int .i64 n.uid) rfl
 have c3:=HN4.out.at 3 (v:=.int .i64 n.gid) rfl
 have c4:=HN4.out.at 4 (v:=.int .i64 n.mtime) rfl
 have c5:=HN4.out.at 5 (v:=.string (B n.link)) rfl
 have c6:=HN4.out.at 6 (v:=.string (B n.data)) rfl
 have c7:=HN4.out.at 7 (v:=.int .i64 n.major) rfl
 have c8:=HN4.out.at 8 (v:=.int .i64 n.minor) rfl
 have c9:=HN4.out.at 9 (v:=.string (B n.attrs)) rfl
 go_upto_region 5 with (fail)
 go_cut [4] (fun v4 wc=>v4=.bool (nodeB n)∧Hid (AtN w wc g3 n))
 case first =>
  cases ha:nodeA n with
  | false =>
   have HV:Hid (nodeB n=false):=Lib.hid (by unfold nodeB;simp [ha])
   go_wp2_with fail
   go_meet
   exact ⟨by rw [HV.out],HN4⟩
  | true =>
  go_wp2_with fail
  refine (strange_calls _ n.link).mono ?_
  rintro e w5 ⟨rfl,hb⟩
  have HN5:=Lib.hid (HN4.out.ext hb)
  clear hb c0 c1 c2 c3 c4 c5 c6 c7 c8 c9
  have c0:=HN5.out.at 0 (v:=.int .i64 n.kind) rfl
  have c1:=HN5.out.at 1 (v:=.int .i64 n.mode) rfl
  have c2:=HN5.out.at 2 (v:=.int .i64 n.uid) rfl
  have c3:=HN5.out.at 3 (v:=.int .i64 n.gid) rfl
  have c4:=HN5.out.at 4 (v:=.int .i64 n.mtime) rfl
  have c5:=HN5.out.at 5 (v:=.string (B n.link)) rfl
  have c6:=HN5.out.at 6 (v:=.string (B n.data)) rfl
  have c7:=HN5.out.at 7 (v:=.int .i64 n.major) rfl
  have c8:=HN5.out.at 8 (v:=.int .i64 n.minor) rfl
  have c9:=HN5.out.at 9 (v:=.string (B n.attrs)) rfl
  cases h4:strangeM n.link with
  | true =>
   have HV:Hid (nodeB n=false):=Lib.hid (by unfold nodeB;simp [h4])
   go_wp2_with fail
   go_meet
   exact ⟨by rw [HV.out],HN5⟩
  | false =>
  go_wp2_with fail
  refine (device_calls _ n.major).mono ?_
  rintro e w6 ⟨rfl,hb⟩
  have HN6:=Lib.hid (HN5.out.ext hb)
  clear hb c0 c1 c2 c3 c4 c5 c6 c7 c8 c9
  have c0:=HN6.out.at 0 (v:=.int .i64 n.kind) rfl
  have c1:=HN6.out.at 1 (v:=.int .i64 n.mode) rfl
  have c2:=HN6.out.at 2 (v:=.int .i64 n.uid) rfl
  have c3:=HN6.out.at 3 (v:=.int .i64 n.gid) rfl
  have c4:=HN6.out.at 4 (v:=.int .i64 n.mtime) rfl
  have c5:=HN6.out.at 5 (v:=.string (B n.link)) rfl
  have c6:=HN6.out.at 6 (v:=.string (B n.data)) rfl
  have c7:=HN6.out.at 7 (v:=.int .i64 n.major) rfl
  have c8:=HN6.out.at 8 (v:=.int .i64 n.minor) rfl
  have c9:=HN6.out.at 9 (v:=.string (B n.attrs)) rfl
  cases h5:deviceM n.major with
  | false =>
   have HV:Hid (nodeB n=false):=Lib.hid (by unfold nodeB;simp [h5])
   go_wp2_with fail
   go_meet
   exact ⟨by rw [HV.out],HN6⟩
  | true =>
  go_wp2_with fail
  refine (device_calls _ n.minor).mono ?_
  rintro e w7 ⟨rfl,hb⟩
  have HN7:=Lib.hid (HN6.out.ext hb)
  clear hb c0 c1 c2 c3 c4 c5 c6 c7 c8 c9
  have c0:=HN7.out.at 0 (v:=.int .i64 n.kind) rfl
  have c1:=HN7.out.at 1 (v:=.int .i64 n.mode) rfl
  have c2:=HN7.out.at 2 (v:=.int .i64 n.uid) rfl
  have c3:=HN7.out.at 3 (v:=.int .i64 n.gid) rfl
  have c4:=HN7.out.at 4 (v:=.int .i64 n.mtime) rfl
  have c5:=HN7.out.at 5 (v:=.string (B n.link)) rfl
  have c6:=HN7.out.at 6 (v:=.string (B n.data)) rfl
  have c7:=HN7.out.at 7 (v:=.int .i64 n.major) rfl
  have c8:=HN7.out.at 8 (v:=.int .i64 n.minor) rfl
  have c9:=HN7.out.at 9 (v:=.string (B n.attrs)) rfl
  cases h6:deviceM n.minor with
  | false =>
   have HV:Hid (nodeB n=false):=Lib.hid (by unfold nodeB;simp [h6])
   go_wp2_with fail
   go_meet
   exact ⟨by rw [HV.out],HN7⟩
  | true =>
  go_wp2_with fail
  refine (attrs_calls _ (hG.ext HN7.out.below) n.attrs HAT.out).mono ?_
  rintro e w8 ⟨rfl,hb⟩
  have HN8:=Lib.hid (HN7.out.ext hb)
  clear hb c0 c1 c2 c3 c4 c5 c6 c7 c8 c9
  have c0:=HN8.out.at 0 (v:=.int .i64 n.kind) rfl
  have c1:=HN8.out.at 1 (v:=.int .i64 n.mode) rfl
  have c2:=HN8.out.at 2 (v:=.int .i64 n.uid) rfl
  have c3:=HN8.out.at 3 (v:=.int .i64 n.gid) rfl
  have c4:=HN8.out.at 4 (v:=.int .i64 n.mtime) rfl
  have c5:=HN8.out.at 5 (v:=.string (B n.link)) rfl
  have c6:=HN8.out.at 6 (v:=.string (B n.data)) rfl
  have c7:=HN8.out.at 7 (v:=.int .i64 n.major) rfl
  have c8:=HN8.out.at 8 (v:=.int .i64 n.minor) rfl
  have c9:=HN8.out.at 9 (v:=.string (B n.attrs)) rfl
  have HV:Hid (nodeB n=attrsOk n.attrs):=Lib.hid (by unfold nodeB;rw [ha,h4,h5,h6];simp)
  go_wp2_with fail
  go_meet
  exact ⟨by rw [HV.out],HN8⟩
 case rest =>
 clear c0 c1 c2 c3 c4 c5 c6 c7 c8 c9 HN4
 obtain ⟨rfl,HN4⟩:=hcut
 have c0:=HN4.out.at 0 (v:=.int .i64 n.kind) rfl
 have c1:=HN4.out.at 1 (v:=.int .i64 n.mode) rfl
 have c2:=HN4.out.at 2 (v:=.int .i64 n.uid) rfl
 have c3:=HN4.out.at 3 (v:=.int .i64 n.gid) rfl
 have c4:=HN4.out.at 4 (v:=.int .i64 n.mtime) rfl
 have c5:=HN4.out.at 5 (v:=.string (B n.link)) rfl
 have c6:=HN4.out.at 6 (v:=.string (B n.data)) rfl
 have c7:=HN4.out.at 7 (v:=.int .i64 n.major) rfl
 have c8:=HN4.out.at 8 (v:=.int .i64 n.minor) rfl
 have c9:=HN4.out.at 9 (v:=.string (B n.attrs)) rfl
 go_upto_block 0 with (fail)
 go_cut [4] (fun v4 wc=>v4=.bool (nodeC n)∧Hid (AtN w wc g3 n))
 case first =>
  cases h1:(n.kind == 2) with
  | true =>
   have h1':n.kind=2:=by simpa using h1
   have HV:Hid (nodeC n=nodeB n):=Lib.hid (by unfold nodeC;simp [h1'])
   go_wp2_with fail
   go_meet
   exact ⟨by rw [HV.out],HN4⟩
  | false =>
  cases h2:(n.kind == 3) with
  | true =>
   have h2':n.kind=3:=by simpa using h2
   have HV:Hid (nodeC n=nodeB n):=Lib.hid (by unfold nodeC;simp [h2'])
   go_wp2_with fail
   go_meet
   exact ⟨by rw [HV.out],HN4⟩
  | false =>
  have h1':¬ n.kind=2:=by simpa using h1
  have h2':¬ n.kind=3:=by simpa using h2
  cases h3:nodeB n with
  | false =>
   have HV:Hid (nodeC n=false):=Lib.hid (by unfold nodeC;simp [h3])
   go_wp2_with fail
   go_meet
   exact ⟨by rw [HV.out],HN4⟩
  | true =>
   have HV:Hid (nodeC n=n.link.isEmpty):=Lib.hid (by unfold nodeC;simp [h1',h2',h3])
   go_wp2_with fail
   go_meet
   exact ⟨by rw [HV.out],HN4⟩
 case rest =>
 clear c0 c1 c2 c3 c4 c5 c6 c7 c8 c9 HN4
 obtain ⟨rfl,HN4⟩:=hcut
 have c0:=HN4.out.at 0 (v:=.int .i64 n.kind) rfl
 have c1:=HN4.out.at 1 (v:=.int .i64 n.mode) rfl
 have c2:=HN4.out.at 2 (v:=.int .i64 n.uid) rfl
 have c3:=HN4.out.at 3 (v:=.int .i64 n.gid) rfl
 have c4:=HN4.out.at 4 (v:=.int .i64 n.mtime) rfl
 have c5:=HN4.out.at 5 (v:=.string (B n.link)) rfl
 have c6:=HN4.out.at 6 (v:=.string (B n.data)) rfl
 have c7:=HN4.out.at 7 (v:=.int .i64 n.major) rfl
 have c8:=HN4.out.at 8 (v:=.int .i64 n.minor) rfl
 have c9:=HN4.out.at 9 (v:=.string (B n.attrs)) rfl
 go_upto_block 1 with (fail)
 go_cut [4] (fun v4 wc=>v4=.bool (nodeD n)∧Hid (AtN w wc g3 n))
 case first =>
  cases h1:(n.kind == 4) with
  | true =>
   have h1':n.kind=4:=by simpa using h1
   have HV:Hid (nodeD n=nodeC n):=Lib.hid (by unfold nodeD;simp [h1'])
   go_wp2_with fail
   go_meet
   exact ⟨by rw [HV.out],HN4⟩
  | false =>
  cases h2:(n.kind == 5) with
  | true =>
   have h2':n.kind=5:=by simpa using h2
   have HV:Hid (nodeD n=nodeC n):=Lib.hid (by unfold nodeD;simp [h2'])
   go_wp2_with fail
   go_meet
   exact ⟨by rw [HV.out],HN4⟩
  | false =>
  have h1':¬ n.kind=4:=by simpa using h1
  have h2':¬ n.kind=5:=by simpa using h2
  cases h3:nodeC n with
  | false =>
   have HV:Hid (nodeD n=false):=Lib.hid (by unfold nodeD;simp [h3])
   go_wp2_with fail
   go_meet
   exact ⟨by rw [HV.out],HN4⟩
  | true =>
  cases h4:(n.major == 0) with
  | false =>
   have h4':¬ n.major=0:=by simpa using h4
   have HV:Hid (nodeD n=false):=Lib.hid (by unfold nodeD;simp [h1',h2',h4'])
   go_wp2_with fail
   go_meet
   exact ⟨by rw [HV.out],HN4⟩
  | true =>
   have h4':n.major=0:=by simpa using h4
   have HV:Hid (nodeD n=(n.minor == 0)):=Lib.hid (by unfold nodeD;rw [h3];simp [h1',h2',h4'];rw [Bool.eq_iff_iff];simp)
   clear h1' h2' h4'
   go_wp2_with fail
   go_meet
   exact ⟨by rw [HV.out],HN4⟩
 case rest =>
 clear c0 c1 c2 c3 c4 c5 c6 c7 c8 c9 HN4
 obtain ⟨rfl,HN4⟩:=hcut
 have c0:=HN4.out.at 0 (v:=.int .i64 n.kind) rfl
 have c1:=HN4.out.at 1 (v:=.int .i64 n.mode) rfl
 have c2:=HN4.out.at 2 (v:=.int .i64 n.uid) rfl
 have c3:=HN4.out.at 3 (v:=.int .i64 n.gid) rfl
 have c4:=HN4.out.at 4 (v:=.int .i64 n.mtime) rfl
 have c5:=HN4.out.at 5 (v:=.string (B n.link)) rfl
 have c6:=HN4.out.at 6 (v:=.string (B n.data)) rfl
 have c7:=HN4.out.at 7 (v:=.int .i64 n.major) rfl
 have c8:=HN4.out.at 8 (v:=.int .i64 n.minor) rfl
 have c9:=HN4.out.at 9 (v:=.string (B n.attrs)) rfl
 cases h1:nodeD n with
 | false =>
  have HV:Hid (rtM s n=1):=Lib.hid (by rw [HR.out,h1];rfl)
  go_wp2_with fail
  go_ret
  exact ⟨by rw [HV.out];rfl,HN4.out.below⟩
 | true =>
 cases h2:(n.kind != 0) with
 | false =>
  have h2':n.kind=0:=by simpa using h2
  have HV:Hid (rtM s n=0):=Lib.hid (by rw [HR.out,h1,h2'];rfl)
  clear h2'
  go_wp2_with fail
  go_ret
  exact ⟨by rw [HV.out];rfl,HN4.out.below⟩
 | true =>
 have h2':¬ n.kind=0:=by simpa using h2
 cases h3:n.data.isEmpty with
 | true =>
  have HV:Hid (rtM s n=0):=Lib.hid (by rw [HR.out,h1,h3,Bool.or_true];rfl)
  clear h2'
  go_wp2_with fail
  go_ret
  exact ⟨by rw [HV.out];rfl,HN4.out.below⟩
 | false =>
  have HV:Hid (rtM s n=1):=Lib.hid (by rw [HR.out,h1,h3,decide_eq_false h2'];rfl)
  clear h2'
  go_wp2_with fail
  go_ret
  exact ⟨by rw [HV.out];rfl,HN4.out.below⟩
def mktar_Right.f (a0:ByteArray) (a1 a2 a3 a4 a5:Int) (a6 a7:ByteArray) (a8 a9:Int) (a10:ByteArray):Option Int:=if a10.size≤10000000 then some (rtM a0.data.toList ⟨a1,a2,a3,a4,a5,a6.data.toList,a7.data.toList,a8,a9,a10.data.toList⟩) else none
theorem mktar_Right.calls (a0:ByteArray) (a1 a2 a3 a4 a5:Int) (a6 a7:ByteArray) (a8 a9:Int) (a10:ByteArray) (r:Int) (w:World) (hG:GL w) (h:mktar_Right.f a0 a1 a2 a3 a4 a5 a6 a7 a8 a9 a10=some r) :
  Calls Tryz.prog 65 #[.agg #[.string a0,.int .i64 a1,.int .i64 a2,.int .i64 a3,.int .i64 a4,.int .i64 a5,.string a6,.string a7,.int .i64 a8,.int .i64 a9,.string a10]] w fun e w'=>e=.returned (.int .i64 r)∧Below w.heap.size w w':=by
 unfold mktar_Right.f at h
 split at h
 ·rename_i hs
  cases h
  exact right_calls w hG a0.data.toList ⟨a1,a2,a3,a4,a5,a6.data.toList,a7.data.toList,a8,a9,a10.data.toList⟩ hs
 ·cases h
end Go.Proofs.Zq
end
section
namespace Go.Proofs.Zq
open Go.RowKit Go.Proofs.Zw.PrintWords Go.Proofs.Zw.PrintLast Go.Proofs.Zw.PrintMore
open Go.Proofs.YtjghikkboekonaaGreatDoor (GL)
attribute [local go_sem] max2_int min2_int max_two min_two max_three min_three max_four min_four
def tree_plain.f (k:Nat) (a0_0:ByteArray) (a0_1:Int) (a0_2:Int) (a0_3:Int) (a0_4:Int) (a0_5:Int) (a0_6:ByteArray) (a0_7:ByteArray) (a0_8:Int) (a0_9:Int) (a0_10:ByteArray):Option (Bool):=(paths_Mark.f k a0_0).bind fun bt283=>(if bt283.2.2=true then (if bt283.1=0 then ((mktar_Right.f a0_0 a0_1 a0_2 a0_3 a0_4 a0_5 a0_6 a0_7 a0_8 a0_9 a0_10).bind fun t286=>(some (t286 == 0))) else (some false)) else (some false))
set_option maxHeartbeats 8000000 in
set_option maxRecDepth 100000 in
theorem tree_plain.calls (k:Nat) (a0_0:ByteArray) (a0_1:Int) (a0_2:Int) (a0_3:Int) (a0_4:Int) (a0_5:Int) (a0_6:ByteArray) (a0_7:ByteArray) (a0_8:Int) (a0_9:Int) (a0_10:ByteArray) (r:Bool) (w:World) (hG:GL w) (h:tree_plain.f k a0_0 a0_1 a0_2 a0_3 a0_4 a0_5 a0_6 a0_7 a0_8 a0_9 a0_10=some r) :
  Calls Tryz.prog 36 #[.agg #[.string a0_0,.int .i64 a0_1,.int .i64 a0_2,.int .i64 a0_3,.int .i64 a0_4,.int .i64 a0_5,.string a0_6,.string a0_7,.int .i64 a0_8,.int .i64 a0_9,.string a0_10]] w fun e w'=>e=.returned (.bool r)∧Below w.heap.size w w':=by
 have hu32:=Tryz.underlying32
 have HB:=pz4.mk (Below.refl w.heap.size w)
 have H:((paths_Mark.f k a0_0).bind fun bt283=>(if bt283.2.2=true then (if bt283.1=0 then ((mktar_Right.f a0_0 a0_1 a0_2 a0_3 a0_4 a0_5 a0_6 a0_7 a0_8 a0_9 a0_10).bind fun t286=>(some (t286 == 0))) else (some false)) else (some false)))=some r:=h
 clear h
 replace H:=Option.bind_eq_some_iff.mp H
 obtain ⟨⟨t283,t284,t285⟩,A20,H⟩:=H
 replace H:(if t285=true then (if t283=0 then ((mktar_Right.f a0_0 a0_1 a0_2 a0_3 a0_4 a0_5 a0_6 a0_7 a0_8 a0_9 a0_10).bind fun t286=>(some (t286 == 0))) else (some false)) else (some false))=some r:=H
 have A2:=pz4.mk A20
 clear A20
 by_cases c3:t285=true
 ·subst c3
  have H1:(if t283=0 then ((mktar_Right.f a0_0 a0_1 a0_2 a0_3 a0_4 a0_5 a0_6 a0_7 a0_8 a0_9 a0_10).bind fun t286=>(some (t286 == 0))) else (some false))=some r:=by rw [if_pos rfl] at H;exact H
  clear H
  have H:=H1
  clear H1
  by_cases c4:t283=0
  ·rw [if_pos c4] at H
   have c4b0:(t283 == 0)=true:=beq_iff_eq.mpr c4
   have c4b1:(t283 != 0)=false:=bne_eq_false_iff_eq.mpr c4
   clear c4
   replace H:=Option.bind_eq_some_iff.mp H
   obtain ⟨t286,A50,H⟩:=H
   replace H:(some (t286 == 0))=some r:=H
   have A5:=pz4.mk A50
   clear A50
   obtain rfl:=Option.some.inj H
   go_enter Tryz.func36,Tryz.ntmps36
   go_wp2_with (first|((with_reducible refine gate_dst (N:=1) rfl ?_);refine box_event ?hg (N:=1) ?hd (cs:=#[.string a0_0,.int .i64 a0_1,.int .i64 a0_2,.int .i64 a0_3,.int .i64 a0_4,.int .i64 a0_5,.string a0_6,.string a0_7,.int .i64 a0_8,.int .i64 a0_9,.string a0_10]) (t:=32) ?hr ?_;(case hd=>rfl);(case hg=>rfl);(case hr=>first|(go_simp;done)|(go_simp;rfl));intro gb282 hg w6 hbox hb;have n0_:=pz4.mk (below_step (by repeat (first|(with_reducible first|exact HB.out|apply pz3|apply pz1|apply pz2)|exact HB.out)) hb);have n1_:=pz4.mk (hbox);have n2_:=pz4.mk ((by rw [hg];exact (below_size (by repeat (first|(with_reducible first|exact HB.out|apply pz3|apply pz1|apply pz2)|exact HB.out))):w.heap.size≤gb282));have n3_:=pz4.mk ((by rw [hg];exact (below_size (by repeat (first|(with_reducible first|exact HB.out|apply pz3|apply pz1|apply pz2)|exact HB.out))):w.heap.size≤gb282));clear HB;have HB:=n0_;have BK282:=n1_;have GW282:=n2_;have GE282:=n3_;clear n0_ n1_ n2_ n3_;clear hb hbox hg;have hcz7_0:w6.cell? ⟨gb282,0,none⟩=some (.string a0_0):=(blk_cell BK282.out 0).trans rfl;have hcz7_1:w6.cell? ⟨gb282,1,none⟩=some (.int .i64 a0_1):=(blk_cell BK282.out 1).trans rfl;have hcz7_2:w6.cell? ⟨gb282,2,none⟩=some (.int .i64 a0_2):=(blk_cell BK282.out 2).trans rfl;have hcz7_3:w6.cell? ⟨gb282,3,none⟩=some (.int .i64 a0_3):=(blk_cell BK282.out 3).trans rfl;have hcz7_4:w6.cell? ⟨gb282,4,none⟩=some (.int .i64 a0_4):=(blk_cell BK282.out 4).trans rfl;have hcz7_5:w6.cell? ⟨gb282,5,none⟩=some (.int .i64 a0_5):=(blk_cell BK282.out 5).trans rfl;have hcz7_6:w6.cell? ⟨gb282,6,none⟩=some (.string a0_6):=(blk_cell BK282.out 6).trans rfl;have hcz7_7:w6.cell? ⟨gb282,7,none⟩=some (.string a0_7):=(blk_cell BK282.out 7).trans rfl;have hcz7_8:w6.cell? ⟨gb282,8,none⟩=some (.int .i64 a0_8):=(blk_cell BK282.out 8).trans rfl;have hcz7_9:w6.cell? ⟨gb282,9,none⟩=some (.int .i64 a0_9):=(blk_cell BK282.out 9).trans rfl;have hcz7_10:w6.cell? ⟨gb282,10,none⟩=some (.string a0_10):=(blk_cell BK282.out 10).trans rfl;have hfz7_0:=pz7 BK282.out 0;have hfz7_1:=pz7 BK282.out 1;have hfz7_2:=pz7 BK282.out 2;have hfz7_3:=pz7 BK282.out 3;have hfz7_4:=pz7 BK282.out 4;have hfz7_5:=pz7 BK282.out 5;have hfz7_6:=pz7 BK282.out 6;have hfz7_7:=pz7 BK282.out 7;have hfz7_8:=pz7 BK282.out 8;have hfz7_9:=pz7 BK282.out 9;have hfz7_10:=pz7 BK282.out 10)|((with_reducible refine pz8 (f:=67) rfl ?_);refine goesL_ (some 9) rfl rfl Tryz.func67 (by kernel_rfl) rfl #[.string a0_0] rfl (by (try simp only [List.map_toArray,List.map_cons,List.map_nil]);first|done|rfl|(simp only [List.length_drop,List.length_take];rfl)) ?_;(with_reducible refine (paths_Mark.calls k a0_0 t283 t284 true _ (hG.ext (by repeat (first|(with_reducible first|exact HB.out|apply pz3|apply pz1|apply pz2|refine below_set ?_ GE282.out)|exact HB.out))) A2.out).mono ?_);rintro e w8 ⟨rfl,hb⟩;refine ⟨_,rfl,?_⟩;have n0_:=pz4.mk (blk_below (g:=gb282) (o:=.cells #[.string a0_0,.int .i64 a0_1,.int .i64 a0_2,.int .i64 a0_3,.int .i64 a0_4,.int .i64 a0_5,.string a0_6,.string a0_7,.int .i64 a0_8,.int .i64 a0_9,.string a0_10] 32 (0,0)) (by (with_reducible repeat (first|refine blk_drewN ?_ _|refine blk_drew ?_|refine blk_alloc ?_ _));exact BK282.out) hb);have n1_:=pz4.mk (below_step (by repeat (first|(with_reducible first|exact HB.out|apply pz3|apply pz1|apply pz2|refine below_set ?_ GE282.out)|exact HB.out)) hb);clear BK282;clear HB;have BK282:=n0_;have HB:=n1_;clear n0_ n1_;(try clear hb);(try clear hb2);(try clear hk);(try clear hi);have hcz9_0:w8.cell? ⟨gb282,0,none⟩=some (.string a0_0):=(blk_cell BK282.out 0).trans rfl;have hcz9_1:w8.cell? ⟨gb282,1,none⟩=some (.int .i64 a0_1):=(blk_cell BK282.out 1).trans rfl;have hcz9_2:w8.cell? ⟨gb282,2,none⟩=some (.int .i64 a0_2):=(blk_cell BK282.out 2).trans rfl;have hcz9_3:w8.cell? ⟨gb282,3,none⟩=some (.int .i64 a0_3):=(blk_cell BK282.out 3).trans rfl;have hcz9_4:w8.cell? ⟨gb282,4,none⟩=some (.int .i64 a0_4):=(blk_cell BK282.out 4).trans rfl;have hcz9_5:w8.cell? ⟨gb282,5,none⟩=some (.int .i64 a0_5):=(blk_cell BK282.out 5).trans rfl;have hcz9_6:w8.cell? ⟨gb282,6,none⟩=some (.string a0_6):=(blk_cell BK282.out 6).trans rfl;have hcz9_7:w8.cell? ⟨gb282,7,none⟩=some (.string a0_7):=(blk_cell BK282.out 7).trans rfl;have hcz9_8:w8.cell? ⟨gb282,8,none⟩=some (.int .i64 a0_8):=(blk_cell BK282.out 8).trans rfl;have hcz9_9:w8.cell? ⟨gb282,9,none⟩=some (.int .i64 a0_9):=(blk_cell BK282.out 9).trans rfl;have hcz9_10:w8.cell? ⟨gb282,10,none⟩=some (.string a0_10):=(blk_cell BK282.out 10).trans rfl;have hfz9_0:=pz7 BK282.out 0;have hfz9_1:=pz7 BK282.out 1;have hfz9_2:=pz7 BK282.out 2;have hfz9_3:=pz7 BK282.out 3;have hfz9_4:=pz7 BK282.out 4;have hfz9_5:=pz7 BK282.out 5;have hfz9_6:=pz7 BK282.out 6;have hfz9_7:=pz7 BK282.out 7;have hfz9_8:=pz7 BK282.out 8;have hfz9_9:=pz7 BK282.out 9;have hfz9_10:=pz7 BK282.out 10)|(go_at_call 65;(with_reducible refine (mktar_Right.calls a0_0 a0_1 a0_2 a0_3 a0_4 a0_5 a0_6 a0_7 a0_8 a0_9 a0_10 t286 _ (hG.ext (by repeat (first|(with_reducible first|exact HB.out|apply pz3|apply pz1|apply pz2|refine below_set ?_ GE282.out)|exact HB.out))) A5.out).mono ?_);rintro e w10 ⟨rfl,hb⟩;have n0_:=pz4.mk (blk_below (g:=gb282) (o:=.cells #[.string a0_0,.int .i64 a0_1,.int .i64 a0_2,.int .i64 a0_3,.int .i64 a0_4,.int .i64 a0_5,.string a0_6,.string a0_7,.int .i64 a0_8,.int .i64 a0_9,.string a0_10] 32 (0,0)) (by (with_reducible repeat (first|refine blk_drewN ?_ _|refine blk_drew ?_|refine blk_alloc ?_ _));exact BK282.out) hb);have n1_:=pz4.mk (below_step (by repeat (first|(with_reducible first|exact HB.out|apply pz3|apply pz1|apply pz2|refine below_set ?_ GE282.out)|exact HB.out)) hb);clear BK282;clear HB;have BK282:=n0_;have HB:=n1_;clear n0_ n1_;(try clear hb);(try clear hb2);(try clear hk);(try clear hi)))
   go_ret
   exact ⟨by first|rfl|(simp [pz6,pz5] <;> rfl)|(simp [*,pz6,pz5] <;> rfl),by repeat (first|(with_reducible first|exact HB.out|apply pz3|apply pz1|apply pz2|refine below_set ?_ GE282.out)|exact HB.out)⟩
  ·rw [if_neg c4] at H
   have c4b0:(t283 == 0)=false:=beq_eq_false_iff_ne.mpr c4
   have c4b1:(t283 != 0)=true:=bne_iff_ne.mpr c4
   obtain rfl:=Option.some.inj H
   go_enter Tryz.func36,Tryz.ntmps36
   go_wp2_with (first|((with_reducible refine gate_dst (N:=1) rfl ?_);refine box_event ?hg (N:=1) ?hd (cs:=#[.string a0_0,.int .i64 a0_1,.int .i64 a0_2,.int .i64 a0_3,.int .i64 a0_4,.int .i64 a0_5,.string a0_6,.string a0_7,.int .i64 a0_8,.int .i64 a0_9,.string a0_10]) (t:=32) ?hr ?_;(case hd=>rfl);(case hg=>rfl);(case hr=>first|(go_simp;done)|(go_simp;rfl));intro gb282 hg w11 hbox hb;have n0_:=pz4.mk (below_step (by repeat (first|(with_reducible first|exact HB.out|apply pz3|apply pz1|apply pz2)|exact HB.out)) hb);have n1_:=pz4.mk (hbox);have n2_:=pz4.mk ((by rw [hg];exact (below_size (by repeat (first|(with_reducible first|exact HB.out|apply pz3|apply pz1|apply pz2)|exact HB.out))):w.heap.size≤gb282));have n3_:=pz4.mk ((by rw [hg];exact (below_size (by repeat (first|(with_reducible first|exact HB.out|apply pz3|apply pz1|apply pz2)|exact HB.out))):w.heap.size≤gb282));clear HB;have HB:=n0_;have BK282:=n1_;have GW282:=n2_;have GE282:=n3_;clear n0_ n1_ n2_ n3_;clear hb hbox hg;have hcz12_0:w11.cell? ⟨gb282,0,none⟩=some (.string a0_0):=(blk_cell BK282.out 0).trans rfl;have hcz12_1:w11.cell? ⟨gb282,1,none⟩=some (.int .i64 a0_1):=(blk_cell BK282.out 1).trans rfl;have hcz12_2:w11.cell? ⟨gb282,2,none⟩=some (.int .i64 a0_2):=(blk_cell BK282.out 2).trans rfl;have hcz12_3:w11.cell? ⟨gb282,3,none⟩=some (.int .i64 a0_3):=(blk_cell BK282.out 3).trans rfl;have hcz12_4:w11.cell? ⟨gb282,4,none⟩=some (.int .i64 a0_4):=(blk_cell BK282.out 4).trans rfl;have hcz12_5:w11.cell? ⟨gb282,5,none⟩=some (.int .i64 a0_5):=(blk_cell BK282.out 5).trans rfl;have hcz12_6:w11.cell? ⟨gb282,6,none⟩=some (.string a0_6):=(blk_cell BK282.out 6).trans rfl;have hcz12_7:w11.cell? ⟨gb282,7,none⟩=some (.string a0_7):=(blk_cell BK282.out 7).trans rfl;have hcz12_8:w11.cell? ⟨gb282,8,none⟩=some (.int .i64 a0_8):=(blk_cell BK282.out 8).trans rfl;have hcz12_9:w11.cell? ⟨gb282,9,none⟩=some (.int .i64 a0_9):=(blk_cell BK282.out 9).trans rfl;have hcz12_10:w11.cell? ⟨gb282,10,none⟩=some (.string a0_10):=(blk_cell BK282.out 10).trans rfl;have hfz12_0:=pz7 BK282.out 0;have hfz12_1:=pz7 BK282.out 1;have hfz12_2:=pz7 BK282.out 2;have hfz12_3:=pz7 BK282.out 3;have hfz12_4:=pz7 BK282.out 4;have hfz12_5:=pz7 BK282.out 5;have hfz12_6:=pz7 BK282.out 6;have hfz12_7:=pz7 BK282.out 7;have hfz12_8:=pz7 BK282.out 8;have hfz12_9:=pz7 BK282.out 9;have hfz12_10:=pz7 BK282.out 10)|((with_reducible refine pz8 (f:=67) rfl ?_);refine goesL_ (some 9) rfl rfl Tryz.func67 (by kernel_rfl) rfl #[.string a0_0] rfl (by (try simp only [List.map_toArray,List.map_cons,List.map_nil]);first|done|rfl|(simp only [List.length_drop,List.length_take];rfl)) ?_;(with_reducible refine (paths_Mark.calls k a0_0 t283 t284 true _ (hG.ext (by repeat (first|(with_reducible first|exact HB.out|apply pz3|apply pz1|apply pz2|refine below_set ?_ GE282.out)|exact HB.out))) A2.out).mono ?_);rintro e w13 ⟨rfl,hb⟩;refine ⟨_,rfl,?_⟩;have n0_:=pz4.mk (blk_below (g:=gb282) (o:=.cells #[.string a0_0,.int .i64 a0_1,.int .i64 a0_2,.int .i64 a0_3,.int .i64 a0_4,.int .i64 a0_5,.string a0_6,.string a0_7,.int .i64 a0_8,.int .i64 a0_9,.string a0_10] 32 (0,0)) (by (with_reducible repeat (first|refine blk_drewN ?_ _|refine blk_drew ?_|refine blk_alloc ?_ _));exact BK282.out) hb);have n1_:=pz4.mk (below_step (by repeat (first|(with_reducible first|exact HB.out|apply pz3|apply pz1|apply pz2|refine below_set ?_ GE282.out)|exact HB.out)) hb);clear BK282;clear HB;have BK282:=n0_;have HB:=n1_;clear n0_ n1_;(try clear hb);(try clear hb2);(try clear hk);(try clear hi)))
   go_ret
   exact ⟨by first|rfl|(simp [pz6,pz5] <;> rfl)|(simp [*,pz6,pz5] <;> rfl),by repeat (first|(with_reducible first|exact HB.out|apply pz3|apply pz1|apply pz2|refine below_set ?_ GE282.out)|exact HB.out)⟩
 ·replace c3:=Bool.eq_false_iff.mpr c3
  subst c3
  have H1:(some false)=some r:=by rw [if_neg (show ¬ (false=true) by decide)] at H;exact H
  clear H
  have H:=H1
  clear H1
  obtain rfl:=Option.some.inj H
  go_enter Tryz.func36,Tryz.ntmps36
  go_wp2_with (first|((with_reducible refine gate_dst (N:=1) rfl ?_);refine box_event ?hg (N:=1) ?hd (cs:=#[.string a0_0,.int .i64 a0_1,.int .i64 a0_2,.int .i64 a0_3,.int .i64 a0_4,.int .i64 a0_5,.string a0_6,.string a0_7,.int .i64 a0_8,.int .i64 a0_9,.string a0_10]) (t:=32) ?hr ?_;(case hd=>rfl);(case hg=>rfl);(case hr=>first|(go_simp;done)|(go_simp;rfl));intro gb282 hg w14 hbox hb;have n0_:=pz4.mk (below_step (by repeat (first|(with_reducible first|exact HB.out|apply pz3|apply pz1|apply pz2)|exact HB.out)) hb);have n1_:=pz4.mk (hbox);have n2_:=pz4.mk ((by rw [hg];exact (below_size (by repeat (first|(with_reducible first|exact HB.out|apply pz3|apply pz1|apply pz2)|exact HB.out))):w.heap.size≤gb282));have n3_:=pz4.mk ((by rw [hg];exact (below_size (by repeat (first|(with_reducible first|exact HB.out|apply pz3|apply pz1|apply pz2)|exact HB.out))):w.heap.size≤gb282));clear HB;have HB:=n0_;have BK282:=n1_;have GW282:=n2_;have GE282:=n3_;clear n0_ n1_ n2_ n3_;clear hb hbox hg;have hcz15_0:w14.cell? ⟨gb282,0,none⟩=some (.string a0_0):=(blk_cell BK282.out 0).trans rfl;have hcz15_1:w14.cell? ⟨gb282,1,none⟩=some (.int .i64 a0_1):=(blk_cell BK282.out 1).trans rfl;have hcz15_2:w14.cell? ⟨gb282,2,none⟩=some (.int .i64 a0_2):=(blk_cell BK282.out 2).trans rfl;have hcz15_3:w14.cell? ⟨gb282,3,none⟩=some (.int .i64 a0_3):=(blk_cell BK282.out 3).trans rfl;have hcz15_4:w14.cell? ⟨gb282,4,none⟩=some (.int .i64 a0_4):=(blk_cell BK282.out 4).trans rfl;have hcz15_5:w14.cell? ⟨gb282,5,none⟩=some (.int .i64 a0_5):=(blk_cell BK282.out 5).trans rfl;have hcz15_6:w14.cell? ⟨gb282,6,none⟩=some (.string a0_6):=(blk_cell BK282.out 6).trans rfl;have hcz15_7:w14.cell? ⟨gb282,7,none⟩=some (.string a0_7):=(blk_cell BK282.out 7).trans rfl;have hcz15_8:w14.cell? ⟨gb282,8,none⟩=some (.int .i64 a0_8):=(blk_cell BK282.out 8).trans rfl;have hcz15_9:w14.cell? ⟨gb282,9,none⟩=some (.int .i64 a0_9):=(blk_cell BK282.out 9).trans rfl;have hcz15_10:w14.cell? ⟨gb282,10,none⟩=some (.string a0_10):=(blk_cell BK282.out 10).trans rfl;have hfz15_0:=pz7 BK282.out 0;have hfz15_1:=pz7 BK282.out 1;have hfz15_2:=pz7 BK282.out 2;have hfz15_3:=pz7 BK282.out 3;have hfz15_4:=pz7 BK282.out 4;have hfz15_5:=pz7 BK282.out 5;have hfz15_6:=pz7 BK282.out 6;have hfz15_7:=pz7 BK282.out 7;have hfz15_8:=pz7 BK282.out 8;have hfz15_9:=pz7 BK282.out 9;have hfz15_10:=pz7 BK282.out 10)|((with_reducible refine pz8 (f:=67) rfl ?_);refine goesL_ (some 9) rfl rfl Tryz.func67 (by kernel_rfl) rfl #[.string a0_0] rfl (by (try simp only [List.map_toArray,List.map_cons,List.map_nil]);first|done|rfl|(simp only [List.length_drop,List.length_take];rfl)) ?_;(with_reducible refine (paths_Mark.calls k a0_0 t283 t284 false _ (hG.ext (by repeat (first|(with_reducible first|exact HB.out|apply pz3|apply pz1|apply pz2|refine below_set ?_ GE282.out)|exact HB.out))) A2.out).mono ?_);rintro e w16 ⟨rfl,hb⟩;refine ⟨_,rfl,?_⟩;have n0_:=pz4.mk (blk_below (g:=gb282) (o:=.cells #[.string a0_0,.int .i64 a0_1,.int .i64 a0_2,.int .i64 a0_3,.int .i64 a0_4,.int .i64 a0_5,.string a0_6,.string a0_7,.int .i64 a0_8,.int .i64 a0_9,.string a0_10] 32 (0,0)) (by (with_reducible repeat (first|refine blk_drewN ?_ _|refine blk_drew ?_|refine blk_alloc ?_ _));exact BK282.out) hb);have n1_:=pz4.mk (below_step (by repeat (first|(with_reducible first|exact HB.out|apply pz3|apply pz1|apply pz2|refine below_set ?_ GE282.out)|exact HB.out)) hb);clear BK282;clear HB;have BK282:=n0_;have HB:=n1_;clear n0_ n1_;(try clear hb);(try clear hb2);(try clear hk);(try clear hi)))
  go_ret
  exact ⟨by first|rfl|(simp [pz6,pz5] <;> rfl)|(simp [*,pz6,pz5] <;> rfl),by repeat (first|(with_reducible first|exact HB.out|apply pz3|apply pz1|apply pz2|refine below_set ?_ GE282.out)|exact HB.out)⟩
end Go.Proofs.Zq
end
section
namespace Go.Proofs.Zq
open Go.RowKit Go.Proofs.YtjghikkboekonaaGreatDoor Go.Proofs.Zw.PrintWords Go.Proofs.Zw.PrintLast Go.Proofs.Zw.PrintMore
open Go.Proofs.Zt (partM markedM markM opqM isM parM lastM underM markF unmarkF wouldM tarM belowM Ch Row Lyr rightC keyM lessM plainM)
theorem right_f (s:Str) (n:Nd) (ha:n.attrs.length≤10000000):mktar_Right.f (B s) n.kind n.mode n.uid n.gid n.mtime (B n.link) (B n.data) n.major n.minor (B n.attrs)=some (rtM s n):=by
 unfold mktar_Right.f
 rw [if_pos (by rw [B_size];exact ha)]
theorem plain_f (s:Str) (n:Nd) (hs:s.length≤1000000000) (ha:n.attrs.length≤10000000) (k:Nat) (hk:s.length + 60<k) :
  tree_plain.f k (B s) n.kind n.mode n.uid n.gid n.mtime (B n.link) (B n.data) n.major n.minor (B n.attrs)=some (plainM Y (s,n)):=by
 unfold tree_plain.f plainM
 rw [mark_f s (by omega) k (by omega)]
 simp only [Option.bind_some]
 unfold markR
 cases h:markF s with
 | none=>simp
 | some q =>
  obtain ⟨o,p⟩:=q
  simp only [if_true]
  by_cases ho:o=0
  ·subst ho
   have hp:=(Zt.mark_put h).1
   subst hp
   rw [if_pos rfl,right_f s n ha]
   simp only [Option.bind_some,Option.some.injEq]
   show (rtM s n == 0)=_
   simp only [decide_true,Bool.true_and]
   rfl
  ·rw [if_neg ho]
   have:decide (some (o,p)=some (0,s))=false:=by simp [ho]
   rw [this];rfl
end Go.Proofs.Zq
end
section
namespace Go.Proofs.Zq
open Go.RowKit Go.WideMaps Go.Maps Go.Proofs.YtjghikkboekonaaGreatDoor Go.Proofs.Zw.PrintWords Go.Proofs.Zw.PrintLast Go.Proofs.Zw.PrintMore
theorem wpList_insert_own {H:Type} {P:Program} (w:World) {ops:Array Oper} {rest:List Oper} {o:Oper} {a:Act} {Q:Exit→Act→World→Prop}
  (hg:o.guard=none) (m x v:Operand) (t:TypeId) (hop:o.op=Op.insert t m x v)
  (k e:TypeId) (K:Keyed P k) (ht:P.underlying t=some (.map k e)) (R:Value→Option (DataW H×List MemPlace)) (b n:Nat) (D:DataW H)
  (hm:a.eval m=.map (some b)) (hown:w.ownsMap P k R b n D) (hn:n<maxLen) (key val:Value) (kl:Lit) (hx:a.eval x=key) (hv:a.eval v=val) (hkey:keyOf P k key=some kl)
  (d:DataW H) (ps:List MemPlace) (hval:R val=some (d,ps))
  (hK:∀ w',w'.ownsMap P k R b (n + 1) (D.put kl d)→w.grownBy w' (some b)→wpList P ops Q rest (a.put o.dst undef) w') :
  wpList P ops Q (o :: rest) a w:=by
 refine wpList_plain hg fun K' hK'=>?_
 obtain ⟨w',hrun,r1,r2⟩:=hown.update K ht hn hkey hval
 unfold Oper.wp
 simp [execOp,hop,hm,hx,hv,hrun,Result.andThen]
 exact hK' _ _ (hK w' r1 r2)
theorem wpList_cnt_in {P:Program} (hP:P=Tryz.prog) {w:World} {ops:Array Oper} {rest:List Oper} {o:Oper} {a:Act} {Q:Exit→Act→World→Prop}
  (hg:o.guard=none) (m x v:Operand) (hop:o.op=Op.insert 64 m x v) (b n:Nat) (f:Str→Nat) (hm:a.eval m=.map (some b)) (hown:CntMap w b n f) (hn:n≤1000000000)
  (s:Str) (c:Nat) (hx:a.eval x=S s) (hv:a.eval v=.int .i64 c) (hs:s.length≤1000000000) (hc:c≤1000000001)
  (f':Str→Nat) (hf:∀ key,f' key=if key == s then c else f key)
  (hK:∀ w',CntMap w' b (n + 1) f'→w.grownBy w' (some b)→wpList P ops Q rest (a.put o.dst undef) w') :
  wpList P ops Q (o :: rest) a w:=by
 subst hP
 obtain ⟨D,h1,h2,h3⟩:=hown
 refine wpList_insert_own _ hg m x v _ hop 9 3 strLaw Tryz.underlying64 _ b n D hm h1 (by unfold maxLen;omega) _ _ _ hx hv (keyStr hs) _ []
  (plainElem_int Tryz.underlying3 (wf_nat (by omega))) ?_
 intro w' h1' hg'
 refine hK w' ⟨_,h1',h2.put _ _,fun key=>?_⟩ hg'
 rw [hf key]
 by_cases hk:key=s
 ·subst hk
  rw [atKey_put_same h2 (by trivial)]
  simp
 ·rw [atKey_put_other (by simpa using hk),h3]
  have:(key == s)=false:=by simpa using hk
  simp [this]
def enCells (e:S32):List Value:=[.string e.f0,.int .i64 e.f1.f0,.int .i64 e.f1.f1,.int .i64 e.f1.f2,.int .i64 e.f1.f3,.int .i64 e.f1.f4,.string e.f1.f5,.string e.f1.f6,.int .i64 e.f1.f7,.int .i64 e.f1.f8,.string e.f1.f9]
theorem en_at {w:World} {A:Option Addr} {xs:List S32} (h:Kd.C k32 w A xs.length xs) (i:Nat) (hi:i<xs.length) :
  ∃ ad,A=some ad∧LiesAt w (ad.add (i * 11)) (enCells xs[i]):=by
 obtain ⟨ad,c,e,_,hK,hc0⟩:=Kd.C_get h z32 (i:Int) (by omega) (by omega)
 have hd:xs.getD ((i:Nat):Int).toNat z32=xs[i]:=by
  rw [show ((i:Nat):Int).toNat=i from rfl,List.getD_eq_getElem?_getD,List.getElem?_eq_getElem hi];rfl
 rw [hd] at hK
 obtain rfl:=k32_open hK
 refine ⟨ad,e,fun j v hv=>?_⟩
 rw [Addr.add_add]
 exact hc0 j v hv
def ms (n i:Nat):Array Bool:=(List.replicate i true ++ List.replicate (n - i) false).toArray
theorem yi_agg {P:Program} {ops:Array Oper} {S:World→Prop} {op:Oper} {a:Act} (hw:Region.wanted op (yielded ops a.tmps)=true) (ty:TypeId) (x:Operand) (ho:op.op=.load ty x)
    (ad:Addr) (hx:a.eval x=.pointer (some ad)) (cs:List Value) (d:TypeDesc) (hS:∀ w,S w→LiesAt w ad cs)
    (hu:P.underlying ty=some d) (hd:d.isRow=true) (hi:(P.info? ty).map (·.size)=some cs.length):YieldsIf P ops S op (.agg cs.toArray) a :=
  .inl ⟨hw,fun W hw'=>by
    have hl:(loadCells ad cs.length).run P W=.ok cs.toArray W:=run_loadCells_list (P:=P) W ad cs (hS W hw')
    have hv:(loadVar ty ad).run P W=.ok (.agg cs.toArray) W:=by
      cases hq:P.info? ty with
      | none=>simp [hq] at hi
      | some i =>
        have hs:i.size=cs.length:=by simpa [hq] using hi
        have hagg:(isAgg ty).run P W=.ok true W:=by
          unfold isAgg
          rw [Sem.run_bind,run_underlying hu W]
          cases d <;> simp_all
        simp [loadVar,Sem.run_bind,hagg,sizeOf,typeInfo,hq,hs,hl]
    unfold execOp
    simp only [ho,hx,Instr.loadAt,Instr.sureAddr,Sem.run_bind,Sem.run_pure,Result.andThen_ok,hv]⟩
theorem ndVal_inj {a b:Nd} (h:ndVal a=ndVal b):a=b:=by
 obtain ⟨a1,a2,a3,a4,a5,a6,a7,a8,a9,a10⟩:=a
 obtain ⟨b1,b2,b3,b4,b5,b6,b7,b8,b9,b10⟩:=b
 unfold ndVal ndCells at h
 simp at h
 simp only [Nd.mk.injEq]
 obtain ⟨h1,h2,h3,h4,h5,h6,h7,h8,h9,h10⟩:=h
 exact ⟨h1,h2,h3,h4,h5,h6,h7,h8,h9,h10⟩
open Classical in
noncomputable def Rn (v:Value):Option (DataW Nd×List MemPlace):=if h:∃ n,v=ndVal n then some (.held h.choose,[]) else none
theorem Rn_val (n:Nd):Rn (ndVal n)=some (.held n,[]):=by
 unfold Rn
 have h:∃ m,ndVal n=ndVal m:=⟨n,rfl⟩
 rw [dif_pos h,← ndVal_inj h.choose_spec]
theorem Rn_inv {v:Value} {y:DataW Nd×List MemPlace} (h:Rn v=some y):∃ n,v=ndVal n:=by
 unfold Rn at h
 split at h
 ·rename_i h1;exact h1
 ·cases h
theorem zeroNd (w:World):(zeroValue 28).run Tryz.prog w=.ok (ndVal zeroN) w:=by kernel_rfl
def NdMap (w:World) (b n:Nat) (f:Str→Option Nd):Prop :=
 ∃ D:DataW Nd,w.ownsMap Tryz.prog 9 Rn b n D∧∀ (key:Str) (z:DataW Nd),D.atKey (.string key) z=(match f key with|some v=>.held v|none=>z)
theorem NdMap.made (w:World):NdMap (w.alloc (.map #[] 0)) w.heap.size 0 (fun _=>none) :=
 ⟨.map [],World.ownsMap_made _ _ _ _,fun _ _=>rfl⟩
theorem NdMap.lt {w:World} {b n:Nat} {f:Str→Option Nd} (h:NdMap w b n f):b<w.heap.size:=let ⟨_,h1,_⟩:=h;h1.lt
theorem NdMap.mono {w:World} {b n m:Nat} {f:Str→Option Nd} (h:NdMap w b n f) (hn:n≤m):NdMap w b m f:=let ⟨D,h1,h2⟩:=h;⟨D,h1.mono hn,h2⟩
theorem NdMap.grown {w w':World} {b n:Nat} {f:Str→Option Nd} {row:Option Nat} (h:NdMap w b n f) (hg:w.grownBy w' row) (hne:some b≠row):NdMap w' b n f :=
 let ⟨D,h1,h2⟩:=h;⟨D,h1.kept hg hne,h2⟩
theorem NdMap.ext {w w':World} {b n:Nat} {f:Str→Option Nd} (h:NdMap w b n f) (hb:Below w.heap.size w w'):NdMap w' b n f :=
 h.grown (row:=none) ⟨hb.os,hb.tape,hb.output,hb.size,fun k hk _=>hb.block k hk⟩ (by simp)
theorem NdMap.has {D:DataW Nd} {f:Str→Option Nd} (h2:∀ (key:Str) (z:DataW Nd),D.atKey (.string key) z=(match f key with|some v=>.held v|none=>z)) (key:Str):Maps.has D (.string key)=(f key).isSome:=by
 cases hf:f key with
 | none=>exact has_false_of_atKey fun z=>by rw [h2,hf]
 | some v=>exact has_true_of_atKey fun z=>by rw [h2,hf]
theorem NdMap.look {w:World} {b n:Nat} {f:Str→Option Nd} (h:NdMap w b n f) {s:Str} (hs:s.length≤1000000000) :
  (Instr.lookup 83 (.map (some b)) (S s) false).run Tryz.prog w=.ok (ndVal ((f s).getD zeroN)) w:=by
 obtain ⟨D,h1,h2⟩:=h
 obtain ⟨v,ps,hrun,hv⟩:=h1.lookup strLaw Tryz.underlying83 (zeroNd w) (Rn_val zeroN) (keyStr hs)
 obtain ⟨m,rfl⟩:=Rn_inv hv
 rw [Rn_val,h2] at hv
 rw [hrun]
 cases hf:f s with
 | none=>rw [hf] at hv;simp only [Option.some.injEq,Prod.mk.injEq,DataW.held.injEq] at hv;rw [hv.1];rfl
 | some x=>rw [hf] at hv;simp only [Option.some.injEq,Prod.mk.injEq,DataW.held.injEq] at hv;rw [hv.1];rfl
section
variable {P:Program} {w:World} {ops:Array Oper} {rest:List Oper} {o:Oper} {a:Act} {Q:Exit→Act→World→Prop}
end
end Go.Proofs.Zq
end
section
namespace Go.Proofs.Zq
open Go.RowKit Go.WideMaps Go.Maps Go.Proofs.YtjghikkboekonaaGreatDoor Go.Proofs.Zw.PrintWords Go.Proofs.Zw.PrintLast Go.Proofs.Zw.PrintMore
open Go.Proofs.Zt (underM parM)
def ndZero:Array Value:=#[.int .i64 0,.int .i64 0,.int .i64 0,.int .i64 0,.int .i64 0,.string (⟨#[]⟩:ByteArray),.string (⟨#[]⟩:ByteArray),.int .i64 0,.int .i64 0,.string (⟨#[]⟩:ByteArray)]
theorem ndCells_all (e:Nd):(ndCells e).toArray.all (·.oneCell')=true:=by simp [ndCells,Value.oneCell']
end Go.Proofs.Zq
end
section
namespace Go.Proofs.Zq
open Go.RowKit Go.WideMaps Go.Maps Go.Proofs.YtjghikkboekonaaGreatDoor Go.Proofs.Zw.PrintWords Go.Proofs.Zw.PrintLast Go.Proofs.Zw.PrintMore
open Go.Proofs.Zt (underM parM Ch)
def clearF (f:Str→Option Nd) (p:Str):Str→Option Nd:=fun key=>if underM p key=true then none else f key
set_option maxRecDepth 100000
def folderF (f:Str→Option Nd) (p:Str):Bool:=decide (p=[]) || match f p with|some n=>decide (n.kind=1)|none=>false
def putF (f:Str→Option Nd) (c:Ch Str Nd):Str→Option Nd :=
 fun key=>if key=c.path then some c.node else (if (!decide (c.node.kind=1) || !folderF f c.path)=true then clearF f c.path else f) key
end Go.Proofs.Zq
end
section
namespace Go.Proofs.Zq
open Go.RowKit Go.WideMaps Go.Maps Go.Sort Go.Proofs.YtjghikkboekonaaGreatDoor Go.Proofs.Zw.PrintWords Go.Proofs.Zw.PrintLast Go.Proofs.Zw.PrintMore
open Go.Proofs.Zt (cmpM cmpM_refl cmpM_anti cmpM_eq cmpM_trans)
abbrev Sh:={s:Str // s.length≤1000000}
instance:Inhabited Sh:=⟨⟨[],by simp⟩⟩
def TextsAt (w:World) (v:Value) (ks:List Str):Prop:=∃ A cap,v=.slice A ks.length cap∧∀ i (h:i<ks.length),∃ g,A=some ⟨g,0,none⟩∧w.cell? ⟨g,i,none⟩=some (S ks[i])
theorem TextsAt.below {w w1:World} {v:Value} {ks:List Str} (h:TextsAt w v ks) (hb:Below w.heap.size w w1):TextsAt w1 v ks:=by
 obtain ⟨A,cap,h1,h2⟩:=h
 refine ⟨A,cap,h1,fun i hi=>?_⟩
 obtain ⟨g,h3,h4⟩:=h2 i hi
 exact ⟨g,h3,pw_cell_below hb h4⟩
end Go.Proofs.Zq
end
section
namespace Go.Proofs.Zt
variable {ν:Type} [DecidableEq ν] (Y:Sys ν)
omit [DecidableEq ν] in
theorem srt_of {t:Row ν} (h1:∀ e ∈ t,plainM Y e=true) (h2:t.Pairwise fun a b=>lessM a.1 b.1=true):Srt PS t:=by
 refine ⟨fun x hx=>?_,h2.imp fun {a b} h=>by unfold lessM at h;exact of_decide_eq_true (p:=cmpM a.1 b.1<0) h⟩
 have:=h1 x hx
 unfold plainM at this
 simp only [Bool.and_eq_true,decide_eq_true_eq] at this
 exact (mark_put this.1).2.1
omit [DecidableEq ν] in
theorem rightT_unf (t:Row ν):rightT Y t=true↔(∀ e ∈ t,plainM Y e=true)∧(t.Pairwise fun a b=>lessM a.1 b.1=true)∧(∀ e ∈ t,parM e.1=[]∨∃ x ∈ t,x.1=parM e.1∧Y.dir x.2=true)∧t.length≤5000:=by
 unfold rightT
 simp only [Bool.and_eq_true,List.all_eq_true,decide_eq_true_eq]
 rw [chain_iff (fun a b c h1 h2=>by unfold lessM at *;rw [decide_eq_true_iff] at *;exact cmpM_trans h1 h2)]
 have hf:(∀ e ∈ t,plainM Y e=true)→(t.Pairwise fun a b=>lessM a.1 b.1=true)→∀ p,folderL PS Y.dir t p=true↔(p=[]∨∃ x ∈ t,x.1=p∧Y.dir x.2=true):=by
  intro h1 h2 p
  have hs:=srt_of Y h1 h2
  unfold folderL
  rw [Bool.or_eq_true,decide_eq_true_eq]
  refine or_congr Iff.rfl ?_
  constructor
  ·intro h
   cases hg:getL t p with
   | none=>rw [hg] at h;cases h
   | some n=>rw [hg] at h;exact ⟨(p,n),getL_mem hg,rfl,h⟩
  ·rintro ⟨⟨q,n⟩,hx,rfl,hd⟩
   rw [hs.get hx]
   exact hd
 constructor
 ·rintro ⟨⟨⟨h1,h2⟩,h3⟩,h4⟩
  exact ⟨h1,h2,fun e he=>(hf h1 h2 _).1 (h3 e he),h4⟩
 ·rintro ⟨h1,h2,h3,h4⟩
  exact ⟨⟨⟨h1,h2⟩,fun e he=>(hf h1 h2 _).2 (h3 e he)⟩,h4⟩
def rightGo (seen:Row ν):Row ν→Bool
 | []=>decide (seen.length≤5000)
 | e :: r=>plainM Y e && (decide (parM e.1=[]) || seen.any fun x=>decide (x.1=parM e.1) && Y.dir x.2) && (match seen.getLast? with|none=>true|some y=>lessM y.1 e.1) && rightGo (seen ++ [e]) r
omit [DecidableEq ν] in
theorem rightGo_eq:∀ (r seen:Row ν),(∀ e ∈ seen,plainM Y e=true)→(seen.Pairwise fun a b=>lessM a.1 b.1=true)→(∀ e ∈ seen,parM e.1=[]∨∃ x ∈ seen,x.1=parM e.1∧Y.dir x.2=true) →
  rightGo Y seen r=rightT Y (seen ++ r):=by
 intro r
 induction r with
 | nil =>
  intro seen h1 h2 h3
  rw [Bool.eq_iff_iff,rightT_unf,List.append_nil]
  simp only [rightGo,decide_eq_true_eq]
  exact ⟨fun h=>⟨h1,h2,h3,h⟩,fun h=>h.2.2.2⟩
 | cons e r ih =>
  intro seen h1 h2 h3
  have hless:∀ a b c:Str,lessM a b=true→lessM b c=true→lessM a c=true:=fun a b c h1 h2=>by unfold lessM at *;rw [decide_eq_true_iff] at *;exact cmpM_trans h1 h2
  by_cases ha:plainM Y e=true∧(parM e.1=[]∨∃ x ∈ seen,x.1=parM e.1∧Y.dir x.2=true)∧(match seen.getLast? with|none=>true|some y=>lessM y.1 e.1)=true
  ·obtain ⟨a1,a2,a3⟩:=ha
   have hlast:∀ x ∈ seen,lessM x.1 e.1=true:=by
    intro x hx
    cases hl:seen.getLast? with
    | none=>rw [List.getLast?_eq_none_iff] at hl;subst hl;cases hx
    | some y =>
     rw [hl] at a3
     obtain ⟨ys,hys⟩:=List.getLast?_eq_some_iff.1 hl
     rw [hys] at hx h2
     rcases List.mem_append.1 hx with hx|hx
     ·exact hless _ _ _ ((List.pairwise_append.1 h2).2.2 x hx y (by simp)) a3
     ·rw [List.mem_singleton.1 hx];exact a3
   have:=ih (seen ++ [e]) (fun x hx=>by
     rcases List.mem_append.1 hx with hx|hx
     ·exact h1 x hx
     ·rw [List.mem_singleton.1 hx];exact a1)
    (List.pairwise_append.2 ⟨h2,List.pairwise_singleton _ _,fun x hx y hy=>by rw [List.mem_singleton.1 hy];exact hlast x hx⟩)
    (fun x hx=>by
     rcases List.mem_append.1 hx with hx|hx
     ·rcases h3 x hx with h|⟨y,hy,h⟩
      ·exact .inl h
      ·exact .inr ⟨y,List.mem_append_left _ hy,h⟩
     ·rw [List.mem_singleton.1 hx]
      rcases a2 with h|⟨y,hy,h⟩
      ·exact .inl h
      ·exact .inr ⟨y,List.mem_append_left _ hy,h⟩)
   rw [List.append_assoc,List.singleton_append] at this
   rw [← this]
   have b2:(decide (parM e.1=[]) || seen.any fun x=>decide (x.1=parM e.1) && Y.dir x.2)=true:=by
    rw [Bool.or_eq_true,decide_eq_true_eq,List.any_eq_true]
    refine a2.imp id ?_
    rintro ⟨x,hx,h⟩
    exact ⟨x,hx,by simpa using h⟩
   simp only [rightGo,a1,a3,b2,Bool.true_and]
  ·have hf:rightGo Y seen (e :: r)=false:=by
    rw [Bool.eq_false_iff]
    intro h
    simp only [rightGo,Bool.and_eq_true,Bool.or_eq_true,decide_eq_true_eq,List.any_eq_true] at h
    refine ha ⟨h.1.1.1,h.1.1.2,h.1.2⟩
   rw [hf]
   symm
   rw [Bool.eq_false_iff]
   intro h
   obtain ⟨k1,k2,k3,_⟩:=(rightT_unf Y _).1 h
   have hs:=srt_of Y k1 k2
   have k2':=List.pairwise_append.1 k2
   refine ha ⟨k1 e (by simp),?_,?_⟩
   ·rcases k3 e (by simp) with h|⟨x,hx,hx1,hx2⟩
    ·exact .inl h
    ·refine .inr ⟨x,?_,hx1,hx2⟩
     rcases List.mem_append.1 hx with hx|hx
     ·exact hx
     ·exfalso
      have hp:cmpM (parM e.1) e.1<0:=by
       have:=k1 e (by simp)
       unfold plainM at this
       simp only [Bool.and_eq_true,decide_eq_true_eq] at this
       exact par_cmp (mark_put this.1).2.1
      rcases List.mem_cons.1 hx with rfl|hx
      ·rw [← hx1,cmpM_refl] at hp;omega
      ·have hl:=(List.pairwise_cons.1 k2'.2.1).1 x hx
       unfold lessM at hl
       rw [decide_eq_true_iff,hx1] at hl
       rw [cmpM_anti] at hp
       omega
   ·cases hl:seen.getLast? with
    | none=>rfl
    | some y =>
     obtain ⟨ys,hys⟩:=List.getLast?_eq_some_iff.1 hl
     exact k2'.2.2 y (by rw [hys];simp) e (by simp)
omit [DecidableEq ν] in
theorem rightGo_all (t:Row ν):rightT Y t=rightGo Y [] t:=(rightGo_eq Y t [] (fun _ h=>by cases h) List.Pairwise.nil (fun _ h=>by cases h)).symm
end Go.Proofs.Zt
end
section
namespace Go.Proofs.Zq
open Go.RowKit Go.WideMaps Go.Maps Go.Proofs.YtjghikkboekonaaGreatDoor Go.Proofs.Zw.PrintWords Go.Proofs.Zw.PrintLast Go.Proofs.Zw.PrintMore
open Go.Proofs.Zt (rightT rightGo rightGo_all plainM parM lessM cmpM)
def ndFits (n:Nd):Bool:=decide (n.attrs.length≤10000000)
def rowFits (t:List (Str×Nd)):Bool:=t.all fun e=>decide (e.1.length≤1000000) && ndFits e.2
def seenF (t:List (Str×Nd)) (key:Str):Nat:=if key=[]∨∃ x ∈ t,x.1=key∧Y.dir x.2=true then 1 else 0
theorem seen_nil:∀ key,seenF [] key=if key == [] then 1 else (fun _=>0) key:=by
 intro key;unfold seenF;by_cases h:key=[] <;> simp [h]
theorem seen_dir (t:List (Str×Nd)) (e:Str×Nd) (h:Y.dir e.2=true):∀ key,seenF (t ++ [e]) key=if key == e.1 then 1 else seenF t key:=by
  intro key
  unfold seenF
  by_cases hk:key=e.1
  · subst hk
    rw [if_pos (.inr ⟨e,by simp,rfl,h⟩)];simp
  · have:(key == e.1)=false:=by simpa using hk
    rw [this]
    simp only [Bool.false_eq_true,if_false]
    have hi:(key=[]∨∃ x ∈ t ++ [e],x.1=key∧Y.dir x.2=true)↔(key=[]∨∃ x ∈ t,x.1=key∧Y.dir x.2=true):=by
     refine or_congr Iff.rfl ⟨?_,?_⟩
     · rintro ⟨x,hx,h1,h2⟩
       rcases List.mem_append.1 hx with hx|hx
       · exact ⟨x,hx,h1,h2⟩
       · rw [List.mem_singleton.1 hx] at h1;exact absurd h1.symm hk
     · rintro ⟨x,hx,h⟩
       exact ⟨x,List.mem_append_left _ hx,h⟩
    simp only [hi]
theorem seen_not (t:List (Str×Nd)) (e:Str×Nd) (h:Y.dir e.2=false):seenF (t ++ [e])=seenF t:=by
  funext key
  unfold seenF
  have hi:(key=[]∨∃ x ∈ t ++ [e],x.1=key∧Y.dir x.2=true)↔(key=[]∨∃ x ∈ t,x.1=key∧Y.dir x.2=true):=by
   refine or_congr Iff.rfl ⟨?_,?_⟩
   · rintro ⟨x,hx,h1,h2⟩
     rcases List.mem_append.1 hx with hx|hx
     · exact ⟨x,hx,h1,h2⟩
     · rw [List.mem_singleton.1 hx,h] at h2;cases h2
   · rintro ⟨x,hx,h⟩
     exact ⟨x,List.mem_append_left _ hx,h⟩
  simp only [hi]
theorem plain_calls (w:World) (hG:GL w) (e:S32) (h:(enOf e).1.length≤1000000) (ha:ndFits (enOf e).2=true) :
  Calls Tryz.prog 36 #[.agg (enCells e).toArray] w fun x w'=>x=.returned (.bool (plainM Y (enOf e)))∧Below w.heap.size w w':=by
 have hf:=plain_f (enOf e).1 (enOf e).2 (by omega) (by simpa [ndFits] using ha) ((enOf e).1.length + 61) (by omega)
 have:=tree_plain.calls ((enOf e).1.length + 61) (B (enOf e).1) e.f1.f0 e.f1.f1 e.f1.f2 e.f1.f3 e.f1.f4 (B (enOf e).2.link) (B (enOf e).2.data) e.f1.f7 e.f1.f8 (B (enOf e).2.attrs) (plainM Y (enOf e)) w hG hf
 have e1:B (enOf e).1=e.f0:=B_L _
 have e2:B (enOf e).2.link=e.f1.f5:=B_L _
 have e3:B (enOf e).2.data=e.f1.f6:=B_L _
 have e4:B (enOf e).2.attrs=e.f1.f9:=B_L _
 rw [e1,e2,e3,e4] at this
 exact this
theorem enCells_all (e:S32):(enCells e).toArray.all (·.oneCell')=true:=by simp [enCells,Value.oneCell']
def enZero:Array Value:=#[.string (⟨#[]⟩:ByteArray),.int .i64 0,.int .i64 0,.int .i64 0,.int .i64 0,.int .i64 0,.string (⟨#[]⟩:ByteArray),.string (⟨#[]⟩:ByteArray),.int .i64 0,.int .i64 0,.string (⟨#[]⟩:ByteArray)]
theorem fits_get {t:List (Str×Nd)} (h:rowFits t=true) {e:Str×Nd} (he:e ∈ t):e.1.length≤1000000∧ndFits e.2=true:=by
 have:=List.all_eq_true.1 h e he
 simpa using this
theorem par_calls (w:World) (e:S32) (h:(enOf e).1.length≤1000000) :
  Calls Tryz.prog 19 #[.string e.f0] w fun x w'=>x=.returned (S (parM (enOf e).1))∧Below w.heap.size w w':=by
 have:=paths_Parent.calls (B (enOf e).1) (B (parM (enOf e).1)) w (parent_f _ (by omega))
 have e1:B (enOf e).1=e.f0:=B_L _
 rw [e1] at this
 exact this
def stepOk (seen:List (Str×Nd)) (e:Str×Nd):Bool:=plainM Y e && decide (seenF seen (parM e.1)≠0) && (match seen.getLast? with|none=>true|some y=>lessM y.1 e.1)
theorem right_step (seen r:List (Str×Nd)) (e:Str×Nd):rightGo Y seen (e :: r)=(stepOk seen e && rightGo Y (seen ++ [e]) r):=by
 have h:(decide (parM e.1=[]) || seen.any fun x=>decide (x.1=parM e.1) && Y.dir x.2)=decide (seenF seen (parM e.1)≠0):=by
  rw [Bool.eq_iff_iff,Bool.or_eq_true,decide_eq_true_eq,List.any_eq_true,decide_eq_true_eq]
  unfold seenF
  split
  ·rename_i h
   refine ⟨fun _=>by decide,fun _=>h.imp id ?_⟩
   rintro ⟨x,hx,h⟩
   exact ⟨x,hx,by simpa using h⟩
  ·rename_i h
   refine ⟨fun h2=>absurd (h2.imp id ?_) h,fun h2=>absurd rfl h2⟩
   rintro ⟨x,hx,h⟩
   exact ⟨x,hx,by simpa using h⟩
 unfold stepOk
 rw [← h]
 simp only [rightGo]
 cases seen.getLast? <;> rfl
set_option maxRecDepth 100000 in
set_option maxHeartbeats 4000000 in
theorem tright_calls (w:World) (hG:GL w) (A:Option Addr) (c:Nat) (l:List S32) (hr:Kd.C k32 w A l.length l) (hc:l.length≤c) (hfit:rowFits (l.map enOf)=true) (hl:l.length≤1000000) :
  Calls Tryz.prog 15 #[.slice A l.length c] w fun e w'=>e=.returned (.bool (rightT Y (l.map enOf)))∧Below w.heap.size w w':=by
 have HR:=Lib.hid hr
 have HF:=Lib.hid hfit
 have HL:=Lib.hid hl
 clear hr hfit hl
 have hmm:=@run_makeMap Tryz.prog
 go_enter Tryz.func15,Tryz.ntmps15
 go_wp2_with (first|(refine wpList_cnt_in rfl rfl _ _ _ rfl w.heap.size 0 _ rfl (CntMap.made w) (by omega) [] 1 rfl rfl (by simp) (by omega) _ seen_nil ?_))
 intro w1 hm1 hg1
 have HM1:=Lib.hid hm1
 have HB1:Hid (Below w.heap.size w w1):=Lib.hid (((Below.refl w.heap.size w).alloc (Nat.le_refl _) _).grown hg1 (by simp) (fun j hj=>by cases hj;exact Nat.le_refl _))
 clear hm1 hg1 hmm
 go_wp2
 go_loopg [10] (l.length + 1) (fun g v wr=>∃ i:Nat,v=.int .i64 i∧l.length<g + i∧Hid (i≤l.length)∧Hid (∃ n,n≤i + 1∧CntMap wr w.heap.size n (seenF ((l.map enOf).take i))) ∧
  Hid (rightT Y (l.map enOf)=rightGo Y ((l.map enOf).take i) ((l.map enOf).drop i))∧Hid (Below w.heap.size w wr))
 case atStart=>exact ⟨0,rfl,by omega,Lib.hid (by omega),Lib.hid ⟨1,by omega,by rw [List.take_zero];exact HM1.out⟩,Lib.hid (by rw [rightGo_all];rfl),HB1⟩
 case round =>
  obtain ⟨i,rfl,hgi,HI,HM,HG,HB⟩:=hrel
  by_cases hi:i<l.length
  ·cases gk with
   | zero=>omega
   | succ g1 =>
    obtain ⟨ad,rfl,hat⟩:=en_at HR.out i hi
    have HAT:=Lib.hid (hat.below HB.out)
    clear hat
    have HE:=Lib.hid (fits_get HF.out (List.mem_map_of_mem (f:=enOf) (List.getElem_mem hi)))
    have h49:=Tryz.underlying32
    go_wp2_with (first|((with_reducible refine gate_dst (N:=14) rfl ?_);refine wpList_load_agg rfl 32 _ rfl _ rfl (enCells l[i]) _ HAT.out h49 rfl rfl ?_)|((with_reducible refine gate_dst (N:=5) rfl ?_);refine box_event rfl (N:=5) rfl (cs:=enZero) (t:=32) ?hr ?_;(case hr=>first|(go_simp;done)|(go_simp;rfl));intro g hg w2 hb2 hbl2;have HGE:Hid (w.heap.size≤g):=Lib.hid (by rw [hg];exact HB.out.size);have HGW:Hid (wr.heap.size≤g):=Lib.hid (by rw [hg];exact Nat.le_refl _);have HB2:=Lib.hid hb2;have HBL2:=Lib.hid hbl2;clear hg hb2 hbl2)|((with_reducible refine gate_store (t:=32) (p:=5) rfl ?_);refine wpList_store_agg rfl rfl 32 _ _ rfl g (enCells l[i]).toArray rfl rfl 32 enZero HB2.out rfl rfl (enCells_all _) ?_;intro w3 hb3 hg3;have HB3:=Lib.hid hb3;have HBL3:Hid (Below w.heap.size w w3):=Lib.hid ((YtjghikkboekonaaGreatDoor.below_then HB.out HBL2.out).grown hg3 (Nat.le_trans HB.out.size HBL2.out.size) (fun j hj=>by cases hj;exact HGE.out));have HGR3:=Lib.hid hg3;clear hb3 hg3))
    have HQ:Hid (∀ j v,(enCells l[i])[j]?=some v→w3.cell? ⟨g,j,none⟩=some v):=Lib.hid (fun j v hv=>(YtjghikkboekonaaGreatDoor.blk_cell HB3.out j).trans (by simpa using hv))
    obtain ⟨e,hee⟩:∃ e,e=l[i]:=⟨_,rfl⟩
    rw [← hee] at HQ HE HAT ⊢
    have HEE:=Lib.hid hee
    clear hee
    have hd:(l.map enOf).drop i=enOf e :: (l.map enOf).drop (i + 1):=by rw [HEE.out,List.drop_eq_getElem_cons (by simpa using hi)];simp
    have ht:(l.map enOf).take (i + 1)=(l.map enOf).take i ++ [enOf e]:=by rw [HEE.out,List.take_succ_eq_append_getElem (by simpa using hi)];simp
    have HT1:=Lib.hid ht
    have HG1:Hid (rightT Y (l.map enOf)=(stepOk ((l.map enOf).take i) (enOf e) && rightGo Y ((l.map enOf).take (i + 1)) ((l.map enOf).drop (i + 1)))):=Lib.hid (by rw [HG.out,hd,right_step,ht])
    clear hd ht
    have hL3:LiesAt w3 ⟨g,0,none⟩ (enCells e):=fun j v hv=>by rw [Addr.add_mid,Nat.zero_add];exact HQ.out j v hv
    have HL3:=Lib.hid hL3
    clear hL3
    have HBW3:Hid (Below wr.heap.size wr w3):=Lib.hid (HBL2.out.grown HGR3.out HBL2.out.size (fun j hj=>by cases hj;exact HGW.out))
    obtain ⟨n,hn,hm⟩:=HM.out
    have HM3:=Lib.hid (hm.ext HBW3.out)
    have HN:=Lib.hid hn
    clear hm hn
    obtain ⟨ok,hok⟩:∃ ok,ok=stepOk ((l.map enOf).take i) (enOf e):=⟨_,rfl⟩
    have HOK:=Lib.hid hok
    rw [← hok] at HG1
    clear hok
    go_cut [41] (fun v41 w'=>v41=.bool (!ok)∧Hid (Below w3.heap.size w3 w'))
    case first =>
     refine start_ (n:=27) (S:=fun w'=>Below w3.heap.size w3 w') (ds:=[]) (ms 27 0) (by kernel_rfl) rfl rfl (Below.refl _ _).drew (fun hHeld=>?_)
     refine take_ (i:=0) (N:=some 15) (v:=.agg (enCells e).toArray) (a':=?_) (ms 27 1) rfl rfl (by kernel_rfl) (fun _ _ _ h=>h) (yi_agg (by rfl) 32 _ rfl _ rfl _ _ (fun w' hb=>HL3.out.below hb) h49 rfl rfl) hHeld ?_ ?_
     rotate_left
     ·(simp only [aP,i64_w,i32_w];rfl)
     refine one_ (i:=1) (N:=some 16) (ms 27 2) rfl rfl (by kernel_rfl) (by decide) (fun K hK=>?_)
     refine goes_ Tryz.func36 (by kernel_rfl) rfl #[.agg (enCells e).toArray] (by rfl) rfl rfl (by simp only [List.map_toArray,List.map_cons,List.map_nil];rfl) ?_
     refine (plain_calls _ (hG.ext HBL3.out.drew) e HE.out.1 HE.out.2).mono ?_
     rintro x w4 ⟨rfl,hb4⟩
     refine ⟨_,rfl,?_⟩
     have HB4:=Lib.hid hb4
     clear hb4
     refine hK.out _ _ (YtjghikkboekonaaGreatDoor.below_then hHeld HB4.out) (fun hHeld=>?_)
     clear hK K
     refine norm_ (a':=?_) ?_ ?_
     rotate_left
     ·show Act.put _ (some 16) _=_
      (simp only [aP,i64_w,i32_w];rfl)
     cases hp:plainM Y (enOf e) with
     | false =>
      have ho:ok=false:=by rw [HOK.out];simp [stepOk,hp]
      subst ho
      (refine pU 2 17 ?_ (ms 27 3) rfl rfl (by kernel_rfl) (fun _ _ _=>id) (by rfl) ?_ ?_ ?_ ?_;rotate_left;(intro w';go_simp;with_reducible rfl);rotate_left;(simp only [aP,i64_w,i32_w];rfl))
      (refine pU 3 18 ?_ (ms 27 4) rfl rfl (by kernel_rfl) (fun _ _ _=>id) (by rfl) ?_ ?_ ?_ ?_;rotate_left;(intro w';go_simp;with_reducible rfl);rotate_left;(simp only [aP,i64_w,i32_w];rfl))
      (refine pN 4 19 (ms 27 5) rfl rfl (by kernel_rfl) (fun _ _ _=>id) (by rfl) ?_ ?_ ?_;rotate_left;(simp only [aP,i64_w,i32_w];rfl))
      (refine pN 5 20 (ms 27 6) rfl rfl (by kernel_rfl) (fun _ _ _=>id) (by rfl) ?_ ?_ ?_;rotate_left;(simp only [aP,i64_w,i32_w];rfl))
      (refine pN 6 21 (ms 27 7) rfl rfl (by kernel_rfl) (fun _ _ _=>id) (by rfl) ?_ ?_ ?_;rotate_left;(simp only [aP,i64_w,i32_w];rfl))
      (refine pN 7 22 (ms 27 8) rfl rfl (by kernel_rfl) (fun _ _ _=>id) (by rfl) ?_ ?_ ?_;rotate_left;(simp only [aP,i64_w,i32_w];rfl))
      (refine pN 8 23 (ms 27 9) rfl rfl (by kernel_rfl) (fun _ _ _=>id) (by rfl) ?_ ?_ ?_;rotate_left;(simp only [aP,i64_w,i32_w];rfl))
      (refine pN 9 24 (ms 27 10) rfl rfl (by kernel_rfl) (fun _ _ _=>id) (by rfl) ?_ ?_ ?_;rotate_left;(simp only [aP,i64_w,i32_w];rfl))
      (refine pU 10 25 ?_ (ms 27 11) rfl rfl (by kernel_rfl) (fun _ _ _=>id) (by rfl) ?_ ?_ ?_ ?_;rotate_left;(intro w';go_simp;with_reducible rfl);rotate_left;(simp only [aP,i64_w,i32_w];rfl))
      (refine pU 11 26 ?_ (ms 27 12) rfl rfl (by kernel_rfl) (fun _ _ _=>id) (by rfl) ?_ ?_ ?_ ?_;rotate_left;(intro w';go_simp;with_reducible rfl);rotate_left;(simp only [aP,i64_w,i32_w];rfl))
      (refine pN 12 27 (ms 27 13) rfl rfl (by kernel_rfl) (fun _ _ _=>id) (by rfl) ?_ ?_ ?_;rotate_left;(simp only [aP,i64_w,i32_w];rfl))
      (refine pN 13 28 (ms 27 14) rfl rfl (by kernel_rfl) (fun _ _ _=>id) (by rfl) ?_ ?_ ?_;rotate_left;(simp only [aP,i64_w,i32_w];rfl))
      (refine pN 14 29 (ms 27 15) rfl rfl (by kernel_rfl) (fun _ _ _=>id) (by rfl) ?_ ?_ ?_;rotate_left;(simp only [aP,i64_w,i32_w];rfl))
      (refine pN 15 30 (ms 27 16) rfl rfl (by kernel_rfl) (fun _ _ _=>id) (by rfl) ?_ ?_ ?_;rotate_left;(simp only [aP,i64_w,i32_w];rfl))
      (refine pN 16 31 (ms 27 17) rfl rfl (by kernel_rfl) (fun _ _ _=>id) (by rfl) ?_ ?_ ?_;rotate_left;(simp only [aP,i64_w,i32_w];rfl))
      (refine pN 17 32 (ms 27 18) rfl rfl (by kernel_rfl) (fun _ _ _=>id) (by rfl) ?_ ?_ ?_;rotate_left;(simp only [aP,i64_w,i32_w];rfl))
      (refine pN 18 33 (ms 27 19) rfl rfl (by kernel_rfl) (fun _ _ _=>id) (by rfl) ?_ ?_ ?_;rotate_left;(simp only [aP,i64_w,i32_w];rfl))
      (refine pN 19 34 (ms 27 20) rfl rfl (by kernel_rfl) (fun _ _ _=>id) (by rfl) ?_ ?_ ?_;rotate_left;(simp only [aP,i64_w,i32_w];rfl))
      (refine pN 20 35 (ms 27 21) rfl rfl (by kernel_rfl) (fun _ _ _=>id) (by rfl) ?_ ?_ ?_;rotate_left;(simp only [aP,i64_w,i32_w];rfl))
      (refine pN 21 36 (ms 27 22) rfl rfl (by kernel_rfl) (fun _ _ _=>id) (by rfl) ?_ ?_ ?_;rotate_left;(simp only [aP,i64_w,i32_w];rfl))
      (refine pN 22 37 (ms 27 23) rfl rfl (by kernel_rfl) (fun _ _ _=>id) (by rfl) ?_ ?_ ?_;rotate_left;(simp only [aP,i64_w,i32_w];rfl))
      (refine pN 23 38 (ms 27 24) rfl rfl (by kernel_rfl) (fun _ _ _=>id) (by rfl) ?_ ?_ ?_;rotate_left;(simp only [aP,i64_w,i32_w];rfl))
      (refine pN 24 39 (ms 27 25) rfl rfl (by kernel_rfl) (fun _ _ _=>id) (by rfl) ?_ ?_ ?_;rotate_left;(simp only [aP,i64_w,i32_w];rfl))
      (refine pN 25 40 (ms 27 26) rfl rfl (by kernel_rfl) (fun _ _ _=>id) (by rfl) ?_ ?_ ?_;rotate_left;(simp only [aP,i64_w,i32_w];rfl))
      (refine pU 26 41 ?_ (ms 27 27) rfl rfl (by kernel_rfl) (fun _ _ _=>id) (by rfl) ?_ ?_ ?_ ?_;rotate_left;(intro w';go_simp;with_reducible rfl);rotate_left;(simp only [aP,i64_w,i32_w];rfl))
      refine done_ (by kernel_rfl) ?_
      go_wp2_with fail
      go_meet
      exact ⟨rfl,Lib.hid hHeld⟩
     | true =>
      (refine pU 2 17 ?_ (ms 27 3) rfl rfl (by kernel_rfl) (fun _ _ _=>id) (by rfl) ?_ ?_ ?_ ?_;rotate_left;(intro w';go_simp;with_reducible rfl);rotate_left;(simp only [aP,i64_w,i32_w];rfl))
      (refine pU 3 18 ?_ (ms 27 4) rfl rfl (by kernel_rfl) (fun _ _ _=>id) (by rfl) ?_ ?_ ?_ ?_;rotate_left;(intro w';go_simp;with_reducible rfl);rotate_left;(simp only [aP,i64_w,i32_w];rfl))
      (refine pU 4 19 ?_ (ms 27 5) rfl rfl (by kernel_rfl) (fun _ _ _=>id) (by rfl) ?_ ?_ ?_ ?_;rotate_left;(intro w';go_simp;with_reducible rfl);rotate_left;(simp only [aP,i64_w,i32_w];rfl))
      (refine pU 5 20 ?_ (ms 27 6) rfl rfl (by kernel_rfl) (fun _ _ _=>id) (by rfl) ?_ ?_ ?_ ?_;rotate_left;(intro w';go_simp;with_reducible rfl);rotate_left;(simp only [aP,i64_w,i32_w];rfl))
      (refine take_ (i:=6) (N:=some 21) (v:=?_) (a':=?_) (ms 27 7) rfl rfl (by kernel_rfl) (fun _ _ _ h=>h) (Or.inl ⟨by rfl,?_⟩) hHeld ?_ ?_;rotate_left;(intro w' hS';have hc0:=(HL3.out.below hS') 0 _ rfl;simp only [Addr.add_zero'] at hc0;go_simp;with_reducible rfl);rotate_left;(simp only [aP,i64_w,i32_w];rfl))
      refine one_ (i:=7) (N:=some 22) (ms 27 8) rfl rfl (by kernel_rfl) (by decide) (fun K hK=>?_)
      refine goes_ Tryz.func19 (by kernel_rfl) rfl #[.string e.f0] (by rfl) rfl rfl (by simp only [List.map_toArray,List.map_cons,List.map_nil];rfl) ?_
      refine (par_calls _ e HE.out.1).mono ?_
      rintro x w5 ⟨rfl,hb5⟩
      refine ⟨_,rfl,?_⟩
      have HB5:=Lib.hid hb5
      clear hb5
      refine hK.out _ _ (YtjghikkboekonaaGreatDoor.below_then hHeld HB5.out) (fun hHeld=>?_)
      clear hK K
      refine norm_ (a':=?_) ?_ ?_
      rotate_left
      ·show Act.put _ (some 22) _=_
       (simp only [aP,i64_w,i32_w];rfl)
      (refine take_ (i:=8) (N:=some 23) (v:=?_) (a':=?_) (ms 27 9) rfl rfl (by kernel_rfl) (fun _ _ _ h=>h) (Or.inl ⟨by rfl,?_⟩) hHeld ?_ ?_;rotate_left;(intro w' hS';have hlk:=(HM3.out.ext hS').look (s:=parM (enOf e).1) (by have:=(part_len (enOf e).1).1;have:=HE.out.1;omega);go_simp;with_reducible rfl);rotate_left;(simp only [aP,i64_w,i32_w];rfl))
      have hs01:seenF ((l.map enOf).take i) (parM (enOf e).1)=0∨seenF ((l.map enOf).take i) (parM (enOf e).1)=1:=by unfold seenF;split <;> simp
      have HO1:Hid (ok=(decide (seenF ((l.map enOf).take i) (parM (enOf e).1)≠0) && (match ((l.map enOf).take i).getLast? with|none=>true|some y=>lessM y.1 (enOf e).1))):=Lib.hid (by rw [HOK.out];unfold stepOk;rw [hp,Bool.true_and])
      generalize seenF ((l.map enOf).take i) (parM (enOf e).1)=sn at hs01 HO1 ⊢
      rcases hs01 with rfl|rfl
      ·have ho:ok=false:=by rw [HO1.out];rfl
       subst ho
       (refine pU 9 24 ?_ (ms 27 10) rfl rfl (by kernel_rfl) (fun _ _ _=>id) (by rfl) ?_ ?_ ?_ ?_;rotate_left;(intro w';go_simp;with_reducible rfl);rotate_left;(simp only [aP,i64_w,i32_w];rfl))
       (refine pU 10 25 ?_ (ms 27 11) rfl rfl (by kernel_rfl) (fun _ _ _=>id) (by rfl) ?_ ?_ ?_ ?_;rotate_left;(intro w';go_simp;with_reducible rfl);rotate_left;(simp only [aP,i64_w,i32_w];rfl))
       (refine pU 11 26 ?_ (ms 27 12) rfl rfl (by kernel_rfl) (fun _ _ _=>id) (by rfl) ?_ ?_ ?_ ?_;rotate_left;(intro w';go_simp;with_reducible rfl);rotate_left;(simp only [aP,i64_w,i32_w];rfl))
       (refine pN 12 27 (ms 27 13) rfl rfl (by kernel_rfl) (fun _ _ _=>id) (by rfl) ?_ ?_ ?_;rotate_left;(simp only [aP,i64_w,i32_w];rfl))
       (refine pN 13 28 (ms 27 14) rfl rfl (by kernel_rfl) (fun _ _ _=>id) (by rfl) ?_ ?_ ?_;rotate_left;(simp only [aP,i64_w,i32_w];rfl))
       (refine pN 14 29 (ms 27 15) rfl rfl (by kernel_rfl) (fun _ _ _=>id) (by rfl) ?_ ?_ ?_;rotate_left;(simp only [aP,i64_w,i32_w];rfl))
       (refine pN 15 30 (ms 27 16) rfl rfl (by kernel_rfl) (fun _ _ _=>id) (by rfl) ?_ ?_ ?_;rotate_left;(simp only [aP,i64_w,i32_w];rfl))
       (refine pN 16 31 (ms 27 17) rfl rfl (by kernel_rfl) (fun _ _ _=>id) (by rfl) ?_ ?_ ?_;rotate_left;(simp only [aP,i64_w,i32_w];rfl))
       (refine pN 17 32 (ms 27 18) rfl rfl (by kernel_rfl) (fun _ _ _=>id) (by rfl) ?_ ?_ ?_;rotate_left;(simp only [aP,i64_w,i32_w];rfl))
       (refine pN 18 33 (ms 27 19) rfl rfl (by kernel_rfl) (fun _ _ _=>id) (by rfl) ?_ ?_ ?_;rotate_left;(simp only [aP,i64_w,i32_w];rfl))
       (refine pN 19 34 (ms 27 20) rfl rfl (by kernel_rfl) (fun _ _ _=>id) (by rfl) ?_ ?_ ?_;rotate_left;(simp only [aP,i64_w,i32_w];rfl))
       (refine pN 20 35 (ms 27 21) rfl rfl (by kernel_rfl) (fun _ _ _=>id) (by rfl) ?_ ?_ ?_;rotate_left;(simp only [aP,i64_w,i32_w];rfl))
       (refine pN 21 36 (ms 27 22) rfl rfl (by kernel_rfl) (fun _ _ _=>id) (by rfl) ?_ ?_ ?_;rotate_left;(simp only [aP,i64_w,i32_w];rfl))
       (refine pN 22 37 (ms 27 23) rfl rfl (by kernel_rfl) (fun _ _ _=>id) (by rfl) ?_ ?_ ?_;rotate_left;(simp only [aP,i64_w,i32_w];rfl))
       (refine pN 23 38 (ms 27 24) rfl rfl (by kernel_rfl) (fun _ _ _=>id) (by rfl) ?_ ?_ ?_;rotate_left;(simp only [aP,i64_w,i32_w];rfl))
       (refine pN 24 39 (ms 27 25) rfl rfl (by kernel_rfl) (fun _ _ _=>id) (by rfl) ?_ ?_ ?_;rotate_left;(simp only [aP,i64_w,i32_w];rfl))
       (refine pN 25 40 (ms 27 26) rfl rfl (by kernel_rfl) (fun _ _ _=>id) (by rfl) ?_ ?_ ?_;rotate_left;(simp only [aP,i64_w,i32_w];rfl))
       (refine pU 26 41 ?_ (ms 27 27) rfl rfl (by kernel_rfl) (fun _ _ _=>id) (by rfl) ?_ ?_ ?_ ?_;rotate_left;(intro w';go_simp;with_reducible rfl);rotate_left;(simp only [aP,i64_w,i32_w];rfl))
       refine done_ (by kernel_rfl) ?_
       go_wp2_with fail
       go_meet
       exact ⟨rfl,Lib.hid hHeld⟩
      ·by_cases h0:i=0
       ·have ho:ok=true:=by rw [HO1.out,h0];rfl
        subst ho
        have hgt:decide ((0:Int)<(i:Int))=false:=by simp;omega
        (refine pU 9 24 ?_ (ms 27 10) rfl rfl (by kernel_rfl) (fun _ _ _=>id) (by rfl) ?_ ?_ ?_ ?_;rotate_left;(intro w';go_simp;with_reducible rfl);rotate_left;(simp only [aP,i64_w,i32_w];rfl))
        (refine pU 10 25 ?_ (ms 27 11) rfl rfl (by kernel_rfl) (fun _ _ _=>id) (by rfl) ?_ ?_ ?_ ?_;rotate_left;(intro w';go_simp;with_reducible rfl);rotate_left;(simp only [aP,i64_w,i32_w];rfl))
        (refine pU 11 26 ?_ (ms 27 12) rfl rfl (by kernel_rfl) (fun _ _ _=>id) (by rfl) ?_ ?_ ?_ ?_;rotate_left;(intro w';go_simp;with_reducible rfl);rotate_left;(simp only [aP,i64_w,i32_w];rfl))
        (refine pU 12 27 ?_ (ms 27 13) rfl rfl (by kernel_rfl) (fun _ _ _=>id) (by rfl) ?_ ?_ ?_ ?_;rotate_left;(intro w';go_simp;with_reducible rfl);rotate_left;(simp only [aP,i64_w,i32_w];rfl))
        (refine pU 13 28 ?_ (ms 27 14) rfl rfl (by kernel_rfl) (fun _ _ _=>id) (by rfl) ?_ ?_ ?_ ?_;rotate_left;(intro w';go_simp;with_reducible rfl);rotate_left;(simp only [aP,i64_w,i32_w];rfl))
        (refine pU 14 29 ?_ (ms 27 15) rfl rfl (by kernel_rfl) (fun _ _ _=>id) (by rfl) ?_ ?_ ?_ ?_;rotate_left;(intro w';go_simp;with_reducible rfl);rotate_left;(simp only [aP,i64_w,i32_w];rfl))
        (refine pN 15 30 (ms 27 16) rfl rfl (by kernel_rfl) (fun _ _ _=>id) (by rfl) ?_ ?_ ?_;rotate_left;(simp only [aP,i64_w,i32_w];rfl))
        (refine pN 16 31 (ms 27 17) rfl rfl (by kernel_rfl) (fun _ _ _=>id) (by rfl) ?_ ?_ ?_;rotate_left;(simp only [aP,i64_w,i32_w];rfl))
        (refine pN 17 32 (ms 27 18) rfl rfl (by kernel_rfl) (fun _ _ _=>id) (by rfl) ?_ ?_ ?_;rotate_left;(simp only [aP,i64_w,i32_w];rfl))
        (refine pN 18 33 (ms 27 19) rfl rfl (by kernel_rfl) (fun _ _ _=>id) (by rfl) ?_ ?_ ?_;rotate_left;(simp only [aP,i64_w,i32_w];rfl))
        (refine pN 19 34 (ms 27 20) rfl rfl (by kernel_rfl) (fun _ _ _=>id) (by rfl) ?_ ?_ ?_;rotate_left;(simp only [aP,i64_w,i32_w];rfl))
        (refine pN 20 35 (ms 27 21) rfl rfl (by kernel_rfl) (fun _ _ _=>id) (by rfl) ?_ ?_ ?_;rotate_left;(simp only [aP,i64_w,i32_w];rfl))
        (refine pN 21 36 (ms 27 22) rfl rfl (by kernel_rfl) (fun _ _ _=>id) (by rfl) ?_ ?_ ?_;rotate_left;(simp only [aP,i64_w,i32_w];rfl))
        (refine pN 22 37 (ms 27 23) rfl rfl (by kernel_rfl) (fun _ _ _=>id) (by rfl) ?_ ?_ ?_;rotate_left;(simp only [aP,i64_w,i32_w];rfl))
        (refine pN 23 38 (ms 27 24) rfl rfl (by kernel_rfl) (fun _ _ _=>id) (by rfl) ?_ ?_ ?_;rotate_left;(simp only [aP,i64_w,i32_w];rfl))
        (refine pN 24 39 (ms 27 25) rfl rfl (by kernel_rfl) (fun _ _ _=>id) (by rfl) ?_ ?_ ?_;rotate_left;(simp only [aP,i64_w,i32_w];rfl))
        (refine pU 25 40 ?_ (ms 27 26) rfl rfl (by kernel_rfl) (fun _ _ _=>id) (by rfl) ?_ ?_ ?_ ?_;rotate_left;(intro w';go_simp;with_reducible rfl);rotate_left;(simp only [aP,i64_w,i32_w];rfl))
        (refine pU 26 41 ?_ (ms 27 27) rfl rfl (by kernel_rfl) (fun _ _ _=>id) (by rfl) ?_ ?_ ?_ ?_;rotate_left;(intro w';go_simp;with_reducible rfl);rotate_left;(simp only [aP,i64_w,i32_w];rfl))
        refine done_ (by kernel_rfl) ?_
        go_wp2_with fail
        go_meet
        exact ⟨rfl,Lib.hid hHeld⟩
       ·obtain ⟨m,hm⟩:∃ m,m + 1=i:=⟨i - 1,by omega⟩
        have hml:m<l.length:=by omega
        have hgt:decide (0<i)=true:=by simp;omega
        obtain ⟨ad',hade,hatm⟩:=en_at HR.out m hml
        obtain rfl:=Option.some.inj hade
        have HATM:=Lib.hid (hatm.below HBL3.out)
        obtain ⟨y,hy⟩:∃ y,y=l[m]:=⟨_,rfl⟩
        have HEY:=Lib.hid (fits_get HF.out (List.mem_map_of_mem (f:=enOf) (List.getElem_mem hml)))
        rw [← hy] at HATM HEY
        have HO2:Hid (ok=lessM (enOf y).1 (enOf e).1):=Lib.hid (by
         rw [HO1.out,← hm,List.take_succ_eq_append_getElem (by simpa using hml),List.getLast?_concat,List.getElem_map,← hy];rfl)
        have hsub:IntKind.i64.wrap ((i:Int) - 1)=(m:Int):=by have:=HL.out;rw [← hm,IntWalk.i64_in _ (by omega)];omega
        clear hade hatm hy h0 HO1
        (refine pU 9 24 ?_ (ms 27 10) rfl rfl (by kernel_rfl) (fun _ _ _=>id) (by rfl) ?_ ?_ ?_ ?_;rotate_left;(intro w';go_simp;with_reducible rfl);rotate_left;(simp only [aP,i64_w,i32_w];rfl))
        (refine pU 10 25 ?_ (ms 27 11) rfl rfl (by kernel_rfl) (fun _ _ _=>id) (by rfl) ?_ ?_ ?_ ?_;rotate_left;(intro w';go_simp;with_reducible rfl);rotate_left;(simp only [aP,i64_w,i32_w];rfl))
        (refine pU 11 26 ?_ (ms 27 12) rfl rfl (by kernel_rfl) (fun _ _ _=>id) (by rfl) ?_ ?_ ?_ ?_;rotate_left;(intro w';go_simp;with_reducible rfl);rotate_left;(simp only [aP,i64_w,i32_w];rfl))
        (refine pU 12 27 ?_ (ms 27 13) rfl rfl (by kernel_rfl) (fun _ _ _=>id) (by rfl) ?_ ?_ ?_ ?_;rotate_left;(intro w';go_simp;with_reducible rfl);rotate_left;(simp only [aP,i64_w,i32_w];rfl))
        (refine pU 13 28 ?_ (ms 27 14) rfl rfl (by kernel_rfl) (fun _ _ _=>id) (by rfl) ?_ ?_ ?_ ?_;rotate_left;(intro w';go_simp;with_reducible rfl);rotate_left;(simp only [aP,i64_w,i32_w];rfl))
        (refine pU 14 29 ?_ (ms 27 15) rfl rfl (by kernel_rfl) (fun _ _ _=>id) (by rfl) ?_ ?_ ?_ ?_;rotate_left;(intro w';go_simp;with_reducible rfl);rotate_left;(simp only [aP,i64_w,i32_w];rfl))
        (refine pU 15 30 ?_ (ms 27 16) rfl rfl (by kernel_rfl) (fun _ _ _=>id) (by rfl) ?_ ?_ ?_ ?_;rotate_left;(intro w';go_simp;with_reducible rfl);rotate_left;(simp only [aP,i64_w,i32_w];rfl))
        (refine pU 16 31 ?_ (ms 27 17) rfl rfl (by kernel_rfl) (fun _ _ _=>id) (by rfl) ?_ ?_ ?_ ?_;rotate_left;(intro w';go_simp;with_reducible rfl);rotate_left;(simp only [aP,i64_w,i32_w];rfl))
        (refine pU 17 32 ?_ (ms 27 18) rfl rfl (by kernel_rfl) (fun _ _ _=>id) (by rfl) ?_ ?_ ?_ ?_;rotate_left;(intro w';have hsub1:=hsub;go_simp;with_reducible rfl);rotate_left;(simp only [aP,i64_w,i32_w];rfl))
        have hm0:(0:Int)≤(m:Int):=by omega
        have hm1:(m:Int)<(l.length:Int):=by omega
        (refine pU 18 33 ?_ (ms 27 19) rfl rfl (by kernel_rfl) (fun _ _ _=>id) (by rfl) ?_ ?_ ?_ ?_;rotate_left;(intro w';go_simp;with_reducible rfl);rotate_left;(simp only [aP,i64_w,i32_w];rfl))
        (refine pU 19 34 ?_ (ms 27 20) rfl rfl (by kernel_rfl) (fun _ _ _=>id) (by rfl) ?_ ?_ ?_ ?_;rotate_left;(intro w';go_simp;with_reducible rfl);rotate_left;(simp only [aP,i64_w,i32_w];rfl))
        (refine take_ (i:=20) (N:=some 35) (v:=?_) (a':=?_) (ms 27 21) rfl rfl (by kernel_rfl) (fun _ _ _ h=>h) (Or.inl ⟨by rfl,?_⟩) hHeld ?_ ?_;rotate_left;(intro w' hS';have hc0:=(HATM.out.below hS') 0 _ rfl;simp only [Addr.add_zero'] at hc0;go_simp;with_reducible rfl);rotate_left;(simp only [aP,i64_w,i32_w];rfl))
        (refine pU 21 36 ?_ (ms 27 22) rfl rfl (by kernel_rfl) (fun _ _ _=>id) (by rfl) ?_ ?_ ?_ ?_;rotate_left;(intro w';go_simp;with_reducible rfl);rotate_left;(simp only [aP,i64_w,i32_w];rfl))
        (refine take_ (i:=22) (N:=some 37) (v:=?_) (a':=?_) (ms 27 23) rfl rfl (by kernel_rfl) (fun _ _ _ h=>h) (Or.inl ⟨by rfl,?_⟩) hHeld ?_ ?_;rotate_left;(intro w' hS';have hc0:=(HL3.out.below hS') 0 _ rfl;simp only [Addr.add_zero'] at hc0;go_simp;with_reducible rfl);rotate_left;(simp only [aP,i64_w,i32_w];rfl))
        refine one_ (i:=23) (N:=some 38) (ms 27 24) rfl rfl (by kernel_rfl) (by decide) (fun K hK=>?_)
        refine goes_ Tryz.func37 (by kernel_rfl) rfl #[.string y.f0,.string e.f0] (by rfl) rfl rfl (by simp only [List.map_toArray,List.map_cons,List.map_nil];rfl) ?_
        refine (compare_calls _ (hG.ext (YtjghikkboekonaaGreatDoor.below_then HBL3.out hHeld)) (enOf y).1 (enOf e).1 (by have:=HEY.out.1;omega) (by have:=HE.out.1;omega)).mono ?_
        rintro x w6 ⟨rfl,hb6⟩
        refine ⟨_,rfl,?_⟩
        have HB6:=Lib.hid hb6
        clear hb6
        refine hK.out _ _ (YtjghikkboekonaaGreatDoor.below_then hHeld HB6.out) (fun hHeld=>?_)
        clear hK K
        refine norm_ (a':=?_) ?_ ?_
        rotate_left
        ·show Act.put _ (some 38) _=_
         (simp only [aP,i64_w,i32_w];rfl)
        have hok:decide ((0:Int)≤cmpM (enOf y).1 (enOf e).1)=!ok:=by rw [HO2.out];unfold lessM;by_cases h:cmpM (enOf y).1 (enOf e).1<0 <;> simp [h] <;> omega
        generalize cmpM (enOf y).1 (enOf e).1=cv at hok ⊢
        (refine pU 24 39 ?_ (ms 27 25) rfl rfl (by kernel_rfl) (fun _ _ _=>id) (by rfl) ?_ ?_ ?_ ?_;rotate_left;(intro w';go_simp;with_reducible rfl);rotate_left;(simp only [aP,i64_w,i32_w];rfl))
        (refine pU 25 40 ?_ (ms 27 26) rfl rfl (by kernel_rfl) (fun _ _ _=>id) (by rfl) ?_ ?_ ?_ ?_;rotate_left;(intro w';go_simp;with_reducible rfl);rotate_left;(simp only [aP,i64_w,i32_w];rfl))
        (refine pU 26 41 ?_ (ms 27 27) rfl rfl (by kernel_rfl) (fun _ _ _=>id) (by rfl) ?_ ?_ ?_ ?_;rotate_left;(intro w';go_simp;with_reducible rfl);rotate_left;(simp only [aP,i64_w,i32_w];rfl))
        refine done_ (by kernel_rfl) ?_
        go_wp2_with fail
        go_meet
        exact ⟨rfl,Lib.hid hHeld⟩
    case rest =>
     obtain ⟨rfl,hb5⟩:=hcut
     have HB5:Hid (Below w.heap.size w wc):=Lib.hid (YtjghikkboekonaaGreatDoor.below_then HBL3.out hb5.out)
     have HB35:=hb5
     cases ok with
     | false =>
      go_wp2_with fail
      go_ret
      exact ⟨by rw [HG1.out];rfl,HB5.out⟩
     | true =>
      have HLC:=Lib.hid (HL3.out.below HB35.out)
      have q0:=HLC.out 0 _ rfl
      have q1:=HLC.out 1 _ rfl
      rw [Addr.add_mid] at q0 q1
      have HMC:=Lib.hid (HM3.out.ext HB35.out)
      have HG2:Hid (rightT Y (l.map enOf)=rightGo Y ((l.map enOf).take (i + 1)) ((l.map enOf).drop (i + 1))):=Lib.hid (by rw [HG1.out,Bool.true_and])
      have HII:Hid (i + 1≤l.length):=Lib.hid hi
      have HLL:=HL.out
      cases hk:(e.f1.f0 == 1) with
      | false =>
       have hdir:Y.dir (enOf e).2=false:=by
        have:¬ e.f1.f0=1:=by simpa using hk
        show decide (e.f1.f0=1)=false
        simpa using this
       have HMN:Hid (CntMap wc w.heap.size n (seenF ((l.map enOf).take (i + 1)))):=Lib.hid (by rw [HT1.out,seen_not _ _ hdir];exact HMC.out)
       go_wp2_with fail
       go_roundg g1
       case measure=>omega
       case rel=>exact ⟨i + 1,by go_num,by omega,HII,Lib.hid ⟨n,by have:=HN.out;omega,HMN.out⟩,HG2,HB5⟩
      | true =>
       have hdir:Y.dir (enOf e).2=true:=by
        have:e.f1.f0=1:=by simpa using hk
        show decide (e.f1.f0=1)=true
        simpa using this
       have HS:Hid (∀ key,seenF ((l.map enOf).take (i + 1)) key=if key == (enOf e).1 then 1 else seenF ((l.map enOf).take i) key):=Lib.hid (by rw [HT1.out];exact seen_dir _ _ hdir)
       go_wp2_with (first|(at_mapUpdate;refine wpList_cnt_up rfl rfl _ _ _ rfl _ n _ rfl HMC.out (by have:=HN.out;omega) (enOf e).1 1 rfl rfl (by have:=HE.out.1;omega) (by omega) _ HS.out ?_))
       intro w6 hm6 hg6
       have HM6:=Lib.hid hm6
       have HB6:Hid (Below w.heap.size w w6):=Lib.hid (HB5.out.grown hg6 HB5.out.size (fun j hj=>by cases hj;exact Nat.le_refl _))
       clear hm6 hg6
       go_wp2_with fail
       go_roundg g1
       case measure=>omega
       case rel=>exact ⟨i + 1,by go_num,by omega,HII,Lib.hid ⟨n + 1,by have:=HN.out;omega,HM6.out⟩,HG2,HB6⟩
  ·have he:i=l.length:=by have:=HI.out;omega
   subst he
   go_wp2_with fail
   go_ret
   refine ⟨?_,HB.out⟩
   rw [HG.out,List.drop_eq_nil_of_le (by simp)]
   have:((l.map enOf).take l.length).length=l.length:=by simp
   simp only [rightGo,this]
   have hv:decide ((l.length:Int)≤5000)=decide (l.length≤5000):=by rw [Bool.eq_iff_iff,decide_eq_true_eq,decide_eq_true_eq];omega
   exact congrArg (fun b=>Ending.returned (Value.bool b)) hv
def rowFits' (l:List S32):Prop:=rowFits (l.map enOf)=true∧l.length≤1000000
instance (l:List S32):Decidable (rowFits' l):=by unfold rowFits';infer_instance
end Go.Proofs.Zq
end
section
namespace Go.Proofs.Zq
open Go.RowKit Go.Proofs.YtjghikkboekonaaGreatDoor Go.Proofs.Zw.PrintWords Go.Proofs.Zw.PrintLast Go.Proofs.Zw.PrintMore
open Go.Proofs.Zt (tarM Ch rightC lessM chain cmpM unmarkF)
theorem tar_f (e:S57) (h:(chOf e).path.length≤1000000) (k:Nat) (hk:2000000<k) :
  change_tar.f k e.f0 e.f1 e.f2.f0 e.f2.f1 e.f2.f2 e.f2.f3 e.f2.f4 e.f2.f5 e.f2.f6 e.f2.f7 e.f2.f8 e.f2.f9=some (B (tarM (chOf e).op (chOf e).path)):=by
 have e1:e.f0=B (chOf e).path:=(B_L _).symm
 unfold change_tar.f
 rw [e1,show e.f1=(chOf e).op from rfl,unmark_f _ _ (by omega) k (by omega)]
 simp only [Option.bind_some]
 rw [unmarkR_1]
theorem less_f (a b:S57) (ha:(chOf a).path.length≤1000000) (hb:(chOf b).path.length≤1000000) (k:Nat) (hk:2000000<k) :
  change_Less.f k a.f0 a.f1 a.f2.f0 a.f2.f1 a.f2.f2 a.f2.f3 a.f2.f4 a.f2.f5 a.f2.f6 a.f2.f7 a.f2.f8 a.f2.f9 b.f0 b.f1 b.f2.f0 b.f2.f1 b.f2.f2 b.f2.f3 b.f2.f4 b.f2.f5 b.f2.f6 b.f2.f7 b.f2.f8 b.f2.f9 =
   some (lessM (tarM (chOf a).op (chOf a).path) (tarM (chOf b).op (chOf b).path)):=by
 unfold change_Less.f change_compare.f
 rw [tar_f a ha k hk,tar_f b hb k hk]
 simp only [Option.bind_some]
 unfold paths_Compare.f
 have h1:=tar_len (chOf a).op (chOf a).path
 have h2:=tar_len (chOf b).op (chOf b).path
 rw [if_pos (by rw [B_size,B_size];omega)]
 rfl
end Go.Proofs.Zq
end
section
namespace Go.Proofs.Zq
open Go.RowKit Go.WideMaps Go.Maps Go.Proofs.YtjghikkboekonaaGreatDoor Go.Proofs.Zw.PrintWords Go.Proofs.Zw.PrintLast Go.Proofs.Zw.PrintMore
open Go.Proofs.Zt (rightT rightC applyM applyL parM lessM cmpM getL Ch puts Puts tkL PS Srt isM)
theorem eCells_en (e:S32):enCells e=eCells (enOf e):=by
 obtain ⟨p,x⟩:=e
 obtain ⟨a1,a2,a3,a4,a5,a6,a7,a8,a9,a10⟩:=x
 simp [enCells,eCells,ndCells,enOf,ndOf,B_L]
theorem eCells_all (e:Str×Nd):(eCells e).toArray.all (·.oneCell')=true:=by simp [eCells,ndCells,Value.oneCell']
theorem eCells_len (e:Str×Nd):(eCells e).length=11:=rfl
theorem eCells_one (e:Str×Nd):∀ u ∈ eCells e,u.oneCell'=true:=by
 intro u hu
 simp [eCells,ndCells] at hu
 rcases hu with rfl|rfl|rfl|rfl|rfl|rfl|rfl|rfl|rfl|rfl|rfl <;> rfl
theorem e_at {w:World} {A:Option Addr} {xs:List S32} (h:Kd.C k32 w A xs.length xs) (i:Nat) (hi:i<xs.length) :
  ∃ ad,A=some ad∧LiesAt w (ad.add (i * 11)) (eCells (enOf xs[i])):=by
 obtain ⟨ad,h1,h2⟩:=en_at h i hi
 rw [eCells_en] at h2
 exact ⟨ad,h1,h2⟩
def lyrFits (l:List (Ch Str Nd)):Bool:=l.all fun e=>decide (e.path.length≤1000000) && ndFits e.node
end Go.Proofs.Zq
end
section
namespace Go.Proofs.Zq
open Go.RowKit Go.Proofs.Zw.PrintWords Go.Proofs.Zw.PrintLast Go.Proofs.Zw.PrintMore
open Go.Proofs.YtjghikkboekonaaGreatDoor (GL)
attribute [local go_sem] max2_int min2_int max_two min_two max_three min_three max_four min_four
theorem eqA28 (d:Nat) (w:World) (x0 y0:Int) (x1 y1:Int) (x2 y2:Int) (x3 y3:Int) (x4 y4:Int) (x5 y5:ByteArray) (x6 y6:ByteArray) (x7 y7:Int) (x8 y8:Int) (x9 y9:ByteArray) :
  (Op.equalIn (d + 2) 28 (.agg #[.int .i64 x0,.int .i64 x1,.int .i64 x2,.int .i64 x3,.int .i64 x4,.string x5,.string x6,.int .i64 x7,.int .i64 x8,.string x9]) (.agg #[.int .i64 y0,.int .i64 y1,.int .i64 y2,.int .i64 y3,.int .i64 y4,.string y5,.string y6,.int .i64 y7,.int .i64 y8,.string y9])).run Tryz.prog w=.ok (x0 == y0 && (x1 == y1 && (x2 == y2 && (x3 == y3 && (x4 == y4 && (x5.toList == y5.toList && (x6.toList == y6.toList && (x7 == y7 && (x8 == y8 && (x9.toList == y9.toList)))))))))) w:=by
 refine eqA_of Tryz.underlying28 (by kernel_rfl) ?_
 refine eqf_cons (by rfl) (by go_simp;rfl) (by go_simp;rfl) (by go_simp) ?_
 refine eqf_cons (by rfl) (by go_simp;rfl) (by go_simp;rfl) (by go_simp) ?_
 refine eqf_cons (by rfl) (by go_simp;rfl) (by go_simp;rfl) (by go_simp) ?_
 refine eqf_cons (by rfl) (by go_simp;rfl) (by go_simp;rfl) (by go_simp) ?_
 refine eqf_cons (by rfl) (by go_simp;rfl) (by go_simp;rfl) (by go_simp) ?_
 refine eqf_cons (by rfl) (by go_simp;rfl) (by go_simp;rfl) (by go_simp) ?_
 refine eqf_cons (by rfl) (by go_simp;rfl) (by go_simp;rfl) (by go_simp) ?_
 refine eqf_cons (by rfl) (by go_simp;rfl) (by go_simp;rfl) (by go_simp) ?_
 refine eqf_cons (by rfl) (by go_simp;rfl) (by go_simp;rfl) (by go_simp) ?_
 exact eqf_last (by rfl) (by go_simp;rfl) (by go_simp;rfl) (by go_simp)
end Go.Proofs.Zq
end
section
namespace Go.Proofs.Zq
open Go.RowKit Go.Proofs.YtjghikkboekonaaGreatDoor Go.Proofs.Zw.PrintWords Go.Proofs.Zw.PrintLast Go.Proofs.Zw.PrintMore
open Go.Proofs.Zt (tarM Ch rightC lessM chain)
theorem less_calls (w:World) (hG:GL w) (a b:Ch Str Nd) (ha:a.path.length≤1000000) (hb:b.path.length≤1000000) :
  Calls Tryz.prog 45 #[.agg (chCells a).toArray,.agg (chCells b).toArray] w fun e w'=>e=.returned (.bool (lessM (tarM a.op a.path) (tarM b.op b.path)))∧Below w.heap.size w w' :=
 change_Less.calls 2000001 (B a.path) a.op a.node.kind a.node.mode a.node.uid a.node.gid a.node.mtime (B a.node.link) (B a.node.data) a.node.major a.node.minor (B a.node.attrs)
  (B b.path) b.op b.node.kind b.node.mode b.node.uid b.node.gid b.node.mtime (B b.node.link) (B b.node.data) b.node.major b.node.minor (B b.node.attrs) _ w hG (less_f (ofCh a) (ofCh b) ha hb _ (by omega))
section
variable {P:Program} {ops:Array Oper} {rest:List Oper} {o:Oper} {a:Act} {Q:Exit→Act→World→Prop} {W:World}
theorem wpList_giv (hw:Region.wanted o (yielded ops a.tmps)=true) {v:Value} (hrun:(execOp a.eval o).run P W=.ok (.value v) W)
  (h:wpList P ops Q rest (a.put o.dst v) W):wpList P ops Q (o :: rest) a W:=by
 unfold wpList
 rw [if_pos hw]
 refine Or.inl ?_
 unfold Oper.wp
 rw [hrun]
 exact h
end
structure AtC (w0 w:World) (g:Nat) (c:Ch Str Nd):Prop where
 blk:w.heap[g]?=some (.cells (chCells c).toArray 57 (0,0))
 below:Below w0.heap.size w0 w
theorem AtC.ext {w0 w w1:World} {g:Nat} {c:Ch Str Nd} (h:AtC w0 w g c) (hb:Below w.heap.size w w1):AtC w0 w1 g c:=⟨blk_below h.blk hb,YtjghikkboekonaaGreatDoor.below_then h.below hb⟩
theorem AtC.at {w0 w:World} {g:Nat} {c:Ch Str Nd} (h:AtC w0 w g c) (j:Nat) {v:Value} (hv:(chCells c)[j]?=some v):w.cell? ⟨g,j,none⟩=some v:=by
 rw [YtjghikkboekonaaGreatDoor.blk_cell h.blk];simpa using hv
theorem AtC.node {w0 w:World} {g:Nat} {c:Ch Str Nd} (h:AtC w0 w g c):LiesAt w ⟨g,2,none⟩ (ndCells c.node):=fun j v hv=>by
 rw [Addr.add_mid]
 refine h.at (2 + j) ?_
 unfold chCells
 rw [Nat.add_comm 2 j,List.getElem?_cons_succ,List.getElem?_cons_succ]
 exact hv
theorem zero_eq (n:Nd):(n.kind == 0 && (n.mode == 0 && (n.uid == 0 && (n.gid == 0 && (n.mtime == 0 && ((B n.link).toList == ([]:List UInt8) && ((B n.data).toList == ([]:List UInt8) && (n.major == 0 && (n.minor == 0 && ((B n.attrs).toList == ([]:List UInt8)))))))))))=decide (n=zeroN):=by
 obtain ⟨a1,a2,a3,a4,a5,a6,a7,a8,a9,a10⟩:=n
 simp only [toList_B,zeroN,Nd.mk.injEq]
 rw [Bool.eq_iff_iff]
 simp
theorem eqN (d:Nat) (w:World) (n:Nd):(Op.equalIn (d + 2) 28 (.agg (ndCells n).toArray) (.agg (ndCells zeroN).toArray)).run Tryz.prog w=.ok (decide (n=zeroN)) w:=by
 have h:=eqA28 d w n.kind 0 n.mode 0 n.uid 0 n.gid 0 n.mtime 0 (B n.link) (B []) (B n.data) (B []) n.major 0 n.minor 0 (B n.attrs) (B [])
 rw [← zero_eq]
 simp only [toList_B] at h ⊢
 exact h
attribute [local go_sem high] eqN
end Go.Proofs.Zq
end
section
namespace Go.Proofs.Zq
open Go.RowKit Go.WideMaps Go.Maps Go.Proofs.YtjghikkboekonaaGreatDoor Go.Proofs.Zw.PrintWords Go.Proofs.Zw.PrintLast Go.Proofs.Zw.PrintMore
open Go.Proofs.Zt (rightT rightC applyM applyL parM lessM cmpM getL Ch puts Puts tkL PS Srt isM RightT RightL underM)
theorem getL_step {t:List (Str×Nd)} (hs:t.Pairwise fun a b=>a.1≠b.1) (i:Nat) (hi:i<t.length) (key:Str):getL (t.take (i + 1)) key=if key=t[i].1 then some t[i].2 else getL (t.take i) key:=by
 rw [List.take_succ_eq_append_getElem hi,Zt.getL_append]
 by_cases hk:key=t[i].1
 ·subst hk
  rw [if_pos rfl,if_pos rfl]
  have:getL (t.take i) t[i].1=none:=by
   cases h:getL (t.take i) t[i].1 with
   | none=>rfl
   | some n =>
    have hm:=Zt.getL_mem h
    obtain ⟨j,hj,he⟩:=List.getElem_of_mem hm
    have hj':j<i:=by simp at hj;omega
    have:=List.pairwise_iff_getElem.1 hs j i (by omega) hi hj'
    rw [List.getElem_take] at he
    rw [he] at this
    exact absurd rfl this
  rw [this];rfl
 ·rw [if_neg hk,if_neg (fun h=>hk h.symm)]
  cases getL (t.take i) key <;> rfl
theorem info_en:(Tryz.prog.info? 32).map (fun i=>(i.zero,i.size,i.bytes))=some (some (.agg enZero),11,120):=by kernel_rfl
def chZero:Array Value:=#[.string (⟨#[]⟩:ByteArray),.int .i64 0,.int .i64 0,.int .i64 0,.int .i64 0,.int .i64 0,.int .i64 0,.string (⟨#[]⟩:ByteArray),.string (⟨#[]⟩:ByteArray),.int .i64 0,.int .i64 0,.string (⟨#[]⟩:ByteArray)]
end Go.Proofs.Zq
end
section
namespace Go.Proofs.Zq
open Go.RowKit Go.WideMaps Go.Maps Go.Proofs.YtjghikkboekonaaGreatDoor Go.Proofs.Zw.PrintWords Go.Proofs.Zw.PrintLast Go.Proofs.Zw.PrintMore
open Go.Proofs.Zt (applyM)
theorem en_R {w:World} {base:Nat} {v:Value} {l:List (Str×Nd)} (h:Owr eCells 32 11 base w v l):Kd.R k32 32 w base (fun _=>True) v (l.map ofEn) :=
 R_of_own (d:=k32) (f:=enOf) (fun w base ok x=>by rw [← eCells_en];exact k32_mkM w base ok x) eCells_len (by rw [ens_back];exact h)
def lyrFits' (l:List S57):Prop:=lyrFits (l.map chOf)=true∧l.length≤1000000
instance (l:List S57):Decidable (lyrFits' l):=by unfold lyrFits';infer_instance
end Go.Proofs.Zq
end
section
namespace Go.Proofs.Zq
open Go.RowKit Go.Proofs.YtjghikkboekonaaGreatDoor
open Go.Proofs.Zt (applyM rightT Ch)
def dN:Nd:={ zeroN with kind:=1 }
end Go.Proofs.Zq
end
section
namespace Go.Proofs.Zq
open Go.RowKit Go.Proofs.YtjghikkboekonaaGreatDoor Go.Proofs.Zw.PrintWords Go.Proofs.Zw.PrintLast Go.Proofs.Zw.PrintMore
open Go.Proofs.Zt (getL)
def getN (l:List (Str×Nd)) (p:Str):Nd×Bool:=match getL l p with|some n=>(n,true)|none=>(zeroN,false)
theorem getN_cons (e:Str×Nd) (r:List (Str×Nd)) (p:Str):getN (e :: r) p=if e.1=p then (e.2,true) else getN r p:=by
 obtain ⟨a,n⟩:=e
 unfold getN
 simp only [getL]
 by_cases h:a=p
 ·rw [if_pos h,if_pos h]
 ·rw [if_neg h,if_neg h]
set_option maxRecDepth 100000 in
set_option maxHeartbeats 4000000 in
theorem get_calls (w:World) (A:Option Addr) (c:Nat) (l:List S32) (hr:Kd.C k32 w A l.length l) (hl:l.length≤1000000) (p:Str) :
  Calls Tryz.prog 18 #[.slice A l.length c,.string (B p)] w fun e w'=>e=.returned (.tuple #[.agg (ndCells (getN (l.map enOf) p).1).toArray,.bool (getN (l.map enOf) p).2])∧Below w.heap.size w w':=by
 have HR:=Lib.hid hr
 have HL:=Lib.hid hl
 clear hr hl
 have HU:=Lib.hid Tryz.underlying32
 have HUN:=Lib.hid Tryz.underlying28
 go_enter Tryz.func18,Tryz.ntmps18
 go_upto_region 1 with (first|((with_reducible refine gate_dst (N:=4) rfl ?_);refine box_event rfl (N:=4) rfl (cs:=ndZero) (t:=28) ?hr ?_;(case hr=>first|(go_simp;done)|(go_simp;rfl));intro g0 hg w1 hb1 hbl1;have HG0:Hid (w.heap.size≤g0):=Lib.hid (by rw [hg];exact Nat.le_refl _);have HB0:=Lib.hid hb1;have HBL0:Hid (Below w.heap.size w w1):=Lib.hid hbl1;clear hg hb1 hbl1))
 go_wp2
 go_loopg [10] (l.length + 1) (fun g v wr=>∃ i:Nat,v=.int .i64 i∧l.length<g + i∧Hid (i≤l.length)∧Hid (getN (l.map enOf) p=getN ((l.map enOf).drop i) p)∧Hid (wr.heap[g0]?=some (.cells ndZero 28 (0,0)))∧Hid (Below w.heap.size w wr))
 case atStart=>exact ⟨0,rfl,by omega,Lib.hid (by omega),Lib.hid (by rw [List.drop_zero]),HB0,HBL0⟩
 case round =>
  clear HB0 HBL0
  obtain ⟨i,rfl,hgi,HI,HG,HZ,HB⟩:=hrel
  by_cases hi:i<l.length
  ·cases gk with
   | zero=>omega
   | succ g1 =>
    obtain ⟨ad,rfl,hat⟩:=e_at HR.out i hi
    have HAT:=Lib.hid (hat.below HB.out)
    clear hat
    obtain ⟨e,hee⟩:∃ e,e=enOf l[i]:=⟨_,rfl⟩
    rw [← hee] at HAT
    have HG1:Hid (getN (l.map enOf) p=if e.1=p then (e.2,true) else getN ((l.map enOf).drop (i + 1)) p):=Lib.hid (by
     rw [HG.out,show (l.map enOf).drop i=e :: (l.map enOf).drop (i + 1) from by rw [hee,List.drop_eq_getElem_cons (by simpa using hi)];simp,getN_cons])
    clear hee HG
    go_upto_region 4 with (first|((with_reducible refine gate_dst (N:=13) rfl ?_);refine wpList_load_agg rfl 32 _ rfl _ rfl (eCells e) _ HAT.out HU.out rfl rfl ?_)|((with_reducible refine gate_dst (N:=7) rfl ?_);refine box_event rfl (N:=7) rfl (cs:=enZero) (t:=32) ?hr ?_;(case hr=>first|(go_simp;done)|(go_simp;rfl));intro g hg w2 hb2 hbl2;have HGE:Hid (wr.heap.size≤g):=Lib.hid (by rw [hg];exact Nat.le_refl _);have HB2:=Lib.hid hb2;have HBL2:=Lib.hid hbl2;clear hg hb2 hbl2)|((with_reducible refine gate_store (t:=32) (p:=7) rfl ?_);refine wpList_store_agg rfl rfl 32 _ _ rfl g (eCells e).toArray rfl rfl 32 enZero HB2.out rfl rfl (by simp [eCells,ndCells,Value.oneCell']) ?_;intro w3 hb3 hg3;have HB3:=Lib.hid hb3;have HBL3:Hid (Below wr.heap.size wr w3):=Lib.hid (HBL2.out.grown hg3 HBL2.out.size (fun j hj=>by cases hj;exact HGE.out));clear hb3 hg3))
    have HZ3:=Lib.hid (blk_below HZ.out HBL3.out)
    have HW3:=Lib.hid (YtjghikkboekonaaGreatDoor.below_then HB.out HBL3.out)
    have HLE:Hid (LiesAt w3 ⟨g,0,none⟩ (eCells e)):=Lib.hid (fun j v hv=>by rw [Addr.add_mid,Nat.zero_add,YtjghikkboekonaaGreatDoor.blk_cell HB3.out];simpa using hv)
    have HLN:Hid (LiesAt w3 ⟨g,1,none⟩ (ndCells e.2)):=Lib.hid (fun j v hv=>by
     rw [Addr.add_mid,YtjghikkboekonaaGreatDoor.blk_cell HB3.out]
     unfold eCells
     rw [Nat.add_comm 1 j]
     simpa using hv)
    have q0:w3.cell? ⟨g,0,none⟩=some (.string (B e.1)):=by have h:=HLE.out 0 _ rfl;rwa [Addr.add_mid] at h
    clear HB2 HBL2 HB3 HLE HAT HBL3 HZ HGE
    by_cases hp:e.1=p
    ·have HV:=Lib.hid (HG1.out.trans (if_pos hp))
     have hq:(e.1 == p)=true:=by simpa using hp
     go_wp2_with (first|((with_reducible refine gate_dst (N:=19) rfl ?_);refine wpList_load_agg rfl 28 _ rfl _ rfl (ndCells e.2) _ HLN.out HUN.out rfl rfl ?_)|((with_reducible refine gate_store (t:=28) (p:=4) rfl ?_);refine wpList_store_agg rfl rfl 28 _ _ rfl g0 (ndCells e.2).toArray rfl rfl 28 ndZero HZ3.out rfl rfl (by simp [ndCells,Value.oneCell']) ?_;intro w4 hb4 hg4;have HB4:=Lib.hid hb4;have HW4:Hid (Below w.heap.size w w4):=Lib.hid (HW3.out.grown hg4 HW3.out.size (fun j hj=>by cases hj;exact HG0.out));clear hb4 hg4))
     refine bodyPost_ret (results_ct rfl _ _ g0 28 (ndCells e.2).toArray (0,0) _ rfl HB4.out HUN.out rfl rfl) rfl ?_
     exact ⟨by rw [HV.out];rfl,HW4.out⟩
    ·have HV:=Lib.hid (HG1.out.trans (if_neg hp))
     have hq:(e.1 == p)=false:=by simpa using hp
     have HII:Hid (i + 1≤l.length):=Lib.hid hi
     have HLL:=HL.out
     go_wp2_with fail
     go_roundg g1
     case measure=>omega
     case rel=>exact ⟨i + 1,by go_num,by omega,HII,HV,HZ3,HW3⟩
  ·have he:i=l.length:=by have:=HI.out;omega
   subst he
   have HV:Hid (getN (l.map enOf) p=(zeroN,false)):=Lib.hid (by rw [HG.out,List.drop_eq_nil_of_le (by simp)];rfl)
   go_wp2_with (first|((with_reducible refine gate_dst (N:=21) rfl ?_);refine wpList_giv rfl (v:=.agg (ndCells zeroN).toArray) (by kernel_rfl) ?_)|((with_reducible refine gate_store (t:=28) (p:=4) rfl ?_);refine wpList_store_agg rfl rfl 28 _ _ rfl g0 (ndCells zeroN).toArray rfl rfl 28 ndZero HZ.out rfl rfl (by simp [ndCells,Value.oneCell']) ?_;intro w4 hb4 hg4;have HB4:=Lib.hid hb4;have HW4:Hid (Below w.heap.size w w4):=Lib.hid (HB.out.grown hg4 HB.out.size (fun j hj=>by cases hj;exact HG0.out));clear hb4 hg4))
   refine bodyPost_ret (results_ct rfl _ _ g0 28 (ndCells zeroN).toArray (0,0) _ rfl HB4.out HUN.out rfl rfl) rfl ?_
   exact ⟨by rw [HV.out];rfl,HW4.out⟩
end Go.Proofs.Zq
end
section
namespace Go.Proofs.Zq
open Go.RowKit Go.WideMaps Go.Maps Go.Proofs.YtjghikkboekonaaGreatDoor Go.Proofs.Zw.PrintWords Go.Proofs.Zw.PrintLast Go.Proofs.Zw.PrintMore
open Go.Proofs.Zt (applyM rightT Ch)
theorem en_C {w:World} {A:Option Addr} {xs:List S32} (h:RowAt eCells 11 w A (xs.map enOf)) (hn:xs.length≤9223372036854775807):Kd.C k32 w A xs.length xs :=
 C_of_row (d:=k32) (fun w x=>by rw [← eCells_en];exact k32_mk w x) h hn
theorem row_of_block {α:Type} {enc:α→List Value} {k:Nat} (hk:∀ x,(enc x).length=k) {w:World} {g:Nat} {T:TypeId} {l:List α} (hl:l.length≤maxLen) (h:w.heap[g]?=some (.cells (flat enc l).toArray T (0,0))):RowAt enc k w (some ⟨g,0,none⟩) l:=by
 have hf:(flat enc l).length=l.length * k:=flat_length hk l
 have:Owr enc T k 0 w (.slice (some ⟨g,0,none⟩) l.length l.length) l:=⟨hf,.inr ⟨g,l.length,_,rfl,Nat.zero_le _,h,Nat.le_refl _,hl,by simpa using hf,by rw [List.toList_toArray,← hf,List.take_length]⟩⟩
 exact this.row hk
section
variable {P:Program} {ops:Array Oper} {rest:List Oper} {o:Oper} {a:Act} {Q:Exit→Act→World→Prop} {W:World}
theorem row_event (hgd:o.guard=none) {N:Tmp} (_hd:o.dst=some N) {cs:Array Value} {t:TypeId} {n:Nat}
  (hrun:(execOp a.eval o).run P W=.ok (.value (.slice (some ⟨W.heap.size,0,none⟩) n n)) (W.alloc (.cells cs t (0,0))))
  (h:∀ g,g=W.heap.size→∀ w1,w1.heap[g]?=some (.cells cs t (0,0))→Below W.heap.size W w1→wpList P ops Q rest (a.put o.dst (.slice (some ⟨g,0,none⟩) n n)) w1):wpList P ops Q (o :: rest) a W :=
 Kd.event_run hgd hrun (h _ rfl _ (Go.Proofs.Zw.PrintWords.blk_new W _) (Go.Proofs.Zw.PrintWords.pz3 (Below.refl _ _) _))
theorem build_event (hgd:o.guard=none) {N:Tmp} (_hd:o.dst=some N) (t:TypeId) (parts:Array (Nat×Operand)) (ho:o.op=.build t parts) (cs:Array Value) (hb:P.built t (parts.map fun (i,x)=>(i,a.eval x)).toList=some cs)
  (h:wpList P ops Q rest (a.put o.dst (.agg cs)) W):wpList P ops Q (o :: rest) a W :=
 wpList_build hgd t parts ho (by rw [hb];rfl) (by rw [hb];exact h)
end
section
variable {P:Program} {ops:Array Oper} {rest:List Oper} {o:Oper} {a:Act} {Q:Exit→Act→World→Prop} {W:World}
end
def m17 (k m:Int):Nd:={ zeroN with kind:=k,mode:=m }
end Go.Proofs.Zq
end
section
namespace Go.Proofs.Zq
open Go.ChangeShapes Go.WideShapes Go.ChangeAt Go.RowKit Go.WideElems Go.Proofs.YtjghikkboekonaaGreatDoor Go.Proofs.Zw.PrintWords
section
variable {H:Type} {enc:TypeId×Value→H}
theorem w_all {P:Program} {e:TypeId}:∀ {l:List (DataW H)} {d:DataW H},d ∈ l→∀ n ∈ d.weights P e,n ∈ DataW.weightsAll P e l
 | x :: r,d,hd,n,hn=>by
  simp only [DataW.weightsAll,List.mem_append]
  rcases List.mem_cons.1 hd with h|h
  ·rw [← h];exact .inl hn
  ·exact .inr (w_all h n hn)
theorem w_slice {P:Program} {t e:TypeId} {elems spare:List (DataW H)} (hu:P.underlying t=some (.slice e)) {d:DataW H} (hd:d ∈ elems) {n:Nat} (hn:n ∈ d.weights P e):n ∈ (DataW.slice elems spare).weights P t:=by
 simp only [DataW.weights,hu]
 exact List.mem_cons_of_mem _ (List.mem_append_left _ (w_all hd n hn))
theorem w_len {P:Program} {t e:TypeId} {elems spare:List (DataW H)} (hu:P.underlying t=some (.slice e)):(elems.length + spare.length) * P.bytesOf e ∈ (DataW.slice elems spare).weights P t:=by
 simp [DataW.weights,hu]
theorem w_field {P:Program} {t:TypeId} {fs:Array Field} {parts:List (DataW H)} (hu:P.underlying t=some (.struct fs)) {j:Nat} {f:Field} (hf:fs[j]?=some f) {d:DataW H} (hd:parts[j]?=some d) {n:Nat} (hn:n ∈ d.weights P f.type):n ∈ (DataW.agg parts).weights P t:=by
 simp only [DataW.weights,hu]
 refine DataW.weights_mem_each (t:=f.type) (j:=j) ?_ hd n hn
 rw [List.getElem?_map,Array.getElem?_toList,hf];rfl
theorem w_str {P:Program} {t:TypeId} (l:List UInt8):l.length ∈ (DataW.lit (.string l):DataW H).weights P t:=by simp [DataW.weights]
variable {W:World} {base:Nat} {spare:Nat→Bool} {held:Bool}
theorem str_open {fuel:Nat} {cs:List Value} {y:DataW H×List MemPlace} (h:DataW.trod enc Tryz.prog W base spare held fuel 9 cs=some y):∃ s:ByteArray,cs=[.string s]∧y.1=.lit (.string s.data.toList):=by
 obtain ⟨s,h1,h2,_⟩:=DataW.trod_string Tryz.underlying9 h
 exact ⟨s,h1,by rw [h2]⟩
theorem int_open {fuel:Nat} {cs:List Value} {y:DataW H×List MemPlace} (h:DataW.trod enc Tryz.prog W base spare held fuel 3 cs=some y):∃ n:Int,cs=[.int .i64 n]:=by
 obtain ⟨n,h1,_⟩:=DataW.trod_int Tryz.underlying3 h
 exact ⟨n,h1⟩
theorem b_len (s:ByteArray):s.data.toList.length=s.size:=by rw [Array.length_toList];rfl
set_option maxRecDepth 100000 in
theorem nd_open {fuel:Nat} {cs:List Value} {y:DataW H×List MemPlace} (h:DataW.trod enc Tryz.prog W base spare held fuel 28 cs=some y) :
  ∃ n:S28,cs=ndCells (ndOf n)∧∀ x,(x=n.f5.size∨x=n.f6.size∨x=n.f9.size)→x ∈ y.1.weights Tryz.prog 28:=by
 obtain ⟨xs,m,_,hx,hl,hlen,hf⟩:=DataW.trod_struct Tryz.underlying28 h
 have hC:cs.length=10:=hl.trans (by kernel_rfl)
 have hI:Tryz.prog.cellsOf 3=1:=by kernel_rfl
 have hS:Tryz.prog.cellsOf 9=1:=by kernel_rfl
 have hxs:xs.length=10:=hlen
 match cs,hC with
 | [c0,c1,c2,c3,c4,c5,c6,c7,c8,c9],_ =>
  match xs,hxs with
  | [y0,y1,y2,y3,y4,y5,y6,y7,y8,y9],_ =>
   have f0:DataW.trod enc Tryz.prog W base spare held m 3 ((List.drop 0 [c0,c1,c2,c3,c4,c5,c6,c7,c8,c9]).take (Tryz.prog.cellsOf 3))=some y0:=hf 0 _ rfl
   have f1:DataW.trod enc Tryz.prog W base spare held m 3 ((List.drop 1 [c0,c1,c2,c3,c4,c5,c6,c7,c8,c9]).take (Tryz.prog.cellsOf 3))=some y1:=hf 1 _ rfl
   have f2:DataW.trod enc Tryz.prog W base spare held m 3 ((List.drop 2 [c0,c1,c2,c3,c4,c5,c6,c7,c8,c9]).take (Tryz.prog.cellsOf 3))=some y2:=hf 2 _ rfl
   have f3:DataW.trod enc Tryz.prog W base spare held m 3 ((List.drop 3 [c0,c1,c2,c3,c4,c5,c6,c7,c8,c9]).take (Tryz.prog.cellsOf 3))=some y3:=hf 3 _ rfl
   have f4:DataW.trod enc Tryz.prog W base spare held m 3 ((List.drop 4 [c0,c1,c2,c3,c4,c5,c6,c7,c8,c9]).take (Tryz.prog.cellsOf 3))=some y4:=hf 4 _ rfl
   have f5:DataW.trod enc Tryz.prog W base spare held m 9 ((List.drop 5 [c0,c1,c2,c3,c4,c5,c6,c7,c8,c9]).take (Tryz.prog.cellsOf 9))=some y5:=hf 5 _ rfl
   have f6:DataW.trod enc Tryz.prog W base spare held m 9 ((List.drop 6 [c0,c1,c2,c3,c4,c5,c6,c7,c8,c9]).take (Tryz.prog.cellsOf 9))=some y6:=hf 6 _ rfl
   have f7:DataW.trod enc Tryz.prog W base spare held m 3 ((List.drop 7 [c0,c1,c2,c3,c4,c5,c6,c7,c8,c9]).take (Tryz.prog.cellsOf 3))=some y7:=hf 7 _ rfl
   have f8:DataW.trod enc Tryz.prog W base spare held m 3 ((List.drop 8 [c0,c1,c2,c3,c4,c5,c6,c7,c8,c9]).take (Tryz.prog.cellsOf 3))=some y8:=hf 8 _ rfl
   have f9:DataW.trod enc Tryz.prog W base spare held m 9 ((List.drop 9 [c0,c1,c2,c3,c4,c5,c6,c7,c8,c9]).take (Tryz.prog.cellsOf 9))=some y9:=hf 9 _ rfl
   rw [hI] at f0 f1 f2 f3 f4 f7 f8
   rw [hS] at f5 f6 f9
   obtain ⟨n0,e0⟩:=int_open f0
   obtain ⟨n1,e1⟩:=int_open f1
   obtain ⟨n2,e2⟩:=int_open f2
   obtain ⟨n3,e3⟩:=int_open f3
   obtain ⟨n4,e4⟩:=int_open f4
   obtain ⟨s5,e5,d5⟩:=str_open f5
   obtain ⟨s6,e6,d6⟩:=str_open f6
   obtain ⟨n7,e7⟩:=int_open f7
   obtain ⟨n8,e8⟩:=int_open f8
   obtain ⟨s9,e9,d9⟩:=str_open f9
   simp only [List.drop_zero,List.drop_succ_cons,List.take_succ_cons,List.take_zero,List.cons.injEq,and_true] at e0 e1 e2 e3 e4 e5 e6 e7 e8 e9
   refine ⟨⟨n0,n1,n2,n3,n4,s5,s6,n7,n8,s9⟩,?_,?_⟩
   ·rw [e0,e1,e2,e3,e4,e5,e6,e7,e8,e9]
    simp [ndCells,ndOf,B_L]
   ·rw [hx]
    intro x hx'
    rcases hx' with rfl|rfl|rfl
    ·exact w_field (j:=5) (d:=y5.1) Tryz.underlying28 rfl rfl (by rw [d5,← b_len];exact w_str _)
    ·exact w_field (j:=6) (d:=y6.1) Tryz.underlying28 rfl rfl (by rw [d6,← b_len];exact w_str _)
    ·exact w_field (j:=9) (d:=y9.1) Tryz.underlying28 rfl rfl (by rw [d9,← b_len];exact w_str _)
def enSz (e:S32) (x:Nat):Prop:=x=e.f0.size∨x=e.f1.f5.size∨x=e.f1.f6.size∨x=e.f1.f9.size
set_option maxRecDepth 100000 in
theorem en_open {fuel:Nat} {cs:List Value} {y:DataW H×List MemPlace} (h:DataW.trod enc Tryz.prog W base spare held fuel 32 cs=some y) :
  ∃ e:S32,cs=eCells (enOf e)∧∀ x,enSz e x→x ∈ y.1.weights Tryz.prog 32:=by
 obtain ⟨xs,m,_,hx,hl,hlen,hf⟩:=DataW.trod_struct Tryz.underlying32 h
 have hC:cs.length=11:=hl.trans (by kernel_rfl)
 have hN:Tryz.prog.cellsOf 28=10:=by kernel_rfl
 have hS:Tryz.prog.cellsOf 9=1:=by kernel_rfl
 have hxs:xs.length=2:=hlen
 match cs,hC with
 | c0 :: r,hr =>
  match xs,hxs with
  | [y0,y1],_ =>
   have f0:DataW.trod enc Tryz.prog W base spare held m 9 ((List.drop 0 (c0 :: r)).take (Tryz.prog.cellsOf 9))=some y0:=hf 0 _ rfl
   have f1:DataW.trod enc Tryz.prog W base spare held m 28 ((List.drop 1 (c0 :: r)).take (Tryz.prog.cellsOf 28))=some y1:=hf 1 _ rfl
   rw [hS] at f0
   rw [hN] at f1
   obtain ⟨s0,e0,d0⟩:=str_open f0
   obtain ⟨n1,e1,d1⟩:=nd_open f1
   have hrl:r.length=10:=by simpa using hr
   have er:(List.drop 1 (c0 :: r)).take 10=r:=by
    show r.take 10=r
    rw [List.take_of_length_le (by omega)]
   have e1':r=ndCells (ndOf n1):=er.symm.trans e1
   simp only [List.drop_zero,List.take_succ_cons,List.take_zero,List.cons.injEq,and_true] at e0
   refine ⟨⟨s0,n1⟩,?_,?_⟩
   ·rw [e0,e1']
    simp [eCells,enOf,B_L]
   ·rw [hx]
    intro x hx'
    rcases hx' with rfl|hx'
    ·exact w_field (j:=0) (d:=y0.1) Tryz.underlying32 rfl rfl (by rw [d0,← b_len];exact w_str _)
    ·exact w_field (j:=1) (d:=y1.1) Tryz.underlying32 rfl rfl (d1 x hx')
theorem row_open {α:Type} [Inhabited α] {t e k:Nat} {cells:α→List Value} {sz:α→Nat→Prop} (hu:Tryz.prog.underlying t=some (.slice e)) (hk:Tryz.prog.cellsOf e=k) (hk0:0<k) (hkl:∀ x,(cells x).length=k)
  (hel:∀ {fuel:Nat} {cs:List Value} {y:DataW H×List MemPlace},DataW.trod enc Tryz.prog W base spare held fuel e cs=some y→∃ x:α,cs=cells x∧∀ n,sz x n→n ∈ y.1.weights Tryz.prog e)
  {fuel:Nat} {cs:List Value} {y:DataW H×List MemPlace} (h:DataW.trod enc Tryz.prog W base spare held fuel t cs=some y) :
  ∃ (a:Option Addr) (l:List α) (cap:Nat),cs=[.slice a l.length cap]∧RowAt cells k W a l∧l.length≤cap∧cap≤maxLen∧(∀ x ∈ l,∀ n,sz x n→n ∈ y.1.weights Tryz.prog t)∧(l≠[]→∃ n ∈ y.1.weights Tryz.prog t,l.length * Tryz.prog.bytesOf e≤n):=by
 rcases Deep.open_slice hu h with ⟨h0,hy⟩|⟨a,len,cap,m,n,D,Pl,hcs,_,hl,hm,hmm,hx,hcell⟩
 ·exact ⟨none,[],0,h0,RowAt.nil _ _ _ _,Nat.le_refl _,Nat.zero_le _,fun x hx=>(List.not_mem_nil hx).elim,fun h=>absurd rfl h⟩
 ·have hlm:len≤m:=by rw [hmm];split <;> omega
  have hch:∃ F:Nat→α,∀ i,i<len→∃ cs',W.cells? base (a.add (i * k)) k=some cs'∧cs'=cells (F i)∧∀ n,sz (F i) n→n ∈ (D i).weights Tryz.prog e:=by
   refine Deep.choose_lt (p:=fun i x=>∃ cs',W.cells? base (a.add (i * k)) k=some cs'∧cs'=cells x∧∀ n,sz x n→n ∈ (D i).weights Tryz.prog e) fun i hi=>?_
   obtain ⟨cs',h1,h2⟩:=hcell i (by omega)
   rw [hk] at h1
   obtain ⟨x,h3,h4⟩:=hel h2
   exact ⟨x,cs',h1,h3,h4⟩
  obtain ⟨F,hF⟩:=hch
  have hlen:((List.range len).map F).length=len:=by simp
  refine ⟨some a,(List.range len).map F,cap,by rw [hlen];exact hcs,?_,by rw [hlen];exact hl,hm,?_,?_⟩
  ·intro i x hx'
   have hi:i<len:=by
    have:=(List.getElem?_eq_some_iff.1 hx').1
    rwa [hlen] at this
   have hxi:x=F i:=by
    rw [List.getElem?_map,List.getElem?_range hi] at hx'
    exact (Option.some.inj hx').symm
   subst hxi
   obtain ⟨cs0,c1,c2,_⟩:=hF 0 (by omega)
   obtain ⟨csi,d1,d2,_⟩:=hF i hi
   obtain ⟨_,g1,g2⟩:=World.cells?_some c1
   obtain ⟨_,g3,g4⟩:=World.cells?_some d1
   have z0:=g2 0 hk0
   rw [Nat.zero_mul,Deep.add_add,Nat.add_zero,c2] at z0
   have hz0:(cells (F 0))[0]?=some ((cells (F 0))[0]'(by rw [hkl];exact hk0)):=List.getElem?_eq_getElem _
   rw [hz0] at z0
   obtain ⟨b,o,sp⟩:=a
   obtain rfl:sp=none:=by simpa [Addr.add] using World.cell?_spot z0
   refine ⟨b,o,rfl,fun j u hu'=>?_⟩
   have hj:j<k:=by
    have:=(List.getElem?_eq_some_iff.1 hu').1
    rwa [hkl] at this
   have:=g4 j hj
   rw [Deep.add_add,Addr.add_mid,d2,hu'] at this
   rw [Nat.add_assoc];exact this
  ·intro x hx' n hn
   obtain ⟨i,hi,rfl⟩:=List.mem_map.1 hx'
   have hi:=List.mem_range.1 hi
   obtain ⟨_,_,_,h4⟩:=hF i hi
   rw [hx]
   exact w_slice hu (List.mem_map.2 ⟨i,List.mem_range.2 hi,rfl⟩) (h4 n hn)
  ·intro _
   rw [hx]
   refine ⟨_,w_len hu,?_⟩
   rw [List.length_map,List.length_map,List.length_range]
   exact Nat.mul_le_mul_right _ (by simp)
end
end Go.Proofs.Zq
end
section
namespace Go.Proofs.YtjghikkboekonaaGreatDoor
open Go.ChangeShapes Go.WideShapes Go.ChangeAt Go.RowKit Go.WideElems
theorem own:ownKnob Tryz.prog.godebug=none:=by kernel_rfl
theorem laidOut:laidOutB Tryz.prog=true:=by kernel_rfl
theorem star : "*" ++ "errors.errorString" = "*errors.errorString" := by decide
theorem rowErr (u : TypeId) (h : Tryz.prog.typeName? 3 u = some "*errors.errorString") : u = 236 :=
 typeName_ptr_named (nm := "errors.errorString") (by rw [star]; kernel_rfl) (by kernel_rfl) (by decide) u (by rw [star]; exact h)
theorem gl_of {W : World} (hL : laidMet Tryz.prog [("math/bits.deBruijn32tab", Rows.laid_math_bits_deBruijn32tab), ("math/bits.deBruijn64tab", Rows.laid_math_bits_deBruijn64tab), ("internal/strconv.uint64pow10", Rows.laid_internal_strconv_uint64pow10), ("unicode/utf8.acceptRanges", Rows.laid_unicode_utf8_acceptRanges), ("strconv.ErrRange", Rows.laid_strconv_ErrRange), ("strconv.ErrSyntax", Rows.laid_strconv_ErrSyntax), ("unicode/utf8.first", Rows.laid_unicode_utf8_first)] W) (hsh : W.ShapedOpen Tryz.prog) : GL W := by
 have h0 : laidMet Tryz.prog (("math/bits.deBruijn32tab", Rows.laid_math_bits_deBruijn32tab) :: ("math/bits.deBruijn64tab", Rows.laid_math_bits_deBruijn64tab) :: ("internal/strconv.uint64pow10", Lib.tabData .u64 Lib.pow10Tab) :: ("unicode/utf8.acceptRanges", Rows.laid_unicode_utf8_acceptRanges) :: ("strconv.ErrRange", Rows.laid_strconv_ErrRange) :: ("strconv.ErrSyntax", Rows.laid_strconv_ErrSyntax) :: ("unicode/utf8.first", Rows.laid_unicode_utf8_first) :: []) W := hL
 have h2:=h0.tail.tail
 have h3:=h2.tail.tail
 have h4:=h3.tail
 obtain ⟨a1,s1,hv1,_⟩:=laid_sentinel h3 (g:=2) (ti:=195) (tp:=236) (te:=238) (by kernel_rfl) (by kernel_rfl) Tryz.underlying195 rowErr Tryz.underlying236 Tryz.underlying238 rfl rfl Tryz.underlying9 (by kernel_rfl) (by kernel_rfl)
 obtain ⟨a2,s2,hv2,_⟩:=laid_sentinel h4 (g:=1) (ti:=195) (tp:=236) (te:=238) (by kernel_rfl) (by kernel_rfl) Tryz.underlying195 rowErr Tryz.underlying236 Tryz.underlying238 rfl rfl Tryz.underlying9 (by kernel_rfl) (by kernel_rfl)
 exact {
  max:=cell_of_shapedOpen_int (t:=3) (zero:=#[.int .i64 0]) hsh (of_decide_eq_true (by kernel_rfl)) (by kernel_rfl) rfl (by kernel_rfl) (by kernel_rfl) Tryz.underlying3
  pow:=Lib.tabIs_of_head (g:=5) (by kernel_rfl) (by kernel_rfl) Tryz.underlying240 Tryz.underlying140 (by kernel_rfl) (by kernel_rfl) h2
  syn:=⟨_,_,hv2⟩
  rng:=⟨_,_,hv1⟩ }
section
variable {H:Type} {enc:TypeId×Value→H}
theorem again_all {W W':World} (hb:Below W.heap.size W W') {sp:Nat→Bool}:∀ {ts:List TypeId} {vs:List Value} {ds:List (DataW H)} {ps:List MemPlace},(∀ t ∈ ts,Tryz.prog.readableRec t=true∧t<Tryz.prog.types.size) →
  DataW.TrodAll enc Tryz.prog W 0 (fun _=>true) true ts vs ds ps→(∀ x ∈ ps,x.block<W.heap.size)→(∀ x ∈ ps,sp x.block=true)→DataW.TrodAll enc Tryz.prog W' 0 sp true ts vs ds ps
 | [],[],[],_,_,h,_,_=>h
 | [],_ :: _,_,_,_,h,_,_=>h.elim
 | [],[],_ :: _,_,_,h,_,_=>h.elim
 | _ :: _,[],_,_,_,h,_,_=>h.elim
 | _ :: _,_ :: _,[],_,_,h,_,_=>h.elim
 | t :: ts,v :: vs,d :: ds,ps,ht,h,hlt,hsp=>by
  obtain ⟨p,q,h1,h2,rfl⟩:=h
  have hr:=ht t (List.mem_cons_self ..)
  exact ⟨p,q,Trod_stays laidOut hr.1 hr.2 h1 (fun x hx=>hb.same (hlt x (List.mem_append_left _ hx))) (fun x hx=>hsp x (List.mem_append_left _ hx)),
   again_all hb (fun t h=>ht t (List.mem_cons_of_mem _ h)) h2 (fun x hx=>hlt x (List.mem_append_right _ hx)) (fun x hx=>hsp x (List.mem_append_right _ hx)),rfl⟩
set_option maxRecDepth 100000 in
theorem law_post {f:Func} {s:ChangeSpec} {apart fresh handsOn again:Bool} {W W':World} {args:Array Value} {ds gs:List (DataW H)} {before:List MemPlace} (hs:s.vars=[]) (hf:f.resultTypes=#[4])
  (hfn:s.fn H ds={ results:=[.lit (.bool true)],args:=ds }) (ht:∀ t ∈ f.params.toList,Tryz.prog.readableRec t=true∧t<Tryz.prog.types.size)
  (hW:DataW.Whole enc Tryz.prog f.params.toList s.vars apart W args.toList ds gs before) (hb:Below W.heap.size W W') :
  s.post enc Tryz.prog f apart fresh handsOn again W args (.bool true) W':=by
 obtain ⟨p,q,hA,hV,rfl,hz,hn⟩:=id hW
 have hlt:∀ x ∈ p ++ q,x.block<W.heap.size:=fun x hx=>hW.lt x hx
 rw [hs] at hV
 obtain ⟨rfl,rfl⟩:=trodVars_none hV
 have hA':DataW.TrodAll enc Tryz.prog W 0 (fun _=>true) true f.params.toList args.toList ds p:=hA
 have hold:∀ x ∈ p ++ [],(fun b=>decide (b<W.heap.size)) x.block=true:=fun x hx=>by simpa using hlt x hx
 have hargs:∀ sp:Nat→Bool,(∀ x ∈ p ++ [],sp x.block=true)→DataW.TrodAll enc Tryz.prog W' 0 sp true f.params.toList args.toList (s.fn H (ds ++ [])).args p:=fun sp hsp=>by
  rw [List.append_nil,hfn]
  exact again_all hb ht hA' (fun x hx=>hlt x (List.mem_append_left _ hx)) (fun x hx=>hsp x (List.mem_append_left _ hx))
 have hres:∀ (b:Nat) (sp:Nat→Bool) (hd:Bool),DataW.TrodAll enc Tryz.prog W' b sp hd f.resultTypes.toList ((Value.bool true).resultList f.resultTypes.size) (s.fn H (ds ++ [])).results []:=fun b sp hd=>by
  rw [List.append_nil,hfn,hf]
  exact trodAll_mk1 (shut_bool Tryz.underlying4 _)
 have hvars:∀ sp:Nat→Bool,DataW.TrodVars enc Tryz.prog W' sp s.vars (s.fn H (ds ++ [])).vars []:=fun sp=>by
  rw [List.append_nil,hfn,hs];rfl
 refine ⟨ds,[],p ++ [],[],p,[],hW,hres _ _ _,hargs _ hold,hvars _,World.keptBut_mono (fun x hx=>⟨hx,?_⟩) (hb.frame (· ∈ p ++ [])),fun _=>?_⟩
 ·exact Or.inr (by simpa using hx)
 ·refine ⟨?_,_,_,([] ++ p) ++ [],⟨[] ++ p,[],trodAll_append (hargs _ (fun _ _=>rfl)) (hres _ _ _),hvars _,rfl,?_,?_⟩,?_⟩
  ·exact ok_one hf rfl (okWide_bool_mk Tryz.underlying4 _)
  ·intro b off hp
   have hin:MemPlace.cell b off ∈ p ++ []:=by simpa using hp
   rw [hb.frozen (hlt _ hin)]
   exact hz b off hin
  ·intro ha
   simpa using hn ha
  ·intro x hx _
   simpa using hx
end
def litCell:DataW Unit→Value
 | .lit (.int k z)=>Value.int k z
 | _=>Value.int .u8 0
def tabCells:DataW Unit→Array Value
 | .agg l=>(l.flatMap fun d=>match d with|.agg m=>m.map litCell|d=>[litCell d]).toArray
 | _=>#[]
abbrev synS:ByteArray:={ data:=#[105,110,118,97,108,105,100,32,115,121,110,116,97,120] }
abbrev rngS:ByteArray:={ data:=#[118,97,108,117,101,32,111,117,116,32,111,102,32,114,97,110,103,101] }
noncomputable def low:Nat:=(World.holding Tryz.prog default ⟨#[],#[],[]⟩).heap.size
def putVar (cs:Array Value):Obj→Obj
 | .cells _ t frozen=>.cells cs t frozen
 | o=>o
noncomputable def laidWorld (os:Os):World :=
 let w0:=World.holding Tryz.prog os ⟨#[.cells #[.string rngS] 238,.cells #[.string synS] 238],#[],[]⟩
 { w0 with heap:=((((((w0.heap.modify 6 (putVar (tabCells Rows.laid_math_bits_deBruijn32tab))).modify 7 (putVar (tabCells Rows.laid_math_bits_deBruijn64tab))).modify 5 (putVar (tabCells Rows.laid_internal_strconv_uint64pow10))).modify 4 (putVar (tabCells Rows.laid_unicode_utf8_acceptRanges))).modify 3 (putVar (tabCells Rows.laid_unicode_utf8_first))).modify 2
   (putVar #[.iface 236 (.pointer (some ⟨low,0,none⟩))])).modify 1 (putVar #[.iface 236 (.pointer (some ⟨low + 1,0,none⟩))]) }
theorem laid_met (os : Os) (args : Array Value) : laidMet Tryz.prog [("math/bits.deBruijn32tab", Rows.laid_math_bits_deBruijn32tab), ("math/bits.deBruijn64tab", Rows.laid_math_bits_deBruijn64tab), ("internal/strconv.uint64pow10", Rows.laid_internal_strconv_uint64pow10), ("unicode/utf8.acceptRanges", Rows.laid_unicode_utf8_acceptRanges), ("strconv.ErrRange", Rows.laid_strconv_ErrRange), ("strconv.ErrSyntax", Rows.laid_strconv_ErrSyntax), ("unicode/utf8.first", Rows.laid_unicode_utf8_first)] ((laidWorld os).forCall (fun _ _ => 0) ⟨#[], args, []⟩).memory :=
 laidMet_of_run' 8 (by kernel_rfl) (by kernel_rfl)
end Go.Proofs.YtjghikkboekonaaGreatDoor
end
section
namespace Go.Proofs.Zq
open Go.RowKit Go.Proofs.Zw.PrintWords Go.Proofs.Zw.PrintLast Go.Proofs.Zw.PrintMore
open Go.Proofs.YtjghikkboekonaaGreatDoor (GL)
attribute [local go_sem] max2_int min2_int max_two min_two max_three min_three max_four min_four
def onionskinlaw09_Few.l0:Nat→List (S32)→Int→Int→Option (Bool)
 | 0,_,_,_=>none
 | k + 1,x0,x3,x4=>if x4<(x0.length:Int) then (if 0≤x4 then (onionskinlaw09_Few.l0 k x0 (wrap64 ((wrap64 ((wrap64 ((wrap64 (x3 + (((rd_T32 x0 x4).f0).size:Int))) + (((rd_T32 x0 x4).f1.f5).size:Int))) + (((rd_T32 x0 x4).f1.f6).size:Int))) + (((rd_T32 x0 x4).f1.f9).size:Int))) (wrap64 (x4 + 1))) else (none)) else (if (x0.length:Int)≤30 then (some (decide (x3≤12000))) else (some false))
def onionskinlaw09_Few.f (k:Nat) (l0:List (S32)):Option (Bool):=onionskinlaw09_Few.l0 k l0 0 0
set_option maxHeartbeats 8000000 in
set_option maxRecDepth 100000 in
theorem onionskinlaw09_Few.calls (k:Nat) (A0:Option Addr) (c0:Nat) (l0:List (S32)) (r:Bool) (w:World) (hr0:Kd.C k32 w A0 l0.length l0) (hc0:l0.length≤c0) (h:onionskinlaw09_Few.f k l0=some r) :
  Calls Tryz.prog 14 #[.slice A0 l0.length c0] w fun e w'=>e=.returned (.bool r)∧Drawn0 w w':=by
 have HR0:=pz4.mk hr0
 have HC0:=pz4.mk hc0
 clear hr0 hc0
 have H:(onionskinlaw09_Few.l0 k l0 0 0)=some r:=h
 clear h
 have H':=pz4.mk H
 clear H
 go_enter Tryz.func14,Tryz.ntmps14
 go_wp2
 repeat (go_quiet (fail);try go_wp2)
 go_loopg [3,4] k (fun kq v3 v4 w'=>∃ (x3_1:Int) (x4_1:Int),v3=.int .i64 x3_1∧v4=.int .i64 x4_1∧pz4 (onionskinlaw09_Few.l0 kq l0 x3_1 x4_1=some r)∧pz4 (kq≤k)∧Drawn0 w w')
 case atStart=>exact ⟨(0),(0),(by first|rfl|(simp;done)|(simp [*];done)),(by first|rfl|(simp;done)|(simp [*];done)),H',⟨Nat.le_refl _⟩,by repeat (first|exact Drawn0.refl _|apply Drawn0.step)⟩
 case round =>
  clear H'
  try clear c1
  obtain ⟨x3_1,x4_1,rfl,rfl,HA,HK1,⟨m1,rfl⟩⟩:=hrel
  cases gk with
  | zero=>exact absurd HA.out (by simp [onionskinlaw09_Few.l0])
  | succ k1 =>
   have H:=HA.out
   clear HA
   simp only [onionskinlaw09_Few.l0] at H
   by_cases c2:x4_1<(l0.length:Int)
   ·rw [if_pos c2] at H
    have c2b0:decide (x4_1<(l0.length:Int))=true:=decide_eq_true c2
    clear c2
    by_cases c3:0≤x4_1
    ·rw [if_pos c3] at H
     have c3b0:decide (0≤x4_1)=true:=decide_eq_true c3
     clear c3
     have H':=pz4.mk H
     clear H
     have p486:0≤(x4_1:Int):=of_decide_eq_true (by first|(with_reducible assumption)|assumption)
     have q486:x4_1<(l0.length:Int):=of_decide_eq_true (by first|(with_reducible assumption)|assumption)
     obtain ⟨ad486,e486,hx486_0,hx486_1,hx486_2,hx486_3,hx486_4,hx486_5,hx486_6,hx486_7,hx486_8,hx486_9,hx486_10⟩:=at_T32 HR0.out x4_1 p486 q486
     cases e486
     replace p486:=eq_true p486
     replace q486:=eq_true q486
     have p487:0≤(x4_1:Int):=of_decide_eq_true (by first|(with_reducible assumption)|assumption)
     have q487:x4_1<(l0.length:Int):=of_decide_eq_true (by first|(with_reducible assumption)|assumption)
     obtain ⟨ad487,e487,hx487_0,hx487_1,hx487_2,hx487_3,hx487_4,hx487_5,hx487_6,hx487_7,hx487_8,hx487_9,hx487_10⟩:=at_T32 HR0.out x4_1 p487 q487
     obtain rfl:ad486=ad487:=(by injection e487)
     replace p487:=eq_true p487
     replace q487:=eq_true q487
     have p488:0≤(x4_1:Int):=of_decide_eq_true (by first|(with_reducible assumption)|assumption)
     have q488:x4_1<(l0.length:Int):=of_decide_eq_true (by first|(with_reducible assumption)|assumption)
     obtain ⟨ad488,e488,hx488_0,hx488_1,hx488_2,hx488_3,hx488_4,hx488_5,hx488_6,hx488_7,hx488_8,hx488_9,hx488_10⟩:=at_T32 HR0.out x4_1 p488 q488
     obtain rfl:ad486=ad488:=(by injection e488)
     replace p488:=eq_true p488
     replace q488:=eq_true q488
     have p489:0≤(x4_1:Int):=of_decide_eq_true (by first|(with_reducible assumption)|assumption)
     have q489:x4_1<(l0.length:Int):=of_decide_eq_true (by first|(with_reducible assumption)|assumption)
     obtain ⟨ad489,e489,hx489_0,hx489_1,hx489_2,hx489_3,hx489_4,hx489_5,hx489_6,hx489_7,hx489_8,hx489_9,hx489_10⟩:=at_T32 HR0.out x4_1 p489 q489
     obtain rfl:ad486=ad489:=(by injection e489)
     replace p489:=eq_true p489
     replace q489:=eq_true q489
     go_wp2
     repeat (go_quiet (fail);try go_wp2)
     go_roundg k1
     case measure=>have:=HK1.out;omega
     case rel=>exact ⟨(wrap64 ((wrap64 ((wrap64 ((wrap64 (x3_1 + (((rd_T32 l0 x4_1).f0).size:Int))) + (((rd_T32 l0 x4_1).f1.f5).size:Int))) + (((rd_T32 l0 x4_1).f1.f6).size:Int))) + (((rd_T32 l0 x4_1).f1.f9).size:Int))),(wrap64 (x4_1 + 1)),(by first|rfl|(simp;done)|(simp [*];done)),(by first|rfl|(simp;done)|(simp [*];done)),H',⟨by have:=HK1.out;omega⟩,by repeat (first|exact Drawn0.refl _|apply Drawn0.step)⟩
    ·rw [if_neg c3] at H
     exact absurd H (by simp)
   ·rw [if_neg c2] at H
    have c2b0:decide (x4_1<(l0.length:Int))=false:=decide_eq_false c2
    clear c2
    by_cases c4:(l0.length:Int)≤30
    ·rw [if_pos c4] at H
     have c4b0:decide ((l0.length:Int)≤30)=true:=decide_eq_true c4
     have c4b1:decide (l0.length≤30)=true:=decide_eq_true (by omega)
     clear c4
     obtain rfl:=Option.some.inj H
     go_wp2
     repeat (go_quiet (fail);try go_wp2)
     go_ret
     exact ⟨by first|rfl|(simp;done)|(simp [*];done),by repeat (first|exact Drawn0.refl _|apply Drawn0.step)⟩
    ·rw [if_neg c4] at H
     have c4b0:decide ((l0.length:Int)≤30)=false:=decide_eq_false c4
     have c4b1:decide (l0.length≤30)=false:=decide_eq_false (by omega)
     clear c4
     obtain rfl:=Option.some.inj H
     go_wp2
     repeat (go_quiet (fail);try go_wp2)
     go_ret
     exact ⟨by first|rfl|(simp;done)|(simp [*];done),by repeat (first|exact Drawn0.refl _|apply Drawn0.step)⟩

theorem eqA32 (d:Nat) (w:World) (x0 y0:ByteArray) (x1 y1:Int) (x2 y2:Int) (x3 y3:Int) (x4 y4:Int) (x5 y5:Int) (x6 y6:ByteArray) (x7 y7:ByteArray) (x8 y8:Int) (x9 y9:Int) (x10 y10:ByteArray) :
  (Op.equalIn (d + 3) 32 (.agg #[.string x0,.int .i64 x1,.int .i64 x2,.int .i64 x3,.int .i64 x4,.int .i64 x5,.string x6,.string x7,.int .i64 x8,.int .i64 x9,.string x10]) (.agg #[.string y0,.int .i64 y1,.int .i64 y2,.int .i64 y3,.int .i64 y4,.int .i64 y5,.string y6,.string y7,.int .i64 y8,.int .i64 y9,.string y10])).run Tryz.prog w=.ok (x0.toList == y0.toList && ((x1 == y1 && (x2 == y2 && (x3 == y3 && (x4 == y4 && (x5 == y5 && (x6.toList == y6.toList && (x7.toList == y7.toList && (x8 == y8 && (x9 == y9 && (x10.toList == y10.toList)))))))))))) w:=by
 refine eqA_of Tryz.underlying32 (by kernel_rfl) ?_
 refine eqf_cons (by rfl) (by go_simp;rfl) (by go_simp;rfl) (by go_simp) ?_
 exact eqf_last (by rfl) (by go_simp) (by go_simp) (eqA28 (d + 0) w _ _ _ _ _ _ _ _ _ _ _ _ _ _ _ _ _ _ _ _)
end Go.Proofs.Zq
end
section
namespace Go.Proofs.Zq
open Go.RowKit Go.Proofs.Zw.PrintWords Go.Proofs.Zw.PrintLast Go.Proofs.Zw.PrintMore
open Go.Proofs.YtjghikkboekonaaGreatDoor (GL)
attribute [local go_sem] max2_int min2_int max_two min_two max_three min_three max_four min_four
attribute [local go_sem high] eqA32

end Go.Proofs.Zq
end
section
namespace Go.Proofs.Zq
open Go.RowKit Go.Proofs.YtjghikkboekonaaGreatDoor Go.Proofs.Zw.PrintWords Go.Proofs.Zw.PrintLast Go.Proofs.Zw.PrintMore
open Go.Proofs.Zt (applyM rightT rightC Ch getL)
theorem w64 {x:Int} (h0 : -9223372036854775808≤x) (h1:x≤9223372036854775807):wrap64 x=x:=wrap_in h0 h1
theorem rdE {l:List S32} {i:Nat} (h:i<l.length):rd_T32 l (i:Int)=l[i]:=by
 unfold rd_T32
 rw [show ((i:Nat):Int).toNat=i from rfl,List.getD_eq_getElem?_getD,List.getElem?_eq_getElem h];rfl
def enTot (x:S32):Nat:=x.f0.size + x.f1.f5.size + x.f1.f6.size + x.f1.f9.size
def SzE (l:List S32):Prop:=∀ x ∈ l,enTot x≤562949953404928
def totE (l:List S32):Nat:=(l.map enTot).sum
theorem totE_snoc (l:List S32) (x:S32):totE (l ++ [x])=totE l + enTot x:=by simp [totE]
theorem totE_mem:∀ (l:List S32) {x:S32},x ∈ l→enTot x≤totE l
 | y :: r,x,h=>by
  have e:totE (y :: r)=enTot y + totE r:=by simp [totE]
  rcases List.mem_cons.1 h with h|h
  ·rw [e,h];omega
  ·have:=totE_mem r h;omega
theorem few09_l (l:List S32) (hs:SzE l) (hn:l.length≤1000000000000000):∀ d i (z:Int),i + d=l.length→(i≤30→∃ s:Nat,z=(s:Int)∧s=totE (l.take i)∧s≤i * 562949953404928) →
  ∃ b,Ev (fun k=>onionskinlaw09_Few.l0 k l z i) b∧(b=true→l.length≤30∧totE l≤12000):=by
 intro d
 induction d with
 | zero =>
  intro i z hi hz
  refine ⟨decide (l.length≤30∧z≤12000),Ev.step (f:=fun _=>some (decide (l.length≤30∧z≤12000))) (fun k=>?_) (Ev.now _),fun hb=>?_⟩
  ·simp only [onionskinlaw09_Few.l0]
   rw [if_neg (by omega)]
   by_cases h:l.length≤30
   ·rw [if_pos (by omega)];simp [h]
   ·rw [if_neg (by omega)];simp [h]
  ·have hb:=of_decide_eq_true hb
   obtain ⟨s,h1,h2,_⟩:=hz (by omega)
   rw [List.take_of_length_le (by omega)] at h2
   exact ⟨hb.1,by omega⟩
 | succ d ih =>
  intro i z hi hz
  have hlt:i<l.length:=by omega
  obtain ⟨z',hz'⟩:∃ z',z'=(wrap64 ((wrap64 ((wrap64 ((wrap64 (z + (((rd_T32 l i).f0).size:Int))) + (((rd_T32 l i).f1.f5).size:Int))) + (((rd_T32 l i).f1.f6).size:Int))) + (((rd_T32 l i).f1.f9).size:Int))):=⟨_,rfl⟩
  obtain ⟨b,e,hb⟩:=ih (i + 1) z' (by omega) (fun h30=>by
   obtain ⟨s,h1,h2,h3⟩:=hz (by omega)
   have hx:=hs _ (List.getElem_mem hlt)
   refine ⟨s + enTot l[i],?_,?_,by omega⟩
   ·rw [hz',rdE hlt]
    unfold enTot at hx ⊢
    rw [w64 (x:=z + (l[i].f0.size:Int)) (by omega) (by omega),w64 (x:=z + (l[i].f0.size:Int) + (l[i].f1.f5.size:Int)) (by omega) (by omega),w64 (x:=z + (l[i].f0.size:Int) + (l[i].f1.f5.size:Int) + (l[i].f1.f6.size:Int)) (by omega) (by omega),w64 (by omega) (by omega)]
    omega
   ·rw [List.take_succ_eq_append_getElem hlt,totE_snoc,h2])
  refine ⟨b,Ev.step (fun k=>?_) e,hb⟩
  simp only [onionskinlaw09_Few.l0]
  rw [if_pos (by omega),if_pos (by omega),← hz',w64 (by omega) (by omega)]
  rfl
theorem few09_ev (l:List S32) (hs:SzE l) (hn:l.length≤1000000000000000):∃ b,Ev (fun k=>onionskinlaw09_Few.f k l) b∧(b=true→l.length≤30∧totE l≤12000) :=
 few09_l l hs hn l.length 0 0 (by omega) (fun _=>⟨0,rfl,by simp [totE],by omega⟩)
theorem fitsE_of {l:List S32} (h:l.length≤30∧totE l≤12000):rowFits' l:=by
 refine ⟨?_,by omega⟩
 unfold rowFits
 rw [List.all_eq_true]
 intro x hx
 obtain ⟨y,hy,rfl⟩:=List.mem_map.1 hx
 have:=totE_mem l hy
 unfold enTot at this
 have e1:(enOf y).1.length=y.f0.size:=by show y.f0.data.toList.length=_;rw [Array.length_toList];rfl
 have e2:(enOf y).2.attrs.length=y.f1.f9.size:=by show y.f1.f9.data.toList.length=_;rw [Array.length_toList];rfl
 unfold ndFits
 rw [e1,e2]
 simp;omega
end Go.Proofs.Zq
end
section
namespace Go.Proofs.Zq
open Go.ChangeShapes Go.WideShapes Go.ChangeAt Go.RowKit Go.WideElems Go.Proofs.YtjghikkboekonaaGreatDoor Go.Proofs.Zw.PrintWords
section
variable {H:Type} {enc:TypeId×Value→H} {W:World} {base:Nat}
theorem weighs {ts:List TypeId} {ds:List (DataW H)} (h:(DataW.weightsEach Tryz.prog ts ds).all (·≤reachBytes)=true) (j:Nat) {t:TypeId} {d:DataW H} (ht:ts[j]?=some t) (hd:ds[j]?=some d):∀ n ∈ d.weights Tryz.prog t,n≤reachBytes:=fun n hn=>by
 have:=List.all_eq_true.1 h n (DataW.weights_mem_each ht hd n hn)
 simpa using this
theorem rowAt_map {α β:Type} {cells:β→List Value} {f:α→β} {k:Nat} {w:World} {a:Option Addr} {l:List α} (h:RowAt (fun x=>cells (f x)) k w a l):RowAt cells k w a (l.map f):=by
 intro i y hy
 rw [List.getElem?_map] at hy
 cases hx:l[i]? with
 | none=>rw [hx] at hy;cases hy
 | some x =>
  rw [hx] at hy
  cases hy
  exact h i x hx
instance:Inhabited S32:=⟨z32⟩
instance:Inhabited S57:=⟨z57⟩
theorem reach_is:reachBytes=140737488351232:=by decide
end
end Go.Proofs.Zq
end
