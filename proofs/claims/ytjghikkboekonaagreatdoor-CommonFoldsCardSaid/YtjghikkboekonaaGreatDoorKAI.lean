/- A part of a proof of statements of this seat: what its walks and its laws lean on; joined by a program of this repo (wip/pack.py) out of the texts XMRight, QTreePlain, XNode2, XBox, XDraw, XNd1, XNd2, XNd3, ShelfB, XNd4, Mod8, XTree1, XCRight, XApp1, QEq28, XCRW. -/
import Derived.Deep.LoopGhost
import Derived.Deep.MidRow
import Derived.Ground.GgzProg
import Derived.Ground.SlsfProg
import Derived.IntWalk
import Derived.Laws.IdiomRangeMap
import Derived.Lib.OwnBridge
import Derived.Lib.SlMapFilter
import Derived.Maps.OwnSet
import Derived.Maps.RangeWalk
import Derived.Shelf.SlGeneric
import Derived.Shelf.SlIter.Collect
import Derived.Shelf.SlSortCmp.NoneTotal
import Derived.Shelf.SlSortCmp.Whole1
import Derived.Sort.KeysCollected
import Derived.Sort.MapsRangeIn
import Derived.Test.YtjghikkboekonaaGreatDoorProg
import Derived.Test.YtjghikkboekonaaGreatDoorKAB
import Derived.Test.YtjghikkboekonaaGreatDoorKAD
import Derived.Test.YtjghikkboekonaaGreatDoorKAE
import Derived.Test.YtjghikkboekonaaGreatDoorKAH
set_option linter.unusedSimpArgs false
set_option linter.unusedVariables false
section
namespace Go.Proofs.Zq
open Go.RowKit Go.Proofs.YtjghikkboekonaaGreatDoor Go.Proofs.Zw.PrintWords Go.Proofs.Zw.PrintLast Go.Proofs.Zw.PrintMore
theorem strange_calls (w:World) (s:Str):Calls Tryz.prog 95 #[.string (B s)] w fun e w'=>e=.returned (.bool (strangeM s))∧Below w.heap.size w w' :=
 (mktar_strange.calls (B s) _ w (strange_f s)).mono fun _ _ ⟨h,hd⟩=>⟨h,hd.below⟩
theorem number_calls (w:World) (n:Int):Calls Tryz.prog 96 #[.int .i64 n] w fun e w'=>e=.returned (.bool (numberM n))∧Below w.heap.size w w' :=
 (mktar_number.calls n _ w (number_f n)).mono fun _ _ ⟨h,hd⟩=>⟨h,hd.below⟩
theorem device_calls (w:World) (n:Int):Calls Tryz.prog 97 #[.int .i64 n] w fun e w'=>e=.returned (.bool (deviceM n))∧Below w.heap.size w w' :=
 mktar_device.calls 21 n _ w (device_f n 21 (by omega))
def ndZero0:Array Value:=#[.int .i64 0,.int .i64 0,.int .i64 0,.int .i64 0,.int .i64 0,.string (⟨#[]⟩:ByteArray),.string (⟨#[]⟩:ByteArray),.int .i64 0,.int .i64 0,.string (⟨#[]⟩:ByteArray)]
def nodeA (n:Nd):Bool:=decide (0≤n.kind) && decide (n.kind<7) && decide (Go.bits .andNot .i64 n.mode 4095=0) && numberM n.uid && numberM n.gid && numberM n.mtime
def nodeB (n:Nd):Bool:=nodeA n && !strangeM n.link && deviceM n.major && deviceM n.minor && attrsOk n.attrs
def nodeC (n:Nd):Bool:=nodeB n && (decide (n.kind=2) || decide (n.kind=3) || n.link.isEmpty)
def nodeD (n:Nd):Bool:=nodeC n && (decide (n.kind=4) || decide (n.kind=5) || decide (n.major=0) && decide (n.minor=0))
structure AtN (w0 w:World) (g:Nat) (n:Nd):Prop where
 blk:w.heap[g]?=some (.cells (pz18 n).toArray 28 (0,0))
 below:Below w0.heap.size w0 w
theorem AtN.ext {w0 w w1:World} {g:Nat} {n:Nd} (h:AtN w0 w g n) (hb:Below w.heap.size w w1):AtN w0 w1 g n:=⟨pz11 h.blk hb,pbt h.below hb⟩
theorem AtN.at {w0 w:World} {g:Nat} {n:Nd} (h:AtN w0 w g n) (j:Nat) {v:Value} (hv:(pz18 n)[j]?=some v):w.cell? ⟨g,j,none⟩=some v:=by
 rw [pbc h.blk];simpa using hv
set_option maxRecDepth 100000 in
set_option maxHeartbeats 1000000 in
theorem right_calls (w:World) (hG:GL w) (s:Str) (n:Nd) (ha:n.attrs.length≤10000000) :
  Calls Tryz.prog 65 #[.agg (eCells (s,n)).toArray] w fun e w'=>e=.returned (.int .i64 (rtM s n))∧Below w.heap.size w w':=by
 have HAT:=pH ha
 clear ha
 have HU:=pH Tryz.underlying28
 go_enter Tryz.func65,Tryz.ntmps65
 go_upto_region 2 with (first|((with_reducible refine pz10 (N:=1) rfl ?_);refine pz24 rfl (N:=1) rfl (cs:=(eCells (s,n)).toArray) (t:=32) (by kernel_rfl) ?_;intro g1 hg w1 hb hbl;have HB1:=pH hb;have HBL1:=pH hbl;clear hg hb hbl;go_frame)|((with_reducible refine pz10 (N:=6) rfl ?_);refine wpList_load_mid rfl 28 _ rfl g1 1 rfl (pz18 n) _ ?hl HU.out rfl rfl ?_;(case hl=>intro j v hv;rw [pbc HB1.out];simp [eCells];rw [Nat.add_comm 1 j,List.getElem?_cons_succ];exact hv);go_frame)|((with_reducible refine pz10 (N:=3) rfl ?_);refine pz24 rfl (N:=3) rfl (cs:=ndZero0) (t:=28) ?hr ?_;(case hr=>first|(go_simp;done)|(go_simp;rfl));intro g3 hg w2 hb2 hbl2;have HB2:=pH hb2;have HBL2:=pH hbl2;have HGE3:Hid (w1.heap.size≤g3):=pH (by rw [hg];exact Nat.le_refl _);clear hg hb2 hbl2;go_frame)|((with_reducible refine pz28 (t:=28) (p:=3) rfl ?_);refine pz22 rfl rfl 28 _ _ rfl g3 (pz18 n).toArray rfl rfl 28 ndZero0 HB2.out rfl rfl (by simp [pz18,Value.oneCell']) ?_;intro w3 hb3 hg3;have HB3:=pH hb3;have HBL3:Hid (Below w1.heap.size w1 w3):=pH (HBL2.out.grown hg3 HBL2.out.size (fun j hj=>by cases hj;exact HGE3.out));clear hb3 hg3))
 have HN:Hid (AtN w w3 g3 n):=pH ⟨HB3.out,pbt HBL1.out HBL3.out⟩
 have q0:w3.cell? ⟨g1,0,none⟩=some (.string (B s)):=(pbc (pz11 HB1.out HBL3.out) 0).trans (by simp [eCells])
 clear HB1 HB2 HB3 HBL1 HBL2 HBL3 HGE3
 by_cases hs:s=[]
 ·subst hs
  go_wp2_with fail
  go_ret
  exact ⟨rfl,HN.out.below⟩
 have hse:s.isEmpty=false:=by cases s with|nil=>exact absurd rfl hs|cons _ _=>rfl
 clear hs
 go_wp2_with fail
 refine (strange_calls w3 s).mono ?_
 rintro e w4 ⟨rfl,hb⟩
 have HN4:=pH (HN.out.ext hb)
 clear hb q0 HN
 cases hst:strangeM s with
 | true =>
  have HR:Hid (rtM s n=9):=pH (by unfold rtM;rw [hst,Bool.or_true];rfl)
  go_wp2_with fail
  go_ret
  exact ⟨by rw [HR.out];rfl,HN4.out.below⟩
 | false =>
 have HR:Hid (rtM s n=if nodeD n && (decide (n.kind=0) || n.data.isEmpty) then 0 else 1):=pH (by
  unfold rtM nodeD nodeC nodeB nodeA nodeOk
  rw [hst,hse]
  simp [Bool.and_assoc])
 have c0:=HN4.out.at 0 (v:=.int .i64 n.kind) rfl
 have c1:=HN4.out.at 1 (v:=.int .i64 n.mode) rfl
 have c2:=HN4.out.at 2 (v:=.int .i64 n.uid) rfl
 have c3:=HN4.out.at 3 (v:=.int .i64 n.gid) rfl
 have c4:=HN4.out.at 4 (v:=.int .i64 n.mtime) rfl
 have c5:=HN4.out.at 5 (v:=.string (B n.link)) rfl
 have c6:=HN4.out.at 6 (v:=.string (B n.data)) rfl
 have c7:=HN4.out.at 7 (v:=.int .i64 n.major) rfl
 have c8:=HN4.out.at 8 (v:=.int .i64 n.minor) rfl
 have c9:=HN4.out.at 9 (v:=.string (B n.attrs)) rfl
 go_upto_region 4 with (fail)
 clear hse
 go_cut [4] (fun v4 wc=>v4=.bool (nodeA n)∧Hid (AtN w wc g3 n))
 case first =>
  cases h1:decide (0≤n.kind) with
  | false =>
   have HV:Hid (nodeA n=false):=pH (by unfold nodeA;simp [h1])
   go_wp2_with fail
   go_meet
   exact ⟨by rw [HV.out],HN4⟩
  | true =>
  cases h2:decide (n.kind<7) with
  | false =>
   have HV:Hid (nodeA n=false):=pH (by unfold nodeA;simp [h2])
   go_wp2_with fail
   go_meet
   exact ⟨by rw [HV.out],HN4⟩
  | true =>
  cases h3:(Go.bits .andNot .i64 n.mode 4095 == 0) with
  | false =>
   have h3':¬ Go.bits .andNot .i64 n.mode 4095=0:=by simpa using h3
   have HV:Hid (nodeA n=false):=pH (by unfold nodeA;simp [h3'])
   go_wp2_with fail
   go_meet
   exact ⟨by rw [HV.out],HN4⟩
  | true =>
  have h3':Go.bits .andNot .i64 n.mode 4095=0:=by simpa using h3
  have H3:=pH h3'
  clear h3'
  go_wp2_with fail
  refine (number_calls _ n.uid).mono ?_
  rintro e w5 ⟨rfl,hb⟩
  have HN5:=pH (HN4.out.ext hb)
  clear hb c0 c1 c2 c3 c4 c5 c6 c7 c8 c9
  have c0:=HN5.out.at 0 (v:=.int .i64 n.kind) rfl
  have c1:=HN5.out.at 1 (v:=.int .i64 n.mode) rfl
  have c2:=HN5.out.at 2 (v:=.int .i64 n.uid) rfl
  have c3:=HN5.out.at 3 (v:=.int .i64 n.gid) rfl
  have c4:=HN5.out.at 4 (v:=.int .i64 n.mtime) rfl
  have c5:=HN5.out.at 5 (v:=.string (B n.link)) rfl
  have c6:=HN5.out.at 6 (v:=.string (B n.data)) rfl
  have c7:=HN5.out.at 7 (v:=.int .i64 n.major) rfl
  have c8:=HN5.out.at 8 (v:=.int .i64 n.minor) rfl
  have c9:=HN5.out.at 9 (v:=.string (B n.attrs)) rfl
  cases h4:numberM n.uid with
  | false =>
   have HV:Hid (nodeA n=false):=pH (by unfold nodeA;simp [h4])
   go_wp2_with fail
   go_meet
   exact ⟨by rw [HV.out],HN5⟩
  | true =>
  go_wp2_with fail
  refine (number_calls _ n.gid).mono ?_
  rintro e w6 ⟨rfl,hb⟩
  have HN6:=pH (HN5.out.ext hb)
  clear hb c0 c1 c2 c3 c4 c5 c6 c7 c8 c9
  have c0:=HN6.out.at 0 (v:=.int .i64 n.kind) rfl
  have c1:=HN6.out.at 1 (v:=.int .i64 n.mode) rfl
  have c2:=HN6.out.at 2 (v:=.int .i64 n.uid) rfl
  have c3:=HN6.out.at 3 (v:=.int .i64 n.gid) rfl
  have c4:=HN6.out.at 4 (v:=.int .i64 n.mtime) rfl
  have c5:=HN6.out.at 5 (v:=.string (B n.link)) rfl
  have c6:=HN6.out.at 6 (v:=.string (B n.data)) rfl
  have c7:=HN6.out.at 7 (v:=.int .i64 n.major) rfl
  have c8:=HN6.out.at 8 (v:=.int .i64 n.minor) rfl
  have c9:=HN6.out.at 9 (v:=.string (B n.attrs)) rfl
  cases h5:numberM n.gid with
  | false =>
   have HV:Hid (nodeA n=false):=pH (by unfold nodeA;simp [h5])
   go_wp2_with fail
   go_meet
   exact ⟨by rw [HV.out],HN6⟩
  | true =>
  go_wp2_with fail
  refine (number_calls _ n.mtime).mono ?_
  rintro e w7 ⟨rfl,hb⟩
  have HN7:=pH (HN6.out.ext hb)
  clear hb c0 c1 c2 c3 c4 c5 c6 c7 c8 c9
  have c0:=HN7.out.at 0 (v:=.int .i64 n.kind) rfl
  have c1:=HN7.out.at 1 (v:=.int .i64 n.mode) rfl
  have c2:=HN7.out.at 2 (v:=.int .i64 n.uid) rfl
  have c3:=HN7.out.at 3 (v:=.int .i64 n.gid) rfl
  have c4:=HN7.out.at 4 (v:=.int .i64 n.mtime) rfl
  have c5:=HN7.out.at 5 (v:=.string (B n.link)) rfl
  have c6:=HN7.out.at 6 (v:=.string (B n.data)) rfl
  have c7:=HN7.out.at 7 (v:=.int .i64 n.major) rfl
  have c8:=HN7.out.at 8 (v:=.int .i64 n.minor) rfl
  have c9:=HN7.out.at 9 (v:=.string (B n.attrs)) rfl
  have HV:Hid (nodeA n=numberM n.mtime):=pH (by unfold nodeA;rw [h1,h2,decide_eq_true H3.out,h4,h5];simp)
  go_wp2_with fail
  go_meet
  exact ⟨by rw [HV.out],HN7⟩
 case rest =>
 clear c0 c1 c2 c3 c4 c5 c6 c7 c8 c9 HN4
 obtain ⟨rfl,HN4⟩:=hcut
 have c0:=HN4.out.at 0 (v:=.int .i64 n.kind) rfl
 have c1:=HN4.out.at 1 (v:=.int .i64 n.mode) rfl
 have c2:=HN4.out.at 2 (v:=.int .i64 n.uid) rfl
 have c3:=HN4.out.at 3 (v:=.int .i64 n.gid) rfl
 have c4:=HN4.out.at 4 (v:=.int .i64 n.mtime) rfl
 have c5:=HN4.out.at 5 (v:=.string (B n.link)) rfl
 have c6:=HN4.out.at 6 (v:=.string (B n.data)) rfl
 have c7:=HN4.out.at 7 (v:=.int .i64 n.major) rfl
 have c8:=HN4.out.at 8 (v:=.int .i64 n.minor) rfl
 have c9:=HN4.out.at 9 (v:=.string (B n.attrs)) rfl
 go_upto_region 5 with (fail)
 go_cut [4] (fun v4 wc=>v4=.bool (nodeB n)∧Hid (AtN w wc g3 n))
 case first =>
  cases ha:nodeA n with
  | false =>
   have HV:Hid (nodeB n=false):=pH (by unfold nodeB;simp [ha])
   go_wp2_with fail
   go_meet
   exact ⟨by rw [HV.out],HN4⟩
  | true =>
  go_wp2_with fail
  refine (strange_calls _ n.link).mono ?_
  rintro e w5 ⟨rfl,hb⟩
  have HN5:=pH (HN4.out.ext hb)
  clear hb c0 c1 c2 c3 c4 c5 c6 c7 c8 c9
  have c0:=HN5.out.at 0 (v:=.int .i64 n.kind) rfl
  have c1:=HN5.out.at 1 (v:=.int .i64 n.mode) rfl
  have c2:=HN5.out.at 2 (v:=.int .i64 n.uid) rfl
  have c3:=HN5.out.at 3 (v:=.int .i64 n.gid) rfl
  have c4:=HN5.out.at 4 (v:=.int .i64 n.mtime) rfl
  have c5:=HN5.out.at 5 (v:=.string (B n.link)) rfl
  have c6:=HN5.out.at 6 (v:=.string (B n.data)) rfl
  have c7:=HN5.out.at 7 (v:=.int .i64 n.major) rfl
  have c8:=HN5.out.at 8 (v:=.int .i64 n.minor) rfl
  have c9:=HN5.out.at 9 (v:=.string (B n.attrs)) rfl
  cases h4:strangeM n.link with
  | true =>
   have HV:Hid (nodeB n=false):=pH (by unfold nodeB;simp [h4])
   go_wp2_with fail
   go_meet
   exact ⟨by rw [HV.out],HN5⟩
  | false =>
  go_wp2_with fail
  refine (device_calls _ n.major).mono ?_
  rintro e w6 ⟨rfl,hb⟩
  have HN6:=pH (HN5.out.ext hb)
  clear hb c0 c1 c2 c3 c4 c5 c6 c7 c8 c9
  have c0:=HN6.out.at 0 (v:=.int .i64 n.kind) rfl
  have c1:=HN6.out.at 1 (v:=.int .i64 n.mode) rfl
  have c2:=HN6.out.at 2 (v:=.int .i64 n.uid) rfl
  have c3:=HN6.out.at 3 (v:=.int .i64 n.gid) rfl
  have c4:=HN6.out.at 4 (v:=.int .i64 n.mtime) rfl
  have c5:=HN6.out.at 5 (v:=.string (B n.link)) rfl
  have c6:=HN6.out.at 6 (v:=.string (B n.data)) rfl
  have c7:=HN6.out.at 7 (v:=.int .i64 n.major) rfl
  have c8:=HN6.out.at 8 (v:=.int .i64 n.minor) rfl
  have c9:=HN6.out.at 9 (v:=.string (B n.attrs)) rfl
  cases h5:deviceM n.major with
  | false =>
   have HV:Hid (nodeB n=false):=pH (by unfold nodeB;simp [h5])
   go_wp2_with fail
   go_meet
   exact ⟨by rw [HV.out],HN6⟩
  | true =>
  go_wp2_with fail
  refine (device_calls _ n.minor).mono ?_
  rintro e w7 ⟨rfl,hb⟩
  have HN7:=pH (HN6.out.ext hb)
  clear hb c0 c1 c2 c3 c4 c5 c6 c7 c8 c9
  have c0:=HN7.out.at 0 (v:=.int .i64 n.kind) rfl
  have c1:=HN7.out.at 1 (v:=.int .i64 n.mode) rfl
  have c2:=HN7.out.at 2 (v:=.int .i64 n.uid) rfl
  have c3:=HN7.out.at 3 (v:=.int .i64 n.gid) rfl
  have c4:=HN7.out.at 4 (v:=.int .i64 n.mtime) rfl
  have c5:=HN7.out.at 5 (v:=.string (B n.link)) rfl
  have c6:=HN7.out.at 6 (v:=.string (B n.data)) rfl
  have c7:=HN7.out.at 7 (v:=.int .i64 n.major) rfl
  have c8:=HN7.out.at 8 (v:=.int .i64 n.minor) rfl
  have c9:=HN7.out.at 9 (v:=.string (B n.attrs)) rfl
  cases h6:deviceM n.minor with
  | false =>
   have HV:Hid (nodeB n=false):=pH (by unfold nodeB;simp [h6])
   go_wp2_with fail
   go_meet
   exact ⟨by rw [HV.out],HN7⟩
  | true =>
  go_wp2_with fail
  refine (attrs_calls _ (hG.ext HN7.out.below) n.attrs HAT.out).mono ?_
  rintro e w8 ⟨rfl,hb⟩
  have HN8:=pH (HN7.out.ext hb)
  clear hb c0 c1 c2 c3 c4 c5 c6 c7 c8 c9
  have c0:=HN8.out.at 0 (v:=.int .i64 n.kind) rfl
  have c1:=HN8.out.at 1 (v:=.int .i64 n.mode) rfl
  have c2:=HN8.out.at 2 (v:=.int .i64 n.uid) rfl
  have c3:=HN8.out.at 3 (v:=.int .i64 n.gid) rfl
  have c4:=HN8.out.at 4 (v:=.int .i64 n.mtime) rfl
  have c5:=HN8.out.at 5 (v:=.string (B n.link)) rfl
  have c6:=HN8.out.at 6 (v:=.string (B n.data)) rfl
  have c7:=HN8.out.at 7 (v:=.int .i64 n.major) rfl
  have c8:=HN8.out.at 8 (v:=.int .i64 n.minor) rfl
  have c9:=HN8.out.at 9 (v:=.string (B n.attrs)) rfl
  have HV:Hid (nodeB n=attrsOk n.attrs):=pH (by unfold nodeB;rw [ha,h4,h5,h6];simp)
  go_wp2_with fail
  go_meet
  exact ⟨by rw [HV.out],HN8⟩
 case rest =>
 clear c0 c1 c2 c3 c4 c5 c6 c7 c8 c9 HN4
 obtain ⟨rfl,HN4⟩:=hcut
 have c0:=HN4.out.at 0 (v:=.int .i64 n.kind) rfl
 have c1:=HN4.out.at 1 (v:=.int .i64 n.mode) rfl
 have c2:=HN4.out.at 2 (v:=.int .i64 n.uid) rfl
 have c3:=HN4.out.at 3 (v:=.int .i64 n.gid) rfl
 have c4:=HN4.out.at 4 (v:=.int .i64 n.mtime) rfl
 have c5:=HN4.out.at 5 (v:=.string (B n.link)) rfl
 have c6:=HN4.out.at 6 (v:=.string (B n.data)) rfl
 have c7:=HN4.out.at 7 (v:=.int .i64 n.major) rfl
 have c8:=HN4.out.at 8 (v:=.int .i64 n.minor) rfl
 have c9:=HN4.out.at 9 (v:=.string (B n.attrs)) rfl
 go_upto_block 0 with (fail)
 go_cut [4] (fun v4 wc=>v4=.bool (nodeC n)∧Hid (AtN w wc g3 n))
 case first =>
  cases h1:(n.kind == 2) with
  | true =>
   have h1':n.kind=2:=by simpa using h1
   have HV:Hid (nodeC n=nodeB n):=pH (by unfold nodeC;simp [h1'])
   go_wp2_with fail
   go_meet
   exact ⟨by rw [HV.out],HN4⟩
  | false =>
  cases h2:(n.kind == 3) with
  | true =>
   have h2':n.kind=3:=by simpa using h2
   have HV:Hid (nodeC n=nodeB n):=pH (by unfold nodeC;simp [h2'])
   go_wp2_with fail
   go_meet
   exact ⟨by rw [HV.out],HN4⟩
  | false =>
  have h1':¬ n.kind=2:=by simpa using h1
  have h2':¬ n.kind=3:=by simpa using h2
  cases h3:nodeB n with
  | false =>
   have HV:Hid (nodeC n=false):=pH (by unfold nodeC;simp [h3])
   go_wp2_with fail
   go_meet
   exact ⟨by rw [HV.out],HN4⟩
  | true =>
   have HV:Hid (nodeC n=n.link.isEmpty):=pH (by unfold nodeC;simp [h1',h2',h3])
   go_wp2_with fail
   go_meet
   exact ⟨by rw [HV.out],HN4⟩
 case rest =>
 clear c0 c1 c2 c3 c4 c5 c6 c7 c8 c9 HN4
 obtain ⟨rfl,HN4⟩:=hcut
 have c0:=HN4.out.at 0 (v:=.int .i64 n.kind) rfl
 have c1:=HN4.out.at 1 (v:=.int .i64 n.mode) rfl
 have c2:=HN4.out.at 2 (v:=.int .i64 n.uid) rfl
 have c3:=HN4.out.at 3 (v:=.int .i64 n.gid) rfl
 have c4:=HN4.out.at 4 (v:=.int .i64 n.mtime) rfl
 have c5:=HN4.out.at 5 (v:=.string (B n.link)) rfl
 have c6:=HN4.out.at 6 (v:=.string (B n.data)) rfl
 have c7:=HN4.out.at 7 (v:=.int .i64 n.major) rfl
 have c8:=HN4.out.at 8 (v:=.int .i64 n.minor) rfl
 have c9:=HN4.out.at 9 (v:=.string (B n.attrs)) rfl
 go_upto_block 1 with (fail)
 go_cut [4] (fun v4 wc=>v4=.bool (nodeD n)∧Hid (AtN w wc g3 n))
 case first =>
  cases h1:(n.kind == 4) with
  | true =>
   have h1':n.kind=4:=by simpa using h1
   have HV:Hid (nodeD n=nodeC n):=pH (by unfold nodeD;simp [h1'])
   go_wp2_with fail
   go_meet
   exact ⟨by rw [HV.out],HN4⟩
  | false =>
  cases h2:(n.kind == 5) with
  | true =>
   have h2':n.kind=5:=by simpa using h2
   have HV:Hid (nodeD n=nodeC n):=pH (by unfold nodeD;simp [h2'])
   go_wp2_with fail
   go_meet
   exact ⟨by rw [HV.out],HN4⟩
  | false =>
  have h1':¬ n.kind=4:=by simpa using h1
  have h2':¬ n.kind=5:=by simpa using h2
  cases h3:nodeC n with
  | false =>
   have HV:Hid (nodeD n=false):=pH (by unfold nodeD;simp [h3])
   go_wp2_with fail
   go_meet
   exact ⟨by rw [HV.out],HN4⟩
  | true =>
  cases h4:(n.major == 0) with
  | false =>
   have h4':¬ n.major=0:=by simpa using h4
   have HV:Hid (nodeD n=false):=pH (by unfold nodeD;simp [h1',h2',h4'])
   go_wp2_with fail
   go_meet
   exact ⟨by rw [HV.out],HN4⟩
  | true =>
   have h4':n.major=0:=by simpa using h4
   have HV:Hid (nodeD n=(n.minor == 0)):=pH (by unfold nodeD;rw [h3];simp [h1',h2',h4'];rw [Bool.eq_iff_iff];simp)
   clear h1' h2' h4'
   go_wp2_with fail
   go_meet
   exact ⟨by rw [HV.out],HN4⟩
 case rest =>
 clear c0 c1 c2 c3 c4 c5 c6 c7 c8 c9 HN4
 obtain ⟨rfl,HN4⟩:=hcut
 have c0:=HN4.out.at 0 (v:=.int .i64 n.kind) rfl
 have c1:=HN4.out.at 1 (v:=.int .i64 n.mode) rfl
 have c2:=HN4.out.at 2 (v:=.int .i64 n.uid) rfl
 have c3:=HN4.out.at 3 (v:=.int .i64 n.gid) rfl
 have c4:=HN4.out.at 4 (v:=.int .i64 n.mtime) rfl
 have c5:=HN4.out.at 5 (v:=.string (B n.link)) rfl
 have c6:=HN4.out.at 6 (v:=.string (B n.data)) rfl
 have c7:=HN4.out.at 7 (v:=.int .i64 n.major) rfl
 have c8:=HN4.out.at 8 (v:=.int .i64 n.minor) rfl
 have c9:=HN4.out.at 9 (v:=.string (B n.attrs)) rfl
 cases h1:nodeD n with
 | false =>
  have HV:Hid (rtM s n=1):=pH (by rw [HR.out,h1];rfl)
  go_wp2_with fail
  go_ret
  exact ⟨by rw [HV.out];rfl,HN4.out.below⟩
 | true =>
 cases h2:(n.kind != 0) with
 | false =>
  have h2':n.kind=0:=by simpa using h2
  have HV:Hid (rtM s n=0):=pH (by rw [HR.out,h1,h2'];rfl)
  clear h2'
  go_wp2_with fail
  go_ret
  exact ⟨by rw [HV.out];rfl,HN4.out.below⟩
 | true =>
 have h2':¬ n.kind=0:=by simpa using h2
 cases h3:n.data.isEmpty with
 | true =>
  have HV:Hid (rtM s n=0):=pH (by rw [HR.out,h1,h3,Bool.or_true];rfl)
  clear h2'
  go_wp2_with fail
  go_ret
  exact ⟨by rw [HV.out];rfl,HN4.out.below⟩
 | false =>
  have HV:Hid (rtM s n=1):=pH (by rw [HR.out,h1,h3,decide_eq_false h2'];rfl)
  clear h2'
  go_wp2_with fail
  go_ret
  exact ⟨by rw [HV.out];rfl,HN4.out.below⟩
def mktar_Right.f (a0:ByteArray) (a1 a2 a3 a4 a5:Int) (a6 a7:ByteArray) (a8 a9:Int) (a10:ByteArray):Option Int:=if a10.size≤10000000 then some (rtM a0.data.toList ⟨a1,a2,a3,a4,a5,a6.data.toList,a7.data.toList,a8,a9,a10.data.toList⟩) else none
theorem mktar_Right.calls (a0:ByteArray) (a1 a2 a3 a4 a5:Int) (a6 a7:ByteArray) (a8 a9:Int) (a10:ByteArray) (r:Int) (w:World) (hG:GL w) (h:mktar_Right.f a0 a1 a2 a3 a4 a5 a6 a7 a8 a9 a10=some r) :
  Calls Tryz.prog 65 #[.agg #[.string a0,.int .i64 a1,.int .i64 a2,.int .i64 a3,.int .i64 a4,.int .i64 a5,.string a6,.string a7,.int .i64 a8,.int .i64 a9,.string a10]] w fun e w'=>e=.returned (.int .i64 r)∧Below w.heap.size w w':=by
 unfold mktar_Right.f at h
 split at h
 ·rename_i hs
  cases h
  exact right_calls w hG a0.data.toList ⟨a1,a2,a3,a4,a5,a6.data.toList,a7.data.toList,a8,a9,a10.data.toList⟩ hs
 ·cases h
end Go.Proofs.Zq
end
section
namespace Go.Proofs.Zq
open Go.RowKit Go.Proofs.Zw.PrintWords Go.Proofs.Zw.PrintLast Go.Proofs.Zw.PrintMore
open Go.Proofs.YtjghikkboekonaaGreatDoor (GL)
attribute [local go_sem] max2_int min2_int max_two min_two pz35 pz36 max_four min_four
def tree_plain.f (k:Nat) (a0_0:ByteArray) (a0_1:Int) (a0_2:Int) (a0_3:Int) (a0_4:Int) (a0_5:Int) (a0_6:ByteArray) (a0_7:ByteArray) (a0_8:Int) (a0_9:Int) (a0_10:ByteArray):Option (Bool):=(paths_Mark.f k a0_0).bind fun bt283=>(if bt283.2.2=true then (if bt283.1=0 then ((mktar_Right.f a0_0 a0_1 a0_2 a0_3 a0_4 a0_5 a0_6 a0_7 a0_8 a0_9 a0_10).bind fun t286=>(some (t286 == 0))) else (some false)) else (some false))
set_option maxHeartbeats 8000000 in
set_option maxRecDepth 100000 in
theorem tree_plain.calls (k:Nat) (a0_0:ByteArray) (a0_1:Int) (a0_2:Int) (a0_3:Int) (a0_4:Int) (a0_5:Int) (a0_6:ByteArray) (a0_7:ByteArray) (a0_8:Int) (a0_9:Int) (a0_10:ByteArray) (r:Bool) (w:World) (hG:GL w) (h:tree_plain.f k a0_0 a0_1 a0_2 a0_3 a0_4 a0_5 a0_6 a0_7 a0_8 a0_9 a0_10=some r) :
  Calls Tryz.prog 36 #[.agg #[.string a0_0,.int .i64 a0_1,.int .i64 a0_2,.int .i64 a0_3,.int .i64 a0_4,.int .i64 a0_5,.string a0_6,.string a0_7,.int .i64 a0_8,.int .i64 a0_9,.string a0_10]] w fun e w'=>e=.returned (.bool r)∧Below w.heap.size w w':=by
 have hu32:=Tryz.underlying32
 have HB:=pz4.mk (Below.refl w.heap.size w)
 have H:((paths_Mark.f k a0_0).bind fun bt283=>(if bt283.2.2=true then (if bt283.1=0 then ((mktar_Right.f a0_0 a0_1 a0_2 a0_3 a0_4 a0_5 a0_6 a0_7 a0_8 a0_9 a0_10).bind fun t286=>(some (t286 == 0))) else (some false)) else (some false)))=some r:=h
 clear h
 replace H:=Option.bind_eq_some_iff.mp H
 obtain ⟨⟨t283,t284,t285⟩,A20,H⟩:=H
 replace H:(if t285=true then (if t283=0 then ((mktar_Right.f a0_0 a0_1 a0_2 a0_3 a0_4 a0_5 a0_6 a0_7 a0_8 a0_9 a0_10).bind fun t286=>(some (t286 == 0))) else (some false)) else (some false))=some r:=H
 have A2:=pz4.mk A20
 clear A20
 by_cases c3:t285=true
 ·subst c3
  have H1:(if t283=0 then ((mktar_Right.f a0_0 a0_1 a0_2 a0_3 a0_4 a0_5 a0_6 a0_7 a0_8 a0_9 a0_10).bind fun t286=>(some (t286 == 0))) else (some false))=some r:=by rw [if_pos rfl] at H;exact H
  clear H
  have H:=H1
  clear H1
  by_cases c4:t283=0
  ·rw [if_pos c4] at H
   have c4b0:(t283 == 0)=true:=beq_iff_eq.mpr c4
   have c4b1:(t283 != 0)=false:=bne_eq_false_iff_eq.mpr c4
   clear c4
   replace H:=Option.bind_eq_some_iff.mp H
   obtain ⟨t286,A50,H⟩:=H
   replace H:(some (t286 == 0))=some r:=H
   have A5:=pz4.mk A50
   clear A50
   obtain rfl:=Option.some.inj H
   go_enter Tryz.func36,Tryz.ntmps36
   go_wp2_with (first|((with_reducible refine pz10 (N:=1) rfl ?_);refine pz24 ?hg (N:=1) ?hd (cs:=#[.string a0_0,.int .i64 a0_1,.int .i64 a0_2,.int .i64 a0_3,.int .i64 a0_4,.int .i64 a0_5,.string a0_6,.string a0_7,.int .i64 a0_8,.int .i64 a0_9,.string a0_10]) (t:=32) ?hr ?_;(case hd=>rfl);(case hg=>rfl);(case hr=>first|(go_simp;done)|(go_simp;rfl));intro gb282 hg w6 hbox hb;have n0_:=pz4.mk (pz9 (by repeat (first|(with_reducible first|exact HB.out|apply pz3|apply pz1|apply pz2)|exact HB.out)) hb);have n1_:=pz4.mk (hbox);have n2_:=pz4.mk ((by rw [hg];exact (pz20 (by repeat (first|(with_reducible first|exact HB.out|apply pz3|apply pz1|apply pz2)|exact HB.out))):w.heap.size≤gb282));have n3_:=pz4.mk ((by rw [hg];exact (pz20 (by repeat (first|(with_reducible first|exact HB.out|apply pz3|apply pz1|apply pz2)|exact HB.out))):w.heap.size≤gb282));clear HB;have HB:=n0_;have BK282:=n1_;have GW282:=n2_;have GE282:=n3_;clear n0_ n1_ n2_ n3_;clear hb hbox hg;have hcz7_0:w6.cell? ⟨gb282,0,none⟩=some (.string a0_0):=(blk_cell BK282.out 0).trans rfl;have hcz7_1:w6.cell? ⟨gb282,1,none⟩=some (.int .i64 a0_1):=(blk_cell BK282.out 1).trans rfl;have hcz7_2:w6.cell? ⟨gb282,2,none⟩=some (.int .i64 a0_2):=(blk_cell BK282.out 2).trans rfl;have hcz7_3:w6.cell? ⟨gb282,3,none⟩=some (.int .i64 a0_3):=(blk_cell BK282.out 3).trans rfl;have hcz7_4:w6.cell? ⟨gb282,4,none⟩=some (.int .i64 a0_4):=(blk_cell BK282.out 4).trans rfl;have hcz7_5:w6.cell? ⟨gb282,5,none⟩=some (.int .i64 a0_5):=(blk_cell BK282.out 5).trans rfl;have hcz7_6:w6.cell? ⟨gb282,6,none⟩=some (.string a0_6):=(blk_cell BK282.out 6).trans rfl;have hcz7_7:w6.cell? ⟨gb282,7,none⟩=some (.string a0_7):=(blk_cell BK282.out 7).trans rfl;have hcz7_8:w6.cell? ⟨gb282,8,none⟩=some (.int .i64 a0_8):=(blk_cell BK282.out 8).trans rfl;have hcz7_9:w6.cell? ⟨gb282,9,none⟩=some (.int .i64 a0_9):=(blk_cell BK282.out 9).trans rfl;have hcz7_10:w6.cell? ⟨gb282,10,none⟩=some (.string a0_10):=(blk_cell BK282.out 10).trans rfl;have hfz7_0:=pz7 BK282.out 0;have hfz7_1:=pz7 BK282.out 1;have hfz7_2:=pz7 BK282.out 2;have hfz7_3:=pz7 BK282.out 3;have hfz7_4:=pz7 BK282.out 4;have hfz7_5:=pz7 BK282.out 5;have hfz7_6:=pz7 BK282.out 6;have hfz7_7:=pz7 BK282.out 7;have hfz7_8:=pz7 BK282.out 8;have hfz7_9:=pz7 BK282.out 9;have hfz7_10:=pz7 BK282.out 10)|((with_reducible refine pz8 (f:=67) rfl ?_);refine pz21 (some 9) rfl rfl Tryz.func67 (by kernel_rfl) rfl #[.string a0_0] rfl (by (try simp only [pM]);first|done|rfl|(simp only [pL];rfl)) ?_;(with_reducible refine (paths_Mark.calls k a0_0 t283 t284 true _ (hG.ext (by repeat (first|(with_reducible first|exact HB.out|apply pz3|apply pz1|apply pz2|refine pz14 ?_ GE282.out)|exact HB.out))) A2.out).mono ?_);rintro e w8 ⟨rfl,hb⟩;refine ⟨_,rfl,?_⟩;have n0_:=pz4.mk (pz11 (g:=gb282) (o:=.cells #[.string a0_0,.int .i64 a0_1,.int .i64 a0_2,.int .i64 a0_3,.int .i64 a0_4,.int .i64 a0_5,.string a0_6,.string a0_7,.int .i64 a0_8,.int .i64 a0_9,.string a0_10] 32 (0,0)) (by (with_reducible repeat (first|refine pz29 ?_ _|refine pz32 ?_|refine pz30 ?_ _));exact BK282.out) hb);have n1_:=pz4.mk (pz9 (by repeat (first|(with_reducible first|exact HB.out|apply pz3|apply pz1|apply pz2|refine pz14 ?_ GE282.out)|exact HB.out)) hb);clear BK282;clear HB;have BK282:=n0_;have HB:=n1_;clear n0_ n1_;(try clear hb);(try clear hb2);(try clear hk);(try clear hi);have hcz9_0:w8.cell? ⟨gb282,0,none⟩=some (.string a0_0):=(blk_cell BK282.out 0).trans rfl;have hcz9_1:w8.cell? ⟨gb282,1,none⟩=some (.int .i64 a0_1):=(blk_cell BK282.out 1).trans rfl;have hcz9_2:w8.cell? ⟨gb282,2,none⟩=some (.int .i64 a0_2):=(blk_cell BK282.out 2).trans rfl;have hcz9_3:w8.cell? ⟨gb282,3,none⟩=some (.int .i64 a0_3):=(blk_cell BK282.out 3).trans rfl;have hcz9_4:w8.cell? ⟨gb282,4,none⟩=some (.int .i64 a0_4):=(blk_cell BK282.out 4).trans rfl;have hcz9_5:w8.cell? ⟨gb282,5,none⟩=some (.int .i64 a0_5):=(blk_cell BK282.out 5).trans rfl;have hcz9_6:w8.cell? ⟨gb282,6,none⟩=some (.string a0_6):=(blk_cell BK282.out 6).trans rfl;have hcz9_7:w8.cell? ⟨gb282,7,none⟩=some (.string a0_7):=(blk_cell BK282.out 7).trans rfl;have hcz9_8:w8.cell? ⟨gb282,8,none⟩=some (.int .i64 a0_8):=(blk_cell BK282.out 8).trans rfl;have hcz9_9:w8.cell? ⟨gb282,9,none⟩=some (.int .i64 a0_9):=(blk_cell BK282.out 9).trans rfl;have hcz9_10:w8.cell? ⟨gb282,10,none⟩=some (.string a0_10):=(blk_cell BK282.out 10).trans rfl;have hfz9_0:=pz7 BK282.out 0;have hfz9_1:=pz7 BK282.out 1;have hfz9_2:=pz7 BK282.out 2;have hfz9_3:=pz7 BK282.out 3;have hfz9_4:=pz7 BK282.out 4;have hfz9_5:=pz7 BK282.out 5;have hfz9_6:=pz7 BK282.out 6;have hfz9_7:=pz7 BK282.out 7;have hfz9_8:=pz7 BK282.out 8;have hfz9_9:=pz7 BK282.out 9;have hfz9_10:=pz7 BK282.out 10)|(go_at_call 65;(with_reducible refine (mktar_Right.calls a0_0 a0_1 a0_2 a0_3 a0_4 a0_5 a0_6 a0_7 a0_8 a0_9 a0_10 t286 _ (hG.ext (by repeat (first|(with_reducible first|exact HB.out|apply pz3|apply pz1|apply pz2|refine pz14 ?_ GE282.out)|exact HB.out))) A5.out).mono ?_);rintro e w10 ⟨rfl,hb⟩;have n0_:=pz4.mk (pz11 (g:=gb282) (o:=.cells #[.string a0_0,.int .i64 a0_1,.int .i64 a0_2,.int .i64 a0_3,.int .i64 a0_4,.int .i64 a0_5,.string a0_6,.string a0_7,.int .i64 a0_8,.int .i64 a0_9,.string a0_10] 32 (0,0)) (by (with_reducible repeat (first|refine pz29 ?_ _|refine pz32 ?_|refine pz30 ?_ _));exact BK282.out) hb);have n1_:=pz4.mk (pz9 (by repeat (first|(with_reducible first|exact HB.out|apply pz3|apply pz1|apply pz2|refine pz14 ?_ GE282.out)|exact HB.out)) hb);clear BK282;clear HB;have BK282:=n0_;have HB:=n1_;clear n0_ n1_;(try clear hb);(try clear hb2);(try clear hk);(try clear hi)))
   go_ret
   exact ⟨by first|rfl|(simp [pz6,pz5] <;> rfl)|(simp [*,pz6,pz5] <;> rfl),by repeat (first|(with_reducible first|exact HB.out|apply pz3|apply pz1|apply pz2|refine pz14 ?_ GE282.out)|exact HB.out)⟩
  ·rw [if_neg c4] at H
   have c4b0:(t283 == 0)=false:=beq_eq_false_iff_ne.mpr c4
   have c4b1:(t283 != 0)=true:=bne_iff_ne.mpr c4
   obtain rfl:=Option.some.inj H
   go_enter Tryz.func36,Tryz.ntmps36
   go_wp2_with (first|((with_reducible refine pz10 (N:=1) rfl ?_);refine pz24 ?hg (N:=1) ?hd (cs:=#[.string a0_0,.int .i64 a0_1,.int .i64 a0_2,.int .i64 a0_3,.int .i64 a0_4,.int .i64 a0_5,.string a0_6,.string a0_7,.int .i64 a0_8,.int .i64 a0_9,.string a0_10]) (t:=32) ?hr ?_;(case hd=>rfl);(case hg=>rfl);(case hr=>first|(go_simp;done)|(go_simp;rfl));intro gb282 hg w11 hbox hb;have n0_:=pz4.mk (pz9 (by repeat (first|(with_reducible first|exact HB.out|apply pz3|apply pz1|apply pz2)|exact HB.out)) hb);have n1_:=pz4.mk (hbox);have n2_:=pz4.mk ((by rw [hg];exact (pz20 (by repeat (first|(with_reducible first|exact HB.out|apply pz3|apply pz1|apply pz2)|exact HB.out))):w.heap.size≤gb282));have n3_:=pz4.mk ((by rw [hg];exact (pz20 (by repeat (first|(with_reducible first|exact HB.out|apply pz3|apply pz1|apply pz2)|exact HB.out))):w.heap.size≤gb282));clear HB;have HB:=n0_;have BK282:=n1_;have GW282:=n2_;have GE282:=n3_;clear n0_ n1_ n2_ n3_;clear hb hbox hg;have hcz12_0:w11.cell? ⟨gb282,0,none⟩=some (.string a0_0):=(blk_cell BK282.out 0).trans rfl;have hcz12_1:w11.cell? ⟨gb282,1,none⟩=some (.int .i64 a0_1):=(blk_cell BK282.out 1).trans rfl;have hcz12_2:w11.cell? ⟨gb282,2,none⟩=some (.int .i64 a0_2):=(blk_cell BK282.out 2).trans rfl;have hcz12_3:w11.cell? ⟨gb282,3,none⟩=some (.int .i64 a0_3):=(blk_cell BK282.out 3).trans rfl;have hcz12_4:w11.cell? ⟨gb282,4,none⟩=some (.int .i64 a0_4):=(blk_cell BK282.out 4).trans rfl;have hcz12_5:w11.cell? ⟨gb282,5,none⟩=some (.int .i64 a0_5):=(blk_cell BK282.out 5).trans rfl;have hcz12_6:w11.cell? ⟨gb282,6,none⟩=some (.string a0_6):=(blk_cell BK282.out 6).trans rfl;have hcz12_7:w11.cell? ⟨gb282,7,none⟩=some (.string a0_7):=(blk_cell BK282.out 7).trans rfl;have hcz12_8:w11.cell? ⟨gb282,8,none⟩=some (.int .i64 a0_8):=(blk_cell BK282.out 8).trans rfl;have hcz12_9:w11.cell? ⟨gb282,9,none⟩=some (.int .i64 a0_9):=(blk_cell BK282.out 9).trans rfl;have hcz12_10:w11.cell? ⟨gb282,10,none⟩=some (.string a0_10):=(blk_cell BK282.out 10).trans rfl;have hfz12_0:=pz7 BK282.out 0;have hfz12_1:=pz7 BK282.out 1;have hfz12_2:=pz7 BK282.out 2;have hfz12_3:=pz7 BK282.out 3;have hfz12_4:=pz7 BK282.out 4;have hfz12_5:=pz7 BK282.out 5;have hfz12_6:=pz7 BK282.out 6;have hfz12_7:=pz7 BK282.out 7;have hfz12_8:=pz7 BK282.out 8;have hfz12_9:=pz7 BK282.out 9;have hfz12_10:=pz7 BK282.out 10)|((with_reducible refine pz8 (f:=67) rfl ?_);refine pz21 (some 9) rfl rfl Tryz.func67 (by kernel_rfl) rfl #[.string a0_0] rfl (by (try simp only [pM]);first|done|rfl|(simp only [pL];rfl)) ?_;(with_reducible refine (paths_Mark.calls k a0_0 t283 t284 true _ (hG.ext (by repeat (first|(with_reducible first|exact HB.out|apply pz3|apply pz1|apply pz2|refine pz14 ?_ GE282.out)|exact HB.out))) A2.out).mono ?_);rintro e w13 ⟨rfl,hb⟩;refine ⟨_,rfl,?_⟩;have n0_:=pz4.mk (pz11 (g:=gb282) (o:=.cells #[.string a0_0,.int .i64 a0_1,.int .i64 a0_2,.int .i64 a0_3,.int .i64 a0_4,.int .i64 a0_5,.string a0_6,.string a0_7,.int .i64 a0_8,.int .i64 a0_9,.string a0_10] 32 (0,0)) (by (with_reducible repeat (first|refine pz29 ?_ _|refine pz32 ?_|refine pz30 ?_ _));exact BK282.out) hb);have n1_:=pz4.mk (pz9 (by repeat (first|(with_reducible first|exact HB.out|apply pz3|apply pz1|apply pz2|refine pz14 ?_ GE282.out)|exact HB.out)) hb);clear BK282;clear HB;have BK282:=n0_;have HB:=n1_;clear n0_ n1_;(try clear hb);(try clear hb2);(try clear hk);(try clear hi)))
   go_ret
   exact ⟨by first|rfl|(simp [pz6,pz5] <;> rfl)|(simp [*,pz6,pz5] <;> rfl),by repeat (first|(with_reducible first|exact HB.out|apply pz3|apply pz1|apply pz2|refine pz14 ?_ GE282.out)|exact HB.out)⟩
 ·replace c3:=Bool.eq_false_iff.mpr c3
  subst c3
  have H1:(some false)=some r:=by rw [if_neg (show ¬ (false=true) by decide)] at H;exact H
  clear H
  have H:=H1
  clear H1
  obtain rfl:=Option.some.inj H
  go_enter Tryz.func36,Tryz.ntmps36
  go_wp2_with (first|((with_reducible refine pz10 (N:=1) rfl ?_);refine pz24 ?hg (N:=1) ?hd (cs:=#[.string a0_0,.int .i64 a0_1,.int .i64 a0_2,.int .i64 a0_3,.int .i64 a0_4,.int .i64 a0_5,.string a0_6,.string a0_7,.int .i64 a0_8,.int .i64 a0_9,.string a0_10]) (t:=32) ?hr ?_;(case hd=>rfl);(case hg=>rfl);(case hr=>first|(go_simp;done)|(go_simp;rfl));intro gb282 hg w14 hbox hb;have n0_:=pz4.mk (pz9 (by repeat (first|(with_reducible first|exact HB.out|apply pz3|apply pz1|apply pz2)|exact HB.out)) hb);have n1_:=pz4.mk (hbox);have n2_:=pz4.mk ((by rw [hg];exact (pz20 (by repeat (first|(with_reducible first|exact HB.out|apply pz3|apply pz1|apply pz2)|exact HB.out))):w.heap.size≤gb282));have n3_:=pz4.mk ((by rw [hg];exact (pz20 (by repeat (first|(with_reducible first|exact HB.out|apply pz3|apply pz1|apply pz2)|exact HB.out))):w.heap.size≤gb282));clear HB;have HB:=n0_;have BK282:=n1_;have GW282:=n2_;have GE282:=n3_;clear n0_ n1_ n2_ n3_;clear hb hbox hg;have hcz15_0:w14.cell? ⟨gb282,0,none⟩=some (.string a0_0):=(blk_cell BK282.out 0).trans rfl;have hcz15_1:w14.cell? ⟨gb282,1,none⟩=some (.int .i64 a0_1):=(blk_cell BK282.out 1).trans rfl;have hcz15_2:w14.cell? ⟨gb282,2,none⟩=some (.int .i64 a0_2):=(blk_cell BK282.out 2).trans rfl;have hcz15_3:w14.cell? ⟨gb282,3,none⟩=some (.int .i64 a0_3):=(blk_cell BK282.out 3).trans rfl;have hcz15_4:w14.cell? ⟨gb282,4,none⟩=some (.int .i64 a0_4):=(blk_cell BK282.out 4).trans rfl;have hcz15_5:w14.cell? ⟨gb282,5,none⟩=some (.int .i64 a0_5):=(blk_cell BK282.out 5).trans rfl;have hcz15_6:w14.cell? ⟨gb282,6,none⟩=some (.string a0_6):=(blk_cell BK282.out 6).trans rfl;have hcz15_7:w14.cell? ⟨gb282,7,none⟩=some (.string a0_7):=(blk_cell BK282.out 7).trans rfl;have hcz15_8:w14.cell? ⟨gb282,8,none⟩=some (.int .i64 a0_8):=(blk_cell BK282.out 8).trans rfl;have hcz15_9:w14.cell? ⟨gb282,9,none⟩=some (.int .i64 a0_9):=(blk_cell BK282.out 9).trans rfl;have hcz15_10:w14.cell? ⟨gb282,10,none⟩=some (.string a0_10):=(blk_cell BK282.out 10).trans rfl;have hfz15_0:=pz7 BK282.out 0;have hfz15_1:=pz7 BK282.out 1;have hfz15_2:=pz7 BK282.out 2;have hfz15_3:=pz7 BK282.out 3;have hfz15_4:=pz7 BK282.out 4;have hfz15_5:=pz7 BK282.out 5;have hfz15_6:=pz7 BK282.out 6;have hfz15_7:=pz7 BK282.out 7;have hfz15_8:=pz7 BK282.out 8;have hfz15_9:=pz7 BK282.out 9;have hfz15_10:=pz7 BK282.out 10)|((with_reducible refine pz8 (f:=67) rfl ?_);refine pz21 (some 9) rfl rfl Tryz.func67 (by kernel_rfl) rfl #[.string a0_0] rfl (by (try simp only [pM]);first|done|rfl|(simp only [pL];rfl)) ?_;(with_reducible refine (paths_Mark.calls k a0_0 t283 t284 false _ (hG.ext (by repeat (first|(with_reducible first|exact HB.out|apply pz3|apply pz1|apply pz2|refine pz14 ?_ GE282.out)|exact HB.out))) A2.out).mono ?_);rintro e w16 ⟨rfl,hb⟩;refine ⟨_,rfl,?_⟩;have n0_:=pz4.mk (pz11 (g:=gb282) (o:=.cells #[.string a0_0,.int .i64 a0_1,.int .i64 a0_2,.int .i64 a0_3,.int .i64 a0_4,.int .i64 a0_5,.string a0_6,.string a0_7,.int .i64 a0_8,.int .i64 a0_9,.string a0_10] 32 (0,0)) (by (with_reducible repeat (first|refine pz29 ?_ _|refine pz32 ?_|refine pz30 ?_ _));exact BK282.out) hb);have n1_:=pz4.mk (pz9 (by repeat (first|(with_reducible first|exact HB.out|apply pz3|apply pz1|apply pz2|refine pz14 ?_ GE282.out)|exact HB.out)) hb);clear BK282;clear HB;have BK282:=n0_;have HB:=n1_;clear n0_ n1_;(try clear hb);(try clear hb2);(try clear hk);(try clear hi)))
  go_ret
  exact ⟨by first|rfl|(simp [pz6,pz5] <;> rfl)|(simp [*,pz6,pz5] <;> rfl),by repeat (first|(with_reducible first|exact HB.out|apply pz3|apply pz1|apply pz2|refine pz14 ?_ GE282.out)|exact HB.out)⟩
end Go.Proofs.Zq
end
section
namespace Go.Proofs.Zq
open Go.RowKit Go.Proofs.YtjghikkboekonaaGreatDoor Go.Proofs.Zw.PrintWords Go.Proofs.Zw.PrintLast Go.Proofs.Zw.PrintMore
open Go.Proofs.Zt (partM markedM markM opqM isM parM lastM underM markF unmarkF wouldM tarM belowM Ch Row Lyr rightC keyM lessM plainM)
theorem right_f (s:Str) (n:Nd) (ha:n.attrs.length≤10000000):mktar_Right.f (B s) n.kind n.mode n.uid n.gid n.mtime (B n.link) (B n.data) n.major n.minor (B n.attrs)=some (rtM s n):=by
 unfold mktar_Right.f
 rw [if_pos (by rw [B_size];exact ha)]
theorem plain_f (s:Str) (n:Nd) (hs:s.length≤1000000000) (ha:n.attrs.length≤10000000) (k:Nat) (hk:s.length + 60<k) :
  tree_plain.f k (B s) n.kind n.mode n.uid n.gid n.mtime (B n.link) (B n.data) n.major n.minor (B n.attrs)=some (plainM Y (s,n)):=by
 unfold tree_plain.f plainM
 rw [mark_f s (by omega) k (by omega)]
 simp only [Option.bind_some]
 unfold markR
 cases h:markF s with
 | none=>simp
 | some q =>
  obtain ⟨o,p⟩:=q
  simp only [if_true]
  by_cases ho:o=0
  ·subst ho
   have hp:=(Zt.mark_put h).1
   subst hp
   rw [if_pos rfl,right_f s n ha]
   simp only [Option.bind_some,Option.some.injEq]
   show (rtM s n == 0)=_
   simp only [decide_true,Bool.true_and]
   rfl
  ·rw [if_neg ho]
   have:decide (some (o,p)=some (0,s))=false:=by simp [ho]
   rw [this];rfl
end Go.Proofs.Zq
end
section
namespace Go.Proofs.Zq
open Go.RowKit Go.WideMaps Go.Maps Go.Proofs.YtjghikkboekonaaGreatDoor Go.Proofs.Zw.PrintWords Go.Proofs.Zw.PrintLast Go.Proofs.Zw.PrintMore
theorem wpList_insert_own {H:Type} {P:Program} (w:World) {ops:Array Oper} {rest:List Oper} {o:Oper} {a:Act} {Q:Exit→Act→World→Prop}
  (hg:o.guard=none) (m x v:Operand) (t:TypeId) (hop:o.op=Op.insert t m x v)
  (k e:TypeId) (K:Keyed P k) (ht:P.underlying t=some (.map k e)) (R:Value→Option (DataW H×List MemPlace)) (b n:Nat) (D:DataW H)
  (hm:a.eval m=.map (some b)) (hown:w.ownsMap P k R b n D) (hn:n<maxLen) (key val:Value) (kl:Lit) (hx:a.eval x=key) (hv:a.eval v=val) (hkey:keyOf P k key=some kl)
  (d:DataW H) (ps:List MemPlace) (hval:R val=some (d,ps))
  (hK:∀ w',w'.ownsMap P k R b (n + 1) (D.put kl d)→w.grownBy w' (some b)→wpList P ops Q rest (a.put o.dst undef) w') :
  wpList P ops Q (o :: rest) a w:=by
 refine wpList_plain hg fun K' hK'=>?_
 obtain ⟨w',hrun,r1,r2⟩:=hown.update K ht hn hkey hval
 unfold Oper.wp
 simp [execOp,hop,hm,hx,hv,hrun,Result.andThen]
 exact hK' _ _ (hK w' r1 r2)
theorem wpList_cnt_in {P:Program} (hP:P=Tryz.prog) {w:World} {ops:Array Oper} {rest:List Oper} {o:Oper} {a:Act} {Q:Exit→Act→World→Prop}
  (hg:o.guard=none) (m x v:Operand) (hop:o.op=Op.insert 64 m x v) (b n:Nat) (f:Str→Nat) (hm:a.eval m=.map (some b)) (hown:CntMap w b n f) (hn:n≤1000000000)
  (s:Str) (c:Nat) (hx:a.eval x=S s) (hv:a.eval v=.int .i64 c) (hs:s.length≤1000000000) (hc:c≤1000000001)
  (f':Str→Nat) (hf:∀ key,f' key=if key == s then c else f key)
  (hK:∀ w',CntMap w' b (n + 1) f'→w.grownBy w' (some b)→wpList P ops Q rest (a.put o.dst undef) w') :
  wpList P ops Q (o :: rest) a w:=by
 subst hP
 obtain ⟨D,h1,h2,h3⟩:=hown
 refine wpList_insert_own _ hg m x v _ hop 9 3 strLaw Tryz.underlying64 _ b n D hm h1 (by unfold maxLen;omega) _ _ _ hx hv (keyStr hs) _ []
  (plainElem_int Tryz.underlying3 (wf_nat (by omega))) ?_
 intro w' h1' hg'
 refine hK w' ⟨_,h1',h2.put _ _,fun key=>?_⟩ hg'
 rw [hf key]
 by_cases hk:key=s
 ·subst hk
  rw [atKey_put_same h2 (by trivial)]
  simp
 ·rw [atKey_put_other (by simpa using hk),h3]
  have:(key == s)=false:=by simpa using hk
  simp [this]
def enCells (e:S32):List Value:=[.string e.f0,.int .i64 e.f1.f0,.int .i64 e.f1.f1,.int .i64 e.f1.f2,.int .i64 e.f1.f3,.int .i64 e.f1.f4,.string e.f1.f5,.string e.f1.f6,.int .i64 e.f1.f7,.int .i64 e.f1.f8,.string e.f1.f9]
theorem en_at {w:World} {A:Option Addr} {xs:List S32} (h:Kd.C k32 w A xs.length xs) (i:Nat) (hi:i<xs.length) :
  ∃ ad,A=some ad∧LiesAt w (ad.add (i * 11)) (enCells xs[i]):=by
 obtain ⟨ad,c,e,_,hK,hc0⟩:=Kd.C_get h z32 (i:Int) (by omega) (by omega)
 have hd:xs.getD ((i:Nat):Int).toNat z32=xs[i]:=by
  rw [show ((i:Nat):Int).toNat=i from rfl,List.getD_eq_getElem?_getD,List.getElem?_eq_getElem hi];rfl
 rw [hd] at hK
 obtain rfl:=k32_open hK
 refine ⟨ad,e,fun j v hv=>?_⟩
 rw [Addr.add_add]
 exact hc0 j v hv
theorem yi_agg {P:Program} {ops:Array Oper} {S:World→Prop} {op:Oper} {a:Act} (hw:Region.wanted op (yielded ops a.tmps)=true) (ty:TypeId) (x:Operand) (ho:op.op=.load ty x)
    (ad:Addr) (hx:a.eval x=.pointer (some ad)) (cs:List Value) (d:TypeDesc) (hS:∀ w,S w→LiesAt w ad cs)
    (hu:P.underlying ty=some d) (hd:d.isRow=true) (hi:(P.info? ty).map (·.size)=some cs.length):YieldsIf P ops S op (.agg cs.toArray) a :=
  .inl ⟨hw,fun W hw'=>by
    have hl:(loadCells ad cs.length).run P W=.ok cs.toArray W:=run_loadCells_list (P:=P) W ad cs (hS W hw')
    have hv:(loadVar ty ad).run P W=.ok (.agg cs.toArray) W:=by
      cases hq:P.info? ty with
      | none=>simp [hq] at hi
      | some i =>
        have hs:i.size=cs.length:=by simpa [hq] using hi
        have hagg:(isAgg ty).run P W=.ok true W:=by
          unfold isAgg
          rw [Sem.run_bind,run_underlying hu W]
          cases d <;> simp_all
        simp [loadVar,Sem.run_bind,hagg,sizeOf,typeInfo,hq,hs,hl]
    unfold execOp
    simp only [ho,hx,Instr.loadAt,Instr.sureAddr,Sem.run_bind,Sem.run_pure,Result.andThen_ok,hv]⟩
theorem ndVal_inj {a b:Nd} (h:ndVal a=ndVal b):a=b:=by
 obtain ⟨a1,a2,a3,a4,a5,a6,a7,a8,a9,a10⟩:=a
 obtain ⟨b1,b2,b3,b4,b5,b6,b7,b8,b9,b10⟩:=b
 unfold ndVal pz18 at h
 simp at h
 simp only [Nd.mk.injEq]
 obtain ⟨h1,h2,h3,h4,h5,h6,h7,h8,h9,h10⟩:=h
 exact ⟨h1,h2,h3,h4,h5,h6,h7,h8,h9,h10⟩
open Classical in
noncomputable def Rn (v:Value):Option (DataW Nd×List MemPlace):=if h:∃ n,v=ndVal n then some (.held h.choose,[]) else none
theorem Rn_val (n:Nd):Rn (ndVal n)=some (.held n,[]):=by
 unfold Rn
 have h:∃ m,ndVal n=ndVal m:=⟨n,rfl⟩
 rw [dif_pos h,← ndVal_inj h.choose_spec]
theorem Rn_inv {v:Value} {y:DataW Nd×List MemPlace} (h:Rn v=some y):∃ n,v=ndVal n:=by
 unfold Rn at h
 split at h
 ·rename_i h1;exact h1
 ·cases h
theorem zeroNd (w:World):(zeroValue 28).run Tryz.prog w=.ok (ndVal zeroN) w:=by kernel_rfl
def NdMap (w:World) (b n:Nat) (f:Str→Option Nd):Prop :=
 ∃ D:DataW Nd,w.ownsMap Tryz.prog 9 Rn b n D∧∀ (key:Str) (z:DataW Nd),D.atKey (.string key) z=(match f key with|some v=>.held v|none=>z)
theorem NdMap.made (w:World):NdMap (w.alloc (.map #[] 0)) w.heap.size 0 (fun _=>none) :=
 ⟨.map [],World.ownsMap_made _ _ _ _,fun _ _=>rfl⟩
theorem NdMap.lt {w:World} {b n:Nat} {f:Str→Option Nd} (h:NdMap w b n f):b<w.heap.size:=let ⟨_,h1,_⟩:=h;h1.lt
theorem NdMap.mono {w:World} {b n m:Nat} {f:Str→Option Nd} (h:NdMap w b n f) (hn:n≤m):NdMap w b m f:=let ⟨D,h1,h2⟩:=h;⟨D,h1.mono hn,h2⟩
theorem NdMap.grown {w w':World} {b n:Nat} {f:Str→Option Nd} {row:Option Nat} (h:NdMap w b n f) (hg:w.grownBy w' row) (hne:some b≠row):NdMap w' b n f :=
 let ⟨D,h1,h2⟩:=h;⟨D,h1.kept hg hne,h2⟩
theorem NdMap.ext {w w':World} {b n:Nat} {f:Str→Option Nd} (h:NdMap w b n f) (hb:Below w.heap.size w w'):NdMap w' b n f :=
 h.grown (row:=none) ⟨hb.os,hb.tape,hb.output,hb.size,fun k hk _=>hb.block k hk⟩ (by simp)
theorem NdMap.has {D:DataW Nd} {f:Str→Option Nd} (h2:∀ (key:Str) (z:DataW Nd),D.atKey (.string key) z=(match f key with|some v=>.held v|none=>z)) (key:Str):Maps.has D (.string key)=(f key).isSome:=by
 cases hf:f key with
 | none=>exact has_false_of_atKey fun z=>by rw [h2,hf]
 | some v=>exact has_true_of_atKey fun z=>by rw [h2,hf]
theorem NdMap.look {w:World} {b n:Nat} {f:Str→Option Nd} (h:NdMap w b n f) {s:Str} (hs:s.length≤1000000000) :
  (Instr.lookup 83 (.map (some b)) (S s) false).run Tryz.prog w=.ok (ndVal ((f s).getD zeroN)) w:=by
 obtain ⟨D,h1,h2⟩:=h
 obtain ⟨v,ps,hrun,hv⟩:=h1.lookup strLaw Tryz.underlying83 (zeroNd w) (Rn_val zeroN) (keyStr hs)
 obtain ⟨m,rfl⟩:=Rn_inv hv
 rw [Rn_val,h2] at hv
 rw [hrun]
 cases hf:f s with
 | none=>rw [hf] at hv;simp only [Option.some.injEq,Prod.mk.injEq,DataW.held.injEq] at hv;rw [hv.1];rfl
 | some x=>rw [hf] at hv;simp only [Option.some.injEq,Prod.mk.injEq,DataW.held.injEq] at hv;rw [hv.1];rfl
theorem NdMap.look2 {w:World} {b n:Nat} {f:Str→Option Nd} (h:NdMap w b n f) {s:Str} (hs:s.length≤1000000000) :
  (Instr.lookup 83 (.map (some b)) (S s) true).run Tryz.prog w=.ok (.tuple #[ndVal ((f s).getD zeroN),.bool (f s).isSome]) w:=by
 obtain ⟨D,h1,h2⟩:=h
 obtain ⟨v,ps,hrun,hv⟩:=h1.look_ok strLaw Tryz.underlying83 (zeroNd w) (Rn_val zeroN) (keyStr hs)
 obtain ⟨m,rfl⟩:=Rn_inv hv
 rw [Rn_val,h2] at hv
 rw [hrun,NdMap.has h2]
 cases hf:f s with
 | none=>rw [hf] at hv;simp only [Option.some.injEq,Prod.mk.injEq,DataW.held.injEq] at hv;rw [hv.1];rfl
 | some x=>rw [hf] at hv;simp only [Option.some.injEq,Prod.mk.injEq,DataW.held.injEq] at hv;rw [hv.1];rfl
section
variable {P:Program} {w:World} {ops:Array Oper} {rest:List Oper} {o:Oper} {a:Act} {Q:Exit→Act→World→Prop}
theorem wpList_nd_up (hP:P=Tryz.prog) (hg:o.guard=none) (m x v:Operand) (hop:o.op=Op.mapUpdate 83 m x v) (b n:Nat) (f:Str→Option Nd) (hm:a.eval m=.map (some b)) (hown:NdMap w b n f) (hn:n≤1000000000)
  (s:Str) (c:Nd) (hx:a.eval x=S s) (hv:a.eval v=ndVal c) (hs:s.length≤1000000000) (f':Str→Option Nd) (hf:∀ key,f' key=if key=s then some c else f key)
  (hK:∀ w',NdMap w' b (n + 1) f'→w.grownBy w' (some b)→wpList P ops Q rest (a.put o.dst undef) w'):wpList P ops Q (o :: rest) a w:=by
 subst hP
 obtain ⟨D,h1,h2⟩:=hown
 refine wpList_mapUpdate_own _ hg m x v _ hop 9 28 strLaw Tryz.underlying83 _ b n D hm h1 (by unfold maxLen;omega) _ _ _ hx hv (keyStr hs) _ [] (Rn_val c) ?_
 intro w' h1' hg'
 refine hK w' ⟨_,h1',fun key z=>?_⟩ hg'
 rw [hf key]
 by_cases hk:key=s
 ·subst hk
  rw [atKey_put_same h1.isMap (by trivial),if_pos rfl]
 ·rw [atKey_put_other (by simpa using hk),h2,if_neg hk]
theorem wpList_nd_del (hP:P=Tryz.prog) (hg:o.guard=none) (m x:Operand) (hop:o.op=Op.call { callee:=Callee.builtin Builtin.delete,args:=#[m,x],argTypes:=#[83,9] }) (b n:Nat) (f:Str→Option Nd) (hm:a.eval m=.map (some b)) (hown:NdMap w b n f)
  (s:Str) (hx:a.eval x=S s) (hs:s.length≤1000000000) (f':Str→Option Nd) (hf:∀ key,f' key=if key=s then none else f key)
  (hK:∀ w',NdMap w' b n f'→w.grownBy w' (some b)→wpList P ops Q rest (a.put o.dst (.tuple #[])) w'):wpList P ops Q (o :: rest) a w:=by
 subst hP
 obtain ⟨D,h1,h2⟩:=hown
 refine wpList_delete_own _ hg m x _ _ hop 28 strLaw Tryz.underlying83 _ b n D hm h1 _ _ hx (keyStr hs) ?_
 intro w' h1' ht
 refine hK w' ⟨_,h1',fun key z=>?_⟩ ht.grown
 rw [hf key]
 by_cases hk:key=s
 ·subst hk
  rw [atKey_del_same,if_pos rfl]
 ·rw [atKey_del_other (by simpa using hk),h2,if_neg hk]
end
theorem atKey_filter {es:List (Lit×DataW Nd)} (hp:es.Pairwise fun p q=>p.1≠q.1) (q:Lit→Bool) {k:Lit} (hk:WideAt.IsKeyLit k) (z:DataW Nd) :
  (DataW.map (es.filter fun p=>!q p.1)).atKey k z=if q k=true then z else (DataW.map es).atKey k z:=by
 have hin:∀ (l:List (Lit×DataW Nd)),Maps.has (.map l) k=true→∃ d,(k,d) ∈ l:=by
  intro l h
  rw [has_eq,List.any_eq_true] at h
  obtain ⟨⟨a,d⟩,hm,hs⟩:=h
  by_cases e:a=k
  ·subst e;exact ⟨d,hm⟩
  ·rw [sameKey_ne e] at hs;cases hs
 by_cases hq:q k=true
 ·rw [if_pos hq]
  refine atKey_of_not_has ?_ z
  rw [Bool.eq_false_iff]
  intro h
  obtain ⟨d,hm⟩:=hin _ h
  have:=(List.mem_filter.1 hm).2
  simp [hq] at this
 ·rw [if_neg hq]
  cases hh:Maps.has (DataW.map es) k with
  | false =>
   rw [atKey_of_not_has hh]
   refine atKey_of_not_has ?_ z
   rw [Bool.eq_false_iff]
   intro h
   obtain ⟨d,hm⟩:=hin _ h
   have hm':=(List.mem_filter.1 hm).1
   rw [has_eq,List.any_eq_false] at hh
   exact hh _ hm' (WideAt.sameKey_self hk)
  | true =>
   obtain ⟨d,hm⟩:=hin _ hh
   rw [WideAt.atKey_mem z hk hp hm,WideAt.atKey_mem z hk (hp.filter _) (List.mem_filter.2 ⟨hm,by simp [hq]⟩)]
end Go.Proofs.Zq
end
section
namespace Go.Proofs.Zq
open Go.RowKit Go.WideMaps Go.Maps Go.Proofs.YtjghikkboekonaaGreatDoor Go.Proofs.Zw.PrintWords Go.Proofs.Zw.PrintLast Go.Proofs.Zw.PrintMore
open Go.Proofs.Zt (underM parM)
def ndZero:Array Value:=#[.int .i64 0,.int .i64 0,.int .i64 0,.int .i64 0,.int .i64 0,.string (⟨#[]⟩:ByteArray),.string (⟨#[]⟩:ByteArray),.int .i64 0,.int .i64 0,.string (⟨#[]⟩:ByteArray)]
theorem ndCells_all (e:Nd):(pz18 e).toArray.all (·.oneCell')=true:=by simp [pz18,Value.oneCell']
theorem S_data (x:ByteArray):S x.data.toList=.string x:=by cases x;rfl
theorem clear1_calls (w:World) (p q:Str) (n:Nd) (g:Nat) (hc:w.cell? ⟨g,0,none⟩=some (S p)) (hp:p.length≤1000000000) :
  Calls Tryz.prog 123 #[S q,ndVal n,.pointer (some ⟨g,0,none⟩)] w fun e w'=>e=.returned (.bool (underM p q))∧w.grownBy w' none:=by
 have HC:=pH hc
 have HP:=pH hp
 clear hc hp
 have h31:=Tryz.underlying28
 go_enter Tryz.func123,Tryz.ntmps123
 go_wp2_with (first|((with_reducible refine pz10 (N:=4) rfl ?_);refine pz24 rfl (N:=4) rfl (cs:=(pz18 n).toArray) (t:=28) ?hr ?_;(case hr=>first|(go_simp;done)|(go_simp;rfl));intro g4 hg w2 hb2 hbl2;have HB2:=pH hbl2;have hc2:=pz25 hbl2 HC.out;clear hg hb2 hbl2))
 refine (paths_Under.calls (B p) (B q) (underM p q) _ (under_f p q (by have:=HP.out;omega))).mono ?_
 rintro e w3 ⟨rfl,hd⟩
 have HB3:Hid (Below w.heap.size w w3):=pH (pbt HB2.out hd.below)
 clear hd
 go_wp2
 go_ret
 exact ⟨rfl,⟨HB3.out.os,HB3.out.tape,HB3.out.output,HB3.out.size,fun k hk _=>HB3.out.block k hk⟩⟩
set_option maxHeartbeats 4000000 in
set_option maxRecDepth 100000 in
theorem ndDel_calls (w:World) (b n:Nat) (f:Str→Option Nd) (hm:NdMap w b n f) (p:Str) (g:Nat) (hc:w.cell? ⟨g,0,none⟩=some (S p)) (hgb:g≠b) (hp:p.length≤1000000000) :
  Calls Tryz.prog 122 #[.map (some b),.func (.func 123) #[] #[.pointer (some ⟨g,0,none⟩)]] w fun e w'=>e=.returned (.tuple #[])∧NdMap w' b n (fun key=>if underM p key=true then none else f key)∧w.grownBy w' (some b):=by
 obtain ⟨D,hown,hat⟩:=hm
 have K:=strLaw
 have hk9:=Tryz.underlying9
 obtain ⟨es0,rfl,hap,hkeys⟩:=hown.entries K
 have HAT:=pH hat
 clear hat
 have HC:=pH hc
 have HP:=pH hp
 clear hc hp
 have hdel:∀ (W:World) (q:Str) (x:Nd),w.grownBy W (some b)→Calls Tryz.prog 123 #[S q,ndVal x,.pointer (some ⟨g,0,none⟩)] W fun e w'=>e=.returned (.bool (underM p q))∧W.grownBy w' none :=
  fun W q x hW=>clear1_calls W p q x g (hW.cell HC.out (by simp;exact hgb)) HP.out
 have HD:=pH hdel
 clear hdel
 obtain ⟨pd,hpd⟩:∃ pd:Lit→DataW Nd→Bool,pd=fun k _=>match k with|.string s=>underM p s|_=>false:=⟨_,rfl⟩
 have HPD:=pH hpd
 clear hpd
 go_enter Tryz.func122,Tryz.ntmps122
 go_wp2_with (first|(at_range;refine wpList_range_own _ rfl _ 83 rfl 9 28 K Tryz.underlying83 Rn b n _ rfl hown ?_;intro w0 hrg0 hg0 hs0))
 go_frame
 go_loopw [8] (fun _ wr=>∃ (left:Lit→Bool) (cnt:Nat),wr.ranges Tryz.prog 9 Rn b w.heap.size n (Fk pd es0 left) left cnt∧w.grownBy wr (some b))
  (fun _ wr=>wr.rangeLeft b w.heap.size)
 case atStart=>exact ⟨_,_,by rw [Fk_start hkeys];exact hrg0,hg0.but _⟩
 case round =>
  obtain ⟨left,cnt,hrg,hgw⟩:=hrel
  go_wp2_with (first|(at_next;refine wpList_next_ranges _ rfl _ rfl 9 K Rn Value.string ndVal (fun key kl hk=>Maps.keyOf_string_inv hk9 hk) (fun v y hv=>Rn_inv hv) b w.heap.size n _ _ _ rfl hrg ?_ ?_))
  ·intro _ hl0
   go_wp2
   go_end0
   refine ⟨rfl,⟨Lib.deleteFuncD pd (.map es0),by rw [← Fk_end hl0];exact hrg.owns,fun key z=>?_⟩,hgw⟩
   have h1:=atKey_filter hap (fun k=>pd k .nil) (k:=.string key) trivial z
   have h2:(es0.filter fun q=>!pd q.1 q.2)=es0.filter fun q=>!(fun k=>pd k .nil) q.1:=List.filter_congr fun q _=>by rw [HPD.out]
   show (DataW.map (es0.filter fun q=>!pd q.1 q.2)).atKey _ _=_
   rw [h2,h1,HAT.out,HPD.out]
   dsimp only
   by_cases hu:underM p key=true
   ·rw [if_pos hu,if_pos hu]
   ·rw [if_neg hu,if_neg hu]
  ·intro x c kl yd yp w1 cnt1 hkey hlx hv hat1 hrg1 hlt hg1 hs1 hen
   have hgw1:=hgw.andThen hg1 (fun j hj=>by cases hj;exact Or.inl (Nat.le_refl _))
   obtain ⟨s,hs1',hs2,_⟩:=string_of_keyOf hk9 hkey
   simp only [Value.string.injEq] at hs1'
   subst hs1'
   have hpk:pd kl yd=underM p x.data.toList:=by rw [HPD.out,hs2]
   have hbl:=hrg1.owns.lt
   have hrl:=hrg1.lt
   obtain ⟨u,hu⟩:∃ u,u=underM p x.data.toList:=⟨_,rfl⟩
   have HU:=pH hu
   rw [← hu] at hpk
   clear hu
   have h31:=Tryz.underlying28
   have HHC:Hid (w1.cell? ⟨g,0,none⟩=some (S p)):=pH (hgw1.cell HC.out (by simp;exact hgb))
   have HRG:=pH hrg1
   have HGW:=pH hgw1
   clear hrg1 hgw1 hg1
   go_wp2_with (first|((with_reducible refine pz10 (N:=5) rfl ?_);refine pz24 rfl (N:=5) rfl (cs:=ndZero) (t:=28) ?hr ?_;(case hr=>first|(go_simp;done)|(go_simp;rfl));intro g5 hg w2 hb2 hbl2;have HGE:Hid (w1.heap.size≤g5):=pH (by rw [hg];exact Nat.le_refl _);have HB2:=pH hb2;have HBL2:=pH hbl2;clear hg hb2 hbl2)|((with_reducible refine pz28 (t:=28) (p:=5) rfl ?_);refine pz22 rfl rfl 28 _ _ rfl g5 (pz18 c).toArray rfl rfl 28 ndZero HB2.out rfl rfl (ndCells_all _) ?_;intro w3 hb3 hg3;have HB3:=pH hb3;have HG3:Hid (w1.grownBy w3 none):=pH (World.grownBy.andThen (row:=none) ⟨HBL2.out.os,HBL2.out.tape,HBL2.out.output,HBL2.out.size,fun k hk _=>HBL2.out.block k hk⟩ hg3 (fun j hj=>by cases hj;exact Or.inl HGE.out));clear hb3 hg3)|((with_reducible refine pz10 (N:=15) rfl ?_);refine pz12 rfl 28 _ rfl _ rfl (pz18 c) _ (pz26 HB3.out) h31 rfl rfl ?_))
   have HGW3:Hid (w.grownBy w3 (some b)):=pH (HGW.out.andThen HG3.out (fun j hj=>by cases hj))
   have hc:=HD.out w3 x.data.toList c HGW3.out
   rw [S_data,← HU.out] at hc
   refine hc.mono ?_
   rintro e w4 ⟨rfl,hg4⟩
   clear hc
   have HG4:Hid (w.grownBy w4 (some b)):=pH (HGW3.out.andThen hg4 (fun j hj=>by cases hj))
   have hrg4:=(HRG.out.kept HG3.out (by simp) (by simp)).kept hg4 (by simp) (by simp)
   clear hg4
   cases u with
   | false =>
    go_wp2
    go_roundw
    case rel=>exact ⟨_,cnt1,by rw [← Fk_stays hap (K.key hkey) hlx hpk hat1];exact hrg4,HG4.out⟩
    case measure=>rw [hrg4.left_eq,hrg.left_eq];exact hlt
   | true =>
    go_wp2_with (first|(at_delete;refine wpList_delete_ranges _ rfl _ _ 83 9 rfl 28 K Tryz.underlying83 Rn b w.heap.size n _ _ _ rfl hrg4 _ _ rfl hkey ?_;intro w5 cnt3 hrg3 hle hturn;go_frame))
    rw [strike_twice] at hrg3
    go_roundw
    case rel=>exact ⟨_,cnt3,by rw [← Fk_struck hap (K.key hkey) hlx hpk hat1];exact hrg3,HG4.out.andThen hturn.grown (fun j hj=>by cases hj;exact Or.inr rfl)⟩
    case measure=>rw [hrg3.left_eq,hrg.left_eq];omega
end Go.Proofs.Zq
end
section
namespace Go.Proofs.Zq
open Go.RowKit Go.WideMaps Go.Maps Go.Proofs.YtjghikkboekonaaGreatDoor Go.Proofs.Zw.PrintWords Go.Proofs.Zw.PrintLast Go.Proofs.Zw.PrintMore
open Go.Proofs.Zt (underM parM Ch)
def clearF (f:Str→Option Nd) (p:Str):Str→Option Nd:=fun key=>if underM p key=true then none else f key
theorem clear_calls (w:World) (b n:Nat) (f:Str→Option Nd) (hm:NdMap w b n f) (p:Str) (hp:p.length≤1000000000) :
  Calls Tryz.prog 79 #[.map (some b),S p] w fun e w'=>e=.returned (.tuple #[])∧NdMap w' b n (clearF f p)∧w.grownBy w' (some b):=by
 have HM:=pH hm
 have HP:=pH hp
 clear hm hp
 go_enter Tryz.func79,Tryz.ntmps79
 go_wp2_with fail
 have hb:=pbn w (.cells #[S p] 9)
 refine (ndDel_calls _ b n f (HM.out.ext hb) p w.heap.size (YtjghikkboekonaaGreatDoor.cell_new _ _ _ _ rfl) (by have:=HM.out.lt;omega) HP.out).mono ?_
 rintro e w1 ⟨rfl,hm1,hg1⟩
 have HM1:=pH hm1
 have HG1:Hid (w.grownBy w1 (some b)):=pH (World.grownBy.andThen (row:=some b) ((below_none hb).but _) hg1 (fun j hj=>by cases hj;exact .inr rfl))
 clear hm1 hg1
 go_wp2
 go_end0
 exact ⟨rfl,HM1.out,HG1.out⟩
set_option maxRecDepth 100000
def folderF (f:Str→Option Nd) (p:Str):Bool:=decide (p=[]) || match f p with|some n=>decide (n.kind=1)|none=>false
theorem folder_calls (w:World) (b n:Nat) (f:Str→Option Nd) (hm:NdMap w b n f) (p:Str) (hp:p.length≤1000000000) :
  Calls Tryz.prog 80 #[.map (some b),S p] w fun e w'=>e=.returned (.bool (folderF f p))∧Below w.heap.size w w':=by
 have hlk:=hm.look2 hp
 have HM:=pH hm
 clear hm hp
 have h31:=Tryz.underlying28
 obtain ⟨r,hr⟩:∃ r,r=folderF f p:=⟨_,rfl⟩
 rw [← hr]
 have HR:=pH hr
 clear hr
 obtain ⟨v,hv⟩:∃ v,v=(f p).getD zeroN:=⟨_,rfl⟩
 obtain ⟨is,hi⟩:∃ is,is=(f p).isSome:=⟨_,rfl⟩
 rw [← hv,← hi] at hlk
 have HV:Hid (r=(p.isEmpty || (is && v.kind == 1))):=pH (by
  rw [HR.out,hv,hi];unfold folderF
  have he:decide (p=[])=p.isEmpty:=by cases p <;> rfl
  rw [he]
  cases f p <;> simp [zeroN]
  rfl)
 clear hv hi HR
 go_enter Tryz.func80,Tryz.ntmps80
 go_wp2_with (first|((with_reducible refine pz10 (N:=5) rfl ?_);refine pz24 rfl (N:=5) rfl (cs:=ndZero) (t:=28) ?hr ?_;(case hr=>first|(go_simp;done)|(go_simp;rfl));intro g5 hg w2 hb2 hbl2;have HGE:Hid (w.heap.size≤g5):=pH (by rw [hg];exact Nat.le_refl _);have HB2:=pH hb2;have HBL2:=pH hbl2;clear hg hb2 hbl2)|((with_reducible refine pz28 (t:=28) (p:=5) rfl ?_);refine pz22 rfl rfl 28 _ _ rfl g5 (pz18 v).toArray rfl rfl 28 ndZero HB2.out rfl rfl (ndCells_all _) ?_;intro w3 hb3 hg3;have q0:=(pz26 hb3) 0 _ rfl;simp only [Addr.add_mid,Nat.zero_add] at q0;have HB3:Hid (Below w.heap.size w w3):=pH (HBL2.out.grown hg3 HBL2.out.size (fun j hj=>by cases hj;exact HGE.out));clear hb3 hg3))
 all_goals
  go_ret
  refine ⟨?_,HB3.out⟩
  rw [HV.out]
  first|rfl|(simp [*];done)
theorem chCells_all (e:Ch Str Nd):(pz13 e).toArray.all (·.oneCell')=true:=by simp [pz13,pz18,Value.oneCell']
def takeF (f:Str→Option Nd) (c:Ch Str Nd):Str→Option Nd :=
 if c.op=1 then clearF (fun key=>if key=c.path then none else f key) c.path else if c.op=2 then clearF f c.path else f
theorem take_calls (w:World) (b n:Nat) (f:Str→Option Nd) (hm:NdMap w b n f) (c:Ch Str Nd) (hp:c.path.length≤1000000000) :
  Calls Tryz.prog 48 #[.map (some b),.agg (pz13 c).toArray] w fun e w'=>e=.returned (.tuple #[])∧NdMap w' b n (takeF f c)∧w.grownBy w' (some b):=by
 have HM:=pH hm
 have HP:=pH hp
 clear hm hp
 go_enter Tryz.func48,Tryz.ntmps48
 have h1:c.op=1∨c.op=2∨(c.op≠1∧c.op≠2):=by omega
 rcases h1 with h1|h1|⟨h1,h2⟩
 ·have HT:Hid (takeF f c=clearF (fun key=>if key=c.path then none else f key) c.path):=pH (by unfold takeF;rw [if_pos h1])
  have hk:(c.op == 1)=true:=by simp [h1]
  go_wp2_with (first|((with_reducible refine pz10 (N:=3) rfl ?_);refine pz24 rfl (N:=3) rfl (cs:=(pz13 c).toArray) (t:=57) ?hr ?_;(case hr=>first|(go_simp;done)|(go_simp;rfl));intro g3 hg w2 hb2 hbl2;have HGE:Hid (w.heap.size≤g3):=pH (by rw [hg];exact Nat.le_refl _);have q0:=(pz26 hb2) 0 _ rfl;have q1:=(pz26 hb2) 1 _ rfl;have q2:=(pz26 hb2) 2 _ rfl;simp only [Addr.add_mid,Nat.zero_add] at q0 q1 q2;have HB2:=pH hb2;have HBL2:=pH hbl2;clear hg hb2 hbl2)|(at_delete;refine wpList_nd_del rfl rfl _ _ rfl b n f rfl (HM.out.ext HBL2.out) c.path rfl HP.out _ (fun _=>rfl) ?_;intro w3 hm3 hg3;have q0':=hg3.cell q0 (by have:=HM.out.lt;have:=HGE.out;simp;omega);have HM3:=pH hm3;have HG3:=pH hg3;clear hm3 hg3))
  refine (clear_calls _ b n _ HM3.out c.path HP.out).mono ?_
  rintro e w4 ⟨rfl,hm4,hg4⟩
  have HM4:=pH hm4
  have HG4:Hid (w.grownBy w4 (some b)):=pH ((((below_none HBL2.out).but (some b)).trans HG3.out).trans hg4)
  clear hm4 hg4
  go_wp2
  go_end0
  exact ⟨rfl,by rw [HT.out];exact HM4.out,HG4.out⟩
 ·have HT:Hid (takeF f c=clearF f c.path):=pH (by unfold takeF;rw [if_neg (by omega),if_pos h1])
  have hk:(c.op == 1)=false:=by simp [h1]
  have hk2:(c.op == 2)=true:=by simp [h1]
  go_wp2_with (first|((with_reducible refine pz10 (N:=3) rfl ?_);refine pz24 rfl (N:=3) rfl (cs:=(pz13 c).toArray) (t:=57) ?hr ?_;(case hr=>first|(go_simp;done)|(go_simp;rfl));intro g3 hg w2 hb2 hbl2;have HGE:Hid (w.heap.size≤g3):=pH (by rw [hg];exact Nat.le_refl _);have q0:=(pz26 hb2) 0 _ rfl;have q1:=(pz26 hb2) 1 _ rfl;have q2:=(pz26 hb2) 2 _ rfl;simp only [Addr.add_mid,Nat.zero_add] at q0 q1 q2;have HB2:=pH hb2;have HBL2:=pH hbl2;clear hg hb2 hbl2))
  refine (clear_calls _ b n _ (HM.out.ext HBL2.out) c.path HP.out).mono ?_
  rintro e w4 ⟨rfl,hm4,hg4⟩
  have HM4:=pH hm4
  have HG4:Hid (w.grownBy w4 (some b)):=pH (((below_none HBL2.out).but (some b)).trans hg4)
  clear hm4 hg4
  go_wp2
  go_end0
  exact ⟨rfl,by rw [HT.out];exact HM4.out,HG4.out⟩
 ·have HT:Hid (takeF f c=f):=pH (by unfold takeF;rw [if_neg h1,if_neg h2])
  have hk:(c.op == 1)=false:=by simpa using h1
  have hk2:(c.op == 2)=false:=by simpa using h2
  go_wp2_with (first|((with_reducible refine pz10 (N:=3) rfl ?_);refine pz24 rfl (N:=3) rfl (cs:=(pz13 c).toArray) (t:=57) ?hr ?_;(case hr=>first|(go_simp;done)|(go_simp;rfl));intro g3 hg w2 hb2 hbl2;have HGE:Hid (w.heap.size≤g3):=pH (by rw [hg];exact Nat.le_refl _);have q0:=(pz26 hb2) 0 _ rfl;have q1:=(pz26 hb2) 1 _ rfl;have q2:=(pz26 hb2) 2 _ rfl;simp only [Addr.add_mid,Nat.zero_add] at q0 q1 q2;have HB2:=pH hb2;have HBL2:=pH hbl2;clear hg hb2 hbl2))
  go_end0
  exact ⟨rfl,by rw [HT.out];exact HM.out.ext HBL2.out,(below_none HBL2.out).but (some b)⟩
def putF (f:Str→Option Nd) (c:Ch Str Nd):Str→Option Nd :=
 fun key=>if key=c.path then some c.node else (if (!decide (c.node.kind=1) || !folderF f c.path)=true then clearF f c.path else f) key
theorem put_calls (w:World) (b n:Nat) (f:Str→Option Nd) (hm:NdMap w b n f) (hn:n≤100000000) (c:Ch Str Nd) (hp:c.path.length≤1000000) :
  Calls Tryz.prog 49 #[.map (some b),.agg (pz13 c).toArray] w fun e w'=>e=.returned (.bool (folderF f (parM c.path)))∧NdMap w' b (n + 1) (if folderF f (parM c.path)=true then putF f c else f)∧w.grownBy w' (some b):=by
 have HM:=pH hm
 have HP:=pH hp
 clear hm hp
 go_enter Tryz.func49,Tryz.ntmps49
 go_wp2_with (first|((with_reducible refine pz10 (N:=3) rfl ?_);refine pz24 rfl (N:=3) rfl (cs:=(pz13 c).toArray) (t:=57) ?hr ?_;(case hr=>first|(go_simp;done)|(go_simp;rfl));intro g3 hg w2 hb2 hbl2;have HGE:Hid (w.heap.size≤g3):=pH (by rw [hg];exact Nat.le_refl _);have q0:=(pz26 hb2) 0 _ rfl;have q1:=(pz26 hb2) 1 _ rfl;have q2:=(pz26 hb2) 2 _ rfl;simp only [Addr.add_mid,Nat.zero_add] at q0 q1 q2;have HB2:=pH hb2;have HBL2:=pH hbl2;clear hg hb2 hbl2))
 refine (paths_Parent.calls (B c.path) (B (parM c.path)) _ (parent_f _ (by have:=HP.out;omega))).mono ?_
 rintro e w3 ⟨rfl,hb3⟩
 have HBL3:=pH (pbt HBL2.out hb3)
 have HB3:=pH (pz11 HB2.out hb3)
 clear hb3
 go_wp2_with fail
 refine (folder_calls _ b n f (HM.out.ext HBL3.out) (parM c.path) (by have:=(part_len c.path).1;have:=HP.out;omega)).mono ?_
 rintro e w4 ⟨rfl,hb4⟩
 have HBL4:=pH (pbt HBL3.out hb4)
 have HB4:=pH (pz11 HB3.out hb4)
 clear hb4
 cases hf:folderF f (parM c.path) with
 | false =>
  go_wp2_with fail
  all_goals
   go_ret
   exact ⟨rfl,by simpa using (HM.out.ext HBL4.out).mono (Nat.le_succ n),(below_none HBL4.out).but (some b)⟩
 | true =>
  have r2:=(pz26 HB4.out) 2 _ rfl
  have r0:=(pz26 HB4.out) 0 _ rfl
  simp only [Addr.add_mid,Nat.zero_add] at r0 r2
  have h31:=Tryz.underlying28
  have HN:Hid (∀ W,W.heap[g3]?=some (.cells (pz13 c).toArray 57 (0,0))→LiesAt W ⟨g3,2,none⟩ (pz18 c.node)):=pH (fun W hW j v hv=>by
   have:=(pz26 hW) (2 + j) v (by rw [Nat.add_comm];exact hv)
   rw [Addr.add_mid,Nat.zero_add] at this
   rw [Addr.add_mid]
   exact this)
  have clears:∀ w5:World,Below w.heap.size w w5→w5.heap[g3]?=some (.cells (pz13 c).toArray 57 (0,0))→(!decide (c.node.kind=1) || !folderF f c.path)=true →
    Calls Tryz.prog 79 #[.map (some b),.string (B c.path)] w5 fun e w'=>e=.returned (.tuple #[])∧NdMap w' b n ((if (!decide (c.node.kind=1) || !folderF f c.path)=true then clearF f c.path else f))∧w.grownBy w' (some b)∧w'.heap[g3]?=some (.cells (pz13 c).toArray 57 (0,0)):=by
   intro w5 hb5 hg5 hcl
   refine (clear_calls _ b n f (HM.out.ext hb5) c.path (by have:=HP.out;omega)).mono ?_
   rintro e w6 ⟨rfl,hm6,hg6⟩
   refine ⟨rfl,by rw [if_pos hcl];exact hm6,((below_none hb5).but (some b)).trans hg6,?_⟩
   exact (hg6.block g3 (Go.Proofs.Zw.PrintWords.blk_lt hg5) (by have:=HM.out.lt;have:=HGE.out;simp;omega)).trans hg5
  have HCL:=pH clears
  clear clears
  have HPF:Hid (∀ key,putF f c key=if key=c.path then some c.node else (if (!decide (c.node.kind=1) || !folderF f c.path)=true then clearF f c.path else f) key):=pH (fun _=>rfl)
  cases hk:(c.node.kind == 1) with
  | false =>
   have hk1:¬ c.node.kind=1:=by simpa using hk
   have hcl:(!decide (c.node.kind=1) || !folderF f c.path)=true:=by simp [hk1]
   have hk2:(c.node.kind != 1)=true:=by simp [bne,hk]
   go_wp2_with fail
   refine (HCL.out _ HBL4.out HB4.out hcl).mono ?_
   rintro e w6 ⟨rfl,hm6,hg6,hb6⟩
   have HMN:=pH hm6
   have HGN:=pH hg6
   have HLN:=pH (HN.out _ hb6)
   have u0:=(pz26 hb6) 0 _ rfl
   simp only [Addr.add_mid,Nat.zero_add] at u0
   clear hm6 hg6 hb6
   go_wp2_with (first|((with_reducible refine pz10 (N:=30) rfl ?_);refine pz12 rfl 28 _ rfl _ rfl (pz18 c.node) _ HLN.out h31 rfl rfl ?_)|(at_mapUpdate;refine wpList_nd_up rfl rfl _ _ _ rfl b n _ rfl HMN.out (by omega) c.path c.node rfl rfl (by have:=HP.out;omega) _ HPF.out ?_;intro w8 hm8 hg8;have HM8:=pH hm8;have HG8:Hid (w.grownBy w8 (some b)):=pH (HGN.out.trans hg8);clear hm8 hg8))
   go_ret
   exact ⟨rfl,by simpa using HM8.out,HG8.out⟩
  | true =>
   have hk1:c.node.kind=1:=by simpa using hk
   have hk2:(c.node.kind != 1)=false:=by simp [bne,hk]
   go_wp2_with fail
   refine (folder_calls _ b n f (HM.out.ext HBL4.out) c.path (by have:=HP.out;omega)).mono ?_
   rintro e w5 ⟨rfl,hb5⟩
   have HBL5:=pH (pbt HBL4.out hb5)
   have HB5:=pH (pz11 HB4.out hb5)
   clear hb5
   have t0:=(pz26 HB5.out) 0 _ rfl
   simp only [Addr.add_mid,Nat.zero_add] at t0
   cases hfo:folderF f c.path with
   | false =>
    have hcl:(!decide (c.node.kind=1) || !folderF f c.path)=true:=by simp [hfo]
    go_wp2_with fail
    refine (HCL.out _ HBL5.out HB5.out hcl).mono ?_
    rintro e w6 ⟨rfl,hm6,hg6,hb6⟩
    have HMN:=pH hm6
    have HGN:=pH hg6
    have HLN:=pH (HN.out _ hb6)
    have u0:=(pz26 hb6) 0 _ rfl
    simp only [Addr.add_mid,Nat.zero_add] at u0
    clear hm6 hg6 hb6
    go_wp2_with (first|((with_reducible refine pz10 (N:=30) rfl ?_);refine pz12 rfl 28 _ rfl _ rfl (pz18 c.node) _ HLN.out h31 rfl rfl ?_)|(at_mapUpdate;refine wpList_nd_up rfl rfl _ _ _ rfl b n _ rfl HMN.out (by omega) c.path c.node rfl rfl (by have:=HP.out;omega) _ HPF.out ?_;intro w8 hm8 hg8;have HM8:=pH hm8;have HG8:Hid (w.grownBy w8 (some b)):=pH (HGN.out.trans hg8);clear hm8 hg8))
    go_ret
    exact ⟨rfl,by simpa using HM8.out,HG8.out⟩
   | true =>
    have HMN:Hid (NdMap w5 b n (if (!decide (c.node.kind=1) || !folderF f c.path)=true then clearF f c.path else f)):=pH (by rw [if_neg (by simp [hk1,hfo])];exact HM.out.ext HBL5.out)
    have HGN:Hid (w.grownBy w5 (some b)):=pH ((below_none HBL5.out).but _)
    have HLN:=pH (HN.out _ HB5.out)
    go_wp2_with (first|((with_reducible refine pz10 (N:=30) rfl ?_);refine pz12 rfl 28 _ rfl _ rfl (pz18 c.node) _ HLN.out h31 rfl rfl ?_)|(at_mapUpdate;refine wpList_nd_up rfl rfl _ _ _ rfl b n _ rfl HMN.out (by omega) c.path c.node rfl rfl (by have:=HP.out;omega) _ HPF.out ?_;intro w8 hm8 hg8;have HM8:=pH hm8;have HG8:Hid (w.grownBy w8 (some b)):=pH (HGN.out.trans hg8);clear hm8 hg8))
    go_ret
    exact ⟨rfl,by simpa using HM8.out,HG8.out⟩
end Go.Proofs.Zq
end
section
namespace Go.Proofs
open Go.Shelf
def Tryz.layKeys1_ren:Go.Shelf.Ren:=⟨fun|10=>83|n=>n,fun|33=>100|23=>83|0=>0|4=>4|26=>9|3=>28|n=>n,fun|n=>n⟩
theorem Tryz.layKeys1:Go.Proofs.SlLaysZ.n10 Tryz.prog Tryz.layKeys1_ren:={
 mixed:=by kernel_rfl
 f10:=⟨Tryz.f83.name,by decide,Tryz.func83.trans (congrArg some (by kernel_rfl))⟩
 t0:=Tryz.underlying0
 a0:=Tryz.isAgg0
 z0:=Tryz.sizeOf0
 v0:=Tryz.zeroValue0
 t4:=Tryz.underlying4
 a4:=Tryz.isAgg4
 z4:=Tryz.sizeOf4
 v4:=Tryz.zeroValue4
 t23:=Tryz.underlying83
 a23:=Tryz.isAgg83
 z23:=Tryz.sizeOf83
 v23:=Tryz.zeroValue83
 t26:=Tryz.underlying9
 a26:=Tryz.isAgg9
 z26:=Tryz.sizeOf9
 v26:=Tryz.zeroValue9
 t33:=Tryz.underlying100
 a33:=Tryz.isAgg100
 z33:=Tryz.sizeOf100
 v33:=Tryz.zeroValue100 }
def Tryz.layKeys_ren:Go.Shelf.Ren:=⟨fun|7=>51|10=>83|n=>n,fun|23=>83|26=>9|3=>28|28=>89|0=>0|27=>88|33=>100|4=>4|n=>n,fun|n=>n⟩
theorem Tryz.layKeys:Go.Proofs.SlLaysZ.n7 Tryz.prog Tryz.layKeys_ren:={
 mixed:=by kernel_rfl
 f7:=⟨Tryz.f51.name,by decide,Tryz.func51.trans (congrArg some (by kernel_rfl))⟩
 f10:=⟨Tryz.f83.name,by decide,Tryz.func83.trans (congrArg some (by kernel_rfl))⟩
 t0:=Tryz.underlying0
 a0:=Tryz.isAgg0
 z0:=Tryz.sizeOf0
 v0:=Tryz.zeroValue0
 t4:=Tryz.underlying4
 a4:=Tryz.isAgg4
 z4:=Tryz.sizeOf4
 v4:=Tryz.zeroValue4
 t23:=Tryz.underlying83
 a23:=Tryz.isAgg83
 z23:=Tryz.sizeOf83
 v23:=Tryz.zeroValue83
 t26:=Tryz.underlying9
 a26:=Tryz.isAgg9
 z26:=Tryz.sizeOf9
 v26:=Tryz.zeroValue9
 t27:=Tryz.underlying88
 a27:=Tryz.isAgg88
 z27:=Tryz.sizeOf88
 v27:=Tryz.zeroValue88
 t28:=Tryz.underlying89
 a28:=Tryz.isAgg89
 z28:=Tryz.sizeOf89
 v28:=Tryz.zeroValue89
 t33:=Tryz.underlying100
 a33:=Tryz.isAgg100
 z33:=Tryz.sizeOf100
 v33:=Tryz.zeroValue100 }
def Tryz.layCollect_ren:Go.Shelf.Ren:=⟨fun|8=>81|11=>125|n=>n,fun|26=>9|28=>89|24=>86|0=>0|33=>100|4=>4|n=>n,fun|n=>n⟩
theorem Tryz.layCollect:Go.Proofs.SlLaysZ.n8 Tryz.prog Tryz.layCollect_ren:={
 mixed:=by kernel_rfl
 f8:=⟨Tryz.f81.name,by decide,Tryz.func81.trans (congrArg some (by kernel_rfl))⟩
 f11:=⟨Tryz.f125.name,by decide,Tryz.func125.trans (congrArg some (by kernel_rfl))⟩
 t0:=Tryz.underlying0
 a0:=Tryz.isAgg0
 z0:=Tryz.sizeOf0
 v0:=Tryz.zeroValue0
 t24:=Tryz.underlying86
 a24:=Tryz.isAgg86
 z24:=Tryz.sizeOf86
 v24:=Tryz.zeroValue86
 t26:=Tryz.underlying9
 a26:=Tryz.isAgg9
 z26:=Tryz.sizeOf9
 v26:=Tryz.zeroValue9
 t28:=Tryz.underlying89
 a28:=Tryz.isAgg89
 z28:=Tryz.sizeOf89
 v28:=Tryz.zeroValue89
 i26:=by kernel_rfl }
def Tryz.laySortFunc_ren:Go.Shelf.Ren:=⟨fun|6=>82|15=>76|14=>126|28=>119|29=>120|20=>154|21=>155|22=>156|23=>157|24=>158|25=>159|26=>160|27=>161|46=>183|47=>150|48=>151|49=>184|50=>185|57=>200|n=>n,fun|22=>86|24=>9|25=>66|3=>3|39=>113|0=>0|53=>138|55=>140|4=>4|46=>131|45=>130|50=>135|5=>5|9=>9|66=>157|70=>161|76=>188|77=>189|n=>n,fun|n=>n⟩
theorem Tryz.laySortFunc:Go.Proofs.SlLaysF.n6 Tryz.prog Tryz.laySortFunc_ren:={
 mixed:=by kernel_rfl
 f6:=⟨Tryz.f82.name,by decide,Tryz.func82.trans (congrArg some (by kernel_rfl))⟩
 f14:=⟨Tryz.f126.name,by decide,Tryz.func126.trans (congrArg some (by kernel_rfl))⟩
 f15:=Tryz.func76.trans (congrArg some (by kernel_rfl))
 f20:=⟨Tryz.f154.name,by decide,Tryz.func154.trans (congrArg some (by kernel_rfl))⟩
 f21:=⟨Tryz.f155.name,by decide,Tryz.func155.trans (congrArg some (by kernel_rfl))⟩
 f22:=⟨Tryz.f156.name,by decide,Tryz.func156.trans (congrArg some (by kernel_rfl))⟩
 f23:=⟨Tryz.f157.name,by decide,Tryz.func157.trans (congrArg some (by kernel_rfl))⟩
 f24:=⟨Tryz.f158.name,by decide,Tryz.func158.trans (congrArg some (by kernel_rfl))⟩
 f25:=⟨Tryz.f159.name,by decide,Tryz.func159.trans (congrArg some (by kernel_rfl))⟩
 f26:=⟨Tryz.f160.name,by decide,Tryz.func160.trans (congrArg some (by kernel_rfl))⟩
 f27:=⟨Tryz.f161.name,by decide,Tryz.func161.trans (congrArg some (by kernel_rfl))⟩
 f28:=Tryz.func119.trans (congrArg some (by kernel_rfl))
 f29:=Tryz.func120.trans (congrArg some (by kernel_rfl))
 f46:=⟨Tryz.f183.name,by decide,Tryz.func183.trans (congrArg some (by kernel_rfl))⟩
 f47:=Tryz.func150.trans (congrArg some (by kernel_rfl))
 f48:=Tryz.func151.trans (congrArg some (by kernel_rfl))
 f49:=⟨Tryz.f184.name,by decide,Tryz.func184.trans (congrArg some (by kernel_rfl))⟩
 f50:=⟨Tryz.f185.name,by decide,Tryz.func185.trans (congrArg some (by kernel_rfl))⟩
 f57:=⟨Tryz.f200.name,by decide,Tryz.func200.trans (congrArg some (by kernel_rfl))⟩
 t0:=Tryz.underlying0
 a0:=Tryz.isAgg0
 z0:=Tryz.sizeOf0
 v0:=Tryz.zeroValue0
 t3:=Tryz.underlying3
 a3:=Tryz.isAgg3
 z3:=Tryz.sizeOf3
 v3:=Tryz.zeroValue3
 t4:=Tryz.underlying4
 a4:=Tryz.isAgg4
 z4:=Tryz.sizeOf4
 v4:=Tryz.zeroValue4
 t5:=Tryz.underlying5
 a5:=Tryz.isAgg5
 z5:=Tryz.sizeOf5
 v5:=Tryz.zeroValue5
 t9:=Tryz.underlying9
 a9:=Tryz.isAgg9
 z9:=Tryz.sizeOf9
 v9:=Tryz.zeroValue9
 t22:=Tryz.underlying86
 a22:=Tryz.isAgg86
 z22:=Tryz.sizeOf86
 v22:=Tryz.zeroValue86
 a24:=Tryz.isAgg9
 z24:=Tryz.sizeOf9
 t25:=Tryz.underlying66
 a25:=Tryz.isAgg66
 z25:=Tryz.sizeOf66
 v25:=Tryz.zeroValue66
 t39:=Tryz.underlying113
 a39:=Tryz.isAgg113
 z39:=Tryz.sizeOf113
 v39:=Tryz.zeroValue113
 t45:=Tryz.underlying130
 a45:=Tryz.isAgg130
 z45:=Tryz.sizeOf130
 v45:=Tryz.zeroValue130
 t46:=Tryz.underlying131
 a46:=Tryz.isAgg131
 z46:=Tryz.sizeOf131
 v46:=Tryz.zeroValue131
 t50:=Tryz.underlying135
 a50:=Tryz.isAgg135
 z50:=Tryz.sizeOf135
 v50:=Tryz.zeroValue135
 t53:=Tryz.underlying138
 a53:=Tryz.isAgg138
 z53:=Tryz.sizeOf138
 v53:=Tryz.zeroValue138
 t55:=Tryz.underlying140
 a55:=Tryz.isAgg140
 z55:=Tryz.sizeOf140
 v55:=Tryz.zeroValue140
 t66:=Tryz.underlying157
 a66:=Tryz.isAgg157
 z66:=Tryz.sizeOf157
 v66:=Tryz.zeroValue157
 t70:=Tryz.underlying161
 a70:=Tryz.isAgg161
 z70:=Tryz.sizeOf161
 v70:=Tryz.zeroValue161
 t76:=Tryz.underlying188
 a76:=Tryz.isAgg188
 z76:=Tryz.sizeOf188
 v76:=Tryz.zeroValue188
 t77:=Tryz.underlying189
 a77:=Tryz.isAgg189
 z77:=Tryz.sizeOf189
 v77:=Tryz.zeroValue189 }
end Go.Proofs
end
section
namespace Go.Proofs.Zq
open Go.RowKit Go.WideMaps Go.Maps Go.Sort Go.Proofs.YtjghikkboekonaaGreatDoor Go.Proofs.Zw.PrintWords Go.Proofs.Zw.PrintLast Go.Proofs.Zw.PrintMore
open Go.Proofs.Zt (cmpM cmpM_refl cmpM_anti cmpM_eq cmpM_trans)
abbrev Sh:={s:Str // s.length≤1000000}
instance:Inhabited Sh:=⟨⟨[],by simp⟩⟩
def encSh (x:Sh):Value:=S x.1
def cmpSh (x y:Sh):Int:=cmpM x.1 y.1
theorem swo_sh:SWO (ltOf cmpSh) where
 irrefl x:=decide_eq_false (by unfold cmpSh;rw [cmpM_refl];decide)
 trans x y z h1 h2:=decide_eq_true (cmpM_trans (of_decide_eq_true (p:=cmpM x.1 y.1<0) h1) (of_decide_eq_true (p:=cmpM y.1 z.1<0) h2))
 ntrans x y z h1 h2:=by
  have h1:¬ cmpM x.1 y.1<0:=of_decide_eq_false (p:=cmpM x.1 y.1<0) h1
  have h2:¬ cmpM y.1 z.1<0:=of_decide_eq_false (p:=cmpM y.1 z.1<0) h2
  refine decide_eq_false (p:=cmpM x.1 z.1<0) fun h3=>?_
  have a1:=cmpM_anti x.1 y.1
  have a2:=cmpM_anti y.1 z.1
  by_cases e1:cmpM x.1 y.1=0
  ·rw [cmpM_eq e1] at h3;exact h2 h3
  ·by_cases e2:cmpM y.1 z.1=0
   ·rw [← cmpM_eq e2] at h3;exact h1 h3
   ·have:=cmpM_trans (a:=z.1) (b:=y.1) (c:=x.1) (by omega) (by omega)
    have a3:=cmpM_anti x.1 z.1
    omega
theorem cmp_lays (w w0:World) (hG:GL w0) (g:Nat) (hg:w0.heap.size≤g) (hb:Below w0.heap.size w0 w) (size:Nat):CmpLays1 Tryz.prog 37 #[] encSh cmpSh g 0 size w:=by
 intro m os dk hs x y
 have hB:Below w0.heap.size w0 (sortWorld encSh w g 0 m dk os):=by
  have h1:Below w0.heap.size w0 (putRow encSh (Sort.ahead w m) g 0 dk):=Go.Lib.below_putRow hb hg
  refine ⟨h1.os,h1.tape,h1.output,?_,fun k hk=>?_⟩
  ·refine Nat.le_trans h1.size ?_
   show _≤(grow _ os).heap.size
   simp [grow]
  ·rw [← h1.block k hk]
   show ((putRow encSh (Sort.ahead w m) g 0 dk).heap ++ os)[k]?=_
   rw [Array.getElem?_append_left (by have:=h1.size;omega)]
 refine (compareL_calls _ (hG.ext hB) x.1 y.1 (by have:=x.2;omega) (by have:=y.2;omega)).mono ?_
 rintro e w' ⟨rfl,n,os',h⟩
 exact ⟨rfl,n,os',h⟩
theorem mem_strKeys {es:List (Lit×DataW Nd)} (hk:∀ p ∈ es,∃ x,p.1=.string x) (x:Str):x ∈ strKeys (.map es)↔Maps.has (.map es) (.string x)=true:=by
 rw [has_eq,List.any_eq_true]
 show x ∈ es.map (fun p=>strOf p.1)↔_
 rw [List.mem_map]
 constructor
 ·rintro ⟨p,hp,rfl⟩
  obtain ⟨a,ha⟩:=hk p hp
  refine ⟨p,hp,?_⟩
  rw [ha]
  exact WideAt.sameKey_self trivial
 ·rintro ⟨p,hp,h⟩
  refine ⟨p,hp,?_⟩
  by_cases e:p.1=.string x
  ·rw [e];rfl
  ·rw [sameKey_ne e] at h;cases h
theorem nodup_strKeys {es:List (Lit×DataW Nd)} (hp:es.Pairwise fun p q=>p.1≠q.1) (hk:∀ p ∈ es,∃ x,p.1=.string x):(strKeys (.map es)).Nodup:=by
 show (es.map fun p=>strOf p.1).Nodup
 refine List.pairwise_map.2 (hp.imp_of_mem fun {p q} hp' hq' hne e=>hne ?_)
 obtain ⟨a,ha⟩:=hk p hp'
 obtain ⟨b,hb⟩:=hk q hq'
 rw [ha,hb] at e ⊢
 exact congrArg _ e
theorem keys_fn_calls (w:World) (b:Nat):Calls Tryz.prog 51 #[.map (some b)] w fun e w' =>
  e=.returned (.func (.func 83) #[] #[.pointer (some ⟨w.heap.size,0,none⟩)])∧w'=w.alloc (.cells #[.map (some b)] 83) :=
 callsIn_wide.1 (AnyZ.keys_in Tryz.layKeys Fence.wide 6 trivial rfl (some b) w)
theorem collect_calls (w:World) (b n:Nat) (f:Str→Option Nd) (hm:NdMap w b n f) (hn:n≤100000000) (g:Nat) (hc:w.cell? ⟨g,0,none⟩=some (.map (some b))) :
  Calls Tryz.prog 81 #[.func (.func 83) #[] #[.pointer (some ⟨g,0,none⟩)]] w fun e w' =>
   ∃ (v:Value) (ss:List Str),e=.returned v∧(∀ x,x ∈ ss↔(f x).isSome=true)∧ss.Nodup∧ss.length≤n∧w'.ownsRow w.heap.size 9 1 v ss.length (ss.map encStr)∧Below w.heap.size w w':=by
 obtain ⟨D,hown,hat⟩:=hm
 obtain ⟨es,rfl,hap,_⟩:=hown.entries strLaw
 have hks:∀ p ∈ es,∃ x,p.1=.string x:=by
  obtain ⟨es',e,h⟩:=hown.keysOf
  cases e
  intro p hp
  obtain ⟨v,hv⟩:=h p hp
  obtain ⟨x,_,h2,_⟩:=Maps.keyOf_str Tryz.underlying9 hv
  exact ⟨x,h2⟩
 have hsz:Maps.size (DataW.map es)≤n:=hown.size_le
 have hseq:=AnyZ.keys_gives Tryz.layKeys1 Fence.wide (6 - 1 - 1) trivial rfl (by omega) g b n _ w (World.block_lt_of_cell? w _ hc) hc hown
 refine (callsIn_wide.1 (AnyZ.collect_in Tryz.layCollect Fence.wide 6 trivial trivial rfl (by omega) 83 #[.pointer (some ⟨g,0,none⟩)] trivial
  (Tryz.layKeys1.f10.enters rfl) _ _ (by unfold maxLen;omega) (by omega) w hseq)).mono ?_
 rintro e w' ⟨v,ss,rfl,hp,hrow,_,hb⟩
 refine ⟨v,ss,rfl,fun x=>?_,?_,?_,hrow,hb⟩
 ·rw [hp.mem_iff,mem_strKeys hks,NdMap.has hat]
 ·exact (hp.nodup_iff).2 (nodup_strKeys hap hks)
 ·rw [hp.length_eq]
  show (es.map _).length≤n
  rw [List.length_map]
  exact hsz
def TextsAt (w:World) (v:Value) (ks:List Str):Prop:=∃ A cap,v=.slice A ks.length cap∧∀ i (h:i<ks.length),∃ g,A=some ⟨g,0,none⟩∧w.cell? ⟨g,i,none⟩=some (S ks[i])
theorem TextsAt.below {w w1:World} {v:Value} {ks:List Str} (h:TextsAt w v ks) (hb:Below w.heap.size w w1):TextsAt w1 v ks:=by
 obtain ⟨A,cap,h1,h2⟩:=h
 refine ⟨A,cap,h1,fun i hi=>?_⟩
 obtain ⟨g,h3,h4⟩:=h2 i hi
 exact ⟨g,h3,pz25 hb h4⟩
theorem sort_calls (w w0:World) (hG:GL w0) (hb:Below w0.heap.size w0 w) (v:Value) (ss:List Str) (hbd:∀ x ∈ ss,x.length≤1000000) (hrow:w.ownsRow w0.heap.size 9 1 v ss.length (ss.map encStr)) (hlen:ss.length≤100000000) :
  Calls Tryz.prog 82 #[v,.func (.func 37) #[] #[]] w fun e w'=>e=.returned (.tuple #[])∧∃ ks:List Str,ks.Perm ss∧(ks.Pairwise fun a b=>cmpM a b≤0)∧TextsAt w' v ks∧Below w0.heap.size w0 w':=by
 obtain ⟨_,hv⟩:=hrow
 rcases hv with ⟨rfl,h0⟩|⟨g,cap,cur,rfl,hg,hblk,hcap,hcm,hcs,hcur⟩
 ·obtain rfl:ss=[]:=List.length_eq_zero_iff.1 h0
  refine (AnyF.slices_SortFunc_none (P:=Tryz.prog) (ρ:=Tryz.laySortFunc_ren) { Tryz.laySortFunc with } none 0 _ w).mono ?_
  rintro e w' ⟨rfl,rfl⟩
  exact ⟨rfl,[],List.Perm.refl _,List.Pairwise.nil,⟨none,0,rfl,fun i h=>by cases h⟩,hb⟩
 ·obtain ⟨d,hd⟩:∃ d:List Sh,d.map (·.1)=ss:=⟨ss.pmap (fun x h=>⟨x,h⟩) hbd,by rw [List.map_pmap];simp⟩
  have hdl:d.length=ss.length:=by rw [← hd];simp
  have hH:Holds encSh w g 0 d.toArray:=by
   intro j hj
   have hj':j<d.length:=by simpa using hj
   have hcell:w.cell? ⟨g,j,none⟩=cur[j]?:=Go.Proofs.Zw.PrintWords.blk_cell hblk j
   refine ⟨?_,?_⟩
   ·rw [Nat.zero_add,hcell]
    have h2:(cur.toList.take (ss.length * 1))[j]?=(ss.map encStr)[j]?:=by rw [hcur]
    rw [List.getElem?_take_of_lt (by omega)] at h2
    have h3:cur[j]?=(ss.map encStr)[j]?:=by rw [← h2];simp
    rw [h3,List.getElem?_map,← hd,List.getElem?_map,List.getElem?_eq_getElem hj']
    have:(d.toArray)[j]! = d[j]:=by simp [hj']
    rw [this]
    rfl
   ·exact Go.Proofs.Zw.PrintWords.pz7 hblk _
  have hgl:g<w.heap.size:=Go.Proofs.Zw.PrintWords.blk_lt hblk
  have hsz:d.toArray.size=ss.length:=by simpa using hdl
  have hT:∀ x y:Sh,(ltOf cmpSh) x y=false→(ltOf cmpSh) y x=false→x=y:=by
   intro x y h1 h2
   have h1:¬ cmpM x.1 y.1<0:=of_decide_eq_false (p:=cmpM x.1 y.1<0) h1
   have h2:¬ cmpM y.1 x.1<0:=of_decide_eq_false (p:=cmpM y.1 x.1<0) h2
   rw [cmpM_anti] at h2
   exact Subtype.ext (cmpM_eq (by omega))
  have hcall:=Any.slices_SortFunc_total Tryz.laySortFunc encSh (fun x=>rfl) cmpSh swo_sh 37 #[] g 0 cap d.toArray w (fun args w=>enters_ Tryz.func37 (by kernel_rfl) rfl args w) (cmp_lays w w0 hG g hg hb _) hH hgl (by omega) hT
  rw [hsz] at hcall
  refine hcall.mono ?_
  rintro e w' ⟨rfl,n,os,rfl⟩
  obtain ⟨s,hs⟩:∃ s,s=d.mergeSort fun x y=>!(ltOf cmpSh) y x:=⟨_,rfl⟩
  have hperm:s.Perm d:=by rw [hs];exact List.mergeSort_perm _ _
  have hsl:s.length=ss.length:=by rw [hperm.length_eq,hdl]
  have hsort:s.Pairwise fun x y=>(!(ltOf cmpSh) y x)=true:=by
   rw [hs]
   refine List.pairwise_mergeSort (fun a b c h1 h2=>?_) (fun a b=>?_) d
   ·simp only [Bool.not_eq_true'] at *
    exact swo_sh.ntrans c b a h2 h1
   ·rw [Bool.or_eq_true,Bool.not_eq_true',Bool.not_eq_true']
    cases h:ltOf cmpSh b a with
    | false=>exact .inl rfl
    | true =>
     right
     cases h2:ltOf cmpSh a b with
     | false=>rfl
     | true=>have:=swo_sh.trans _ _ _ h h2;rw [swo_sh.irrefl] at this;cases this
  have hdt:d.toArray.toList=d:=rfl
  rw [hdt,← hs]
  refine ⟨rfl,s.map (·.1),?_,?_,?_,?_⟩
  ·rw [← hd];exact hperm.map _
  ·refine List.pairwise_map.2 (hsort.imp fun {a b} h=>?_)
   rw [Bool.not_eq_true'] at h
   have h:=of_decide_eq_false (p:=cmpM b.1 a.1<0) h
   rw [cmpM_anti] at h
   omega
  ·have hH':=holds_sortWorld encSh w g 0 n d.toArray s.toArray os hgl hH (by simp [hsl,hdl])
   refine ⟨some ⟨g,0,none⟩,cap,by simp [hsl],fun i hi=>⟨g,rfl,?_⟩⟩
   have hi':i<s.length:=by simpa using hi
   have:=(hH' i (by simpa using hi')).1
   rw [Nat.zero_add] at this
   rw [this]
   have h5:(s.toArray)[i]! = s[i]:=by simp [hi']
   rw [h5]
   simp [encSh]
  ·have h1:Below w0.heap.size w0 (putRow encSh (Sort.ahead w n) g 0 s.toArray):=Go.Lib.below_putRow hb hg
   refine ⟨h1.os,h1.tape,h1.output,?_,fun k hk=>?_⟩
   ·refine Nat.le_trans h1.size ?_
    show _≤(grow _ os).heap.size
    simp [grow]
   ·rw [← h1.block k hk]
    show ((putRow encSh (Sort.ahead w n) g 0 s.toArray).heap ++ os)[k]?=_
    rw [Array.getElem?_append_left (by have:=h1.size;omega)]
theorem sorted_calls (w:World) (hG:GL w) (b n:Nat) (f:Str→Option Nd) (hm:NdMap w b n f) (hn:n≤100000000) (hbd:∀ x,(f x).isSome=true→x.length≤1000000) (g:Nat) (hc:w.cell? ⟨g,0,none⟩=some (.map (some b))) :
  Calls Tryz.prog 50 #[.func (.func 83) #[] #[.pointer (some ⟨g,0,none⟩)],.func (.func 37) #[] #[]] w fun e w' =>
   ∃ (v:Value) (ks:List Str),e=.returned v∧TextsAt w' v ks∧(∀ x,x ∈ ks↔(f x).isSome=true)∧(ks.Pairwise fun a b=>cmpM a b<0)∧ks.length≤n∧Below w.heap.size w w':=by
 have HM:=pH hm
 have HBD:=pH hbd
 have HC:=pH hc
 clear hm hbd hc
 go_enter Tryz.func50,Tryz.ntmps50
 go_wp2_with fail
 refine (collect_calls w b n f HM.out hn g HC.out).mono ?_
 rintro e w1 ⟨v,ss,rfl,hmem,hnd,hle,hrow,hb1⟩
 have HMEM:=pH hmem
 have HND:=pH hnd
 have HLE:=pH hle
 have HROW:=pH hrow
 have HB1:=pH hb1
 clear hmem hnd hle hrow hb1
 go_wp2_with fail
 refine (sort_calls w1 w hG HB1.out v ss (fun x hx=>HBD.out x ((HMEM.out x).1 hx)) HROW.out (by have:=HLE.out;omega)).mono ?_
 rintro e w2 ⟨rfl,ks,hp,hs,ht,hb2⟩
 have HP:=pH hp
 have HS:=pH hs
 have HT:=pH ht
 have HB2:=pH hb2
 clear hp hs ht hb2
 go_wp2
 go_ret
 refine ⟨v,ks,rfl,HT.out,fun x=>by rw [HP.out.mem_iff];exact HMEM.out x,?_,by rw [HP.out.length_eq];exact HLE.out,HB2.out⟩
 have hnd2:ks.Nodup:=HP.out.nodup_iff.2 HND.out
 refine (HS.out.and hnd2).imp fun {a b} h=>?_
 rcases Int.lt_or_eq_of_le h.1 with h1|h1
 ·exact h1
 ·exact absurd (cmpM_eq h1) h.2
end Go.Proofs.Zq
end
section
namespace Go.Proofs.Zt
variable {ν:Type} [DecidableEq ν] (Y:Sys ν)
omit [DecidableEq ν] in
theorem srt_of {t:Row ν} (h1:∀ e ∈ t,plainM Y e=true) (h2:t.Pairwise fun a b=>lessM a.1 b.1=true):Srt PS t:=by
 refine ⟨fun x hx=>?_,h2.imp fun {a b} h=>by unfold lessM at h;exact of_decide_eq_true (p:=cmpM a.1 b.1<0) h⟩
 have:=h1 x hx
 unfold plainM at this
 simp only [Bool.and_eq_true,decide_eq_true_eq] at this
 exact (mark_put this.1).2.1
omit [DecidableEq ν] in
theorem rightT_unf (t:Row ν):rightT Y t=true↔(∀ e ∈ t,plainM Y e=true)∧(t.Pairwise fun a b=>lessM a.1 b.1=true)∧(∀ e ∈ t,parM e.1=[]∨∃ x ∈ t,x.1=parM e.1∧Y.dir x.2=true)∧t.length≤5000:=by
 unfold rightT
 simp only [Bool.and_eq_true,List.all_eq_true,decide_eq_true_eq]
 rw [chain_iff (fun a b c h1 h2=>by unfold lessM at *;rw [decide_eq_true_iff] at *;exact cmpM_trans h1 h2)]
 have hf:(∀ e ∈ t,plainM Y e=true)→(t.Pairwise fun a b=>lessM a.1 b.1=true)→∀ p,folderL PS Y.dir t p=true↔(p=[]∨∃ x ∈ t,x.1=p∧Y.dir x.2=true):=by
  intro h1 h2 p
  have hs:=srt_of Y h1 h2
  unfold folderL
  rw [Bool.or_eq_true,decide_eq_true_eq]
  refine or_congr Iff.rfl ?_
  constructor
  ·intro h
   cases hg:getL t p with
   | none=>rw [hg] at h;cases h
   | some n=>rw [hg] at h;exact ⟨(p,n),pz27 hg,rfl,h⟩
  ·rintro ⟨⟨q,n⟩,hx,rfl,hd⟩
   rw [hs.get hx]
   exact hd
 constructor
 ·rintro ⟨⟨⟨h1,h2⟩,h3⟩,h4⟩
  exact ⟨h1,h2,fun e he=>(hf h1 h2 _).1 (h3 e he),h4⟩
 ·rintro ⟨h1,h2,h3,h4⟩
  exact ⟨⟨⟨h1,h2⟩,fun e he=>(hf h1 h2 _).2 (h3 e he)⟩,h4⟩
def rightGo (seen:Row ν):Row ν→Bool
 | []=>decide (seen.length≤5000)
 | e :: r=>plainM Y e && (decide (parM e.1=[]) || seen.any fun x=>decide (x.1=parM e.1) && Y.dir x.2) && (match seen.getLast? with|none=>true|some y=>lessM y.1 e.1) && rightGo (seen ++ [e]) r
omit [DecidableEq ν] in
theorem rightGo_eq:∀ (r seen:Row ν),(∀ e ∈ seen,plainM Y e=true)→(seen.Pairwise fun a b=>lessM a.1 b.1=true)→(∀ e ∈ seen,parM e.1=[]∨∃ x ∈ seen,x.1=parM e.1∧Y.dir x.2=true) →
  rightGo Y seen r=rightT Y (seen ++ r):=by
 intro r
 induction r with
 | nil =>
  intro seen h1 h2 h3
  rw [Bool.eq_iff_iff,rightT_unf,List.append_nil]
  simp only [rightGo,decide_eq_true_eq]
  exact ⟨fun h=>⟨h1,h2,h3,h⟩,fun h=>h.2.2.2⟩
 | cons e r ih =>
  intro seen h1 h2 h3
  have hless:∀ a b c:Str,lessM a b=true→lessM b c=true→lessM a c=true:=fun a b c h1 h2=>by unfold lessM at *;rw [decide_eq_true_iff] at *;exact cmpM_trans h1 h2
  by_cases ha:plainM Y e=true∧(parM e.1=[]∨∃ x ∈ seen,x.1=parM e.1∧Y.dir x.2=true)∧(match seen.getLast? with|none=>true|some y=>lessM y.1 e.1)=true
  ·obtain ⟨a1,a2,a3⟩:=ha
   have hlast:∀ x ∈ seen,lessM x.1 e.1=true:=by
    intro x hx
    cases hl:seen.getLast? with
    | none=>rw [List.getLast?_eq_none_iff] at hl;subst hl;cases hx
    | some y =>
     rw [hl] at a3
     obtain ⟨ys,hys⟩:=List.getLast?_eq_some_iff.1 hl
     rw [hys] at hx h2
     rcases List.mem_append.1 hx with hx|hx
     ·exact hless _ _ _ ((List.pairwise_append.1 h2).2.2 x hx y (by simp)) a3
     ·rw [List.mem_singleton.1 hx];exact a3
   have:=ih (seen ++ [e]) (fun x hx=>by
     rcases List.mem_append.1 hx with hx|hx
     ·exact h1 x hx
     ·rw [List.mem_singleton.1 hx];exact a1)
    (List.pairwise_append.2 ⟨h2,List.pairwise_singleton _ _,fun x hx y hy=>by rw [List.mem_singleton.1 hy];exact hlast x hx⟩)
    (fun x hx=>by
     rcases List.mem_append.1 hx with hx|hx
     ·rcases h3 x hx with h|⟨y,hy,h⟩
      ·exact .inl h
      ·exact .inr ⟨y,List.mem_append_left _ hy,h⟩
     ·rw [List.mem_singleton.1 hx]
      rcases a2 with h|⟨y,hy,h⟩
      ·exact .inl h
      ·exact .inr ⟨y,List.mem_append_left _ hy,h⟩)
   rw [List.append_assoc,List.singleton_append] at this
   rw [← this]
   have b2:(decide (parM e.1=[]) || seen.any fun x=>decide (x.1=parM e.1) && Y.dir x.2)=true:=by
    rw [Bool.or_eq_true,decide_eq_true_eq,List.any_eq_true]
    refine a2.imp id ?_
    rintro ⟨x,hx,h⟩
    exact ⟨x,hx,by simpa using h⟩
   simp only [rightGo,a1,a3,b2,Bool.true_and]
  ·have hf:rightGo Y seen (e :: r)=false:=by
    rw [Bool.eq_false_iff]
    intro h
    simp only [rightGo,Bool.and_eq_true,Bool.or_eq_true,decide_eq_true_eq,List.any_eq_true] at h
    refine ha ⟨h.1.1.1,h.1.1.2,h.1.2⟩
   rw [hf]
   symm
   rw [Bool.eq_false_iff]
   intro h
   obtain ⟨k1,k2,k3,_⟩:=(rightT_unf Y _).1 h
   have hs:=srt_of Y k1 k2
   have k2':=List.pairwise_append.1 k2
   refine ha ⟨k1 e (by simp),?_,?_⟩
   ·rcases k3 e (by simp) with h|⟨x,hx,hx1,hx2⟩
    ·exact .inl h
    ·refine .inr ⟨x,?_,hx1,hx2⟩
     rcases List.mem_append.1 hx with hx|hx
     ·exact hx
     ·exfalso
      have hp:cmpM (parM e.1) e.1<0:=by
       have:=k1 e (by simp)
       unfold plainM at this
       simp only [Bool.and_eq_true,decide_eq_true_eq] at this
       exact par_cmp (mark_put this.1).2.1
      rcases List.mem_cons.1 hx with rfl|hx
      ·rw [← hx1,cmpM_refl] at hp;omega
      ·have hl:=(List.pairwise_cons.1 k2'.2.1).1 x hx
       unfold lessM at hl
       rw [decide_eq_true_iff,hx1] at hl
       rw [cmpM_anti] at hp
       omega
   ·cases hl:seen.getLast? with
    | none=>rfl
    | some y =>
     obtain ⟨ys,hys⟩:=List.getLast?_eq_some_iff.1 hl
     exact k2'.2.2 y (by rw [hys];simp) e (by simp)
omit [DecidableEq ν] in
theorem rightGo_all (t:Row ν):rightT Y t=rightGo Y [] t:=(rightGo_eq Y t [] (fun _ h=>by cases h) List.Pairwise.nil (fun _ h=>by cases h)).symm
end Go.Proofs.Zt
end
section
namespace Go.Proofs.Zq
open Go.RowKit Go.WideMaps Go.Maps Go.Proofs.YtjghikkboekonaaGreatDoor Go.Proofs.Zw.PrintWords Go.Proofs.Zw.PrintLast Go.Proofs.Zw.PrintMore
open Go.Proofs.Zt (rightT rightGo rightGo_all plainM parM lessM cmpM)
def ndFits (n:Nd):Bool:=decide (n.attrs.length≤10000000)
def rowFits (t:List (Str×Nd)):Bool:=t.all fun e=>decide (e.1.length≤1000000) && ndFits e.2
def seenF (t:List (Str×Nd)) (key:Str):Nat:=if key=[]∨∃ x ∈ t,x.1=key∧Y.dir x.2=true then 1 else 0
theorem seen_nil:∀ key,seenF [] key=if key == [] then 1 else (fun _=>0) key:=by
 intro key;unfold seenF;by_cases h:key=[] <;> simp [h]
theorem seen_dir (t:List (Str×Nd)) (e:Str×Nd) (h:Y.dir e.2=true):∀ key,seenF (t ++ [e]) key=if key == e.1 then 1 else seenF t key:=by
  intro key
  unfold seenF
  by_cases hk:key=e.1
  · subst hk
    rw [if_pos (.inr ⟨e,by simp,rfl,h⟩)];simp
  · have:(key == e.1)=false:=by simpa using hk
    rw [this]
    simp only [Bool.false_eq_true,if_false]
    have hi:(key=[]∨∃ x ∈ t ++ [e],x.1=key∧Y.dir x.2=true)↔(key=[]∨∃ x ∈ t,x.1=key∧Y.dir x.2=true):=by
     refine or_congr Iff.rfl ⟨?_,?_⟩
     · rintro ⟨x,hx,h1,h2⟩
       rcases List.mem_append.1 hx with hx|hx
       · exact ⟨x,hx,h1,h2⟩
       · rw [List.mem_singleton.1 hx] at h1;exact absurd h1.symm hk
     · rintro ⟨x,hx,h⟩
       exact ⟨x,List.mem_append_left _ hx,h⟩
    simp only [hi]
theorem seen_not (t:List (Str×Nd)) (e:Str×Nd) (h:Y.dir e.2=false):seenF (t ++ [e])=seenF t:=by
  funext key
  unfold seenF
  have hi:(key=[]∨∃ x ∈ t ++ [e],x.1=key∧Y.dir x.2=true)↔(key=[]∨∃ x ∈ t,x.1=key∧Y.dir x.2=true):=by
   refine or_congr Iff.rfl ⟨?_,?_⟩
   · rintro ⟨x,hx,h1,h2⟩
     rcases List.mem_append.1 hx with hx|hx
     · exact ⟨x,hx,h1,h2⟩
     · rw [List.mem_singleton.1 hx,h] at h2;cases h2
   · rintro ⟨x,hx,h⟩
     exact ⟨x,List.mem_append_left _ hx,h⟩
  simp only [hi]
theorem plain_calls (w:World) (hG:GL w) (e:S32) (h:(enOf e).1.length≤1000000) (ha:ndFits (enOf e).2=true) :
  Calls Tryz.prog 36 #[.agg (enCells e).toArray] w fun x w'=>x=.returned (.bool (plainM Y (enOf e)))∧Below w.heap.size w w':=by
 have hf:=plain_f (enOf e).1 (enOf e).2 (by omega) (by simpa [ndFits] using ha) ((enOf e).1.length + 61) (by omega)
 have:=tree_plain.calls ((enOf e).1.length + 61) (B (enOf e).1) e.f1.f0 e.f1.f1 e.f1.f2 e.f1.f3 e.f1.f4 (B (enOf e).2.link) (B (enOf e).2.data) e.f1.f7 e.f1.f8 (B (enOf e).2.attrs) (plainM Y (enOf e)) w hG hf
 have e1:B (enOf e).1=e.f0:=B_L _
 have e2:B (enOf e).2.link=e.f1.f5:=B_L _
 have e3:B (enOf e).2.data=e.f1.f6:=B_L _
 have e4:B (enOf e).2.attrs=e.f1.f9:=B_L _
 rw [e1,e2,e3,e4] at this
 exact this
theorem enCells_all (e:S32):(enCells e).toArray.all (·.oneCell')=true:=by simp [enCells,Value.oneCell']
def enZero:Array Value:=#[.string (⟨#[]⟩:ByteArray),.int .i64 0,.int .i64 0,.int .i64 0,.int .i64 0,.int .i64 0,.string (⟨#[]⟩:ByteArray),.string (⟨#[]⟩:ByteArray),.int .i64 0,.int .i64 0,.string (⟨#[]⟩:ByteArray)]
theorem fits_get {t:List (Str×Nd)} (h:rowFits t=true) {e:Str×Nd} (he:e ∈ t):e.1.length≤1000000∧ndFits e.2=true:=by
 have:=List.all_eq_true.1 h e he
 simpa using this
theorem par_calls (w:World) (e:S32) (h:(enOf e).1.length≤1000000) :
  Calls Tryz.prog 19 #[.string e.f0] w fun x w'=>x=.returned (S (parM (enOf e).1))∧Below w.heap.size w w':=by
 have:=paths_Parent.calls (B (enOf e).1) (B (parM (enOf e).1)) w (parent_f _ (by omega))
 have e1:B (enOf e).1=e.f0:=B_L _
 rw [e1] at this
 exact this
def stepOk (seen:List (Str×Nd)) (e:Str×Nd):Bool:=plainM Y e && decide (seenF seen (parM e.1)≠0) && (match seen.getLast? with|none=>true|some y=>lessM y.1 e.1)
theorem right_step (seen r:List (Str×Nd)) (e:Str×Nd):rightGo Y seen (e :: r)=(stepOk seen e && rightGo Y (seen ++ [e]) r):=by
 have h:(decide (parM e.1=[]) || seen.any fun x=>decide (x.1=parM e.1) && Y.dir x.2)=decide (seenF seen (parM e.1)≠0):=by
  rw [Bool.eq_iff_iff,Bool.or_eq_true,decide_eq_true_eq,List.any_eq_true,decide_eq_true_eq]
  unfold seenF
  split
  ·rename_i h
   refine ⟨fun _=>by decide,fun _=>h.imp id ?_⟩
   rintro ⟨x,hx,h⟩
   exact ⟨x,hx,by simpa using h⟩
  ·rename_i h
   refine ⟨fun h2=>absurd (h2.imp id ?_) h,fun h2=>absurd rfl h2⟩
   rintro ⟨x,hx,h⟩
   exact ⟨x,hx,by simpa using h⟩
 unfold stepOk
 rw [← h]
 simp only [rightGo]
 cases seen.getLast? <;> rfl
set_option maxRecDepth 100000 in
set_option maxHeartbeats 4000000 in
theorem tright_calls (w:World) (hG:GL w) (A:Option Addr) (c:Nat) (l:List S32) (hr:Kd.C k32 w A l.length l) (hc:l.length≤c) (hfit:rowFits (l.map enOf)=true) (hl:l.length≤1000000) :
  Calls Tryz.prog 15 #[.slice A l.length c] w fun e w'=>e=.returned (.bool (rightT Y (l.map enOf)))∧Below w.heap.size w w':=by
 have HR:=pH hr
 have HF:=pH hfit
 have HL:=pH hl
 clear hr hfit hl
 have hmm:=@run_makeMap Tryz.prog
 go_enter Tryz.func15,Tryz.ntmps15
 go_wp2_with (first|(refine wpList_cnt_in rfl rfl _ _ _ rfl w.heap.size 0 _ rfl (CntMap.made w) (by omega) [] 1 rfl rfl (by simp) (by omega) _ seen_nil ?_))
 intro w1 hm1 hg1
 have HM1:=pH hm1
 have HB1:Hid (Below w.heap.size w w1):=pH (((Below.refl w.heap.size w).alloc (Nat.le_refl _) _).grown hg1 (by simp) (fun j hj=>by cases hj;exact Nat.le_refl _))
 clear hm1 hg1 hmm
 go_wp2
 go_loopg [10] (l.length + 1) (fun g v wr=>∃ i:Nat,v=.int .i64 i∧l.length<g + i∧Hid (i≤l.length)∧Hid (∃ n,n≤i + 1∧CntMap wr w.heap.size n (seenF ((l.map enOf).take i))) ∧
  Hid (rightT Y (l.map enOf)=rightGo Y ((l.map enOf).take i) ((l.map enOf).drop i))∧Hid (Below w.heap.size w wr))
 case atStart=>exact ⟨0,rfl,by omega,pH (by omega),pH ⟨1,by omega,by rw [List.take_zero];exact HM1.out⟩,pH (by rw [rightGo_all];rfl),HB1⟩
 case round =>
  obtain ⟨i,rfl,hgi,HI,HM,HG,HB⟩:=hrel
  by_cases hi:i<l.length
  ·cases gk with
   | zero=>omega
   | succ g1 =>
    obtain ⟨ad,rfl,hat⟩:=en_at HR.out i hi
    have HAT:=pH (hat.below HB.out)
    clear hat
    have HE:=pH (fits_get HF.out (List.mem_map_of_mem (f:=enOf) (List.getElem_mem hi)))
    have h49:=Tryz.underlying32
    go_wp2_with (first|((with_reducible refine pz10 (N:=14) rfl ?_);refine pz12 rfl 32 _ rfl _ rfl (enCells l[i]) _ HAT.out h49 rfl rfl ?_)|((with_reducible refine pz10 (N:=5) rfl ?_);refine pz24 rfl (N:=5) rfl (cs:=enZero) (t:=32) ?hr ?_;(case hr=>first|(go_simp;done)|(go_simp;rfl));intro g hg w2 hb2 hbl2;have HGE:Hid (w.heap.size≤g):=pH (by rw [hg];exact HB.out.size);have HGW:Hid (wr.heap.size≤g):=pH (by rw [hg];exact Nat.le_refl _);have HB2:=pH hb2;have HBL2:=pH hbl2;clear hg hb2 hbl2)|((with_reducible refine pz28 (t:=32) (p:=5) rfl ?_);refine pz22 rfl rfl 32 _ _ rfl g (enCells l[i]).toArray rfl rfl 32 enZero HB2.out rfl rfl (enCells_all _) ?_;intro w3 hb3 hg3;have HB3:=pH hb3;have HBL3:Hid (Below w.heap.size w w3):=pH ((pbt HB.out HBL2.out).grown hg3 (Nat.le_trans HB.out.size HBL2.out.size) (fun j hj=>by cases hj;exact HGE.out));have HGR3:=pH hg3;clear hb3 hg3))
    have HQ:Hid (∀ j v,(enCells l[i])[j]?=some v→w3.cell? ⟨g,j,none⟩=some v):=pH (fun j v hv=>(pbc HB3.out j).trans (by simpa using hv))
    obtain ⟨e,hee⟩:∃ e,e=l[i]:=⟨_,rfl⟩
    rw [← hee] at HQ HE HAT ⊢
    have HEE:=pH hee
    clear hee
    have hd:(l.map enOf).drop i=enOf e :: (l.map enOf).drop (i + 1):=by rw [HEE.out,List.drop_eq_getElem_cons (by simpa using hi)];simp
    have ht:(l.map enOf).take (i + 1)=(l.map enOf).take i ++ [enOf e]:=by rw [HEE.out,List.take_succ_eq_append_getElem (by simpa using hi)];simp
    have HT1:=pH ht
    have HG1:Hid (rightT Y (l.map enOf)=(stepOk ((l.map enOf).take i) (enOf e) && rightGo Y ((l.map enOf).take (i + 1)) ((l.map enOf).drop (i + 1)))):=pH (by rw [HG.out,hd,right_step,ht])
    clear hd ht
    have hL3:LiesAt w3 ⟨g,0,none⟩ (enCells e):=fun j v hv=>by rw [Addr.add_mid,Nat.zero_add];exact HQ.out j v hv
    have HL3:=pH hL3
    clear hL3
    have HBW3:Hid (Below wr.heap.size wr w3):=pH (HBL2.out.grown HGR3.out HBL2.out.size (fun j hj=>by cases hj;exact HGW.out))
    obtain ⟨n,hn,hm⟩:=HM.out
    have HM3:=pH (hm.ext HBW3.out)
    have HN:=pH hn
    clear hm hn
    obtain ⟨ok,hok⟩:∃ ok,ok=stepOk ((l.map enOf).take i) (enOf e):=⟨_,rfl⟩
    have HOK:=pH hok
    rw [← hok] at HG1
    clear hok
    go_cut [41] (fun v41 w'=>v41=.bool (!ok)∧Hid (Below w3.heap.size w3 w'))
    case first =>
     refine start_ (n:=27) (S:=fun w'=>Below w3.heap.size w3 w') (ds:=[]) (ms 27 0) (by kernel_rfl) rfl rfl (Below.refl _ _).drew (fun hHeld=>?_)
     refine take_ (i:=0) (N:=some 15) (v:=.agg (enCells e).toArray) (a':=?_) (ms 27 1) rfl rfl (by kernel_rfl) (fun _ _ _ h=>h) (yi_agg (by rfl) 32 _ rfl _ rfl _ _ (fun w' hb=>HL3.out.below hb) h49 rfl rfl) hHeld ?_ ?_;rotate_left;(simp only [aP,i64_w,i32_w];rfl)
     refine one_ (i:=1) (N:=some 16) (ms 27 2) rfl rfl (by kernel_rfl) (by decide) (fun K hK=>?_)
     refine goes_ Tryz.func36 (by kernel_rfl) rfl #[.agg (enCells e).toArray] (by rfl) rfl rfl (by simp only [pM];rfl) ?_
     refine (plain_calls _ (hG.ext HBL3.out.drew) e HE.out.1 HE.out.2).mono ?_
     rintro x w4 ⟨rfl,hb4⟩
     refine ⟨_,rfl,?_⟩
     have HB4:=pH hb4
     clear hb4
     refine hK.out _ _ (pbt hHeld HB4.out) (fun hHeld=>?_)
     clear hK K
     refine norm_ (a':=?_) ?_ ?_
     rotate_left
     ·show Act.put _ (some 16) _=_
      (simp only [aP,i64_w,i32_w];rfl)
     cases hp:plainM Y (enOf e) with
     | false =>
      have ho:ok=false:=by rw [HOK.out];simp [stepOk,hp]
      subst ho
      iterate 2 (refine pW ?_ rfl rfl (by kernel_rfl) (fun _ _ _=>id) (by rfl) ?_ ?_ ?_ ?_;rotate_left;(intro w';go_simp;with_reducible rfl);rotate_left;(simp only [aP,i64_w,i32_w];rfl))
      (refine pN 4 19 (ms 27 5) rfl rfl (by kernel_rfl) (fun _ _ _=>id) (by rfl) ?_ ?_ ?_;rotate_left;(simp only [aP,i64_w,i32_w];rfl))
      (refine pN 5 20 (ms 27 6) rfl rfl (by kernel_rfl) (fun _ _ _=>id) (by rfl) ?_ ?_ ?_;rotate_left;(simp only [aP,i64_w,i32_w];rfl))
      (refine pN 6 21 (ms 27 7) rfl rfl (by kernel_rfl) (fun _ _ _=>id) (by rfl) ?_ ?_ ?_;rotate_left;(simp only [aP,i64_w,i32_w];rfl))
      (refine pN 7 22 (ms 27 8) rfl rfl (by kernel_rfl) (fun _ _ _=>id) (by rfl) ?_ ?_ ?_;rotate_left;(simp only [aP,i64_w,i32_w];rfl))
      (refine pN 8 23 (ms 27 9) rfl rfl (by kernel_rfl) (fun _ _ _=>id) (by rfl) ?_ ?_ ?_;rotate_left;(simp only [aP,i64_w,i32_w];rfl))
      (refine pN 9 24 (ms 27 10) rfl rfl (by kernel_rfl) (fun _ _ _=>id) (by rfl) ?_ ?_ ?_;rotate_left;(simp only [aP,i64_w,i32_w];rfl))
      iterate 2 (refine pW ?_ rfl rfl (by kernel_rfl) (fun _ _ _=>id) (by rfl) ?_ ?_ ?_ ?_;rotate_left;(intro w';go_simp;with_reducible rfl);rotate_left;(simp only [aP,i64_w,i32_w];rfl))
      (refine pN 12 27 (ms 27 13) rfl rfl (by kernel_rfl) (fun _ _ _=>id) (by rfl) ?_ ?_ ?_;rotate_left;(simp only [aP,i64_w,i32_w];rfl))
      (refine pN 13 28 (ms 27 14) rfl rfl (by kernel_rfl) (fun _ _ _=>id) (by rfl) ?_ ?_ ?_;rotate_left;(simp only [aP,i64_w,i32_w];rfl))
      (refine pN 14 29 (ms 27 15) rfl rfl (by kernel_rfl) (fun _ _ _=>id) (by rfl) ?_ ?_ ?_;rotate_left;(simp only [aP,i64_w,i32_w];rfl))
      (refine pN 15 30 (ms 27 16) rfl rfl (by kernel_rfl) (fun _ _ _=>id) (by rfl) ?_ ?_ ?_;rotate_left;(simp only [aP,i64_w,i32_w];rfl))
      (refine pN 16 31 (ms 27 17) rfl rfl (by kernel_rfl) (fun _ _ _=>id) (by rfl) ?_ ?_ ?_;rotate_left;(simp only [aP,i64_w,i32_w];rfl))
      (refine pN 17 32 (ms 27 18) rfl rfl (by kernel_rfl) (fun _ _ _=>id) (by rfl) ?_ ?_ ?_;rotate_left;(simp only [aP,i64_w,i32_w];rfl))
      (refine pN 18 33 (ms 27 19) rfl rfl (by kernel_rfl) (fun _ _ _=>id) (by rfl) ?_ ?_ ?_;rotate_left;(simp only [aP,i64_w,i32_w];rfl))
      (refine pN 19 34 (ms 27 20) rfl rfl (by kernel_rfl) (fun _ _ _=>id) (by rfl) ?_ ?_ ?_;rotate_left;(simp only [aP,i64_w,i32_w];rfl))
      (refine pN 20 35 (ms 27 21) rfl rfl (by kernel_rfl) (fun _ _ _=>id) (by rfl) ?_ ?_ ?_;rotate_left;(simp only [aP,i64_w,i32_w];rfl))
      (refine pN 21 36 (ms 27 22) rfl rfl (by kernel_rfl) (fun _ _ _=>id) (by rfl) ?_ ?_ ?_;rotate_left;(simp only [aP,i64_w,i32_w];rfl))
      (refine pN 22 37 (ms 27 23) rfl rfl (by kernel_rfl) (fun _ _ _=>id) (by rfl) ?_ ?_ ?_;rotate_left;(simp only [aP,i64_w,i32_w];rfl))
      (refine pN 23 38 (ms 27 24) rfl rfl (by kernel_rfl) (fun _ _ _=>id) (by rfl) ?_ ?_ ?_;rotate_left;(simp only [aP,i64_w,i32_w];rfl))
      (refine pN 24 39 (ms 27 25) rfl rfl (by kernel_rfl) (fun _ _ _=>id) (by rfl) ?_ ?_ ?_;rotate_left;(simp only [aP,i64_w,i32_w];rfl))
      (refine pN 25 40 (ms 27 26) rfl rfl (by kernel_rfl) (fun _ _ _=>id) (by rfl) ?_ ?_ ?_;rotate_left;(simp only [aP,i64_w,i32_w];rfl))
      refine pW ?_ rfl rfl (by kernel_rfl) (fun _ _ _=>id) (by rfl) ?_ ?_ ?_ ?_;rotate_left;(intro w';go_simp;with_reducible rfl);rotate_left;(simp only [aP,i64_w,i32_w];rfl)
      refine done_ (by kernel_rfl) ?_
      go_wp2_with fail
      go_meet
      exact ⟨rfl,pH hHeld⟩
     | true =>
      iterate 4 (refine pW ?_ rfl rfl (by kernel_rfl) (fun _ _ _=>id) (by rfl) ?_ ?_ ?_ ?_;rotate_left;(intro w';go_simp;with_reducible rfl);rotate_left;(simp only [aP,i64_w,i32_w];rfl))
      (refine take_ (i:=6) (N:=some 21) (v:=?_) (a':=?_) (ms 27 7) rfl rfl (by kernel_rfl) (fun _ _ _ h=>h) (Or.inl ⟨by rfl,?_⟩) hHeld ?_ ?_;rotate_left;(intro w' hS';have hc0:=(HL3.out.below hS') 0 _ rfl;simp only [Addr.add_zero'] at hc0;go_simp;with_reducible rfl);rotate_left;(simp only [aP,i64_w,i32_w];rfl))
      refine one_ (i:=7) (N:=some 22) (ms 27 8) rfl rfl (by kernel_rfl) (by decide) (fun K hK=>?_)
      refine goes_ Tryz.func19 (by kernel_rfl) rfl #[.string e.f0] (by rfl) rfl rfl (by simp only [pM];rfl) ?_
      refine (par_calls _ e HE.out.1).mono ?_
      rintro x w5 ⟨rfl,hb5⟩
      refine ⟨_,rfl,?_⟩
      have HB5:=pH hb5
      clear hb5
      refine hK.out _ _ (pbt hHeld HB5.out) (fun hHeld=>?_)
      clear hK K
      refine norm_ (a':=?_) ?_ ?_
      rotate_left
      ·show Act.put _ (some 22) _=_
       (simp only [aP,i64_w,i32_w];rfl)
      (refine take_ (i:=8) (N:=some 23) (v:=?_) (a':=?_) (ms 27 9) rfl rfl (by kernel_rfl) (fun _ _ _ h=>h) (Or.inl ⟨by rfl,?_⟩) hHeld ?_ ?_;rotate_left;(intro w' hS';have hlk:=(HM3.out.ext hS').look (s:=parM (enOf e).1) (by have:=(part_len (enOf e).1).1;have:=HE.out.1;omega);go_simp;with_reducible rfl);rotate_left;(simp only [aP,i64_w,i32_w];rfl))
      have hs01:seenF ((l.map enOf).take i) (parM (enOf e).1)=0∨seenF ((l.map enOf).take i) (parM (enOf e).1)=1:=by unfold seenF;split <;> simp
      have HO1:Hid (ok=(decide (seenF ((l.map enOf).take i) (parM (enOf e).1)≠0) && (match ((l.map enOf).take i).getLast? with|none=>true|some y=>lessM y.1 (enOf e).1))):=pH (by rw [HOK.out];unfold stepOk;rw [hp,Bool.true_and])
      generalize seenF ((l.map enOf).take i) (parM (enOf e).1)=sn at hs01 HO1 ⊢
      rcases hs01 with rfl|rfl
      ·have ho:ok=false:=by rw [HO1.out];rfl
       subst ho
       iterate 3 (refine pW ?_ rfl rfl (by kernel_rfl) (fun _ _ _=>id) (by rfl) ?_ ?_ ?_ ?_;rotate_left;(intro w';go_simp;with_reducible rfl);rotate_left;(simp only [aP,i64_w,i32_w];rfl))
       (refine pN 12 27 (ms 27 13) rfl rfl (by kernel_rfl) (fun _ _ _=>id) (by rfl) ?_ ?_ ?_;rotate_left;(simp only [aP,i64_w,i32_w];rfl))
       (refine pN 13 28 (ms 27 14) rfl rfl (by kernel_rfl) (fun _ _ _=>id) (by rfl) ?_ ?_ ?_;rotate_left;(simp only [aP,i64_w,i32_w];rfl))
       (refine pN 14 29 (ms 27 15) rfl rfl (by kernel_rfl) (fun _ _ _=>id) (by rfl) ?_ ?_ ?_;rotate_left;(simp only [aP,i64_w,i32_w];rfl))
       (refine pN 15 30 (ms 27 16) rfl rfl (by kernel_rfl) (fun _ _ _=>id) (by rfl) ?_ ?_ ?_;rotate_left;(simp only [aP,i64_w,i32_w];rfl))
       (refine pN 16 31 (ms 27 17) rfl rfl (by kernel_rfl) (fun _ _ _=>id) (by rfl) ?_ ?_ ?_;rotate_left;(simp only [aP,i64_w,i32_w];rfl))
       (refine pN 17 32 (ms 27 18) rfl rfl (by kernel_rfl) (fun _ _ _=>id) (by rfl) ?_ ?_ ?_;rotate_left;(simp only [aP,i64_w,i32_w];rfl))
       (refine pN 18 33 (ms 27 19) rfl rfl (by kernel_rfl) (fun _ _ _=>id) (by rfl) ?_ ?_ ?_;rotate_left;(simp only [aP,i64_w,i32_w];rfl))
       (refine pN 19 34 (ms 27 20) rfl rfl (by kernel_rfl) (fun _ _ _=>id) (by rfl) ?_ ?_ ?_;rotate_left;(simp only [aP,i64_w,i32_w];rfl))
       (refine pN 20 35 (ms 27 21) rfl rfl (by kernel_rfl) (fun _ _ _=>id) (by rfl) ?_ ?_ ?_;rotate_left;(simp only [aP,i64_w,i32_w];rfl))
       (refine pN 21 36 (ms 27 22) rfl rfl (by kernel_rfl) (fun _ _ _=>id) (by rfl) ?_ ?_ ?_;rotate_left;(simp only [aP,i64_w,i32_w];rfl))
       (refine pN 22 37 (ms 27 23) rfl rfl (by kernel_rfl) (fun _ _ _=>id) (by rfl) ?_ ?_ ?_;rotate_left;(simp only [aP,i64_w,i32_w];rfl))
       (refine pN 23 38 (ms 27 24) rfl rfl (by kernel_rfl) (fun _ _ _=>id) (by rfl) ?_ ?_ ?_;rotate_left;(simp only [aP,i64_w,i32_w];rfl))
       (refine pN 24 39 (ms 27 25) rfl rfl (by kernel_rfl) (fun _ _ _=>id) (by rfl) ?_ ?_ ?_;rotate_left;(simp only [aP,i64_w,i32_w];rfl))
       (refine pN 25 40 (ms 27 26) rfl rfl (by kernel_rfl) (fun _ _ _=>id) (by rfl) ?_ ?_ ?_;rotate_left;(simp only [aP,i64_w,i32_w];rfl))
       refine pW ?_ rfl rfl (by kernel_rfl) (fun _ _ _=>id) (by rfl) ?_ ?_ ?_ ?_;rotate_left;(intro w';go_simp;with_reducible rfl);rotate_left;(simp only [aP,i64_w,i32_w];rfl)
       refine done_ (by kernel_rfl) ?_
       go_wp2_with fail
       go_meet
       exact ⟨rfl,pH hHeld⟩
      ·by_cases h0:i=0
       ·have ho:ok=true:=by rw [HO1.out,h0];rfl
        subst ho
        have hgt:decide ((0:Int)<(i:Int))=false:=by simp;omega
        iterate 6 (refine pW ?_ rfl rfl (by kernel_rfl) (fun _ _ _=>id) (by rfl) ?_ ?_ ?_ ?_;rotate_left;(intro w';go_simp;with_reducible rfl);rotate_left;(simp only [aP,i64_w,i32_w];rfl))
        (refine pN 15 30 (ms 27 16) rfl rfl (by kernel_rfl) (fun _ _ _=>id) (by rfl) ?_ ?_ ?_;rotate_left;(simp only [aP,i64_w,i32_w];rfl))
        (refine pN 16 31 (ms 27 17) rfl rfl (by kernel_rfl) (fun _ _ _=>id) (by rfl) ?_ ?_ ?_;rotate_left;(simp only [aP,i64_w,i32_w];rfl))
        (refine pN 17 32 (ms 27 18) rfl rfl (by kernel_rfl) (fun _ _ _=>id) (by rfl) ?_ ?_ ?_;rotate_left;(simp only [aP,i64_w,i32_w];rfl))
        (refine pN 18 33 (ms 27 19) rfl rfl (by kernel_rfl) (fun _ _ _=>id) (by rfl) ?_ ?_ ?_;rotate_left;(simp only [aP,i64_w,i32_w];rfl))
        (refine pN 19 34 (ms 27 20) rfl rfl (by kernel_rfl) (fun _ _ _=>id) (by rfl) ?_ ?_ ?_;rotate_left;(simp only [aP,i64_w,i32_w];rfl))
        (refine pN 20 35 (ms 27 21) rfl rfl (by kernel_rfl) (fun _ _ _=>id) (by rfl) ?_ ?_ ?_;rotate_left;(simp only [aP,i64_w,i32_w];rfl))
        (refine pN 21 36 (ms 27 22) rfl rfl (by kernel_rfl) (fun _ _ _=>id) (by rfl) ?_ ?_ ?_;rotate_left;(simp only [aP,i64_w,i32_w];rfl))
        (refine pN 22 37 (ms 27 23) rfl rfl (by kernel_rfl) (fun _ _ _=>id) (by rfl) ?_ ?_ ?_;rotate_left;(simp only [aP,i64_w,i32_w];rfl))
        (refine pN 23 38 (ms 27 24) rfl rfl (by kernel_rfl) (fun _ _ _=>id) (by rfl) ?_ ?_ ?_;rotate_left;(simp only [aP,i64_w,i32_w];rfl))
        (refine pN 24 39 (ms 27 25) rfl rfl (by kernel_rfl) (fun _ _ _=>id) (by rfl) ?_ ?_ ?_;rotate_left;(simp only [aP,i64_w,i32_w];rfl))
        iterate 2 (refine pW ?_ rfl rfl (by kernel_rfl) (fun _ _ _=>id) (by rfl) ?_ ?_ ?_ ?_;rotate_left;(intro w';go_simp;with_reducible rfl);rotate_left;(simp only [aP,i64_w,i32_w];rfl))
        refine done_ (by kernel_rfl) ?_
        go_wp2_with fail
        go_meet
        exact ⟨rfl,pH hHeld⟩
       ·obtain ⟨m,hm⟩:∃ m,m + 1=i:=⟨i - 1,by omega⟩
        have hml:m<l.length:=by omega
        have hgt:decide (0<i)=true:=by simp;omega
        obtain ⟨ad',hade,hatm⟩:=en_at HR.out m hml
        obtain rfl:=Option.some.inj hade
        have HATM:=pH (hatm.below HBL3.out)
        obtain ⟨y,hy⟩:∃ y,y=l[m]:=⟨_,rfl⟩
        have HEY:=pH (fits_get HF.out (List.mem_map_of_mem (f:=enOf) (List.getElem_mem hml)))
        rw [← hy] at HATM HEY
        have HO2:Hid (ok=lessM (enOf y).1 (enOf e).1):=pH (by
         rw [HO1.out,← hm,List.take_succ_eq_append_getElem (by simpa using hml),List.getLast?_concat,List.getElem_map,← hy];rfl)
        have hsub:IntKind.i64.wrap ((i:Int) - 1)=(m:Int):=by have:=HL.out;rw [← hm,IntWalk.i64_in _ (by omega)];omega
        clear hade hatm hy h0 HO1
        iterate 8 (refine pW ?_ rfl rfl (by kernel_rfl) (fun _ _ _=>id) (by rfl) ?_ ?_ ?_ ?_;rotate_left;(intro w';go_simp;with_reducible rfl);rotate_left;(simp only [aP,i64_w,i32_w];rfl))
        (refine pU 17 32 ?_ (ms 27 18) rfl rfl (by kernel_rfl) (fun _ _ _=>id) (by rfl) ?_ ?_ ?_ ?_;rotate_left;(intro w';have hsub1:=hsub;go_simp;with_reducible rfl);rotate_left;(simp only [aP,i64_w,i32_w];rfl))
        have hm0:(0:Int)≤(m:Int):=by omega
        have hm1:(m:Int)<(l.length:Int):=by omega
        iterate 2 (refine pW ?_ rfl rfl (by kernel_rfl) (fun _ _ _=>id) (by rfl) ?_ ?_ ?_ ?_;rotate_left;(intro w';go_simp;with_reducible rfl);rotate_left;(simp only [aP,i64_w,i32_w];rfl))
        (refine take_ (i:=20) (N:=some 35) (v:=?_) (a':=?_) (ms 27 21) rfl rfl (by kernel_rfl) (fun _ _ _ h=>h) (Or.inl ⟨by rfl,?_⟩) hHeld ?_ ?_;rotate_left;(intro w' hS';have hc0:=(HATM.out.below hS') 0 _ rfl;simp only [Addr.add_zero'] at hc0;go_simp;with_reducible rfl);rotate_left;(simp only [aP,i64_w,i32_w];rfl))
        refine pW ?_ rfl rfl (by kernel_rfl) (fun _ _ _=>id) (by rfl) ?_ ?_ ?_ ?_;rotate_left;(intro w';go_simp;with_reducible rfl);rotate_left;(simp only [aP,i64_w,i32_w];rfl)
        (refine take_ (i:=22) (N:=some 37) (v:=?_) (a':=?_) (ms 27 23) rfl rfl (by kernel_rfl) (fun _ _ _ h=>h) (Or.inl ⟨by rfl,?_⟩) hHeld ?_ ?_;rotate_left;(intro w' hS';have hc0:=(HL3.out.below hS') 0 _ rfl;simp only [Addr.add_zero'] at hc0;go_simp;with_reducible rfl);rotate_left;(simp only [aP,i64_w,i32_w];rfl))
        refine one_ (i:=23) (N:=some 38) (ms 27 24) rfl rfl (by kernel_rfl) (by decide) (fun K hK=>?_)
        refine goes_ Tryz.func37 (by kernel_rfl) rfl #[.string y.f0,.string e.f0] (by rfl) rfl rfl (by simp only [pM];rfl) ?_
        refine (compare_calls _ (hG.ext (pbt HBL3.out hHeld)) (enOf y).1 (enOf e).1 (by have:=HEY.out.1;omega) (by have:=HE.out.1;omega)).mono ?_
        rintro x w6 ⟨rfl,hb6⟩
        refine ⟨_,rfl,?_⟩
        have HB6:=pH hb6
        clear hb6
        refine hK.out _ _ (pbt hHeld HB6.out) (fun hHeld=>?_)
        clear hK K
        refine norm_ (a':=?_) ?_ ?_
        rotate_left
        ·show Act.put _ (some 38) _=_
         (simp only [aP,i64_w,i32_w];rfl)
        have hok:decide ((0:Int)≤cmpM (enOf y).1 (enOf e).1)=!ok:=by rw [HO2.out];unfold lessM;by_cases h:cmpM (enOf y).1 (enOf e).1<0 <;> simp [h] <;> omega
        generalize cmpM (enOf y).1 (enOf e).1=cv at hok ⊢
        iterate 3 (refine pW ?_ rfl rfl (by kernel_rfl) (fun _ _ _=>id) (by rfl) ?_ ?_ ?_ ?_;rotate_left;(intro w';go_simp;with_reducible rfl);rotate_left;(simp only [aP,i64_w,i32_w];rfl))
        refine done_ (by kernel_rfl) ?_
        go_wp2_with fail
        go_meet
        exact ⟨rfl,pH hHeld⟩
    case rest =>
     obtain ⟨rfl,hb5⟩:=hcut
     have HB5:Hid (Below w.heap.size w wc):=pH (pbt HBL3.out hb5.out)
     have HB35:=hb5
     cases ok with
     | false =>
      go_wp2_with fail
      go_ret
      exact ⟨by rw [HG1.out];rfl,HB5.out⟩
     | true =>
      have HLC:=pH (HL3.out.below HB35.out)
      have q0:=HLC.out 0 _ rfl
      have q1:=HLC.out 1 _ rfl
      rw [Addr.add_mid] at q0 q1
      have HMC:=pH (HM3.out.ext HB35.out)
      have HG2:Hid (rightT Y (l.map enOf)=rightGo Y ((l.map enOf).take (i + 1)) ((l.map enOf).drop (i + 1))):=pH (by rw [HG1.out,Bool.true_and])
      have HII:Hid (i + 1≤l.length):=pH hi
      have HLL:=HL.out
      cases hk:(e.f1.f0 == 1) with
      | false =>
       have hdir:Y.dir (enOf e).2=false:=by
        have:¬ e.f1.f0=1:=by simpa using hk
        show decide (e.f1.f0=1)=false
        simpa using this
       have HMN:Hid (CntMap wc w.heap.size n (seenF ((l.map enOf).take (i + 1)))):=pH (by rw [HT1.out,seen_not _ _ hdir];exact HMC.out)
       go_wp2_with fail
       go_roundg g1
       case measure=>omega
       case rel=>exact ⟨i + 1,by go_num,by omega,HII,pH ⟨n,by have:=HN.out;omega,HMN.out⟩,HG2,HB5⟩
      | true =>
       have hdir:Y.dir (enOf e).2=true:=by
        have:e.f1.f0=1:=by simpa using hk
        show decide (e.f1.f0=1)=true
        simpa using this
       have HS:Hid (∀ key,seenF ((l.map enOf).take (i + 1)) key=if key == (enOf e).1 then 1 else seenF ((l.map enOf).take i) key):=pH (by rw [HT1.out];exact seen_dir _ _ hdir)
       go_wp2_with (first|(at_mapUpdate;refine wpList_cnt_up rfl rfl _ _ _ rfl _ n _ rfl HMC.out (by have:=HN.out;omega) (enOf e).1 1 rfl rfl (by have:=HE.out.1;omega) (by omega) _ HS.out ?_))
       intro w6 hm6 hg6
       have HM6:=pH hm6
       have HB6:Hid (Below w.heap.size w w6):=pH (HB5.out.grown hg6 HB5.out.size (fun j hj=>by cases hj;exact Nat.le_refl _))
       clear hm6 hg6
       go_wp2_with fail
       go_roundg g1
       case measure=>omega
       case rel=>exact ⟨i + 1,by go_num,by omega,HII,pH ⟨n + 1,by have:=HN.out;omega,HM6.out⟩,HG2,HB6⟩
  ·have he:i=l.length:=by have:=HI.out;omega
   subst he
   go_wp2_with fail
   go_ret
   refine ⟨?_,HB.out⟩
   rw [HG.out,List.drop_eq_nil_of_le (by simp)]
   have:((l.map enOf).take l.length).length=l.length:=by simp
   simp only [rightGo,this]
   have hv:decide ((l.length:Int)≤5000)=decide (l.length≤5000):=by rw [Bool.eq_iff_iff,decide_eq_true_eq,decide_eq_true_eq];omega
   exact congrArg (fun b=>Ending.returned (Value.bool b)) hv
def rowFits' (l:List S32):Prop:=rowFits (l.map enOf)=true∧l.length≤1000000
instance (l:List S32):Decidable (rowFits' l):=by unfold rowFits';infer_instance
end Go.Proofs.Zq
end
section
namespace Go.Proofs.Zq
open Go.RowKit Go.Proofs.YtjghikkboekonaaGreatDoor Go.Proofs.Zw.PrintWords Go.Proofs.Zw.PrintLast Go.Proofs.Zw.PrintMore
open Go.Proofs.Zt (tarM Ch rightC lessM chain cmpM unmarkF)
theorem tar_f (e:S57) (h:(chOf e).path.length≤1000000) (k:Nat) (hk:2000000<k) :
  change_tar.f k e.f0 e.f1 e.f2.f0 e.f2.f1 e.f2.f2 e.f2.f3 e.f2.f4 e.f2.f5 e.f2.f6 e.f2.f7 e.f2.f8 e.f2.f9=some (B (tarM (chOf e).op (chOf e).path)):=by
 have e1:e.f0=B (chOf e).path:=(B_L _).symm
 unfold change_tar.f
 rw [e1,show e.f1=(chOf e).op from rfl,unmark_f _ _ (by omega) k (by omega)]
 simp only [Option.bind_some]
 rw [unmarkR_1]
theorem less_f (a b:S57) (ha:(chOf a).path.length≤1000000) (hb:(chOf b).path.length≤1000000) (k:Nat) (hk:2000000<k) :
  change_Less.f k a.f0 a.f1 a.f2.f0 a.f2.f1 a.f2.f2 a.f2.f3 a.f2.f4 a.f2.f5 a.f2.f6 a.f2.f7 a.f2.f8 a.f2.f9 b.f0 b.f1 b.f2.f0 b.f2.f1 b.f2.f2 b.f2.f3 b.f2.f4 b.f2.f5 b.f2.f6 b.f2.f7 b.f2.f8 b.f2.f9 =
   some (lessM (tarM (chOf a).op (chOf a).path) (tarM (chOf b).op (chOf b).path)):=by
 unfold change_Less.f change_compare.f
 rw [tar_f a ha k hk,tar_f b hb k hk]
 simp only [Option.bind_some]
 unfold paths_Compare.f
 have h1:=tar_len (chOf a).op (chOf a).path
 have h2:=tar_len (chOf b).op (chOf b).path
 rw [if_pos (by rw [B_size,B_size];omega)]
 rfl
def oneC (c:Ch Str Nd):Bool:=!(tarM c.op c.path).isEmpty && decide (Y.rt (tarM c.op c.path) c.node=0) && (decide (c.op=0) || decide (c.node=zeroN))
def cGo:Option (Ch Str Nd)→List (Ch Str Nd)→Bool
 | _,[]=>true
 | p,c :: r=>oneC c && (match p with|none=>true|some p=>lessM (tarM p.op p.path) (tarM c.op c.path)) && cGo (some c) r
theorem cGo_some:∀ (r:List (Ch Str Nd)) (p:Ch Str Nd),cGo (some p) r=(r.all oneC && chain (fun a b=>lessM (tarM a.op a.path) (tarM b.op b.path)) (p :: r))
 | [],p=>rfl
 | c :: r,p=>by
  show (oneC c && lessM (tarM p.op p.path) (tarM c.op c.path) && cGo (some c) r)=_
  rw [cGo_some r c]
  show _=(oneC c && r.all oneC && (lessM (tarM p.op p.path) (tarM c.op c.path) && chain _ (c :: r)))
  cases oneC c <;> cases lessM (tarM p.op p.path) (tarM c.op c.path) <;> cases r.all oneC <;> simp
theorem cGo_all (l:List (Ch Str Nd)):cGo none l=rightC Y l:=by
 cases l with
 | nil=>rfl
 | cons c r =>
  show (oneC c && true && cGo (some c) r)=(oneC c && r.all oneC && chain _ (c :: r))
  rw [cGo_some,Bool.and_true,Bool.and_assoc]
end Go.Proofs.Zq
end
section
namespace Go.Proofs.Zq
open Go.RowKit Go.WideMaps Go.Maps Go.Proofs.YtjghikkboekonaaGreatDoor Go.Proofs.Zw.PrintWords Go.Proofs.Zw.PrintLast Go.Proofs.Zw.PrintMore
open Go.Proofs.Zt (rightT rightC applyM applyL parM lessM cmpM getL Ch puts Puts tkL PS Srt isM)
theorem eCells_en (e:S32):enCells e=eCells (enOf e):=by
 obtain ⟨p,x⟩:=e
 obtain ⟨a1,a2,a3,a4,a5,a6,a7,a8,a9,a10⟩:=x
 simp [enCells,eCells,pz18,enOf,ndOf,B_L]
theorem eCells_all (e:Str×Nd):(eCells e).toArray.all (·.oneCell')=true:=by simp [eCells,pz18,Value.oneCell']
theorem eCells_len (e:Str×Nd):(eCells e).length=11:=rfl
theorem eCells_one (e:Str×Nd):∀ u ∈ eCells e,u.oneCell'=true:=by
 intro u hu
 simp [eCells,pz18] at hu
 rcases hu with rfl|rfl|rfl|rfl|rfl|rfl|rfl|rfl|rfl|rfl|rfl <;> rfl
theorem e_at {w:World} {A:Option Addr} {xs:List S32} (h:Kd.C k32 w A xs.length xs) (i:Nat) (hi:i<xs.length) :
  ∃ ad,A=some ad∧LiesAt w (ad.add (i * 11)) (eCells (enOf xs[i])):=by
 obtain ⟨ad,h1,h2⟩:=en_at h i hi
 rw [eCells_en] at h2
 exact ⟨ad,h1,h2⟩
theorem c_at {w:World} {A:Option Addr} {xs:List S57} (h:Kd.C k57 w A xs.length xs) (i:Nat) (hi:i<xs.length) :
  ∃ ad,A=some ad∧LiesAt w (ad.add (i * 12)) (pz13 (chOf xs[i])):=by
 obtain ⟨ad,c,e,_,hK,hc0⟩:=Kd.C_get h z57 (i:Int) (by omega) (by omega)
 have hd:xs.getD ((i:Nat):Int).toNat z57=xs[i]:=by
  rw [show ((i:Nat):Int).toNat=i from rfl,List.getD_eq_getElem?_getD,List.getElem?_eq_getElem hi];rfl
 rw [hd] at hK
 obtain rfl:=k57_open hK
 refine ⟨ad,e,fun j v hv=>?_⟩
 rw [Addr.add_add]
 refine hc0 j v ?_
 rw [← hv]
 generalize xs[i]=x
 obtain ⟨p,o,x⟩:=x
 obtain ⟨a1,a2,a3,a4,a5,a6,a7,a8,a9,a10⟩:=x
 simp [pz13,pz18,chOf,ndOf,B_L]
def lyrFits (l:List (Ch Str Nd)):Bool:=l.all fun e=>decide (e.path.length≤1000000) && ndFits e.node
end Go.Proofs.Zq
end
section
namespace Go.Proofs.Zq
open Go.RowKit Go.Proofs.Zw.PrintWords Go.Proofs.Zw.PrintLast Go.Proofs.Zw.PrintMore
open Go.Proofs.YtjghikkboekonaaGreatDoor (GL)
attribute [local go_sem] max2_int min2_int max_two min_two pz35 pz36 max_four min_four
theorem eqA28 (d:Nat) (w:World) (x0 y0:Int) (x1 y1:Int) (x2 y2:Int) (x3 y3:Int) (x4 y4:Int) (x5 y5:ByteArray) (x6 y6:ByteArray) (x7 y7:Int) (x8 y8:Int) (x9 y9:ByteArray) :
  (Op.equalIn (d + 2) 28 (.agg #[.int .i64 x0,.int .i64 x1,.int .i64 x2,.int .i64 x3,.int .i64 x4,.string x5,.string x6,.int .i64 x7,.int .i64 x8,.string x9]) (.agg #[.int .i64 y0,.int .i64 y1,.int .i64 y2,.int .i64 y3,.int .i64 y4,.string y5,.string y6,.int .i64 y7,.int .i64 y8,.string y9])).run Tryz.prog w=.ok (x0 == y0 && (x1 == y1 && (x2 == y2 && (x3 == y3 && (x4 == y4 && (x5.toList == y5.toList && (x6.toList == y6.toList && (x7 == y7 && (x8 == y8 && (x9.toList == y9.toList)))))))))) w:=by
 refine eqA_of Tryz.underlying28 (by kernel_rfl) ?_
 refine eqf_cons (by rfl) (by go_simp;rfl) (by go_simp;rfl) (by go_simp) ?_
 refine eqf_cons (by rfl) (by go_simp;rfl) (by go_simp;rfl) (by go_simp) ?_
 refine eqf_cons (by rfl) (by go_simp;rfl) (by go_simp;rfl) (by go_simp) ?_
 refine eqf_cons (by rfl) (by go_simp;rfl) (by go_simp;rfl) (by go_simp) ?_
 refine eqf_cons (by rfl) (by go_simp;rfl) (by go_simp;rfl) (by go_simp) ?_
 refine eqf_cons (by rfl) (by go_simp;rfl) (by go_simp;rfl) (by go_simp) ?_
 refine eqf_cons (by rfl) (by go_simp;rfl) (by go_simp;rfl) (by go_simp) ?_
 refine eqf_cons (by rfl) (by go_simp;rfl) (by go_simp;rfl) (by go_simp) ?_
 refine eqf_cons (by rfl) (by go_simp;rfl) (by go_simp;rfl) (by go_simp) ?_
 exact eqf_last (by rfl) (by go_simp;rfl) (by go_simp;rfl) (by go_simp)
end Go.Proofs.Zq
end
section
namespace Go.Proofs.Zq
open Go.RowKit Go.Proofs.YtjghikkboekonaaGreatDoor Go.Proofs.Zw.PrintWords Go.Proofs.Zw.PrintLast Go.Proofs.Zw.PrintMore
open Go.Proofs.Zt (tarM Ch rightC lessM chain)
theorem unmark_calls (w:World) (hG:GL w) (op:Int) (p:Str) (hl:p.length≤1000000) :
  Calls Tryz.prog 64 #[.int .i64 op,.string (B p)] w fun e w'=>e=.returned (.tuple #[.string (B (tarM op p)),.bool (!(tarM op p).isEmpty)])∧Below w.heap.size w w':=by
 have h:=paths_Unmark.calls (p.length + 31) op (B p) (unmarkR op p).1 (unmarkR op p).2 w hG (unmark_f op p (by omega) _ (by omega))
 rw [unmarkR_1,unmarkR_2] at h
 exact h
theorem less_calls (w:World) (hG:GL w) (a b:Ch Str Nd) (ha:a.path.length≤1000000) (hb:b.path.length≤1000000) :
  Calls Tryz.prog 45 #[.agg (pz13 a).toArray,.agg (pz13 b).toArray] w fun e w'=>e=.returned (.bool (lessM (tarM a.op a.path) (tarM b.op b.path)))∧Below w.heap.size w w' :=
 change_Less.calls 2000001 (B a.path) a.op a.node.kind a.node.mode a.node.uid a.node.gid a.node.mtime (B a.node.link) (B a.node.data) a.node.major a.node.minor (B a.node.attrs)
  (B b.path) b.op b.node.kind b.node.mode b.node.uid b.node.gid b.node.mtime (B b.node.link) (B b.node.data) b.node.major b.node.minor (B b.node.attrs) _ w hG (less_f (ofCh a) (ofCh b) ha hb _ (by omega))
section
variable {P:Program} {ops:Array Oper} {rest:List Oper} {o:Oper} {a:Act} {Q:Exit→Act→World→Prop} {W:World}
theorem wpList_giv (hw:Region.wanted o (yielded ops a.tmps)=true) {v:Value} (hrun:(execOp a.eval o).run P W=.ok (.value v) W)
  (h:wpList P ops Q rest (a.put o.dst v) W):wpList P ops Q (o :: rest) a W:=by
 unfold wpList
 rw [if_pos hw]
 refine Or.inl ?_
 unfold Oper.wp
 rw [hrun]
 exact h
end
def chZero0:Array Value:=#[.string (⟨#[]⟩:ByteArray),.int .i64 0,.int .i64 0,.int .i64 0,.int .i64 0,.int .i64 0,.int .i64 0,.string (⟨#[]⟩:ByteArray),.string (⟨#[]⟩:ByteArray),.int .i64 0,.int .i64 0,.string (⟨#[]⟩:ByteArray)]
structure AtC (w0 w:World) (g:Nat) (c:Ch Str Nd):Prop where
 blk:w.heap[g]?=some (.cells (pz13 c).toArray 57 (0,0))
 below:Below w0.heap.size w0 w
theorem AtC.ext {w0 w w1:World} {g:Nat} {c:Ch Str Nd} (h:AtC w0 w g c) (hb:Below w.heap.size w w1):AtC w0 w1 g c:=⟨pz11 h.blk hb,pbt h.below hb⟩
theorem AtC.at {w0 w:World} {g:Nat} {c:Ch Str Nd} (h:AtC w0 w g c) (j:Nat) {v:Value} (hv:(pz13 c)[j]?=some v):w.cell? ⟨g,j,none⟩=some v:=by
 rw [pbc h.blk];simpa using hv
theorem lyr_two {t:List (Ch Str Nd)} (h:lyrFits t=true) {e:Ch Str Nd} (he:e ∈ t):e.path.length≤1000000∧e.node.attrs.length≤10000000:=by
 have:=List.all_eq_true.1 h e he
 simpa [ndFits] using this
theorem AtC.node {w0 w:World} {g:Nat} {c:Ch Str Nd} (h:AtC w0 w g c):LiesAt w ⟨g,2,none⟩ (pz18 c.node):=fun j v hv=>by
 rw [Addr.add_mid]
 refine h.at (2 + j) ?_
 unfold pz13
 rw [Nat.add_comm 2 j,List.getElem?_cons_succ,List.getElem?_cons_succ]
 exact hv
def prevC (L:List (Ch Str Nd)) (i:Nat):Option (Ch Str Nd):=if i=0 then none else L[i - 1]?
def afterC:Option (Ch Str Nd)→Ch Str Nd→Bool
 | none,_=>true
 | some p,c=>lessM (tarM p.op p.path) (tarM c.op c.path)
theorem cGo_step (p:Option (Ch Str Nd)) (c:Ch Str Nd) (r:List (Ch Str Nd)):cGo p (c :: r)=((!(tarM c.op c.path).isEmpty && decide (Y.rt (tarM c.op c.path) c.node=0)) && ((decide (c.op=0) || decide (c.node=zeroN)) && (afterC p c && cGo (some c) r))):=by
 show (oneC c && _ && _)=_
 unfold oneC afterC
 cases p <;> simp [Bool.and_assoc]
theorem zero_eq (n:Nd):(n.kind == 0 && (n.mode == 0 && (n.uid == 0 && (n.gid == 0 && (n.mtime == 0 && ((B n.link).toList == ([]:List UInt8) && ((B n.data).toList == ([]:List UInt8) && (n.major == 0 && (n.minor == 0 && ((B n.attrs).toList == ([]:List UInt8)))))))))))=decide (n=zeroN):=by
 obtain ⟨a1,a2,a3,a4,a5,a6,a7,a8,a9,a10⟩:=n
 simp only [toList_B,zeroN,Nd.mk.injEq]
 rw [Bool.eq_iff_iff]
 simp
theorem eqN (d:Nat) (w:World) (n:Nd):(Op.equalIn (d + 2) 28 (.agg (pz18 n).toArray) (.agg (pz18 zeroN).toArray)).run Tryz.prog w=.ok (decide (n=zeroN)) w:=by
 have h:=eqA28 d w n.kind 0 n.mode 0 n.uid 0 n.gid 0 n.mtime 0 (B n.link) (B []) (B n.data) (B []) n.major 0 n.minor 0 (B n.attrs) (B [])
 rw [← zero_eq]
 simp only [toList_B] at h ⊢
 exact h
attribute [local go_sem high] eqN
set_option maxRecDepth 100000 in
set_option maxHeartbeats 4000000 in
theorem cright_calls (w:World) (hG:GL w) (A:Option Addr) (c:Nat) (l:List S57) (hr:Kd.C k57 w A l.length l) (hc:l.length≤c) (hfit:lyrFits (l.map chOf)=true) (hl:l.length≤1000000) :
  Calls Tryz.prog 29 #[.slice A l.length c] w fun e w'=>e=.returned (.bool (rightC Y (l.map chOf)))∧Below w.heap.size w w':=by
 have HR:=pH hr
 have HF:=pH hfit
 have HL:=pH hl
 clear hr hfit hl
 go_enter Tryz.func29,Tryz.ntmps29
 go_wp2
 go_loopg [9] (l.length + 1) (fun g v wr=>∃ i:Nat,v=.int .i64 i∧l.length<g + i∧Hid (i≤l.length)∧Hid (rightC Y (l.map chOf)=cGo (prevC (l.map chOf) i) ((l.map chOf).drop i))∧Hid (Below w.heap.size w wr))
 case atStart=>exact ⟨0,rfl,by omega,pH (by omega),pH (by rw [List.drop_zero];exact (cGo_all _).symm),pH (Below.refl _ _)⟩
 case round =>
  obtain ⟨i,rfl,hgi,HI,HG,HB⟩:=hrel
  by_cases hi:i<l.length
  ·cases gk with
   | zero=>omega
   | succ g1 =>
    obtain ⟨ad,rfl,hat⟩:=c_at HR.out i hi
    have HAT:=pH (hat.below HB.out)
    clear hat
    have HE:=pH (lyr_two HF.out (List.mem_map_of_mem (f:=chOf) (List.getElem_mem hi)))
    have HU:=pH Tryz.underlying57
    have HUN:=pH Tryz.underlying28
    obtain ⟨e,hee⟩:∃ e,e=chOf l[i]:=⟨_,rfl⟩
    rw [← hee] at HAT HE
    have hd:(l.map chOf).drop i=e :: (l.map chOf).drop (i + 1):=by rw [hee,List.drop_eq_getElem_cons (by simpa using hi)];simp
    have hp:prevC (l.map chOf) (i + 1)=some e:=by unfold prevC;rw [if_neg (by omega),Nat.add_sub_cancel,List.getElem?_map,List.getElem?_eq_getElem hi,hee];rfl
    have HP1:=pH hp
    obtain ⟨ok1,h1⟩:∃ ok1,ok1=(!(tarM e.op e.path).isEmpty && decide (Y.rt (tarM e.op e.path) e.node=0)):=⟨_,rfl⟩
    obtain ⟨ok2,h2⟩:∃ ok2,ok2=(decide (e.op=0) || decide (e.node=zeroN)):=⟨_,rfl⟩
    obtain ⟨ok3,h3⟩:∃ ok3,ok3=afterC (prevC (l.map chOf) i) e:=⟨_,rfl⟩
    have HG1:Hid (rightC Y (l.map chOf)=(ok1 && (ok2 && (ok3 && cGo (some e) ((l.map chOf).drop (i + 1)))))):=pH (by rw [HG.out,hd,cGo_step,h1,h2,h3])
    have H1:=pH h1
    have H2:=pH h2
    have H3:=pH h3
    clear hd hp hee h1 h2 h3 HG
    go_upto_region 4 with (first|((with_reducible refine pz10 (N:=13) rfl ?_);refine pz12 rfl 57 _ rfl _ rfl (pz13 e) _ HAT.out HU.out rfl rfl ?_)|((with_reducible refine pz10 (N:=4) rfl ?_);refine pz24 rfl (N:=4) rfl (cs:=chZero0) (t:=57) ?hr ?_;(case hr=>first|(go_simp;done)|(go_simp;rfl));intro g hg w2 hb2 hbl2;have HGE:Hid (w.heap.size≤g):=pH (by rw [hg];exact HB.out.size);have HB2:=pH hb2;have HBL2:=pH hbl2;clear hg hb2 hbl2)|((with_reducible refine pz28 (t:=57) (p:=4) rfl ?_);refine pz22 rfl rfl 57 _ _ rfl g (pz13 e).toArray rfl rfl 57 chZero0 HB2.out rfl rfl (by simp [pz13,pz18,Value.oneCell']) ?_;intro w3 hb3 hg3;have HB3:=pH hb3;have HBL3:Hid (Below w.heap.size w w3):=pH ((pbt HB.out HBL2.out).grown hg3 (Nat.le_trans HB.out.size HBL2.out.size) (fun j hj=>by cases hj;exact HGE.out));clear hb3 hg3))
    have HN:Hid (AtC w w3 g e):=pH ⟨HB3.out,HBL3.out⟩
    clear HB2 HB3 HBL2 HBL3 HGE
    have q0:=HN.out.at 0 (v:=.string (B e.path)) rfl
    have q1:=HN.out.at 1 (v:=.int .i64 e.op) rfl
    go_wp2_with fail
    refine (unmark_calls w3 (hG.ext HN.out.below) e.op e.path HE.out.1).mono ?_
    rintro x w4 ⟨rfl,hb⟩
    have HN4:=pH (HN.out.ext hb)
    clear hb q0 q1 HN
    obtain ⟨em,hem⟩:∃ em,em=(tarM e.op e.path).isEmpty:=⟨_,rfl⟩
    rw [← hem]
    have HEM:=pH hem
    clear hem
    go_upto_region 5 with (fail)
    go_cut [22] (fun v wc=>v=.bool (!ok1)∧Hid (AtC w wc g e))
    case first =>
     cases em with
     | true =>
      have HV:Hid (ok1=false):=pH (by rw [H1.out,← HEM.out];rfl)
      go_wp2_with fail
      go_meet
      exact ⟨by rw [HV.out];rfl,HN4⟩
     | false =>
      have HV:Hid (ok1=decide (Y.rt (tarM e.op e.path) e.node=0)):=pH (by rw [H1.out,← HEM.out];rfl)
      have HLN:=pH HN4.out.node
      go_wp2_with (first|((with_reducible refine pz10 (N:=28) rfl ?_);refine pz12 rfl 28 _ rfl _ rfl (pz18 e.node) _ HLN.out HUN.out rfl rfl ?_;go_frame)|((with_reducible refine pz10 (N:=29) rfl ?_);refine wpList_giv rfl (v:=.agg (eCells (tarM e.op e.path,e.node)).toArray) (by kernel_rfl) ?_;go_frame))
      refine (right_calls w4 (hG.ext HN4.out.below) (tarM e.op e.path) e.node HE.out.2).mono ?_
      rintro x w5 ⟨rfl,hb⟩
      have HN5:=pH (HN4.out.ext hb)
      clear hb
      have HV2:Hid ((rtM (tarM e.op e.path) e.node != 0)=!ok1):=pH (by rw [HV.out];show _=!decide (rtM _ _=0);rw [bne,Bool.not_inj_iff];rfl)
      go_wp2_with fail
      go_meet
      exact ⟨by rw [← HV2.out],HN5⟩
    case rest =>
    clear HN4
    obtain ⟨rfl,HN5⟩:=hcut
    cases ok1 with
    | false =>
     go_wp2_with fail
     go_ret
     exact ⟨by rw [HG1.out];rfl,HN5.out.below⟩
    | true =>
    go_upto_region 7 with (fail)
    have q1:=HN5.out.at 1 (v:=.int .i64 e.op) rfl
    go_cut [33] (fun v wc=>v=.bool (!ok2)∧Hid (AtC w wc g e))
    case first =>
     cases hop:(e.op != 0) with
     | false =>
      have HV:Hid (ok2=true):=pH (by rw [H2.out];have h9:e.op=0:=(by simpa using hop);simp [h9])
      go_wp2_with fail
      go_meet
      exact ⟨by rw [HV.out];rfl,HN5⟩
     | true =>
      have HV:Hid ((!decide (e.node=zeroN))=!ok2):=pH (by rw [H2.out];have h9:¬ e.op=0:=(by simpa using hop);simp [h9])
      have HLN:=pH HN5.out.node
      go_wp2_with (first|((with_reducible refine pz10 (N:=39) rfl ?_);refine pz12 rfl 28 _ rfl _ rfl (pz18 e.node) _ HLN.out HUN.out rfl rfl ?_;go_frame)|((with_reducible refine pz10 (N:=40) rfl ?_);refine wpList_giv rfl (v:=.agg (pz18 zeroN).toArray) (by kernel_rfl) ?_;go_frame))
      go_meet
      exact ⟨by rw [← HV.out],HN5⟩
    case rest =>
    clear HN5 q1
    obtain ⟨rfl,HN6⟩:=hcut
    cases ok2 with
    | false =>
     go_wp2_with fail
     go_ret
     exact ⟨by rw [HG1.out];rfl,HN6.out.below⟩
    | true =>
    go_upto_region 9 with (fail)
    have HL6:Hid (LiesAt wc ⟨g,0,none⟩ (pz13 e)):=pH (fun j v hv=>by rw [Addr.add_mid,Nat.zero_add];exact HN6.out.at j hv)
    go_cut [43] (fun v w'=>v=.bool (!ok3)∧Hid (Below wc.heap.size wc w'))
    case first =>
     refine start_ (n:=13) (S:=fun w'=>Below wc.heap.size wc w') (ds:=[]) (ms 13 0) (by kernel_rfl) rfl rfl (Below.refl _ _).drew (fun hHeld=>?_)
     by_cases h0:i=0
     ·have ho:ok3=true:=by rw [H3.out,h0];rfl
      subst ho
      have hgt:decide ((0:Int)<(i:Int))=false:=by simp;omega
      iterate 3 (refine pW ?_ rfl rfl (by kernel_rfl) (fun _ _ _=>id) (by rfl) ?_ ?_ ?_ ?_;rotate_left;(intro w';go_simp;with_reducible rfl);rotate_left;(simp only [aP,i64_w,i32_w];rfl))
      (refine pN 3 47 (ms 13 4) rfl rfl (by kernel_rfl) (fun _ _ _=>id) (by rfl) ?_ ?_ ?_;rotate_left;(simp only [aP,i64_w,i32_w];rfl))
      (refine pN 4 48 (ms 13 5) rfl rfl (by kernel_rfl) (fun _ _ _=>id) (by rfl) ?_ ?_ ?_;rotate_left;(simp only [aP,i64_w,i32_w];rfl))
      (refine pN 5 49 (ms 13 6) rfl rfl (by kernel_rfl) (fun _ _ _=>id) (by rfl) ?_ ?_ ?_;rotate_left;(simp only [aP,i64_w,i32_w];rfl))
      (refine pN 6 50 (ms 13 7) rfl rfl (by kernel_rfl) (fun _ _ _=>id) (by rfl) ?_ ?_ ?_;rotate_left;(simp only [aP,i64_w,i32_w];rfl))
      (refine pN 7 51 (ms 13 8) rfl rfl (by kernel_rfl) (fun _ _ _=>id) (by rfl) ?_ ?_ ?_;rotate_left;(simp only [aP,i64_w,i32_w];rfl))
      (refine pN 8 52 (ms 13 9) rfl rfl (by kernel_rfl) (fun _ _ _=>id) (by rfl) ?_ ?_ ?_;rotate_left;(simp only [aP,i64_w,i32_w];rfl))
      (refine pN 9 53 (ms 13 10) rfl rfl (by kernel_rfl) (fun _ _ _=>id) (by rfl) ?_ ?_ ?_;rotate_left;(simp only [aP,i64_w,i32_w];rfl))
      (refine pN 10 54 (ms 13 11) rfl rfl (by kernel_rfl) (fun _ _ _=>id) (by rfl) ?_ ?_ ?_;rotate_left;(simp only [aP,i64_w,i32_w];rfl))
      iterate 2 (refine pW ?_ rfl rfl (by kernel_rfl) (fun _ _ _=>id) (by rfl) ?_ ?_ ?_ ?_;rotate_left;(intro w';go_simp;with_reducible rfl);rotate_left;(simp only [aP,i64_w,i32_w];rfl))
      refine done_ (by kernel_rfl) ?_
      go_wp2_with fail
      go_meet
      exact ⟨rfl,pH hHeld⟩
     ·obtain ⟨m,hm⟩:∃ m,m + 1=i:=⟨i - 1,by omega⟩
      have hml:m<l.length:=by omega
      have hgt:decide (0<i)=true:=by simp;omega
      obtain ⟨ad',hade,hatm⟩:=c_at HR.out m hml
      obtain rfl:=Option.some.inj hade
      have HATM:=pH (hatm.below HN6.out.below)
      have HEY:=pH (lyr_two HF.out (List.mem_map_of_mem (f:=chOf) (List.getElem_mem hml)))
      obtain ⟨y,hy⟩:∃ y,y=chOf l[m]:=⟨_,rfl⟩
      rw [← hy] at HATM HEY
      have HO:Hid (lessM (tarM y.op y.path) (tarM e.op e.path)=ok3):=pH (by
       rw [H3.out];unfold prevC;rw [if_neg h0,← hm,Nat.add_sub_cancel,List.getElem?_map,List.getElem?_eq_getElem hml,hy];rfl)
      have hsub:IntKind.i64.wrap ((i:Int) - 1)=(m:Int):=by have:=HL.out;rw [← hm,IntWalk.i64_in _ (by omega)];omega
      clear hade hatm hy h0
      iterate 5 (refine pW ?_ rfl rfl (by kernel_rfl) (fun _ _ _=>id) (by rfl) ?_ ?_ ?_ ?_;rotate_left;(intro w';go_simp;with_reducible rfl);rotate_left;(simp only [aP,i64_w,i32_w];rfl))
      (refine pU 5 49 ?_ (ms 13 6) rfl rfl (by kernel_rfl) (fun _ _ _=>id) (by rfl) ?_ ?_ ?_ ?_;rotate_left;(intro w';have hsub1:=hsub;go_simp;with_reducible rfl);rotate_left;(simp only [aP,i64_w,i32_w];rfl))
      have hm0:(0:Int)≤(m:Int):=by omega
      have hm1:(m:Int)<(l.length:Int):=by omega
      refine pW ?_ rfl rfl (by kernel_rfl) (fun _ _ _=>id) (by rfl) ?_ ?_ ?_ ?_;rotate_left;(intro w';go_simp;with_reducible rfl);rotate_left;(simp only [aP,i64_w,i32_w];rfl)
      refine take_ (i:=7) (N:=some 51) (v:=.agg (pz13 y).toArray) (a':=?_) (ms 13 8) rfl rfl (by kernel_rfl) (fun _ _ _ h=>h) (yi_agg (by rfl) 57 _ rfl _ rfl _ _ (fun w' hb=>HATM.out.below hb) HU.out rfl rfl) hHeld ?_ ?_;rotate_left;(simp only [aP,i64_w,i32_w];rfl)
      refine take_ (i:=8) (N:=some 52) (v:=.agg (pz13 e).toArray) (a':=?_) (ms 13 9) rfl rfl (by kernel_rfl) (fun _ _ _ h=>h) (yi_agg (by rfl) 57 _ rfl _ rfl _ _ (fun w' hb=>HL6.out.below hb) HU.out rfl rfl) hHeld ?_ ?_;rotate_left;(simp only [aP,i64_w,i32_w];rfl)
      refine one_ (i:=9) (N:=some 53) (ms 13 10) rfl rfl (by kernel_rfl) (by decide) (fun K hK=>?_)
      refine goes_ Tryz.func45 (by kernel_rfl) rfl #[.agg (pz13 y).toArray,.agg (pz13 e).toArray] (by rfl) rfl rfl (by simp only [pM];rfl) ?_
      refine (less_calls _ (hG.ext (pbt HN6.out.below hHeld)) y e HEY.out.1 HE.out.1).mono ?_
      rintro x w6 ⟨rfl,hb6⟩
      refine ⟨_,rfl,?_⟩
      have HB6:=pH hb6
      clear hb6
      refine hK.out _ _ (pbt hHeld HB6.out) (fun hHeld=>?_)
      clear hK K
      refine norm_ (a':=?_) ?_ ?_
      rotate_left
      ·show Act.put _ (some 53) _=_
       (simp only [aP,i64_w,i32_w];rfl)
      rw [HO.out]
      iterate 3 (refine pW ?_ rfl rfl (by kernel_rfl) (fun _ _ _=>id) (by rfl) ?_ ?_ ?_ ?_;rotate_left;(intro w';go_simp;with_reducible rfl);rotate_left;(simp only [aP,i64_w,i32_w];rfl))
      refine done_ (by kernel_rfl) ?_
      go_wp2_with fail
      go_meet
      exact ⟨rfl,pH hHeld⟩
    case rest =>
    obtain ⟨rfl,hb7⟩:=hcut
    have HB7:=pH (pbt HN6.out.below hb7.out)
    clear hb7
    cases ok3 with
    | false =>
     go_wp2_with fail
     go_ret
     exact ⟨by rw [HG1.out];rfl,HB7.out⟩
    | true =>
     have HG2:Hid (rightC Y (l.map chOf)=cGo (prevC (l.map chOf) (i + 1)) ((l.map chOf).drop (i + 1))):=pH (by rw [HG1.out,HP1.out];rfl)
     have HII:Hid (i + 1≤l.length):=pH hi
     have HLL:=HL.out
     go_wp2_with fail
     go_roundg g1
     case measure=>omega
     case rel=>exact ⟨i + 1,by go_num,by omega,HII,HG2,HB7⟩
  ·have he:i=l.length:=by have:=HI.out;omega
   subst he
   go_wp2_with fail
   go_ret
   refine ⟨?_,HB.out⟩
   rw [HG.out,List.drop_eq_nil_of_le (by simp)]
   rfl
end Go.Proofs.Zq
end
