/- A part of a proof of TreeTwiceCardSaid of this seat: what its walks and its laws lean on; joined by a program of this repo (wip/pack.py) out of the texts XMRight, QTreePlain, QEq26, QChangeRight, XNode2, XBox, XDraw, XNd1. -/
import Derived.Deep.MidRow
import Derived.Lib.SlMapFilter
import Derived.Maps.OwnSet
import Derived.Maps.RangeWalk
import Derived.Sort.KeysCollected
import Derived.Test.YtdkjinmkallhnaaGreatDoorKAB
import Derived.Test.YtdkjinmkallhnaaGreatDoorKAD
import Derived.Test.YtdkjinmkallhnaaGreatDoorKAE
import Derived.Test.YtdkjinmkallhnaaGreatDoorKAH
set_option linter.unusedSimpArgs false
set_option linter.unusedVariables false
section
namespace Go.Proofs.YtdkjinmkallhnaaGreatDoorQ
open Go.RowKit Go.Proofs.YtdkjinmkallhnaaGreatDoor Go.Proofs.YtdkjinmkallhnaaGreatDoorW.PrintWords Go.Proofs.YtdkjinmkallhnaaGreatDoorW.PrintLast Go.Proofs.YtdkjinmkallhnaaGreatDoorW.PrintMore
theorem strange_calls (w:World) (s:Str):Calls Tryz.prog 84 #[.string (B s)] w fun e w'=>e=.returned (.bool (strangeM s))∧Below w.heap.size w w' :=
  (mktar_strange.calls (B s) _ w (strange_f s)).mono fun _ _ ⟨h,hd⟩=>⟨h,hd.below⟩
theorem number_calls (w:World) (n:Int):Calls Tryz.prog 85 #[.int .i64 n] w fun e w'=>e=.returned (.bool (numberM n))∧Below w.heap.size w w' :=
  (mktar_number.calls n _ w (number_f n)).mono fun _ _ ⟨h,hd⟩=>⟨h,hd.below⟩
theorem device_calls (w:World) (n:Int):Calls Tryz.prog 86 #[.int .i64 n] w fun e w'=>e=.returned (.bool (deviceM n))∧Below w.heap.size w w' :=
  mktar_device.calls 21 n _ w (device_f n 21 (by omega))
def ndZero0:Array Value:=#[.int .i64 0,.int .i64 0,.int .i64 0,.int .i64 0,.int .i64 0,.string (⟨#[]⟩:ByteArray),.string (⟨#[]⟩:ByteArray),.int .i64 0,.int .i64 0,.string (⟨#[]⟩:ByteArray)]
def nodeA (n:Nd):Bool:=decide (0≤n.kind) && decide (n.kind<7) && decide (Go.bits .andNot .i64 n.mode 4095=0) && numberM n.uid && numberM n.gid && numberM n.mtime
def nodeB (n:Nd):Bool:=nodeA n && !strangeM n.link && deviceM n.major && deviceM n.minor && attrsOk n.attrs
def nodeC (n:Nd):Bool:=nodeB n && (decide (n.kind=2) || decide (n.kind=3) || n.link.isEmpty)
def nodeD (n:Nd):Bool:=nodeC n && (decide (n.kind=4) || decide (n.kind=5) || decide (n.major=0) && decide (n.minor=0))
structure AtN (w0 w:World) (g:Nat) (n:Nd):Prop where
  blk:w.heap[g]?=some (.cells (ndCells n).toArray 26 (0,0))
  below:Below w0.heap.size w0 w
theorem AtN.ext {w0 w w1:World} {g:Nat} {n:Nd} (h:AtN w0 w g n) (hb:Below w.heap.size w w1):AtN w0 w1 g n:=⟨blk_below h.blk hb,Go.Proofs.YtdkjinmkallhnaaGreatDoor.below_then h.below hb⟩
theorem AtN.at {w0 w:World} {g:Nat} {n:Nd} (h:AtN w0 w g n) (j:Nat) {v:Value} (hv:(ndCells n)[j]?=some v):w.cell? ⟨g,j,none⟩=some v:=by
  rw [Go.Proofs.YtdkjinmkallhnaaGreatDoor.blk_cell h.blk];simpa using hv
set_option maxRecDepth 100000 in
set_option maxHeartbeats 1000000 in
theorem right_calls (w:World) (hG:GL w) (s:Str) (n:Nd) (ha:n.attrs.length≤10000000) :
    Calls Tryz.prog 53 #[.agg (eCells (s,n)).toArray] w fun e w'=>e=.returned (.int .i64 (rtM s n))∧Below w.heap.size w w':=by
  have HAT:=Lib.hid ha
  clear ha
  have HU:=Lib.hid Tryz.underlying26
  go_enter Tryz.func53,Tryz.ntmps53
  go_upto_region 2 with (first|((with_reducible refine gate_dst (N:=1) rfl ?_);refine box_event rfl (N:=1) rfl (cs:=(eCells (s,n)).toArray) (t:=40) (by kernel_rfl) ?_;intro g1 hg w1 hb hbl;have HB1:=Lib.hid hb;have HBL1:=Lib.hid hbl;clear hg hb hbl;go_frame)|((with_reducible refine gate_dst (N:=6) rfl ?_);refine wpList_load_mid rfl 26 _ rfl g1 1 rfl (ndCells n) _ ?hl HU.out rfl rfl ?_;(case hl=>intro j v hv;rw [Go.Proofs.YtdkjinmkallhnaaGreatDoor.blk_cell HB1.out];simp [eCells];rw [Nat.add_comm 1 j,List.getElem?_cons_succ];exact hv);go_frame)|((with_reducible refine gate_dst (N:=3) rfl ?_);refine box_event rfl (N:=3) rfl (cs:=ndZero0) (t:=26) ?hr ?_;(case hr=>first|(go_simp;done)|(go_simp;rfl));intro g3 hg w2 hb2 hbl2;have HB2:=Lib.hid hb2;have HBL2:=Lib.hid hbl2;have HGE3:Hid (w1.heap.size≤g3):=Lib.hid (by rw [hg];exact Nat.le_refl _);clear hg hb2 hbl2;go_frame)|((with_reducible refine gate_store (t:=26) (p:=3) rfl ?_);refine wpList_store_agg rfl rfl 26 _ _ rfl g3 (ndCells n).toArray rfl rfl 26 ndZero0 HB2.out rfl rfl (by simp [ndCells,Value.oneCell']) ?_;intro w3 hb3 hg3;have HB3:=Lib.hid hb3;have HBL3:Hid (Below w1.heap.size w1 w3):=Lib.hid (HBL2.out.grown hg3 HBL2.out.size (fun j hj=>by cases hj;exact HGE3.out));clear hb3 hg3))
  have HN:Hid (AtN w w3 g3 n):=Lib.hid ⟨HB3.out,Go.Proofs.YtdkjinmkallhnaaGreatDoor.below_then HBL1.out HBL3.out⟩
  have q0:w3.cell? ⟨g1,0,none⟩=some (.string (B s)):=(Go.Proofs.YtdkjinmkallhnaaGreatDoor.blk_cell (blk_below HB1.out HBL3.out) 0).trans (by simp [eCells])
  clear HB1 HB2 HB3 HBL1 HBL2 HBL3 HGE3
  by_cases hs:s=[]
  · subst hs
    go_wp2_with fail
    go_ret
    exact ⟨rfl,HN.out.below⟩
  have hse:s.isEmpty=false:=by cases s with|nil=>exact absurd rfl hs|cons _ _=>rfl
  clear hs
  go_wp2_with fail
  refine (strange_calls w3 s).mono ?_
  rintro e w4 ⟨rfl,hb⟩
  have HN4:=Lib.hid (HN.out.ext hb)
  clear hb q0 HN
  cases hst:strangeM s with
  | true =>
    have HR:Hid (rtM s n=9):=Lib.hid (by unfold rtM;rw [hst,Bool.or_true];rfl)
    go_wp2_with fail
    go_ret
    exact ⟨by rw [HR.out];rfl,HN4.out.below⟩
  | false =>
  have HR:Hid (rtM s n=if nodeD n && (decide (n.kind=0) || n.data.isEmpty) then 0 else 1):=Lib.hid (by
    unfold rtM nodeD nodeC nodeB nodeA nodeOk
    rw [hst,hse]
    simp [Bool.and_assoc])
  have c0:=HN4.out.at 0 (v:=.int .i64 n.kind) rfl
  have c1:=HN4.out.at 1 (v:=.int .i64 n.mode) rfl
  have c2:=HN4.out.at 2 (v:=.int .i64 n.uid) rfl
  have c3:=HN4.out.at 3 (v:=.int .i64 n.gid) rfl
  have c4:=HN4.out.at 4 (v:=.int .i64 n.mtime) rfl
  have c5:=HN4.out.at 5 (v:=.string (B n.link)) rfl
  have c6:=HN4.out.at 6 (v:=.string (B n.data)) rfl
  have c7:=HN4.out.at 7 (v:=.int .i64 n.major) rfl
  have c8:=HN4.out.at 8 (v:=.int .i64 n.minor) rfl
  have c9:=HN4.out.at 9 (v:=.string (B n.attrs)) rfl
  go_upto_region 4 with (fail)
  clear hse
  go_cut [4] (fun v4 wc=>v4=.bool (nodeA n)∧Hid (AtN w wc g3 n))
  case first =>
    cases h1:decide (0≤n.kind) with
    | false =>
      have HV:Hid (nodeA n=false):=Lib.hid (by unfold nodeA;simp [h1])
      go_wp2_with fail
      go_meet
      exact ⟨by rw [HV.out],HN4⟩
    | true =>
    cases h2:decide (n.kind<7) with
    | false =>
      have HV:Hid (nodeA n=false):=Lib.hid (by unfold nodeA;simp [h2])
      go_wp2_with fail
      go_meet
      exact ⟨by rw [HV.out],HN4⟩
    | true =>
    cases h3:(Go.bits .andNot .i64 n.mode 4095 == 0) with
    | false =>
      have h3':¬ Go.bits .andNot .i64 n.mode 4095=0:=by simpa using h3
      have HV:Hid (nodeA n=false):=Lib.hid (by unfold nodeA;simp [h3'])
      go_wp2_with fail
      go_meet
      exact ⟨by rw [HV.out],HN4⟩
    | true =>
    have h3':Go.bits .andNot .i64 n.mode 4095=0:=by simpa using h3
    have H3:=Lib.hid h3'
    clear h3'
    go_wp2_with fail
    refine (number_calls _ n.uid).mono ?_
    rintro e w5 ⟨rfl,hb⟩
    have HN5:=Lib.hid (HN4.out.ext hb)
    clear hb c0 c1 c2 c3 c4 c5 c6 c7 c8 c9
    have c0:=HN5.out.at 0 (v:=.int .i64 n.kind) rfl
    have c1:=HN5.out.at 1 (v:=.int .i64 n.mode) rfl
    have c2:=HN5.out.at 2 (v:=.int .i64 n.uid) rfl
    have c3:=HN5.out.at 3 (v:=.int .i64 n.gid) rfl
    have c4:=HN5.out.at 4 (v:=.int .i64 n.mtime) rfl
    have c5:=HN5.out.at 5 (v:=.string (B n.link)) rfl
    have c6:=HN5.out.at 6 (v:=.string (B n.data)) rfl
    have c7:=HN5.out.at 7 (v:=.int .i64 n.major) rfl
    have c8:=HN5.out.at 8 (v:=.int .i64 n.minor) rfl
    have c9:=HN5.out.at 9 (v:=.string (B n.attrs)) rfl
    cases h4:numberM n.uid with
    | false =>
      have HV:Hid (nodeA n=false):=Lib.hid (by unfold nodeA;simp [h4])
      go_wp2_with fail
      go_meet
      exact ⟨by rw [HV.out],HN5⟩
    | true =>
    go_wp2_with fail
    refine (number_calls _ n.gid).mono ?_
    rintro e w6 ⟨rfl,hb⟩
    have HN6:=Lib.hid (HN5.out.ext hb)
    clear hb c0 c1 c2 c3 c4 c5 c6 c7 c8 c9
    have c0:=HN6.out.at 0 (v:=.int .i64 n.kind) rfl
    have c1:=HN6.out.at 1 (v:=.int .i64 n.mode) rfl
    have c2:=HN6.out.at 2 (v:=.int .i64 n.uid) rfl
    have c3:=HN6.out.at 3 (v:=.int .i64 n.gid) rfl
    have c4:=HN6.out.at 4 (v:=.int .i64 n.mtime) rfl
    have c5:=HN6.out.at 5 (v:=.string (B n.link)) rfl
    have c6:=HN6.out.at 6 (v:=.string (B n.data)) rfl
    have c7:=HN6.out.at 7 (v:=.int .i64 n.major) rfl
    have c8:=HN6.out.at 8 (v:=.int .i64 n.minor) rfl
    have c9:=HN6.out.at 9 (v:=.string (B n.attrs)) rfl
    cases h5:numberM n.gid with
    | false =>
      have HV:Hid (nodeA n=false):=Lib.hid (by unfold nodeA;simp [h5])
      go_wp2_with fail
      go_meet
      exact ⟨by rw [HV.out],HN6⟩
    | true =>
    go_wp2_with fail
    refine (number_calls _ n.mtime).mono ?_
    rintro e w7 ⟨rfl,hb⟩
    have HN7:=Lib.hid (HN6.out.ext hb)
    clear hb c0 c1 c2 c3 c4 c5 c6 c7 c8 c9
    have c0:=HN7.out.at 0 (v:=.int .i64 n.kind) rfl
    have c1:=HN7.out.at 1 (v:=.int .i64 n.mode) rfl
    have c2:=HN7.out.at 2 (v:=.int .i64 n.uid) rfl
    have c3:=HN7.out.at 3 (v:=.int .i64 n.gid) rfl
    have c4:=HN7.out.at 4 (v:=.int .i64 n.mtime) rfl
    have c5:=HN7.out.at 5 (v:=.string (B n.link)) rfl
    have c6:=HN7.out.at 6 (v:=.string (B n.data)) rfl
    have c7:=HN7.out.at 7 (v:=.int .i64 n.major) rfl
    have c8:=HN7.out.at 8 (v:=.int .i64 n.minor) rfl
    have c9:=HN7.out.at 9 (v:=.string (B n.attrs)) rfl
    have HV:Hid (nodeA n=numberM n.mtime):=Lib.hid (by unfold nodeA;rw [h1,h2,decide_eq_true H3.out,h4,h5];simp)
    go_wp2_with fail
    go_meet
    exact ⟨by rw [HV.out],HN7⟩
  case rest =>
  clear c0 c1 c2 c3 c4 c5 c6 c7 c8 c9 HN4
  obtain ⟨rfl,HN4⟩:=hcut
  have c0:=HN4.out.at 0 (v:=.int .i64 n.kind) rfl
  have c1:=HN4.out.at 1 (v:=.int .i64 n.mode) rfl
  have c2:=HN4.out.at 2 (v:=.int .i64 n.uid) rfl
  have c3:=HN4.out.at 3 (v:=.int .i64 n.gid) rfl
  have c4:=HN4.out.at 4 (v:=.int .i64 n.mtime) rfl
  have c5:=HN4.out.at 5 (v:=.string (B n.link)) rfl
  have c6:=HN4.out.at 6 (v:=.string (B n.data)) rfl
  have c7:=HN4.out.at 7 (v:=.int .i64 n.major) rfl
  have c8:=HN4.out.at 8 (v:=.int .i64 n.minor) rfl
  have c9:=HN4.out.at 9 (v:=.string (B n.attrs)) rfl
  go_upto_region 5 with (fail)
  go_cut [4] (fun v4 wc=>v4=.bool (nodeB n)∧Hid (AtN w wc g3 n))
  case first =>
    cases ha:nodeA n with
    | false =>
      have HV:Hid (nodeB n=false):=Lib.hid (by unfold nodeB;simp [ha])
      go_wp2_with fail
      go_meet
      exact ⟨by rw [HV.out],HN4⟩
    | true =>
    go_wp2_with fail
    refine (strange_calls _ n.link).mono ?_
    rintro e w5 ⟨rfl,hb⟩
    have HN5:=Lib.hid (HN4.out.ext hb)
    clear hb c0 c1 c2 c3 c4 c5 c6 c7 c8 c9
    have c0:=HN5.out.at 0 (v:=.int .i64 n.kind) rfl
    have c1:=HN5.out.at 1 (v:=.int .i64 n.mode) rfl
    have c2:=HN5.out.at 2 (v:=.int .i64 n.uid) rfl
    have c3:=HN5.out.at 3 (v:=.int .i64 n.gid) rfl
    have c4:=HN5.out.at 4 (v:=.int .i64 n.mtime) rfl
    have c5:=HN5.out.at 5 (v:=.string (B n.link)) rfl
    have c6:=HN5.out.at 6 (v:=.string (B n.data)) rfl
    have c7:=HN5.out.at 7 (v:=.int .i64 n.major) rfl
    have c8:=HN5.out.at 8 (v:=.int .i64 n.minor) rfl
    have c9:=HN5.out.at 9 (v:=.string (B n.attrs)) rfl
    cases h4:strangeM n.link with
    | true =>
      have HV:Hid (nodeB n=false):=Lib.hid (by unfold nodeB;simp [h4])
      go_wp2_with fail
      go_meet
      exact ⟨by rw [HV.out],HN5⟩
    | false =>
    go_wp2_with fail
    refine (device_calls _ n.major).mono ?_
    rintro e w6 ⟨rfl,hb⟩
    have HN6:=Lib.hid (HN5.out.ext hb)
    clear hb c0 c1 c2 c3 c4 c5 c6 c7 c8 c9
    have c0:=HN6.out.at 0 (v:=.int .i64 n.kind) rfl
    have c1:=HN6.out.at 1 (v:=.int .i64 n.mode) rfl
    have c2:=HN6.out.at 2 (v:=.int .i64 n.uid) rfl
    have c3:=HN6.out.at 3 (v:=.int .i64 n.gid) rfl
    have c4:=HN6.out.at 4 (v:=.int .i64 n.mtime) rfl
    have c5:=HN6.out.at 5 (v:=.string (B n.link)) rfl
    have c6:=HN6.out.at 6 (v:=.string (B n.data)) rfl
    have c7:=HN6.out.at 7 (v:=.int .i64 n.major) rfl
    have c8:=HN6.out.at 8 (v:=.int .i64 n.minor) rfl
    have c9:=HN6.out.at 9 (v:=.string (B n.attrs)) rfl
    cases h5:deviceM n.major with
    | false =>
      have HV:Hid (nodeB n=false):=Lib.hid (by unfold nodeB;simp [h5])
      go_wp2_with fail
      go_meet
      exact ⟨by rw [HV.out],HN6⟩
    | true =>
    go_wp2_with fail
    refine (device_calls _ n.minor).mono ?_
    rintro e w7 ⟨rfl,hb⟩
    have HN7:=Lib.hid (HN6.out.ext hb)
    clear hb c0 c1 c2 c3 c4 c5 c6 c7 c8 c9
    have c0:=HN7.out.at 0 (v:=.int .i64 n.kind) rfl
    have c1:=HN7.out.at 1 (v:=.int .i64 n.mode) rfl
    have c2:=HN7.out.at 2 (v:=.int .i64 n.uid) rfl
    have c3:=HN7.out.at 3 (v:=.int .i64 n.gid) rfl
    have c4:=HN7.out.at 4 (v:=.int .i64 n.mtime) rfl
    have c5:=HN7.out.at 5 (v:=.string (B n.link)) rfl
    have c6:=HN7.out.at 6 (v:=.string (B n.data)) rfl
    have c7:=HN7.out.at 7 (v:=.int .i64 n.major) rfl
    have c8:=HN7.out.at 8 (v:=.int .i64 n.minor) rfl
    have c9:=HN7.out.at 9 (v:=.string (B n.attrs)) rfl
    cases h6:deviceM n.minor with
    | false =>
      have HV:Hid (nodeB n=false):=Lib.hid (by unfold nodeB;simp [h6])
      go_wp2_with fail
      go_meet
      exact ⟨by rw [HV.out],HN7⟩
    | true =>
    go_wp2_with fail
    refine (attrs_calls _ (hG.ext HN7.out.below) n.attrs HAT.out).mono ?_
    rintro e w8 ⟨rfl,hb⟩
    have HN8:=Lib.hid (HN7.out.ext hb)
    clear hb c0 c1 c2 c3 c4 c5 c6 c7 c8 c9
    have c0:=HN8.out.at 0 (v:=.int .i64 n.kind) rfl
    have c1:=HN8.out.at 1 (v:=.int .i64 n.mode) rfl
    have c2:=HN8.out.at 2 (v:=.int .i64 n.uid) rfl
    have c3:=HN8.out.at 3 (v:=.int .i64 n.gid) rfl
    have c4:=HN8.out.at 4 (v:=.int .i64 n.mtime) rfl
    have c5:=HN8.out.at 5 (v:=.string (B n.link)) rfl
    have c6:=HN8.out.at 6 (v:=.string (B n.data)) rfl
    have c7:=HN8.out.at 7 (v:=.int .i64 n.major) rfl
    have c8:=HN8.out.at 8 (v:=.int .i64 n.minor) rfl
    have c9:=HN8.out.at 9 (v:=.string (B n.attrs)) rfl
    have HV:Hid (nodeB n=attrsOk n.attrs):=Lib.hid (by unfold nodeB;rw [ha,h4,h5,h6];simp)
    go_wp2_with fail
    go_meet
    exact ⟨by rw [HV.out],HN8⟩
  case rest =>
  clear c0 c1 c2 c3 c4 c5 c6 c7 c8 c9 HN4
  obtain ⟨rfl,HN4⟩:=hcut
  have c0:=HN4.out.at 0 (v:=.int .i64 n.kind) rfl
  have c1:=HN4.out.at 1 (v:=.int .i64 n.mode) rfl
  have c2:=HN4.out.at 2 (v:=.int .i64 n.uid) rfl
  have c3:=HN4.out.at 3 (v:=.int .i64 n.gid) rfl
  have c4:=HN4.out.at 4 (v:=.int .i64 n.mtime) rfl
  have c5:=HN4.out.at 5 (v:=.string (B n.link)) rfl
  have c6:=HN4.out.at 6 (v:=.string (B n.data)) rfl
  have c7:=HN4.out.at 7 (v:=.int .i64 n.major) rfl
  have c8:=HN4.out.at 8 (v:=.int .i64 n.minor) rfl
  have c9:=HN4.out.at 9 (v:=.string (B n.attrs)) rfl
  go_upto_block 0 with (fail)
  go_cut [4] (fun v4 wc=>v4=.bool (nodeC n)∧Hid (AtN w wc g3 n))
  case first =>
    cases h1:(n.kind == 2) with
    | true =>
      have h1':n.kind=2:=by simpa using h1
      have HV:Hid (nodeC n=nodeB n):=Lib.hid (by unfold nodeC;simp [h1'])
      go_wp2_with fail
      go_meet
      exact ⟨by rw [HV.out],HN4⟩
    | false =>
    cases h2:(n.kind == 3) with
    | true =>
      have h2':n.kind=3:=by simpa using h2
      have HV:Hid (nodeC n=nodeB n):=Lib.hid (by unfold nodeC;simp [h2'])
      go_wp2_with fail
      go_meet
      exact ⟨by rw [HV.out],HN4⟩
    | false =>
    have h1':¬ n.kind=2:=by simpa using h1
    have h2':¬ n.kind=3:=by simpa using h2
    cases h3:nodeB n with
    | false =>
      have HV:Hid (nodeC n=false):=Lib.hid (by unfold nodeC;simp [h3])
      go_wp2_with fail
      go_meet
      exact ⟨by rw [HV.out],HN4⟩
    | true =>
      have HV:Hid (nodeC n=n.link.isEmpty):=Lib.hid (by unfold nodeC;simp [h1',h2',h3])
      go_wp2_with fail
      go_meet
      exact ⟨by rw [HV.out],HN4⟩
  case rest =>
  clear c0 c1 c2 c3 c4 c5 c6 c7 c8 c9 HN4
  obtain ⟨rfl,HN4⟩:=hcut
  have c0:=HN4.out.at 0 (v:=.int .i64 n.kind) rfl
  have c1:=HN4.out.at 1 (v:=.int .i64 n.mode) rfl
  have c2:=HN4.out.at 2 (v:=.int .i64 n.uid) rfl
  have c3:=HN4.out.at 3 (v:=.int .i64 n.gid) rfl
  have c4:=HN4.out.at 4 (v:=.int .i64 n.mtime) rfl
  have c5:=HN4.out.at 5 (v:=.string (B n.link)) rfl
  have c6:=HN4.out.at 6 (v:=.string (B n.data)) rfl
  have c7:=HN4.out.at 7 (v:=.int .i64 n.major) rfl
  have c8:=HN4.out.at 8 (v:=.int .i64 n.minor) rfl
  have c9:=HN4.out.at 9 (v:=.string (B n.attrs)) rfl
  go_upto_block 1 with (fail)
  go_cut [4] (fun v4 wc=>v4=.bool (nodeD n)∧Hid (AtN w wc g3 n))
  case first =>
    cases h1:(n.kind == 4) with
    | true =>
      have h1':n.kind=4:=by simpa using h1
      have HV:Hid (nodeD n=nodeC n):=Lib.hid (by unfold nodeD;simp [h1'])
      go_wp2_with fail
      go_meet
      exact ⟨by rw [HV.out],HN4⟩
    | false =>
    cases h2:(n.kind == 5) with
    | true =>
      have h2':n.kind=5:=by simpa using h2
      have HV:Hid (nodeD n=nodeC n):=Lib.hid (by unfold nodeD;simp [h2'])
      go_wp2_with fail
      go_meet
      exact ⟨by rw [HV.out],HN4⟩
    | false =>
    have h1':¬ n.kind=4:=by simpa using h1
    have h2':¬ n.kind=5:=by simpa using h2
    cases h3:nodeC n with
    | false =>
      have HV:Hid (nodeD n=false):=Lib.hid (by unfold nodeD;simp [h3])
      go_wp2_with fail
      go_meet
      exact ⟨by rw [HV.out],HN4⟩
    | true =>
    cases h4:(n.major == 0) with
    | false =>
      have h4':¬ n.major=0:=by simpa using h4
      have HV:Hid (nodeD n=false):=Lib.hid (by unfold nodeD;simp [h1',h2',h4'])
      go_wp2_with fail
      go_meet
      exact ⟨by rw [HV.out],HN4⟩
    | true =>
      have h4':n.major=0:=by simpa using h4
      have HV:Hid (nodeD n=(n.minor == 0)):=Lib.hid (by unfold nodeD;rw [h3];simp [h1',h2',h4'];rw [Bool.eq_iff_iff];simp)
      clear h1' h2' h4'
      go_wp2_with fail
      go_meet
      exact ⟨by rw [HV.out],HN4⟩
  case rest =>
  clear c0 c1 c2 c3 c4 c5 c6 c7 c8 c9 HN4
  obtain ⟨rfl,HN4⟩:=hcut
  have c0:=HN4.out.at 0 (v:=.int .i64 n.kind) rfl
  have c1:=HN4.out.at 1 (v:=.int .i64 n.mode) rfl
  have c2:=HN4.out.at 2 (v:=.int .i64 n.uid) rfl
  have c3:=HN4.out.at 3 (v:=.int .i64 n.gid) rfl
  have c4:=HN4.out.at 4 (v:=.int .i64 n.mtime) rfl
  have c5:=HN4.out.at 5 (v:=.string (B n.link)) rfl
  have c6:=HN4.out.at 6 (v:=.string (B n.data)) rfl
  have c7:=HN4.out.at 7 (v:=.int .i64 n.major) rfl
  have c8:=HN4.out.at 8 (v:=.int .i64 n.minor) rfl
  have c9:=HN4.out.at 9 (v:=.string (B n.attrs)) rfl
  cases h1:nodeD n with
  | false =>
    have HV:Hid (rtM s n=1):=Lib.hid (by rw [HR.out,h1];rfl)
    go_wp2_with fail
    go_ret
    exact ⟨by rw [HV.out];rfl,HN4.out.below⟩
  | true =>
  cases h2:(n.kind != 0) with
  | false =>
    have h2':n.kind=0:=by simpa using h2
    have HV:Hid (rtM s n=0):=Lib.hid (by rw [HR.out,h1,h2'];rfl)
    clear h2'
    go_wp2_with fail
    go_ret
    exact ⟨by rw [HV.out];rfl,HN4.out.below⟩
  | true =>
  have h2':¬ n.kind=0:=by simpa using h2
  cases h3:n.data.isEmpty with
  | true =>
    have HV:Hid (rtM s n=0):=Lib.hid (by rw [HR.out,h1,h3,Bool.or_true];rfl)
    clear h2'
    go_wp2_with fail
    go_ret
    exact ⟨by rw [HV.out];rfl,HN4.out.below⟩
  | false =>
    have HV:Hid (rtM s n=1):=Lib.hid (by rw [HR.out,h1,h3,decide_eq_false h2'];rfl)
    clear h2'
    go_wp2_with fail
    go_ret
    exact ⟨by rw [HV.out];rfl,HN4.out.below⟩
def mktar_Right.f (a0:ByteArray) (a1 a2 a3 a4 a5:Int) (a6 a7:ByteArray) (a8 a9:Int) (a10:ByteArray):Option Int:=if a10.size≤10000000 then some (rtM a0.data.toList ⟨a1,a2,a3,a4,a5,a6.data.toList,a7.data.toList,a8,a9,a10.data.toList⟩) else none
theorem mktar_Right.calls (a0:ByteArray) (a1 a2 a3 a4 a5:Int) (a6 a7:ByteArray) (a8 a9:Int) (a10:ByteArray) (r:Int) (w:World) (hG:GL w) (h:mktar_Right.f a0 a1 a2 a3 a4 a5 a6 a7 a8 a9 a10=some r) :
    Calls Tryz.prog 53 #[.agg #[.string a0,.int .i64 a1,.int .i64 a2,.int .i64 a3,.int .i64 a4,.int .i64 a5,.string a6,.string a7,.int .i64 a8,.int .i64 a9,.string a10]] w fun e w'=>e=.returned (.int .i64 r)∧Below w.heap.size w w':=by
  unfold mktar_Right.f at h
  split at h
  · rename_i hs
    cases h
    exact right_calls w hG a0.data.toList ⟨a1,a2,a3,a4,a5,a6.data.toList,a7.data.toList,a8,a9,a10.data.toList⟩ hs
  · cases h
end Go.Proofs.YtdkjinmkallhnaaGreatDoorQ
end
section
namespace Go.Proofs.YtdkjinmkallhnaaGreatDoorQ
open Go.RowKit Go.Proofs.YtdkjinmkallhnaaGreatDoorW.PrintWords Go.Proofs.YtdkjinmkallhnaaGreatDoorW.PrintLast Go.Proofs.YtdkjinmkallhnaaGreatDoorW.PrintMore
open Go.Proofs.YtdkjinmkallhnaaGreatDoor (GL)
attribute [local go_sem] max2_int min2_int max_two min_two max_three min_three max_four min_four
def tree_plain.f (k:Nat) (a0_0:ByteArray) (a0_1:Int) (a0_2:Int) (a0_3:Int) (a0_4:Int) (a0_5:Int) (a0_6:ByteArray) (a0_7:ByteArray) (a0_8:Int) (a0_9:Int) (a0_10:ByteArray):Option (Bool):=(paths_Mark.f k a0_0).bind fun bt286=>(if bt286.2.2=true then (if bt286.1=0 then ((mktar_Right.f a0_0 a0_1 a0_2 a0_3 a0_4 a0_5 a0_6 a0_7 a0_8 a0_9 a0_10).bind fun t289=>(some (t289 == 0))) else (some false)) else (some false))
set_option maxHeartbeats 8000000 in
set_option maxRecDepth 100000 in
theorem tree_plain.calls (k:Nat) (a0_0:ByteArray) (a0_1:Int) (a0_2:Int) (a0_3:Int) (a0_4:Int) (a0_5:Int) (a0_6:ByteArray) (a0_7:ByteArray) (a0_8:Int) (a0_9:Int) (a0_10:ByteArray) (r:Bool) (w:World) (hG:GL w) (h:tree_plain.f k a0_0 a0_1 a0_2 a0_3 a0_4 a0_5 a0_6 a0_7 a0_8 a0_9 a0_10=some r) :
  Calls Tryz.prog 37 #[.agg #[.string a0_0,.int .i64 a0_1,.int .i64 a0_2,.int .i64 a0_3,.int .i64 a0_4,.int .i64 a0_5,.string a0_6,.string a0_7,.int .i64 a0_8,.int .i64 a0_9,.string a0_10]] w fun e w'=>e=.returned (.bool r)∧Below w.heap.size w w':=by
 have hu40:=Tryz.underlying40
 have HB:=Aside0.mk (Below.refl w.heap.size w)
 have H:((paths_Mark.f k a0_0).bind fun bt286=>(if bt286.2.2=true then (if bt286.1=0 then ((mktar_Right.f a0_0 a0_1 a0_2 a0_3 a0_4 a0_5 a0_6 a0_7 a0_8 a0_9 a0_10).bind fun t289=>(some (t289 == 0))) else (some false)) else (some false)))=some r:=h
 clear h
 replace H:=Option.bind_eq_some_iff.mp H
 obtain ⟨⟨t286,t287,t288⟩,A20,H⟩:=H
 replace H:(if t288=true then (if t286=0 then ((mktar_Right.f a0_0 a0_1 a0_2 a0_3 a0_4 a0_5 a0_6 a0_7 a0_8 a0_9 a0_10).bind fun t289=>(some (t289 == 0))) else (some false)) else (some false))=some r:=H
 have A2:=Aside0.mk A20
 clear A20
 by_cases c3:t288=true
 ·subst c3
  have H1:(if t286=0 then ((mktar_Right.f a0_0 a0_1 a0_2 a0_3 a0_4 a0_5 a0_6 a0_7 a0_8 a0_9 a0_10).bind fun t289=>(some (t289 == 0))) else (some false))=some r:=by rw [if_pos rfl] at H;exact H
  clear H
  have H:=H1
  clear H1
  by_cases c4:t286=0
  ·rw [if_pos c4] at H
   have c4b0:(t286 == 0)=true:=beq_iff_eq.mpr c4
   have c4b1:(t286 != 0)=false:=bne_eq_false_iff_eq.mpr c4
   clear c4
   replace H:=Option.bind_eq_some_iff.mp H
   obtain ⟨t289,A50,H⟩:=H
   replace H:(some (t289 == 0))=some r:=H
   have A5:=Aside0.mk A50
   clear A50
   obtain rfl:=Option.some.inj H
   go_enter Tryz.func37,Tryz.ntmps37
   go_wp2_with (first|((with_reducible refine gate_dst (N:=1) rfl ?_);refine box_event ?hg (N:=1) ?hd (cs:=#[.string a0_0,.int .i64 a0_1,.int .i64 a0_2,.int .i64 a0_3,.int .i64 a0_4,.int .i64 a0_5,.string a0_6,.string a0_7,.int .i64 a0_8,.int .i64 a0_9,.string a0_10]) (t:=40) ?hr ?_;(case hd=>rfl);(case hg=>rfl);(case hr=>first|(go_simp;done)|(go_simp;rfl));intro gb285 hg w6 hbox hb;have n0_:=Aside0.mk (below_step (by repeat (first|(with_reducible first|exact HB.out|apply below_alloc|apply pw_below_drewN|apply below_drew1)|exact HB.out)) hb);have n1_:=Aside0.mk (hbox);have n2_:=Aside0.mk ((by rw [hg];exact (below_size (by repeat (first|(with_reducible first|exact HB.out|apply below_alloc|apply pw_below_drewN|apply below_drew1)|exact HB.out))):w.heap.size≤gb285));have n3_:=Aside0.mk ((by rw [hg];exact (below_size (by repeat (first|(with_reducible first|exact HB.out|apply below_alloc|apply pw_below_drewN|apply below_drew1)|exact HB.out))):w.heap.size≤gb285));clear HB;have HB:=n0_;have BK285:=n1_;have GW285:=n2_;have GE285:=n3_;clear n0_ n1_ n2_ n3_;clear hb hbox hg;have hcz7_0:w6.cell? ⟨gb285,0,none⟩=some (.string a0_0):=(blk_cell BK285.out 0).trans rfl;have hcz7_1:w6.cell? ⟨gb285,1,none⟩=some (.int .i64 a0_1):=(blk_cell BK285.out 1).trans rfl;have hcz7_2:w6.cell? ⟨gb285,2,none⟩=some (.int .i64 a0_2):=(blk_cell BK285.out 2).trans rfl;have hcz7_3:w6.cell? ⟨gb285,3,none⟩=some (.int .i64 a0_3):=(blk_cell BK285.out 3).trans rfl;have hcz7_4:w6.cell? ⟨gb285,4,none⟩=some (.int .i64 a0_4):=(blk_cell BK285.out 4).trans rfl;have hcz7_5:w6.cell? ⟨gb285,5,none⟩=some (.int .i64 a0_5):=(blk_cell BK285.out 5).trans rfl;have hcz7_6:w6.cell? ⟨gb285,6,none⟩=some (.string a0_6):=(blk_cell BK285.out 6).trans rfl;have hcz7_7:w6.cell? ⟨gb285,7,none⟩=some (.string a0_7):=(blk_cell BK285.out 7).trans rfl;have hcz7_8:w6.cell? ⟨gb285,8,none⟩=some (.int .i64 a0_8):=(blk_cell BK285.out 8).trans rfl;have hcz7_9:w6.cell? ⟨gb285,9,none⟩=some (.int .i64 a0_9):=(blk_cell BK285.out 9).trans rfl;have hcz7_10:w6.cell? ⟨gb285,10,none⟩=some (.string a0_10):=(blk_cell BK285.out 10).trans rfl;have hfz7_0:=blk_frozen BK285.out 0;have hfz7_1:=blk_frozen BK285.out 1;have hfz7_2:=blk_frozen BK285.out 2;have hfz7_3:=blk_frozen BK285.out 3;have hfz7_4:=blk_frozen BK285.out 4;have hfz7_5:=blk_frozen BK285.out 5;have hfz7_6:=blk_frozen BK285.out 6;have hfz7_7:=blk_frozen BK285.out 7;have hfz7_8:=blk_frozen BK285.out 8;have hfz7_9:=blk_frozen BK285.out 9;have hfz7_10:=blk_frozen BK285.out 10)|((with_reducible refine gate_callee (f:=58) rfl ?_);refine goesL_ (some 9) rfl rfl Tryz.func58 (by kernel_rfl) rfl #[.string a0_0] rfl (by (try simp only [List.map_toArray,List.map_cons,List.map_nil]);first|done|rfl|(simp only [List.length_drop,List.length_take];rfl)) ?_;(with_reducible refine (paths_Mark.calls k a0_0 t286 t287 true _ (hG.ext (by repeat (first|(with_reducible first|exact HB.out|apply below_alloc|apply pw_below_drewN|apply below_drew1|refine below_set ?_ GE285.out)|exact HB.out))) A2.out).mono ?_);rintro e w8 ⟨rfl,hb⟩;refine ⟨_,rfl,?_⟩;have n0_:=Aside0.mk (blk_below (g:=gb285) (o:=.cells #[.string a0_0,.int .i64 a0_1,.int .i64 a0_2,.int .i64 a0_3,.int .i64 a0_4,.int .i64 a0_5,.string a0_6,.string a0_7,.int .i64 a0_8,.int .i64 a0_9,.string a0_10] 40 (0,0)) (by (with_reducible repeat (first|refine blk_drewN ?_ _|refine blk_drew ?_|refine blk_alloc ?_ _));exact BK285.out) hb);have n1_:=Aside0.mk (below_step (by repeat (first|(with_reducible first|exact HB.out|apply below_alloc|apply pw_below_drewN|apply below_drew1|refine below_set ?_ GE285.out)|exact HB.out)) hb);clear BK285;clear HB;have BK285:=n0_;have HB:=n1_;clear n0_ n1_;(try clear hb);(try clear hb2);(try clear hk);(try clear hi);have hcz9_0:w8.cell? ⟨gb285,0,none⟩=some (.string a0_0):=(blk_cell BK285.out 0).trans rfl;have hcz9_1:w8.cell? ⟨gb285,1,none⟩=some (.int .i64 a0_1):=(blk_cell BK285.out 1).trans rfl;have hcz9_2:w8.cell? ⟨gb285,2,none⟩=some (.int .i64 a0_2):=(blk_cell BK285.out 2).trans rfl;have hcz9_3:w8.cell? ⟨gb285,3,none⟩=some (.int .i64 a0_3):=(blk_cell BK285.out 3).trans rfl;have hcz9_4:w8.cell? ⟨gb285,4,none⟩=some (.int .i64 a0_4):=(blk_cell BK285.out 4).trans rfl;have hcz9_5:w8.cell? ⟨gb285,5,none⟩=some (.int .i64 a0_5):=(blk_cell BK285.out 5).trans rfl;have hcz9_6:w8.cell? ⟨gb285,6,none⟩=some (.string a0_6):=(blk_cell BK285.out 6).trans rfl;have hcz9_7:w8.cell? ⟨gb285,7,none⟩=some (.string a0_7):=(blk_cell BK285.out 7).trans rfl;have hcz9_8:w8.cell? ⟨gb285,8,none⟩=some (.int .i64 a0_8):=(blk_cell BK285.out 8).trans rfl;have hcz9_9:w8.cell? ⟨gb285,9,none⟩=some (.int .i64 a0_9):=(blk_cell BK285.out 9).trans rfl;have hcz9_10:w8.cell? ⟨gb285,10,none⟩=some (.string a0_10):=(blk_cell BK285.out 10).trans rfl;have hfz9_0:=blk_frozen BK285.out 0;have hfz9_1:=blk_frozen BK285.out 1;have hfz9_2:=blk_frozen BK285.out 2;have hfz9_3:=blk_frozen BK285.out 3;have hfz9_4:=blk_frozen BK285.out 4;have hfz9_5:=blk_frozen BK285.out 5;have hfz9_6:=blk_frozen BK285.out 6;have hfz9_7:=blk_frozen BK285.out 7;have hfz9_8:=blk_frozen BK285.out 8;have hfz9_9:=blk_frozen BK285.out 9;have hfz9_10:=blk_frozen BK285.out 10)|(go_at_call 53;(with_reducible refine (mktar_Right.calls a0_0 a0_1 a0_2 a0_3 a0_4 a0_5 a0_6 a0_7 a0_8 a0_9 a0_10 t289 _ (hG.ext (by repeat (first|(with_reducible first|exact HB.out|apply below_alloc|apply pw_below_drewN|apply below_drew1|refine below_set ?_ GE285.out)|exact HB.out))) A5.out).mono ?_);rintro e w10 ⟨rfl,hb⟩;have n0_:=Aside0.mk (blk_below (g:=gb285) (o:=.cells #[.string a0_0,.int .i64 a0_1,.int .i64 a0_2,.int .i64 a0_3,.int .i64 a0_4,.int .i64 a0_5,.string a0_6,.string a0_7,.int .i64 a0_8,.int .i64 a0_9,.string a0_10] 40 (0,0)) (by (with_reducible repeat (first|refine blk_drewN ?_ _|refine blk_drew ?_|refine blk_alloc ?_ _));exact BK285.out) hb);have n1_:=Aside0.mk (below_step (by repeat (first|(with_reducible first|exact HB.out|apply below_alloc|apply pw_below_drewN|apply below_drew1|refine below_set ?_ GE285.out)|exact HB.out)) hb);clear BK285;clear HB;have BK285:=n0_;have HB:=n1_;clear n0_ n1_;(try clear hb);(try clear hb2);(try clear hk);(try clear hi)))
   go_ret
   exact ⟨by first|rfl|(simp [errW_none,errW_some] <;> rfl)|(simp [*,errW_none,errW_some] <;> rfl),by repeat (first|(with_reducible first|exact HB.out|apply below_alloc|apply pw_below_drewN|apply below_drew1|refine below_set ?_ GE285.out)|exact HB.out)⟩
  ·rw [if_neg c4] at H
   have c4b0:(t286 == 0)=false:=beq_eq_false_iff_ne.mpr c4
   have c4b1:(t286 != 0)=true:=bne_iff_ne.mpr c4
   obtain rfl:=Option.some.inj H
   go_enter Tryz.func37,Tryz.ntmps37
   go_wp2_with (first|((with_reducible refine gate_dst (N:=1) rfl ?_);refine box_event ?hg (N:=1) ?hd (cs:=#[.string a0_0,.int .i64 a0_1,.int .i64 a0_2,.int .i64 a0_3,.int .i64 a0_4,.int .i64 a0_5,.string a0_6,.string a0_7,.int .i64 a0_8,.int .i64 a0_9,.string a0_10]) (t:=40) ?hr ?_;(case hd=>rfl);(case hg=>rfl);(case hr=>first|(go_simp;done)|(go_simp;rfl));intro gb285 hg w11 hbox hb;have n0_:=Aside0.mk (below_step (by repeat (first|(with_reducible first|exact HB.out|apply below_alloc|apply pw_below_drewN|apply below_drew1)|exact HB.out)) hb);have n1_:=Aside0.mk (hbox);have n2_:=Aside0.mk ((by rw [hg];exact (below_size (by repeat (first|(with_reducible first|exact HB.out|apply below_alloc|apply pw_below_drewN|apply below_drew1)|exact HB.out))):w.heap.size≤gb285));have n3_:=Aside0.mk ((by rw [hg];exact (below_size (by repeat (first|(with_reducible first|exact HB.out|apply below_alloc|apply pw_below_drewN|apply below_drew1)|exact HB.out))):w.heap.size≤gb285));clear HB;have HB:=n0_;have BK285:=n1_;have GW285:=n2_;have GE285:=n3_;clear n0_ n1_ n2_ n3_;clear hb hbox hg;have hcz12_0:w11.cell? ⟨gb285,0,none⟩=some (.string a0_0):=(blk_cell BK285.out 0).trans rfl;have hcz12_1:w11.cell? ⟨gb285,1,none⟩=some (.int .i64 a0_1):=(blk_cell BK285.out 1).trans rfl;have hcz12_2:w11.cell? ⟨gb285,2,none⟩=some (.int .i64 a0_2):=(blk_cell BK285.out 2).trans rfl;have hcz12_3:w11.cell? ⟨gb285,3,none⟩=some (.int .i64 a0_3):=(blk_cell BK285.out 3).trans rfl;have hcz12_4:w11.cell? ⟨gb285,4,none⟩=some (.int .i64 a0_4):=(blk_cell BK285.out 4).trans rfl;have hcz12_5:w11.cell? ⟨gb285,5,none⟩=some (.int .i64 a0_5):=(blk_cell BK285.out 5).trans rfl;have hcz12_6:w11.cell? ⟨gb285,6,none⟩=some (.string a0_6):=(blk_cell BK285.out 6).trans rfl;have hcz12_7:w11.cell? ⟨gb285,7,none⟩=some (.string a0_7):=(blk_cell BK285.out 7).trans rfl;have hcz12_8:w11.cell? ⟨gb285,8,none⟩=some (.int .i64 a0_8):=(blk_cell BK285.out 8).trans rfl;have hcz12_9:w11.cell? ⟨gb285,9,none⟩=some (.int .i64 a0_9):=(blk_cell BK285.out 9).trans rfl;have hcz12_10:w11.cell? ⟨gb285,10,none⟩=some (.string a0_10):=(blk_cell BK285.out 10).trans rfl;have hfz12_0:=blk_frozen BK285.out 0;have hfz12_1:=blk_frozen BK285.out 1;have hfz12_2:=blk_frozen BK285.out 2;have hfz12_3:=blk_frozen BK285.out 3;have hfz12_4:=blk_frozen BK285.out 4;have hfz12_5:=blk_frozen BK285.out 5;have hfz12_6:=blk_frozen BK285.out 6;have hfz12_7:=blk_frozen BK285.out 7;have hfz12_8:=blk_frozen BK285.out 8;have hfz12_9:=blk_frozen BK285.out 9;have hfz12_10:=blk_frozen BK285.out 10)|((with_reducible refine gate_callee (f:=58) rfl ?_);refine goesL_ (some 9) rfl rfl Tryz.func58 (by kernel_rfl) rfl #[.string a0_0] rfl (by (try simp only [List.map_toArray,List.map_cons,List.map_nil]);first|done|rfl|(simp only [List.length_drop,List.length_take];rfl)) ?_;(with_reducible refine (paths_Mark.calls k a0_0 t286 t287 true _ (hG.ext (by repeat (first|(with_reducible first|exact HB.out|apply below_alloc|apply pw_below_drewN|apply below_drew1|refine below_set ?_ GE285.out)|exact HB.out))) A2.out).mono ?_);rintro e w13 ⟨rfl,hb⟩;refine ⟨_,rfl,?_⟩;have n0_:=Aside0.mk (blk_below (g:=gb285) (o:=.cells #[.string a0_0,.int .i64 a0_1,.int .i64 a0_2,.int .i64 a0_3,.int .i64 a0_4,.int .i64 a0_5,.string a0_6,.string a0_7,.int .i64 a0_8,.int .i64 a0_9,.string a0_10] 40 (0,0)) (by (with_reducible repeat (first|refine blk_drewN ?_ _|refine blk_drew ?_|refine blk_alloc ?_ _));exact BK285.out) hb);have n1_:=Aside0.mk (below_step (by repeat (first|(with_reducible first|exact HB.out|apply below_alloc|apply pw_below_drewN|apply below_drew1|refine below_set ?_ GE285.out)|exact HB.out)) hb);clear BK285;clear HB;have BK285:=n0_;have HB:=n1_;clear n0_ n1_;(try clear hb);(try clear hb2);(try clear hk);(try clear hi)))
   go_ret
   exact ⟨by first|rfl|(simp [errW_none,errW_some] <;> rfl)|(simp [*,errW_none,errW_some] <;> rfl),by repeat (first|(with_reducible first|exact HB.out|apply below_alloc|apply pw_below_drewN|apply below_drew1|refine below_set ?_ GE285.out)|exact HB.out)⟩
 ·replace c3:=Bool.eq_false_iff.mpr c3
  subst c3
  have H1:(some false)=some r:=by rw [if_neg (show ¬ (false=true) by decide)] at H;exact H
  clear H
  have H:=H1
  clear H1
  obtain rfl:=Option.some.inj H
  go_enter Tryz.func37,Tryz.ntmps37
  go_wp2_with (first|((with_reducible refine gate_dst (N:=1) rfl ?_);refine box_event ?hg (N:=1) ?hd (cs:=#[.string a0_0,.int .i64 a0_1,.int .i64 a0_2,.int .i64 a0_3,.int .i64 a0_4,.int .i64 a0_5,.string a0_6,.string a0_7,.int .i64 a0_8,.int .i64 a0_9,.string a0_10]) (t:=40) ?hr ?_;(case hd=>rfl);(case hg=>rfl);(case hr=>first|(go_simp;done)|(go_simp;rfl));intro gb285 hg w14 hbox hb;have n0_:=Aside0.mk (below_step (by repeat (first|(with_reducible first|exact HB.out|apply below_alloc|apply pw_below_drewN|apply below_drew1)|exact HB.out)) hb);have n1_:=Aside0.mk (hbox);have n2_:=Aside0.mk ((by rw [hg];exact (below_size (by repeat (first|(with_reducible first|exact HB.out|apply below_alloc|apply pw_below_drewN|apply below_drew1)|exact HB.out))):w.heap.size≤gb285));have n3_:=Aside0.mk ((by rw [hg];exact (below_size (by repeat (first|(with_reducible first|exact HB.out|apply below_alloc|apply pw_below_drewN|apply below_drew1)|exact HB.out))):w.heap.size≤gb285));clear HB;have HB:=n0_;have BK285:=n1_;have GW285:=n2_;have GE285:=n3_;clear n0_ n1_ n2_ n3_;clear hb hbox hg;have hcz15_0:w14.cell? ⟨gb285,0,none⟩=some (.string a0_0):=(blk_cell BK285.out 0).trans rfl;have hcz15_1:w14.cell? ⟨gb285,1,none⟩=some (.int .i64 a0_1):=(blk_cell BK285.out 1).trans rfl;have hcz15_2:w14.cell? ⟨gb285,2,none⟩=some (.int .i64 a0_2):=(blk_cell BK285.out 2).trans rfl;have hcz15_3:w14.cell? ⟨gb285,3,none⟩=some (.int .i64 a0_3):=(blk_cell BK285.out 3).trans rfl;have hcz15_4:w14.cell? ⟨gb285,4,none⟩=some (.int .i64 a0_4):=(blk_cell BK285.out 4).trans rfl;have hcz15_5:w14.cell? ⟨gb285,5,none⟩=some (.int .i64 a0_5):=(blk_cell BK285.out 5).trans rfl;have hcz15_6:w14.cell? ⟨gb285,6,none⟩=some (.string a0_6):=(blk_cell BK285.out 6).trans rfl;have hcz15_7:w14.cell? ⟨gb285,7,none⟩=some (.string a0_7):=(blk_cell BK285.out 7).trans rfl;have hcz15_8:w14.cell? ⟨gb285,8,none⟩=some (.int .i64 a0_8):=(blk_cell BK285.out 8).trans rfl;have hcz15_9:w14.cell? ⟨gb285,9,none⟩=some (.int .i64 a0_9):=(blk_cell BK285.out 9).trans rfl;have hcz15_10:w14.cell? ⟨gb285,10,none⟩=some (.string a0_10):=(blk_cell BK285.out 10).trans rfl;have hfz15_0:=blk_frozen BK285.out 0;have hfz15_1:=blk_frozen BK285.out 1;have hfz15_2:=blk_frozen BK285.out 2;have hfz15_3:=blk_frozen BK285.out 3;have hfz15_4:=blk_frozen BK285.out 4;have hfz15_5:=blk_frozen BK285.out 5;have hfz15_6:=blk_frozen BK285.out 6;have hfz15_7:=blk_frozen BK285.out 7;have hfz15_8:=blk_frozen BK285.out 8;have hfz15_9:=blk_frozen BK285.out 9;have hfz15_10:=blk_frozen BK285.out 10)|((with_reducible refine gate_callee (f:=58) rfl ?_);refine goesL_ (some 9) rfl rfl Tryz.func58 (by kernel_rfl) rfl #[.string a0_0] rfl (by (try simp only [List.map_toArray,List.map_cons,List.map_nil]);first|done|rfl|(simp only [List.length_drop,List.length_take];rfl)) ?_;(with_reducible refine (paths_Mark.calls k a0_0 t286 t287 false _ (hG.ext (by repeat (first|(with_reducible first|exact HB.out|apply below_alloc|apply pw_below_drewN|apply below_drew1|refine below_set ?_ GE285.out)|exact HB.out))) A2.out).mono ?_);rintro e w16 ⟨rfl,hb⟩;refine ⟨_,rfl,?_⟩;have n0_:=Aside0.mk (blk_below (g:=gb285) (o:=.cells #[.string a0_0,.int .i64 a0_1,.int .i64 a0_2,.int .i64 a0_3,.int .i64 a0_4,.int .i64 a0_5,.string a0_6,.string a0_7,.int .i64 a0_8,.int .i64 a0_9,.string a0_10] 40 (0,0)) (by (with_reducible repeat (first|refine blk_drewN ?_ _|refine blk_drew ?_|refine blk_alloc ?_ _));exact BK285.out) hb);have n1_:=Aside0.mk (below_step (by repeat (first|(with_reducible first|exact HB.out|apply below_alloc|apply pw_below_drewN|apply below_drew1|refine below_set ?_ GE285.out)|exact HB.out)) hb);clear BK285;clear HB;have BK285:=n0_;have HB:=n1_;clear n0_ n1_;(try clear hb);(try clear hb2);(try clear hk);(try clear hi)))
  go_ret
  exact ⟨by first|rfl|(simp [errW_none,errW_some] <;> rfl)|(simp [*,errW_none,errW_some] <;> rfl),by repeat (first|(with_reducible first|exact HB.out|apply below_alloc|apply pw_below_drewN|apply below_drew1|refine below_set ?_ GE285.out)|exact HB.out)⟩
theorem eqA26 (d:Nat) (w:World) (x0 y0:Int) (x1 y1:Int) (x2 y2:Int) (x3 y3:Int) (x4 y4:Int) (x5 y5:ByteArray) (x6 y6:ByteArray) (x7 y7:Int) (x8 y8:Int) (x9 y9:ByteArray) :
  (Op.equalIn (d + 2) 26 (.agg #[.int .i64 x0,.int .i64 x1,.int .i64 x2,.int .i64 x3,.int .i64 x4,.string x5,.string x6,.int .i64 x7,.int .i64 x8,.string x9]) (.agg #[.int .i64 y0,.int .i64 y1,.int .i64 y2,.int .i64 y3,.int .i64 y4,.string y5,.string y6,.int .i64 y7,.int .i64 y8,.string y9])).run Tryz.prog w=.ok (x0 == y0 && (x1 == y1 && (x2 == y2 && (x3 == y3 && (x4 == y4 && (x5.toList == y5.toList && (x6.toList == y6.toList && (x7 == y7 && (x8 == y8 && (x9.toList == y9.toList)))))))))) w:=by
 refine eqA_of Tryz.underlying26 (by kernel_rfl) ?_
 refine eqf_cons (by rfl) (by go_simp;rfl) (by go_simp;rfl) (by go_simp) ?_
 refine eqf_cons (by rfl) (by go_simp;rfl) (by go_simp;rfl) (by go_simp) ?_
 refine eqf_cons (by rfl) (by go_simp;rfl) (by go_simp;rfl) (by go_simp) ?_
 refine eqf_cons (by rfl) (by go_simp;rfl) (by go_simp;rfl) (by go_simp) ?_
 refine eqf_cons (by rfl) (by go_simp;rfl) (by go_simp;rfl) (by go_simp) ?_
 refine eqf_cons (by rfl) (by go_simp;rfl) (by go_simp;rfl) (by go_simp) ?_
 refine eqf_cons (by rfl) (by go_simp;rfl) (by go_simp;rfl) (by go_simp) ?_
 refine eqf_cons (by rfl) (by go_simp;rfl) (by go_simp;rfl) (by go_simp) ?_
 refine eqf_cons (by rfl) (by go_simp;rfl) (by go_simp;rfl) (by go_simp) ?_
 exact eqf_last (by rfl) (by go_simp;rfl) (by go_simp;rfl) (by go_simp)
end Go.Proofs.YtdkjinmkallhnaaGreatDoorQ
end
section
namespace Go.Proofs.YtdkjinmkallhnaaGreatDoorQ
open Go.RowKit Go.Proofs.YtdkjinmkallhnaaGreatDoorW.PrintWords Go.Proofs.YtdkjinmkallhnaaGreatDoorW.PrintLast Go.Proofs.YtdkjinmkallhnaaGreatDoorW.PrintMore
open Go.Proofs.YtdkjinmkallhnaaGreatDoor (GL)
attribute [local go_sem] max2_int min2_int max_two min_two max_three min_three max_four min_four
attribute [local go_sem high] eqA26
mutual
def pq15.l0:Nat→List (S38)→List (S38)→Int→Int→Option (Bool)
 | 0,_,_,_,_=>none
 | k + 1,x0,x7,x8,x9=>if x9<x8 then (if 0≤x9 then (if x9<(x7.length:Int) then ((paths_Unmark.f k ((rd_T38 x7 x9).f1) ((rd_T38 x7 x9).f0)).bind fun bt317=>(if bt317.2=true then ((mktar_Right.f bt317.1 ((rd_T38 x7 x9).f2.f0) ((rd_T38 x7 x9).f2.f1) ((rd_T38 x7 x9).f2.f2) ((rd_T38 x7 x9).f2.f3) ((rd_T38 x7 x9).f2.f4) ((rd_T38 x7 x9).f2.f5) ((rd_T38 x7 x9).f2.f6) ((rd_T38 x7 x9).f2.f7) ((rd_T38 x7 x9).f2.f8) ((rd_T38 x7 x9).f2.f9)).bind fun t319=>(pq15.j1 k x0 x9 x7 x8 x9 (t319 != 0) ((rd_T38 x7 x9).f0) ((rd_T38 x7 x9).f1) ((rd_T38 x7 x9).f2.f0) ((rd_T38 x7 x9).f2.f1) ((rd_T38 x7 x9).f2.f2) ((rd_T38 x7 x9).f2.f3) ((rd_T38 x7 x9).f2.f4) ((rd_T38 x7 x9).f2.f5) ((rd_T38 x7 x9).f2.f6) ((rd_T38 x7 x9).f2.f7) ((rd_T38 x7 x9).f2.f8) ((rd_T38 x7 x9).f2.f9))) else (pq15.j1 k x0 x9 x7 x8 x9 true ((rd_T38 x7 x9).f0) ((rd_T38 x7 x9).f1) ((rd_T38 x7 x9).f2.f0) ((rd_T38 x7 x9).f2.f1) ((rd_T38 x7 x9).f2.f2) ((rd_T38 x7 x9).f2.f3) ((rd_T38 x7 x9).f2.f4) ((rd_T38 x7 x9).f2.f5) ((rd_T38 x7 x9).f2.f6) ((rd_T38 x7 x9).f2.f7) ((rd_T38 x7 x9).f2.f8) ((rd_T38 x7 x9).f2.f9)))) else (none)) else (none)) else (some true)
def pq15.j1:Nat→List (S38)→Int→List (S38)→Int→Int→Bool→ByteArray→Int→Int→Int→Int→Int→Int→ByteArray→ByteArray→Int→Int→ByteArray→Option (Bool)
 | 0,_,_,_,_,_,_,_,_,_,_,_,_,_,_,_,_,_,_=>none
 | k + 1,x0,x3,x7,x8,x9,x22,x317000,x317001,x317002,x317003,x317004,x317005,x317006,x317007,x317008,x317009,x317010,x317011=>if x22=true then (some false) else (if x317001=0 then (pq15.j2 k x0 x3 x7 x8 x9 false x317000 x317001 x317002 x317003 x317004 x317005 x317006 x317007 x317008 x317009 x317010 x317011) else (pq15.j2 k x0 x3 x7 x8 x9 (!(x317002 == 0) || (!(x317003 == 0) || (!(x317004 == 0) || (!(x317005 == 0) || (!(x317006 == 0) || (!(x317007.toList == ([]:List UInt8)) || (!(x317008.toList == ([]:List UInt8)) || (!(x317009 == 0) || (!(x317010 == 0) || (!(x317011.toList == ([]:List UInt8)))))))))))) x317000 x317001 x317002 x317003 x317004 x317005 x317006 x317007 x317008 x317009 x317010 x317011))
def pq15.j2:Nat→List (S38)→Int→List (S38)→Int→Int→Bool→ByteArray→Int→Int→Int→Int→Int→Int→ByteArray→ByteArray→Int→Int→ByteArray→Option (Bool)
 | 0,_,_,_,_,_,_,_,_,_,_,_,_,_,_,_,_,_,_=>none
 | k + 1,x0,x3,x7,x8,x9,x33,x317000,x317001,x317002,x317003,x317004,x317005,x317006,x317007,x317008,x317009,x317010,x317011=>if x33=true then (some false) else (if x3 > 0 then (if 0≤(wrap64 (x3 - 1)) then (if (wrap64 (x3 - 1))<(x0.length:Int) then ((change_Less.f k ((rd_T38 x0 (wrap64 (x3 - 1))).f0) ((rd_T38 x0 (wrap64 (x3 - 1))).f1) ((rd_T38 x0 (wrap64 (x3 - 1))).f2.f0) ((rd_T38 x0 (wrap64 (x3 - 1))).f2.f1) ((rd_T38 x0 (wrap64 (x3 - 1))).f2.f2) ((rd_T38 x0 (wrap64 (x3 - 1))).f2.f3) ((rd_T38 x0 (wrap64 (x3 - 1))).f2.f4) ((rd_T38 x0 (wrap64 (x3 - 1))).f2.f5) ((rd_T38 x0 (wrap64 (x3 - 1))).f2.f6) ((rd_T38 x0 (wrap64 (x3 - 1))).f2.f7) ((rd_T38 x0 (wrap64 (x3 - 1))).f2.f8) ((rd_T38 x0 (wrap64 (x3 - 1))).f2.f9) x317000 x317001 x317002 x317003 x317004 x317005 x317006 x317007 x317008 x317009 x317010 x317011).bind fun t321=>(if t321=true then (pq15.l0 k x0 x7 x8 (wrap64 (x9 + 1))) else (some false))) else (none)) else (none)) else (pq15.l0 k x0 x7 x8 (wrap64 (x9 + 1))))
end
def pq15.f (k:Nat) (l0:List (S38)):Option (Bool):=pq15.l0 k l0 l0 (l0.length:Int) 0
def pq15.T9:Bool×List (List Nat×List Nat):=(true,[([],[]),([0],[0]),([1],[1]),([2],[2]),([2],[2]),([4,2],[2,4]),([3,5,2],[2,3,5]),([6,2],[2,6]),([2],[2]),([7,8,2,2],[2,7,8]),([9,2],[2,9]),([2,10],[2,10]),([11,9],[11])])
def pq15.B9:List Nat:=[0,1,3,7,7,23,63,127,7,511,1023,2047,4095]
theorem pq15.tab9:rtab .any (opsOf Tryz.f26 9)=pq15.T9:=by kernel_rfl
theorem pq15.bits9:waitsOk pq15.T9.2 pq15.B9=true:=by kernel_rfl
set_option maxHeartbeats 8000000 in
set_option maxRecDepth 100000 in
theorem pq15.calls (k:Nat) (A0:Option Addr) (c0:Nat) (l0:List (S38)) (r:Bool) (w:World) (hG:GL w) (hr0:Kd.C k38 w A0 l0.length l0) (hc0:l0.length≤c0) (h:pq15.f k l0=some r) :
  Calls Tryz.prog 26 #[.slice A0 l0.length c0] w fun e w'=>e=.returned (.bool r)∧Below w.heap.size w w':=by
 have hu38:=Tryz.underlying38
 have hu26:=Tryz.underlying26
 have hu40:=Tryz.underlying40
 have HR0:=Aside0.mk hr0
 have HC0:=Aside0.mk hc0
 clear hr0 hc0
 have HB:=Aside0.mk (Below.refl w.heap.size w)
 have H:(pq15.l0 k l0 l0 (l0.length:Int) 0)=some r:=h
 clear h
 have H':=Aside0.mk H
 clear H
 go_enter Tryz.func26,Tryz.ntmps26
 go_wp2
 go_loopg [9] k (fun kq v9 w'=>∃ (x9_1:Int),v9=.int .i64 x9_1∧Aside0 (pq15.l0 kq l0 l0 (l0.length:Int) x9_1=some r)∧Aside0 (kq≤k)∧Aside0 (Below w.heap.size w w'))
 case atStart=>exact ⟨(0),(by first|rfl|(simp;done)|(simp [*];done)),H',⟨Nat.le_refl _⟩,⟨by repeat (first|(with_reducible first|exact HB.out|apply below_alloc|apply pw_below_drewN|apply below_drew1)|exact HB.out)⟩⟩
 case round =>
  clear H'
  obtain ⟨x9_1,rfl,HA,HK1,HB⟩:=hrel
  cases gk with
  | zero=>exact absurd HA.out (by simp [pq15.l0])
  | succ k1 =>
   have H:=HA.out
   clear HA
   simp only [pq15.l0] at H
   by_cases c2:x9_1<(l0.length:Int)
   ·rw [if_pos c2] at H
    have c2b0:decide (x9_1<(l0.length:Int))=true:=decide_eq_true c2
    clear c2
    by_cases c3:0≤x9_1
    ·rw [if_pos c3] at H
     have c3b0:decide (0≤x9_1)=true:=decide_eq_true c3
     clear c3
     by_cases c4:x9_1<(l0.length:Int)
     ·rw [if_pos c4] at H
      have c4b0:decide (x9_1<(l0.length:Int))=true:=decide_eq_true c4
      clear c4
      replace H:=Option.bind_eq_some_iff.mp H
      obtain ⟨⟨t317,t318⟩,A50,H⟩:=H
      replace H:(if t318=true then ((mktar_Right.f t317 ((rd_T38 l0 x9_1).f2.f0) ((rd_T38 l0 x9_1).f2.f1) ((rd_T38 l0 x9_1).f2.f2) ((rd_T38 l0 x9_1).f2.f3) ((rd_T38 l0 x9_1).f2.f4) ((rd_T38 l0 x9_1).f2.f5) ((rd_T38 l0 x9_1).f2.f6) ((rd_T38 l0 x9_1).f2.f7) ((rd_T38 l0 x9_1).f2.f8) ((rd_T38 l0 x9_1).f2.f9)).bind fun t319=>(pq15.j1 k1 l0 x9_1 l0 (l0.length:Int) x9_1 (t319 != 0) ((rd_T38 l0 x9_1).f0) ((rd_T38 l0 x9_1).f1) ((rd_T38 l0 x9_1).f2.f0) ((rd_T38 l0 x9_1).f2.f1) ((rd_T38 l0 x9_1).f2.f2) ((rd_T38 l0 x9_1).f2.f3) ((rd_T38 l0 x9_1).f2.f4) ((rd_T38 l0 x9_1).f2.f5) ((rd_T38 l0 x9_1).f2.f6) ((rd_T38 l0 x9_1).f2.f7) ((rd_T38 l0 x9_1).f2.f8) ((rd_T38 l0 x9_1).f2.f9))) else (pq15.j1 k1 l0 x9_1 l0 (l0.length:Int) x9_1 true ((rd_T38 l0 x9_1).f0) ((rd_T38 l0 x9_1).f1) ((rd_T38 l0 x9_1).f2.f0) ((rd_T38 l0 x9_1).f2.f1) ((rd_T38 l0 x9_1).f2.f2) ((rd_T38 l0 x9_1).f2.f3) ((rd_T38 l0 x9_1).f2.f4) ((rd_T38 l0 x9_1).f2.f5) ((rd_T38 l0 x9_1).f2.f6) ((rd_T38 l0 x9_1).f2.f7) ((rd_T38 l0 x9_1).f2.f8) ((rd_T38 l0 x9_1).f2.f9)))=some r:=H
      have A5:=Aside0.mk A50
      clear A50
      have HC6:=Aside0.mk H
      clear H
      have p315:0≤(x9_1:Int):=of_decide_eq_true (by first|(with_reducible assumption)|assumption)
      have q315:x9_1<(l0.length:Int):=of_decide_eq_true (by first|(with_reducible assumption)|assumption)
      obtain ⟨ad315,e315,hx315_0,hx315_1,hx315_2,hx315_3,hx315_4,hx315_5,hx315_6,hx315_7,hx315_8,hx315_9,hx315_10,hx315_11⟩:=at_T38 HR0.out x9_1 p315 q315
      cases e315
      replace hx315_0:=(HB.out.cell (World.block_lt_of_cell? w _ hx315_0)).trans hx315_0
      replace hx315_1:=(HB.out.cell (World.block_lt_of_cell? w _ hx315_1)).trans hx315_1
      replace hx315_2:=(HB.out.cell (World.block_lt_of_cell? w _ hx315_2)).trans hx315_2
      replace hx315_3:=(HB.out.cell (World.block_lt_of_cell? w _ hx315_3)).trans hx315_3
      replace hx315_4:=(HB.out.cell (World.block_lt_of_cell? w _ hx315_4)).trans hx315_4
      replace hx315_5:=(HB.out.cell (World.block_lt_of_cell? w _ hx315_5)).trans hx315_5
      replace hx315_6:=(HB.out.cell (World.block_lt_of_cell? w _ hx315_6)).trans hx315_6
      replace hx315_7:=(HB.out.cell (World.block_lt_of_cell? w _ hx315_7)).trans hx315_7
      replace hx315_8:=(HB.out.cell (World.block_lt_of_cell? w _ hx315_8)).trans hx315_8
      replace hx315_9:=(HB.out.cell (World.block_lt_of_cell? w _ hx315_9)).trans hx315_9
      replace hx315_10:=(HB.out.cell (World.block_lt_of_cell? w _ hx315_10)).trans hx315_10
      replace hx315_11:=(HB.out.cell (World.block_lt_of_cell? w _ hx315_11)).trans hx315_11
      replace p315:=eq_true p315
      replace q315:=eq_true q315
      go_upto_region 5 with (first|((with_reducible refine gate_dst (N:=4) rfl ?_);refine box_event ?hg (N:=4) ?hd (cs:=#[.string (⟨#[]⟩:ByteArray),.int .i64 0,.int .i64 0,.int .i64 0,.int .i64 0,.int .i64 0,.int .i64 0,.string (⟨#[]⟩:ByteArray),.string (⟨#[]⟩:ByteArray),.int .i64 0,.int .i64 0,.string (⟨#[]⟩:ByteArray)]) (t:=38) ?hr ?_;(case hd=>rfl);(case hg=>rfl);(case hr=>first|(go_simp;done)|(go_simp;rfl));intro gb316 hg w7 hbox hb;have n0_:=Aside0.mk (below_step (by repeat (first|(with_reducible first|exact HB.out|apply below_alloc|apply pw_below_drewN|apply below_drew1)|exact HB.out)) hb);have n1_:=Aside0.mk (hbox);have n2_:=Aside0.mk ((by rw [hg];exact (below_size (by repeat (first|(with_reducible first|exact HB.out|apply below_alloc|apply pw_below_drewN|apply below_drew1)|exact HB.out))):w.heap.size≤gb316));have n3_:=Aside0.mk ((by rw [hg];exact (below_size (by repeat (first|(with_reducible first|exact HB.out|apply below_alloc|apply pw_below_drewN|apply below_drew1)|exact HB.out))):w.heap.size≤gb316));clear HB;have HB:=n0_;have BK316:=n1_;have GW316:=n2_;have GE316:=n3_;clear n0_ n1_ n2_ n3_;clear hb hbox hg;have hcz8_0:w7.cell? ⟨gb316,0,none⟩=some (.string (⟨#[]⟩:ByteArray)):=(blk_cell BK316.out 0).trans rfl;have hcz8_1:w7.cell? ⟨gb316,1,none⟩=some (.int .i64 0):=(blk_cell BK316.out 1).trans rfl;have hcz8_2:w7.cell? ⟨gb316,2,none⟩=some (.int .i64 0):=(blk_cell BK316.out 2).trans rfl;have hcz8_3:w7.cell? ⟨gb316,3,none⟩=some (.int .i64 0):=(blk_cell BK316.out 3).trans rfl;have hcz8_4:w7.cell? ⟨gb316,4,none⟩=some (.int .i64 0):=(blk_cell BK316.out 4).trans rfl;have hcz8_5:w7.cell? ⟨gb316,5,none⟩=some (.int .i64 0):=(blk_cell BK316.out 5).trans rfl;have hcz8_6:w7.cell? ⟨gb316,6,none⟩=some (.int .i64 0):=(blk_cell BK316.out 6).trans rfl;have hcz8_7:w7.cell? ⟨gb316,7,none⟩=some (.string (⟨#[]⟩:ByteArray)):=(blk_cell BK316.out 7).trans rfl;have hcz8_8:w7.cell? ⟨gb316,8,none⟩=some (.string (⟨#[]⟩:ByteArray)):=(blk_cell BK316.out 8).trans rfl;have hcz8_9:w7.cell? ⟨gb316,9,none⟩=some (.int .i64 0):=(blk_cell BK316.out 9).trans rfl;have hcz8_10:w7.cell? ⟨gb316,10,none⟩=some (.int .i64 0):=(blk_cell BK316.out 10).trans rfl;have hcz8_11:w7.cell? ⟨gb316,11,none⟩=some (.string (⟨#[]⟩:ByteArray)):=(blk_cell BK316.out 11).trans rfl;have hfz8_0:=blk_frozen BK316.out 0;have hfz8_1:=blk_frozen BK316.out 1;have hfz8_2:=blk_frozen BK316.out 2;have hfz8_3:=blk_frozen BK316.out 3;have hfz8_4:=blk_frozen BK316.out 4;have hfz8_5:=blk_frozen BK316.out 5;have hfz8_6:=blk_frozen BK316.out 6;have hfz8_7:=blk_frozen BK316.out 7;have hfz8_8:=blk_frozen BK316.out 8;have hfz8_9:=blk_frozen BK316.out 9;have hfz8_10:=blk_frozen BK316.out 10;have hfz8_11:=blk_frozen BK316.out 11)|((with_reducible refine gate_callee (f:=52) rfl ?_);refine goesL_ (some 19) rfl rfl Tryz.func52 (by kernel_rfl) rfl #[.int .i64 ((rd_T38 l0 x9_1).f1),.string ((rd_T38 l0 x9_1).f0)] rfl (by (try simp only [List.map_toArray,List.map_cons,List.map_nil]);first|done|rfl|(simp only [List.length_drop,List.length_take];rfl)) ?_;(with_reducible refine (paths_Unmark.calls k1 ((rd_T38 l0 x9_1).f1) ((rd_T38 l0 x9_1).f0) t317 t318 _ (hG.ext (by repeat (first|(with_reducible first|exact HB.out|apply below_alloc|apply pw_below_drewN|apply below_drew1|refine below_set ?_ GE316.out)|exact HB.out))) A5.out).mono ?_);rintro e w9 ⟨rfl,hb⟩;refine ⟨_,rfl,?_⟩;have n0_:=Aside0.mk (blk_below (g:=gb316) (o:=.cells #[.string ((rd_T38 l0 x9_1).f0),.int .i64 ((rd_T38 l0 x9_1).f1),.int .i64 ((rd_T38 l0 x9_1).f2.f0),.int .i64 ((rd_T38 l0 x9_1).f2.f1),.int .i64 ((rd_T38 l0 x9_1).f2.f2),.int .i64 ((rd_T38 l0 x9_1).f2.f3),.int .i64 ((rd_T38 l0 x9_1).f2.f4),.string ((rd_T38 l0 x9_1).f2.f5),.string ((rd_T38 l0 x9_1).f2.f6),.int .i64 ((rd_T38 l0 x9_1).f2.f7),.int .i64 ((rd_T38 l0 x9_1).f2.f8),.string ((rd_T38 l0 x9_1).f2.f9)] 38 (0,0)) (by (with_reducible repeat (first|refine blk_drewN ?_ _|refine blk_drew ?_|refine blk_alloc ?_ _));refine blk_put (cs:=#[.string ((rd_T38 l0 x9_1).f0),.int .i64 ((rd_T38 l0 x9_1).f1),.int .i64 ((rd_T38 l0 x9_1).f2.f0),.int .i64 ((rd_T38 l0 x9_1).f2.f1),.int .i64 ((rd_T38 l0 x9_1).f2.f2),.int .i64 ((rd_T38 l0 x9_1).f2.f3),.int .i64 ((rd_T38 l0 x9_1).f2.f4),.string ((rd_T38 l0 x9_1).f2.f5),.string ((rd_T38 l0 x9_1).f2.f6),.int .i64 ((rd_T38 l0 x9_1).f2.f7),.int .i64 ((rd_T38 l0 x9_1).f2.f8),.string (⟨#[]⟩:ByteArray)]) ?_ 11 _ rfl;(with_reducible repeat (first|refine blk_drewN ?_ _|refine blk_drew ?_|refine blk_alloc ?_ _));refine blk_put (cs:=#[.string ((rd_T38 l0 x9_1).f0),.int .i64 ((rd_T38 l0 x9_1).f1),.int .i64 ((rd_T38 l0 x9_1).f2.f0),.int .i64 ((rd_T38 l0 x9_1).f2.f1),.int .i64 ((rd_T38 l0 x9_1).f2.f2),.int .i64 ((rd_T38 l0 x9_1).f2.f3),.int .i64 ((rd_T38 l0 x9_1).f2.f4),.string ((rd_T38 l0 x9_1).f2.f5),.string ((rd_T38 l0 x9_1).f2.f6),.int .i64 ((rd_T38 l0 x9_1).f2.f7),.int .i64 0,.string (⟨#[]⟩:ByteArray)]) ?_ 10 _ rfl;(with_reducible repeat (first|refine blk_drewN ?_ _|refine blk_drew ?_|refine blk_alloc ?_ _));refine blk_put (cs:=#[.string ((rd_T38 l0 x9_1).f0),.int .i64 ((rd_T38 l0 x9_1).f1),.int .i64 ((rd_T38 l0 x9_1).f2.f0),.int .i64 ((rd_T38 l0 x9_1).f2.f1),.int .i64 ((rd_T38 l0 x9_1).f2.f2),.int .i64 ((rd_T38 l0 x9_1).f2.f3),.int .i64 ((rd_T38 l0 x9_1).f2.f4),.string ((rd_T38 l0 x9_1).f2.f5),.string ((rd_T38 l0 x9_1).f2.f6),.int .i64 0,.int .i64 0,.string (⟨#[]⟩:ByteArray)]) ?_ 9 _ rfl;(with_reducible repeat (first|refine blk_drewN ?_ _|refine blk_drew ?_|refine blk_alloc ?_ _));refine blk_put (cs:=#[.string ((rd_T38 l0 x9_1).f0),.int .i64 ((rd_T38 l0 x9_1).f1),.int .i64 ((rd_T38 l0 x9_1).f2.f0),.int .i64 ((rd_T38 l0 x9_1).f2.f1),.int .i64 ((rd_T38 l0 x9_1).f2.f2),.int .i64 ((rd_T38 l0 x9_1).f2.f3),.int .i64 ((rd_T38 l0 x9_1).f2.f4),.string ((rd_T38 l0 x9_1).f2.f5),.string (⟨#[]⟩:ByteArray),.int .i64 0,.int .i64 0,.string (⟨#[]⟩:ByteArray)]) ?_ 8 _ rfl;(with_reducible repeat (first|refine blk_drewN ?_ _|refine blk_drew ?_|refine blk_alloc ?_ _));refine blk_put (cs:=#[.string ((rd_T38 l0 x9_1).f0),.int .i64 ((rd_T38 l0 x9_1).f1),.int .i64 ((rd_T38 l0 x9_1).f2.f0),.int .i64 ((rd_T38 l0 x9_1).f2.f1),.int .i64 ((rd_T38 l0 x9_1).f2.f2),.int .i64 ((rd_T38 l0 x9_1).f2.f3),.int .i64 ((rd_T38 l0 x9_1).f2.f4),.string (⟨#[]⟩:ByteArray),.string (⟨#[]⟩:ByteArray),.int .i64 0,.int .i64 0,.string (⟨#[]⟩:ByteArray)]) ?_ 7 _ rfl;(with_reducible repeat (first|refine blk_drewN ?_ _|refine blk_drew ?_|refine blk_alloc ?_ _));refine blk_put (cs:=#[.string ((rd_T38 l0 x9_1).f0),.int .i64 ((rd_T38 l0 x9_1).f1),.int .i64 ((rd_T38 l0 x9_1).f2.f0),.int .i64 ((rd_T38 l0 x9_1).f2.f1),.int .i64 ((rd_T38 l0 x9_1).f2.f2),.int .i64 ((rd_T38 l0 x9_1).f2.f3),.int .i64 0,.string (⟨#[]⟩:ByteArray),.string (⟨#[]⟩:ByteArray),.int .i64 0,.int .i64 0,.string (⟨#[]⟩:ByteArray)]) ?_ 6 _ rfl;(with_reducible repeat (first|refine blk_drewN ?_ _|refine blk_drew ?_|refine blk_alloc ?_ _));refine blk_put (cs:=#[.string ((rd_T38 l0 x9_1).f0),.int .i64 ((rd_T38 l0 x9_1).f1),.int .i64 ((rd_T38 l0 x9_1).f2.f0),.int .i64 ((rd_T38 l0 x9_1).f2.f1),.int .i64 ((rd_T38 l0 x9_1).f2.f2),.int .i64 0,.int .i64 0,.string (⟨#[]⟩:ByteArray),.string (⟨#[]⟩:ByteArray),.int .i64 0,.int .i64 0,.string (⟨#[]⟩:ByteArray)]) ?_ 5 _ rfl;(with_reducible repeat (first|refine blk_drewN ?_ _|refine blk_drew ?_|refine blk_alloc ?_ _));refine blk_put (cs:=#[.string ((rd_T38 l0 x9_1).f0),.int .i64 ((rd_T38 l0 x9_1).f1),.int .i64 ((rd_T38 l0 x9_1).f2.f0),.int .i64 ((rd_T38 l0 x9_1).f2.f1),.int .i64 0,.int .i64 0,.int .i64 0,.string (⟨#[]⟩:ByteArray),.string (⟨#[]⟩:ByteArray),.int .i64 0,.int .i64 0,.string (⟨#[]⟩:ByteArray)]) ?_ 4 _ rfl;(with_reducible repeat (first|refine blk_drewN ?_ _|refine blk_drew ?_|refine blk_alloc ?_ _));refine blk_put (cs:=#[.string ((rd_T38 l0 x9_1).f0),.int .i64 ((rd_T38 l0 x9_1).f1),.int .i64 ((rd_T38 l0 x9_1).f2.f0),.int .i64 0,.int .i64 0,.int .i64 0,.int .i64 0,.string (⟨#[]⟩:ByteArray),.string (⟨#[]⟩:ByteArray),.int .i64 0,.int .i64 0,.string (⟨#[]⟩:ByteArray)]) ?_ 3 _ rfl;(with_reducible repeat (first|refine blk_drewN ?_ _|refine blk_drew ?_|refine blk_alloc ?_ _));refine blk_put (cs:=#[.string ((rd_T38 l0 x9_1).f0),.int .i64 ((rd_T38 l0 x9_1).f1),.int .i64 0,.int .i64 0,.int .i64 0,.int .i64 0,.int .i64 0,.string (⟨#[]⟩:ByteArray),.string (⟨#[]⟩:ByteArray),.int .i64 0,.int .i64 0,.string (⟨#[]⟩:ByteArray)]) ?_ 2 _ rfl;(with_reducible repeat (first|refine blk_drewN ?_ _|refine blk_drew ?_|refine blk_alloc ?_ _));refine blk_put (cs:=#[.string ((rd_T38 l0 x9_1).f0),.int .i64 0,.int .i64 0,.int .i64 0,.int .i64 0,.int .i64 0,.int .i64 0,.string (⟨#[]⟩:ByteArray),.string (⟨#[]⟩:ByteArray),.int .i64 0,.int .i64 0,.string (⟨#[]⟩:ByteArray)]) ?_ 1 _ rfl;(with_reducible repeat (first|refine blk_drewN ?_ _|refine blk_drew ?_|refine blk_alloc ?_ _));refine blk_put (cs:=#[.string (⟨#[]⟩:ByteArray),.int .i64 0,.int .i64 0,.int .i64 0,.int .i64 0,.int .i64 0,.int .i64 0,.string (⟨#[]⟩:ByteArray),.string (⟨#[]⟩:ByteArray),.int .i64 0,.int .i64 0,.string (⟨#[]⟩:ByteArray)]) ?_ 0 _ rfl;(with_reducible repeat (first|refine blk_drewN ?_ _|refine blk_drew ?_|refine blk_alloc ?_ _));exact BK316.out) hb);have n1_:=Aside0.mk (below_step (by repeat (first|(with_reducible first|exact HB.out|apply below_alloc|apply pw_below_drewN|apply below_drew1|refine below_set ?_ GE316.out)|exact HB.out)) hb);clear BK316;clear HB;have BK316:=n0_;have HB:=n1_;clear n0_ n1_;(try clear hb);(try clear hb2);(try clear hk);(try clear hi)))
      (try simp only [Act.put,List.setIfInBounds_toArray,List.set_cons_zero,List.set_cons_succ])
      go_cut [22] (fun v22 wc=>∃ (kq:Nat) (x22_5:Bool),v22=.bool x22_5∧Aside0 (pq15.j1 kq l0 x9_1 l0 (l0.length:Int) x9_1 x22_5 ((rd_T38 l0 x9_1).f0) ((rd_T38 l0 x9_1).f1) ((rd_T38 l0 x9_1).f2.f0) ((rd_T38 l0 x9_1).f2.f1) ((rd_T38 l0 x9_1).f2.f2) ((rd_T38 l0 x9_1).f2.f3) ((rd_T38 l0 x9_1).f2.f4) ((rd_T38 l0 x9_1).f2.f5) ((rd_T38 l0 x9_1).f2.f6) ((rd_T38 l0 x9_1).f2.f7) ((rd_T38 l0 x9_1).f2.f8) ((rd_T38 l0 x9_1).f2.f9)=some r)∧Aside0 (kq≤k1)∧Aside0 (wc.heap[gb316]?=some (.cells #[.string ((rd_T38 l0 x9_1).f0),.int .i64 ((rd_T38 l0 x9_1).f1),.int .i64 ((rd_T38 l0 x9_1).f2.f0),.int .i64 ((rd_T38 l0 x9_1).f2.f1),.int .i64 ((rd_T38 l0 x9_1).f2.f2),.int .i64 ((rd_T38 l0 x9_1).f2.f3),.int .i64 ((rd_T38 l0 x9_1).f2.f4),.string ((rd_T38 l0 x9_1).f2.f5),.string ((rd_T38 l0 x9_1).f2.f6),.int .i64 ((rd_T38 l0 x9_1).f2.f7),.int .i64 ((rd_T38 l0 x9_1).f2.f8),.string ((rd_T38 l0 x9_1).f2.f9)] 38 (0,0)))∧Aside0 (Below w.heap.size w wc))
      case first =>
       have H:=HC6.out
       clear HC6
       by_cases c10:t318=true
       ·subst c10
        have H1:((mktar_Right.f t317 ((rd_T38 l0 x9_1).f2.f0) ((rd_T38 l0 x9_1).f2.f1) ((rd_T38 l0 x9_1).f2.f2) ((rd_T38 l0 x9_1).f2.f3) ((rd_T38 l0 x9_1).f2.f4) ((rd_T38 l0 x9_1).f2.f5) ((rd_T38 l0 x9_1).f2.f6) ((rd_T38 l0 x9_1).f2.f7) ((rd_T38 l0 x9_1).f2.f8) ((rd_T38 l0 x9_1).f2.f9)).bind fun t319=>(pq15.j1 k1 l0 x9_1 l0 (l0.length:Int) x9_1 (t319 != 0) ((rd_T38 l0 x9_1).f0) ((rd_T38 l0 x9_1).f1) ((rd_T38 l0 x9_1).f2.f0) ((rd_T38 l0 x9_1).f2.f1) ((rd_T38 l0 x9_1).f2.f2) ((rd_T38 l0 x9_1).f2.f3) ((rd_T38 l0 x9_1).f2.f4) ((rd_T38 l0 x9_1).f2.f5) ((rd_T38 l0 x9_1).f2.f6) ((rd_T38 l0 x9_1).f2.f7) ((rd_T38 l0 x9_1).f2.f8) ((rd_T38 l0 x9_1).f2.f9)))=some r:=by rw [if_pos rfl] at H;exact H
        clear H
        have H:=H1
        clear H1
        replace H:=Option.bind_eq_some_iff.mp H
        obtain ⟨t319,A110,H⟩:=H
        replace H:(pq15.j1 k1 l0 x9_1 l0 (l0.length:Int) x9_1 (t319 != 0) ((rd_T38 l0 x9_1).f0) ((rd_T38 l0 x9_1).f1) ((rd_T38 l0 x9_1).f2.f0) ((rd_T38 l0 x9_1).f2.f1) ((rd_T38 l0 x9_1).f2.f2) ((rd_T38 l0 x9_1).f2.f3) ((rd_T38 l0 x9_1).f2.f4) ((rd_T38 l0 x9_1).f2.f5) ((rd_T38 l0 x9_1).f2.f6) ((rd_T38 l0 x9_1).f2.f7) ((rd_T38 l0 x9_1).f2.f8) ((rd_T38 l0 x9_1).f2.f9))=some r:=H
        have A11:=Aside0.mk A110
        clear A110
        have H':=Aside0.mk H
        clear H
        have hcz12_0:w9.cell? ⟨gb316,0,none⟩=some (.string ((rd_T38 l0 x9_1).f0)):=(blk_cell BK316.out 0).trans rfl
        have hcz12_1:w9.cell? ⟨gb316,1,none⟩=some (.int .i64 ((rd_T38 l0 x9_1).f1)):=(blk_cell BK316.out 1).trans rfl
        have hcz12_2:w9.cell? ⟨gb316,2,none⟩=some (.int .i64 ((rd_T38 l0 x9_1).f2.f0)):=(blk_cell BK316.out 2).trans rfl
        have hcz12_3:w9.cell? ⟨gb316,3,none⟩=some (.int .i64 ((rd_T38 l0 x9_1).f2.f1)):=(blk_cell BK316.out 3).trans rfl
        have hcz12_4:w9.cell? ⟨gb316,4,none⟩=some (.int .i64 ((rd_T38 l0 x9_1).f2.f2)):=(blk_cell BK316.out 4).trans rfl
        have hcz12_5:w9.cell? ⟨gb316,5,none⟩=some (.int .i64 ((rd_T38 l0 x9_1).f2.f3)):=(blk_cell BK316.out 5).trans rfl
        have hcz12_6:w9.cell? ⟨gb316,6,none⟩=some (.int .i64 ((rd_T38 l0 x9_1).f2.f4)):=(blk_cell BK316.out 6).trans rfl
        have hcz12_7:w9.cell? ⟨gb316,7,none⟩=some (.string ((rd_T38 l0 x9_1).f2.f5)):=(blk_cell BK316.out 7).trans rfl
        have hcz12_8:w9.cell? ⟨gb316,8,none⟩=some (.string ((rd_T38 l0 x9_1).f2.f6)):=(blk_cell BK316.out 8).trans rfl
        have hcz12_9:w9.cell? ⟨gb316,9,none⟩=some (.int .i64 ((rd_T38 l0 x9_1).f2.f7)):=(blk_cell BK316.out 9).trans rfl
        have hcz12_10:w9.cell? ⟨gb316,10,none⟩=some (.int .i64 ((rd_T38 l0 x9_1).f2.f8)):=(blk_cell BK316.out 10).trans rfl
        have hcz12_11:w9.cell? ⟨gb316,11,none⟩=some (.string ((rd_T38 l0 x9_1).f2.f9)):=(blk_cell BK316.out 11).trans rfl
        have hfz12_0:=blk_frozen BK316.out 0
        have hfz12_1:=blk_frozen BK316.out 1
        have hfz12_2:=blk_frozen BK316.out 2
        have hfz12_3:=blk_frozen BK316.out 3
        have hfz12_4:=blk_frozen BK316.out 4
        have hfz12_5:=blk_frozen BK316.out 5
        have hfz12_6:=blk_frozen BK316.out 6
        have hfz12_7:=blk_frozen BK316.out 7
        have hfz12_8:=blk_frozen BK316.out 8
        have hfz12_9:=blk_frozen BK316.out 9
        have hfz12_10:=blk_frozen BK316.out 10
        have hfz12_11:=blk_frozen BK316.out 11
        go_wp2_with (first|(go_at_call 53;(with_reducible refine (mktar_Right.calls t317 ((rd_T38 l0 x9_1).f2.f0) ((rd_T38 l0 x9_1).f2.f1) ((rd_T38 l0 x9_1).f2.f2) ((rd_T38 l0 x9_1).f2.f3) ((rd_T38 l0 x9_1).f2.f4) ((rd_T38 l0 x9_1).f2.f5) ((rd_T38 l0 x9_1).f2.f6) ((rd_T38 l0 x9_1).f2.f7) ((rd_T38 l0 x9_1).f2.f8) ((rd_T38 l0 x9_1).f2.f9) t319 _ (hG.ext (by repeat (first|(with_reducible first|exact HB.out|apply below_alloc|apply pw_below_drewN|apply below_drew1|refine below_set ?_ GE316.out)|exact HB.out))) A11.out).mono ?_);rintro e w13 ⟨rfl,hb⟩;have n0_:=Aside0.mk (blk_below (g:=gb316) (o:=.cells #[.string ((rd_T38 l0 x9_1).f0),.int .i64 ((rd_T38 l0 x9_1).f1),.int .i64 ((rd_T38 l0 x9_1).f2.f0),.int .i64 ((rd_T38 l0 x9_1).f2.f1),.int .i64 ((rd_T38 l0 x9_1).f2.f2),.int .i64 ((rd_T38 l0 x9_1).f2.f3),.int .i64 ((rd_T38 l0 x9_1).f2.f4),.string ((rd_T38 l0 x9_1).f2.f5),.string ((rd_T38 l0 x9_1).f2.f6),.int .i64 ((rd_T38 l0 x9_1).f2.f7),.int .i64 ((rd_T38 l0 x9_1).f2.f8),.string ((rd_T38 l0 x9_1).f2.f9)] 38 (0,0)) (by (with_reducible repeat (first|refine blk_drewN ?_ _|refine blk_drew ?_|refine blk_alloc ?_ _));exact BK316.out) hb);have n1_:=Aside0.mk (below_step (by repeat (first|(with_reducible first|exact HB.out|apply below_alloc|apply pw_below_drewN|apply below_drew1|refine below_set ?_ GE316.out)|exact HB.out)) hb);clear BK316;clear HB;have BK316:=n0_;have HB:=n1_;clear n0_ n1_;(try clear hb);(try clear hb2);(try clear hk);(try clear hi)))
        go_meet
        case rel=>exact ⟨_,((t319 != 0)),(by first|rfl|(simp;done)|(simp [*];done)),H',⟨by have:=HK1.out;first|omega|exact Nat.le_refl _⟩,⟨by (with_reducible repeat (first|refine blk_drewN ?_ _|refine blk_drew ?_|refine blk_alloc ?_ _));exact BK316.out⟩,⟨by repeat (first|(with_reducible first|exact HB.out|apply below_alloc|apply pw_below_drewN|apply below_drew1|refine below_set ?_ GE316.out)|exact HB.out)⟩⟩
       ·replace c10:=Bool.eq_false_iff.mpr c10
        subst c10
        have H1:(pq15.j1 k1 l0 x9_1 l0 (l0.length:Int) x9_1 true ((rd_T38 l0 x9_1).f0) ((rd_T38 l0 x9_1).f1) ((rd_T38 l0 x9_1).f2.f0) ((rd_T38 l0 x9_1).f2.f1) ((rd_T38 l0 x9_1).f2.f2) ((rd_T38 l0 x9_1).f2.f3) ((rd_T38 l0 x9_1).f2.f4) ((rd_T38 l0 x9_1).f2.f5) ((rd_T38 l0 x9_1).f2.f6) ((rd_T38 l0 x9_1).f2.f7) ((rd_T38 l0 x9_1).f2.f8) ((rd_T38 l0 x9_1).f2.f9))=some r:=by rw [if_neg (show ¬ (false=true) by decide)] at H;exact H
        clear H
        have H:=H1
        clear H1
        have H':=Aside0.mk H
        clear H
        go_wp2
        go_meet
        case rel=>exact ⟨_,(true),(by first|rfl|(simp;done)|(simp [*];done)),H',⟨by have:=HK1.out;first|omega|exact Nat.le_refl _⟩,⟨by (with_reducible repeat (first|refine blk_drewN ?_ _|refine blk_drew ?_|refine blk_alloc ?_ _));exact BK316.out⟩,⟨by repeat (first|(with_reducible first|exact HB.out|apply below_alloc|apply pw_below_drewN|apply below_drew1|refine below_set ?_ GE316.out)|exact HB.out)⟩⟩
      case rest =>
       clear HC6
       try clear c1;try clear c2;try clear c2b0;try clear p2;try clear c3;try clear c3b0;try clear p3;try clear q3;try clear hx3;try clear c4;try clear c4b0;try clear c5;try clear c10;try clear hcz12_0;try clear hcz12_1;try clear hcz12_10;try clear hcz12_11;try clear hcz12_2;try clear hcz12_3;try clear hcz12_4;try clear hcz12_5;try clear hcz12_6;try clear hcz12_7;try clear hcz12_8;try clear hcz12_9;try clear hcz8_0;try clear hcz8_1;try clear hcz8_10;try clear hcz8_11;try clear hcz8_2;try clear hcz8_3;try clear hcz8_4;try clear hcz8_5;try clear hcz8_6;try clear hcz8_7;try clear hcz8_8;try clear hcz8_9;try clear hfz12_0;try clear hfz12_1;try clear hfz12_10;try clear hfz12_11;try clear hfz12_2;try clear hfz12_3;try clear hfz12_4;try clear hfz12_5;try clear hfz12_6;try clear hfz12_7;try clear hfz12_8;try clear hfz12_9;try clear hfz8_0;try clear hfz8_1;try clear hfz8_10;try clear hfz8_11;try clear hfz8_2;try clear hfz8_3;try clear hfz8_4;try clear hfz8_5;try clear hfz8_6;try clear hfz8_7;try clear hfz8_8;try clear hfz8_9;try clear hx315_0;try clear hx315_1;try clear hx315_10;try clear hx315_11;try clear hx315_2;try clear hx315_3;try clear hx315_4;try clear hx315_5;try clear hx315_6;try clear hx315_7;try clear hx315_8;try clear hx315_9;try clear p315;try clear q315
       obtain ⟨kq,x22_5,rfl,HA,HJ5,BK316,HB⟩:=hcut
       cases kq with
       | zero=>exact absurd HA.out (by simp [pq15.j1])
       | succ kj5 =>
        have H:=HA.out
        clear HA
        simp only [pq15.j1] at H
        by_cases c14:x22_5=true
        ·subst c14
         have H1:(some false)=some r:=by rw [if_pos rfl] at H;exact H
         clear H
         have H:=H1
         clear H1
         obtain rfl:=Option.some.inj H
         go_wp2
         go_ret
         exact ⟨by first|rfl|(simp [errW_none,errW_some] <;> rfl)|(simp [*,errW_none,errW_some] <;> rfl),by repeat (first|(with_reducible first|exact HB.out|apply below_alloc|apply pw_below_drewN|apply below_drew1|refine below_set ?_ GE316.out)|exact HB.out)⟩
        ·replace c14:=Bool.eq_false_iff.mpr c14
         subst c14
         have H1:(if ((rd_T38 l0 x9_1).f1)=0 then (pq15.j2 kj5 l0 x9_1 l0 (l0.length:Int) x9_1 false ((rd_T38 l0 x9_1).f0) ((rd_T38 l0 x9_1).f1) ((rd_T38 l0 x9_1).f2.f0) ((rd_T38 l0 x9_1).f2.f1) ((rd_T38 l0 x9_1).f2.f2) ((rd_T38 l0 x9_1).f2.f3) ((rd_T38 l0 x9_1).f2.f4) ((rd_T38 l0 x9_1).f2.f5) ((rd_T38 l0 x9_1).f2.f6) ((rd_T38 l0 x9_1).f2.f7) ((rd_T38 l0 x9_1).f2.f8) ((rd_T38 l0 x9_1).f2.f9)) else (pq15.j2 kj5 l0 x9_1 l0 (l0.length:Int) x9_1 (!(((rd_T38 l0 x9_1).f2.f0) == 0) || (!(((rd_T38 l0 x9_1).f2.f1) == 0) || (!(((rd_T38 l0 x9_1).f2.f2) == 0) || (!(((rd_T38 l0 x9_1).f2.f3) == 0) || (!(((rd_T38 l0 x9_1).f2.f4) == 0) || (!(((rd_T38 l0 x9_1).f2.f5).toList == ([]:List UInt8)) || (!(((rd_T38 l0 x9_1).f2.f6).toList == ([]:List UInt8)) || (!(((rd_T38 l0 x9_1).f2.f7) == 0) || (!(((rd_T38 l0 x9_1).f2.f8) == 0) || (!(((rd_T38 l0 x9_1).f2.f9).toList == ([]:List UInt8)))))))))))) ((rd_T38 l0 x9_1).f0) ((rd_T38 l0 x9_1).f1) ((rd_T38 l0 x9_1).f2.f0) ((rd_T38 l0 x9_1).f2.f1) ((rd_T38 l0 x9_1).f2.f2) ((rd_T38 l0 x9_1).f2.f3) ((rd_T38 l0 x9_1).f2.f4) ((rd_T38 l0 x9_1).f2.f5) ((rd_T38 l0 x9_1).f2.f6) ((rd_T38 l0 x9_1).f2.f7) ((rd_T38 l0 x9_1).f2.f8) ((rd_T38 l0 x9_1).f2.f9)))=some r:=by rw [if_neg (show ¬ (false=true) by decide)] at H;exact H
         clear H
         have H:=H1
         clear H1
         have HC15:=Aside0.mk H
         clear H
         go_upto_region 7 with (fail)
         go_cut [33] (fun v33 wc=>∃ (kq:Nat) (x33_14:Bool),v33=.bool x33_14∧Aside0 (pq15.j2 kq l0 x9_1 l0 (l0.length:Int) x9_1 x33_14 ((rd_T38 l0 x9_1).f0) ((rd_T38 l0 x9_1).f1) ((rd_T38 l0 x9_1).f2.f0) ((rd_T38 l0 x9_1).f2.f1) ((rd_T38 l0 x9_1).f2.f2) ((rd_T38 l0 x9_1).f2.f3) ((rd_T38 l0 x9_1).f2.f4) ((rd_T38 l0 x9_1).f2.f5) ((rd_T38 l0 x9_1).f2.f6) ((rd_T38 l0 x9_1).f2.f7) ((rd_T38 l0 x9_1).f2.f8) ((rd_T38 l0 x9_1).f2.f9)=some r)∧Aside0 (kq≤kj5)∧Aside0 (wc.heap[gb316]?=some (.cells #[.string ((rd_T38 l0 x9_1).f0),.int .i64 ((rd_T38 l0 x9_1).f1),.int .i64 ((rd_T38 l0 x9_1).f2.f0),.int .i64 ((rd_T38 l0 x9_1).f2.f1),.int .i64 ((rd_T38 l0 x9_1).f2.f2),.int .i64 ((rd_T38 l0 x9_1).f2.f3),.int .i64 ((rd_T38 l0 x9_1).f2.f4),.string ((rd_T38 l0 x9_1).f2.f5),.string ((rd_T38 l0 x9_1).f2.f6),.int .i64 ((rd_T38 l0 x9_1).f2.f7),.int .i64 ((rd_T38 l0 x9_1).f2.f8),.string ((rd_T38 l0 x9_1).f2.f9)] 38 (0,0)))∧Aside0 (Below w.heap.size w wc))
         case first =>
          have H:=HC15.out
          clear HC15
          by_cases c16:((rd_T38 l0 x9_1).f1)=0
          ·rw [if_pos c16] at H
           have c16b0:(((rd_T38 l0 x9_1).f1) == 0)=true:=beq_iff_eq.mpr c16
           have c16b1:(((rd_T38 l0 x9_1).f1) != 0)=false:=bne_eq_false_iff_eq.mpr c16
           clear c16
           (first|rw [c16b0]|(simp only [i64_w,i32_w];rw [c16b0])|skip)
           have H':=Aside0.mk H
           clear H
           have hcz17_0:wc.cell? ⟨gb316,0,none⟩=some (.string ((rd_T38 l0 x9_1).f0)):=(blk_cell BK316.out 0).trans rfl
           have hcz17_1:wc.cell? ⟨gb316,1,none⟩=some (.int .i64 ((rd_T38 l0 x9_1).f1)):=(blk_cell BK316.out 1).trans rfl
           have hcz17_2:wc.cell? ⟨gb316,2,none⟩=some (.int .i64 ((rd_T38 l0 x9_1).f2.f0)):=(blk_cell BK316.out 2).trans rfl
           have hcz17_3:wc.cell? ⟨gb316,3,none⟩=some (.int .i64 ((rd_T38 l0 x9_1).f2.f1)):=(blk_cell BK316.out 3).trans rfl
           have hcz17_4:wc.cell? ⟨gb316,4,none⟩=some (.int .i64 ((rd_T38 l0 x9_1).f2.f2)):=(blk_cell BK316.out 4).trans rfl
           have hcz17_5:wc.cell? ⟨gb316,5,none⟩=some (.int .i64 ((rd_T38 l0 x9_1).f2.f3)):=(blk_cell BK316.out 5).trans rfl
           have hcz17_6:wc.cell? ⟨gb316,6,none⟩=some (.int .i64 ((rd_T38 l0 x9_1).f2.f4)):=(blk_cell BK316.out 6).trans rfl
           have hcz17_7:wc.cell? ⟨gb316,7,none⟩=some (.string ((rd_T38 l0 x9_1).f2.f5)):=(blk_cell BK316.out 7).trans rfl
           have hcz17_8:wc.cell? ⟨gb316,8,none⟩=some (.string ((rd_T38 l0 x9_1).f2.f6)):=(blk_cell BK316.out 8).trans rfl
           have hcz17_9:wc.cell? ⟨gb316,9,none⟩=some (.int .i64 ((rd_T38 l0 x9_1).f2.f7)):=(blk_cell BK316.out 9).trans rfl
           have hcz17_10:wc.cell? ⟨gb316,10,none⟩=some (.int .i64 ((rd_T38 l0 x9_1).f2.f8)):=(blk_cell BK316.out 10).trans rfl
           have hcz17_11:wc.cell? ⟨gb316,11,none⟩=some (.string ((rd_T38 l0 x9_1).f2.f9)):=(blk_cell BK316.out 11).trans rfl
           have hfz17_0:=blk_frozen BK316.out 0
           have hfz17_1:=blk_frozen BK316.out 1
           have hfz17_2:=blk_frozen BK316.out 2
           have hfz17_3:=blk_frozen BK316.out 3
           have hfz17_4:=blk_frozen BK316.out 4
           have hfz17_5:=blk_frozen BK316.out 5
           have hfz17_6:=blk_frozen BK316.out 6
           have hfz17_7:=blk_frozen BK316.out 7
           have hfz17_8:=blk_frozen BK316.out 8
           have hfz17_9:=blk_frozen BK316.out 9
           have hfz17_10:=blk_frozen BK316.out 10
           have hfz17_11:=blk_frozen BK316.out 11
           go_wp2
           go_meet
           case rel=>exact ⟨_,(false),(by first|rfl|(simp;done)|(simp [*];done)),H',⟨by have:=HK1.out;have:=HJ5.out;first|omega|exact Nat.le_refl _⟩,⟨by (with_reducible repeat (first|refine blk_drewN ?_ _|refine blk_drew ?_|refine blk_alloc ?_ _));exact BK316.out⟩,⟨by repeat (first|(with_reducible first|exact HB.out|apply below_alloc|apply pw_below_drewN|apply below_drew1|refine below_set ?_ GE316.out)|exact HB.out)⟩⟩
          ·rw [if_neg c16] at H
           have c16b0:(((rd_T38 l0 x9_1).f1) == 0)=false:=beq_eq_false_iff_ne.mpr c16
           have c16b1:(((rd_T38 l0 x9_1).f1) != 0)=true:=bne_iff_ne.mpr c16
           (first|rw [c16b0]|(simp only [i64_w,i32_w];rw [c16b0])|skip)
           have H':=Aside0.mk H
           clear H
           have hcz18_0:wc.cell? ⟨gb316,0,none⟩=some (.string ((rd_T38 l0 x9_1).f0)):=(blk_cell BK316.out 0).trans rfl
           have hcz18_1:wc.cell? ⟨gb316,1,none⟩=some (.int .i64 ((rd_T38 l0 x9_1).f1)):=(blk_cell BK316.out 1).trans rfl
           have hcz18_2:wc.cell? ⟨gb316,2,none⟩=some (.int .i64 ((rd_T38 l0 x9_1).f2.f0)):=(blk_cell BK316.out 2).trans rfl
           have hcz18_3:wc.cell? ⟨gb316,3,none⟩=some (.int .i64 ((rd_T38 l0 x9_1).f2.f1)):=(blk_cell BK316.out 3).trans rfl
           have hcz18_4:wc.cell? ⟨gb316,4,none⟩=some (.int .i64 ((rd_T38 l0 x9_1).f2.f2)):=(blk_cell BK316.out 4).trans rfl
           have hcz18_5:wc.cell? ⟨gb316,5,none⟩=some (.int .i64 ((rd_T38 l0 x9_1).f2.f3)):=(blk_cell BK316.out 5).trans rfl
           have hcz18_6:wc.cell? ⟨gb316,6,none⟩=some (.int .i64 ((rd_T38 l0 x9_1).f2.f4)):=(blk_cell BK316.out 6).trans rfl
           have hcz18_7:wc.cell? ⟨gb316,7,none⟩=some (.string ((rd_T38 l0 x9_1).f2.f5)):=(blk_cell BK316.out 7).trans rfl
           have hcz18_8:wc.cell? ⟨gb316,8,none⟩=some (.string ((rd_T38 l0 x9_1).f2.f6)):=(blk_cell BK316.out 8).trans rfl
           have hcz18_9:wc.cell? ⟨gb316,9,none⟩=some (.int .i64 ((rd_T38 l0 x9_1).f2.f7)):=(blk_cell BK316.out 9).trans rfl
           have hcz18_10:wc.cell? ⟨gb316,10,none⟩=some (.int .i64 ((rd_T38 l0 x9_1).f2.f8)):=(blk_cell BK316.out 10).trans rfl
           have hcz18_11:wc.cell? ⟨gb316,11,none⟩=some (.string ((rd_T38 l0 x9_1).f2.f9)):=(blk_cell BK316.out 11).trans rfl
           have hfz18_0:=blk_frozen BK316.out 0
           have hfz18_1:=blk_frozen BK316.out 1
           have hfz18_2:=blk_frozen BK316.out 2
           have hfz18_3:=blk_frozen BK316.out 3
           have hfz18_4:=blk_frozen BK316.out 4
           have hfz18_5:=blk_frozen BK316.out 5
           have hfz18_6:=blk_frozen BK316.out 6
           have hfz18_7:=blk_frozen BK316.out 7
           have hfz18_8:=blk_frozen BK316.out 8
           have hfz18_9:=blk_frozen BK316.out 9
           have hfz18_10:=blk_frozen BK316.out 10
           have hfz18_11:=blk_frozen BK316.out 11
           go_wp2
           go_meet
           case rel=>exact ⟨_,((!(((rd_T38 l0 x9_1).f2.f0) == 0) || (!(((rd_T38 l0 x9_1).f2.f1) == 0) || (!(((rd_T38 l0 x9_1).f2.f2) == 0) || (!(((rd_T38 l0 x9_1).f2.f3) == 0) || (!(((rd_T38 l0 x9_1).f2.f4) == 0) || (!(((rd_T38 l0 x9_1).f2.f5).toList == ([]:List UInt8)) || (!(((rd_T38 l0 x9_1).f2.f6).toList == ([]:List UInt8)) || (!(((rd_T38 l0 x9_1).f2.f7) == 0) || (!(((rd_T38 l0 x9_1).f2.f8) == 0) || (!(((rd_T38 l0 x9_1).f2.f9).toList == ([]:List UInt8))))))))))))),(by first|rfl|(simp;done)|(simp [*];done)),H',⟨by have:=HK1.out;have:=HJ5.out;first|omega|exact Nat.le_refl _⟩,⟨by (with_reducible repeat (first|refine blk_drewN ?_ _|refine blk_drew ?_|refine blk_alloc ?_ _));exact BK316.out⟩,⟨by repeat (first|(with_reducible first|exact HB.out|apply below_alloc|apply pw_below_drewN|apply below_drew1|refine below_set ?_ GE316.out)|exact HB.out)⟩⟩
         case rest =>
          clear HC15
          try clear c1;try clear c2;try clear c2b0;try clear p2;try clear c3;try clear c3b0;try clear p3;try clear q3;try clear hx3;try clear c4;try clear c4b0;try clear c5;try clear c10;try clear c14;try clear c16;try clear c16b0;try clear c16b1;try clear hcz12_0;try clear hcz12_1;try clear hcz12_10;try clear hcz12_11;try clear hcz12_2;try clear hcz12_3;try clear hcz12_4;try clear hcz12_5;try clear hcz12_6;try clear hcz12_7;try clear hcz12_8;try clear hcz12_9;try clear hcz17_0;try clear hcz17_1;try clear hcz17_10;try clear hcz17_11;try clear hcz17_2;try clear hcz17_3;try clear hcz17_4;try clear hcz17_5;try clear hcz17_6;try clear hcz17_7;try clear hcz17_8;try clear hcz17_9;try clear hcz18_0;try clear hcz18_1;try clear hcz18_10;try clear hcz18_11;try clear hcz18_2;try clear hcz18_3;try clear hcz18_4;try clear hcz18_5;try clear hcz18_6;try clear hcz18_7;try clear hcz18_8;try clear hcz18_9;try clear hcz8_0;try clear hcz8_1;try clear hcz8_10;try clear hcz8_11;try clear hcz8_2;try clear hcz8_3;try clear hcz8_4;try clear hcz8_5;try clear hcz8_6;try clear hcz8_7;try clear hcz8_8;try clear hcz8_9;try clear hfz12_0;try clear hfz12_1;try clear hfz12_10;try clear hfz12_11;try clear hfz12_2;try clear hfz12_3;try clear hfz12_4;try clear hfz12_5;try clear hfz12_6;try clear hfz12_7;try clear hfz12_8;try clear hfz12_9;try clear hfz17_0;try clear hfz17_1;try clear hfz17_10;try clear hfz17_11;try clear hfz17_2;try clear hfz17_3;try clear hfz17_4;try clear hfz17_5;try clear hfz17_6;try clear hfz17_7;try clear hfz17_8;try clear hfz17_9;try clear hfz18_0;try clear hfz18_1;try clear hfz18_10;try clear hfz18_11;try clear hfz18_2;try clear hfz18_3;try clear hfz18_4;try clear hfz18_5;try clear hfz18_6;try clear hfz18_7;try clear hfz18_8;try clear hfz18_9;try clear hfz8_0;try clear hfz8_1;try clear hfz8_10;try clear hfz8_11;try clear hfz8_2;try clear hfz8_3;try clear hfz8_4;try clear hfz8_5;try clear hfz8_6;try clear hfz8_7;try clear hfz8_8;try clear hfz8_9;try clear hx315_0;try clear hx315_1;try clear hx315_10;try clear hx315_11;try clear hx315_2;try clear hx315_3;try clear hx315_4;try clear hx315_5;try clear hx315_6;try clear hx315_7;try clear hx315_8;try clear hx315_9;try clear p2;try clear p3;try clear p315;try clear q3;try clear q315
          obtain ⟨kq,x33_14,rfl,HA,HJ14,BK316,HB⟩:=hcut
          cases kq with
          | zero=>exact absurd HA.out (by simp [pq15.j2])
          | succ kj14 =>
           have H:=HA.out
           clear HA
           simp only [pq15.j2] at H
           by_cases c19:x33_14=true
           ·subst c19
            have H1:(some false)=some r:=by rw [if_pos rfl] at H;exact H
            clear H
            have H:=H1
            clear H1
            obtain rfl:=Option.some.inj H
            go_wp2
            go_ret
            exact ⟨by first|rfl|(simp [errW_none,errW_some] <;> rfl)|(simp [*,errW_none,errW_some] <;> rfl),by repeat (first|(with_reducible first|exact HB.out|apply below_alloc|apply pw_below_drewN|apply below_drew1|refine below_set ?_ GE316.out)|exact HB.out)⟩
           ·replace c19:=Bool.eq_false_iff.mpr c19
            subst c19
            have H1:(if x9_1 > 0 then (if 0≤(wrap64 (x9_1 - 1)) then (if (wrap64 (x9_1 - 1))<(l0.length:Int) then ((change_Less.f kj14 ((rd_T38 l0 (wrap64 (x9_1 - 1))).f0) ((rd_T38 l0 (wrap64 (x9_1 - 1))).f1) ((rd_T38 l0 (wrap64 (x9_1 - 1))).f2.f0) ((rd_T38 l0 (wrap64 (x9_1 - 1))).f2.f1) ((rd_T38 l0 (wrap64 (x9_1 - 1))).f2.f2) ((rd_T38 l0 (wrap64 (x9_1 - 1))).f2.f3) ((rd_T38 l0 (wrap64 (x9_1 - 1))).f2.f4) ((rd_T38 l0 (wrap64 (x9_1 - 1))).f2.f5) ((rd_T38 l0 (wrap64 (x9_1 - 1))).f2.f6) ((rd_T38 l0 (wrap64 (x9_1 - 1))).f2.f7) ((rd_T38 l0 (wrap64 (x9_1 - 1))).f2.f8) ((rd_T38 l0 (wrap64 (x9_1 - 1))).f2.f9) ((rd_T38 l0 x9_1).f0) ((rd_T38 l0 x9_1).f1) ((rd_T38 l0 x9_1).f2.f0) ((rd_T38 l0 x9_1).f2.f1) ((rd_T38 l0 x9_1).f2.f2) ((rd_T38 l0 x9_1).f2.f3) ((rd_T38 l0 x9_1).f2.f4) ((rd_T38 l0 x9_1).f2.f5) ((rd_T38 l0 x9_1).f2.f6) ((rd_T38 l0 x9_1).f2.f7) ((rd_T38 l0 x9_1).f2.f8) ((rd_T38 l0 x9_1).f2.f9)).bind fun t321=>(if t321=true then (pq15.l0 kj14 l0 l0 (l0.length:Int) (wrap64 (x9_1 + 1))) else (some false))) else (none)) else (none)) else (pq15.l0 kj14 l0 l0 (l0.length:Int) (wrap64 (x9_1 + 1))))=some r:=by rw [if_neg (show ¬ (false=true) by decide)] at H;exact H
            clear H
            have H:=H1
            clear H1
            by_cases c20:x9_1 > 0
            ·rw [if_pos c20] at H
             have c20b0:decide (0<x9_1)=true:=decide_eq_true c20
             clear c20
             obtain ⟨ji21,hji21⟩:∃ j_:Int,(wrap64 (x9_1 - 1))=j_:=⟨_,rfl⟩
             replace H:(if 0≤(ji21) then (if (ji21)<(l0.length:Int) then ((change_Less.f kj14 ((rd_T38 l0 (ji21)).f0) ((rd_T38 l0 (ji21)).f1) ((rd_T38 l0 (ji21)).f2.f0) ((rd_T38 l0 (ji21)).f2.f1) ((rd_T38 l0 (ji21)).f2.f2) ((rd_T38 l0 (ji21)).f2.f3) ((rd_T38 l0 (ji21)).f2.f4) ((rd_T38 l0 (ji21)).f2.f5) ((rd_T38 l0 (ji21)).f2.f6) ((rd_T38 l0 (ji21)).f2.f7) ((rd_T38 l0 (ji21)).f2.f8) ((rd_T38 l0 (ji21)).f2.f9) ((rd_T38 l0 x9_1).f0) ((rd_T38 l0 x9_1).f1) ((rd_T38 l0 x9_1).f2.f0) ((rd_T38 l0 x9_1).f2.f1) ((rd_T38 l0 x9_1).f2.f2) ((rd_T38 l0 x9_1).f2.f3) ((rd_T38 l0 x9_1).f2.f4) ((rd_T38 l0 x9_1).f2.f5) ((rd_T38 l0 x9_1).f2.f6) ((rd_T38 l0 x9_1).f2.f7) ((rd_T38 l0 x9_1).f2.f8) ((rd_T38 l0 x9_1).f2.f9)).bind fun t321=>(if t321=true then (pq15.l0 kj14 l0 l0 (l0.length:Int) (wrap64 (x9_1 + 1))) else (some false))) else (none)) else (none))=some r:=by first|(rw [hji21] at H;exact H)|(simp only [hji21] at H ⊢;exact H)
             have hji21w:(IntKind.i64.wrap (x9_1 - 1))=ji21:=(i64_w _).trans hji21
             by_cases c22:0≤(ji21)
             ·rw [if_pos c22] at H
              have c22b0:decide (0≤(ji21))=true:=decide_eq_true c22
              clear c22
              by_cases c23:(ji21)<(l0.length:Int)
              ·rw [if_pos c23] at H
               have c23b0:decide ((ji21)<(l0.length:Int))=true:=decide_eq_true c23
               clear c23
               replace H:=Option.bind_eq_some_iff.mp H
               obtain ⟨t321,A240,H⟩:=H
               replace H:(if t321=true then (pq15.l0 kj14 l0 l0 (l0.length:Int) (wrap64 (x9_1 + 1))) else (some false))=some r:=H
               have A24:=Aside0.mk A240
               clear A240
               by_cases c25:t321=true
               ·subst c25
                have H1:(pq15.l0 kj14 l0 l0 (l0.length:Int) (wrap64 (x9_1 + 1)))=some r:=by rw [if_pos rfl] at H;exact H
                clear H
                have H:=H1
                clear H1
                have H':=Aside0.mk H
                clear H
                try go_wp2
                have n0_:=Aside0.mk (blk_drew BK316.out)
                have n1_:=Aside0.mk (below_drew1 HB.out)
                clear BK316
                clear HB
                have BK316:=n0_
                have HB:=n1_
                clear n0_ n1_
                have p320:0≤((ji21):Int):=of_decide_eq_true (by first|(with_reducible assumption)|assumption)
                have q320:(ji21)<(l0.length:Int):=of_decide_eq_true (by first|(with_reducible assumption)|assumption)
                obtain ⟨ad320,e320,hx320_0,hx320_1,hx320_2,hx320_3,hx320_4,hx320_5,hx320_6,hx320_7,hx320_8,hx320_9,hx320_10,hx320_11⟩:=at_T38 HR0.out (ji21) p320 q320
                have hw320_11:=hx320_11
                have hw320_10:=hx320_10
                have hw320_9:=hx320_9
                have hw320_8:=hx320_8
                have hw320_7:=hx320_7
                have hw320_6:=hx320_6
                have hw320_5:=hx320_5
                have hw320_4:=hx320_4
                have hw320_3:=hx320_3
                have hw320_2:=hx320_2
                have hw320_1:=hx320_1
                have hw320_0:=hx320_0
                obtain rfl:ad315=ad320:=(by injection e320)
                replace hx320_0:=(HB.out.cell (World.block_lt_of_cell? w _ hx320_0)).trans hx320_0
                replace hx320_1:=(HB.out.cell (World.block_lt_of_cell? w _ hx320_1)).trans hx320_1
                replace hx320_2:=(HB.out.cell (World.block_lt_of_cell? w _ hx320_2)).trans hx320_2
                replace hx320_3:=(HB.out.cell (World.block_lt_of_cell? w _ hx320_3)).trans hx320_3
                replace hx320_4:=(HB.out.cell (World.block_lt_of_cell? w _ hx320_4)).trans hx320_4
                replace hx320_5:=(HB.out.cell (World.block_lt_of_cell? w _ hx320_5)).trans hx320_5
                replace hx320_6:=(HB.out.cell (World.block_lt_of_cell? w _ hx320_6)).trans hx320_6
                replace hx320_7:=(HB.out.cell (World.block_lt_of_cell? w _ hx320_7)).trans hx320_7
                replace hx320_8:=(HB.out.cell (World.block_lt_of_cell? w _ hx320_8)).trans hx320_8
                replace hx320_9:=(HB.out.cell (World.block_lt_of_cell? w _ hx320_9)).trans hx320_9
                replace hx320_10:=(HB.out.cell (World.block_lt_of_cell? w _ hx320_10)).trans hx320_10
                replace hx320_11:=(HB.out.cell (World.block_lt_of_cell? w _ hx320_11)).trans hx320_11
                replace p320:=eq_true p320
                replace q320:=eq_true q320
                refine start_ (n:=13) (S:=fun w'=>w'.cell? ⟨gb316,0,none⟩=some (.string ((rd_T38 l0 x9_1).f0))∧w'.cell? ⟨gb316,1,none⟩=some (.int .i64 ((rd_T38 l0 x9_1).f1))∧w'.cell? ⟨gb316,2,none⟩=some (.int .i64 ((rd_T38 l0 x9_1).f2.f0))∧w'.cell? ⟨gb316,3,none⟩=some (.int .i64 ((rd_T38 l0 x9_1).f2.f1))∧w'.cell? ⟨gb316,4,none⟩=some (.int .i64 ((rd_T38 l0 x9_1).f2.f2))∧w'.cell? ⟨gb316,5,none⟩=some (.int .i64 ((rd_T38 l0 x9_1).f2.f3))∧w'.cell? ⟨gb316,6,none⟩=some (.int .i64 ((rd_T38 l0 x9_1).f2.f4))∧w'.cell? ⟨gb316,7,none⟩=some (.string ((rd_T38 l0 x9_1).f2.f5))∧w'.cell? ⟨gb316,8,none⟩=some (.string ((rd_T38 l0 x9_1).f2.f6))∧w'.cell? ⟨gb316,9,none⟩=some (.int .i64 ((rd_T38 l0 x9_1).f2.f7))∧w'.cell? ⟨gb316,10,none⟩=some (.int .i64 ((rd_T38 l0 x9_1).f2.f8))∧w'.cell? ⟨gb316,11,none⟩=some (.string ((rd_T38 l0 x9_1).f2.f9))∧w'.cell? (ad315.add (((ji21)).toNat * 12))=some (.string ((rd_T38 l0 (ji21)).f0))∧w'.cell? ⟨(ad315.add (((ji21)).toNat * 12)).block,(ad315.add (((ji21)).toNat * 12)).off + 1,none⟩=some (.int .i64 ((rd_T38 l0 (ji21)).f1))∧w'.cell? ⟨(ad315.add (((ji21)).toNat * 12)).block,(ad315.add (((ji21)).toNat * 12)).off + 2,none⟩=some (.int .i64 ((rd_T38 l0 (ji21)).f2.f0))∧w'.cell? ⟨(ad315.add (((ji21)).toNat * 12)).block,(ad315.add (((ji21)).toNat * 12)).off + 3,none⟩=some (.int .i64 ((rd_T38 l0 (ji21)).f2.f1))∧w'.cell? ⟨(ad315.add (((ji21)).toNat * 12)).block,(ad315.add (((ji21)).toNat * 12)).off + 4,none⟩=some (.int .i64 ((rd_T38 l0 (ji21)).f2.f2))∧w'.cell? ⟨(ad315.add (((ji21)).toNat * 12)).block,(ad315.add (((ji21)).toNat * 12)).off + 5,none⟩=some (.int .i64 ((rd_T38 l0 (ji21)).f2.f3))∧w'.cell? ⟨(ad315.add (((ji21)).toNat * 12)).block,(ad315.add (((ji21)).toNat * 12)).off + 6,none⟩=some (.int .i64 ((rd_T38 l0 (ji21)).f2.f4))∧w'.cell? ⟨(ad315.add (((ji21)).toNat * 12)).block,(ad315.add (((ji21)).toNat * 12)).off + 7,none⟩=some (.string ((rd_T38 l0 (ji21)).f2.f5))∧w'.cell? ⟨(ad315.add (((ji21)).toNat * 12)).block,(ad315.add (((ji21)).toNat * 12)).off + 8,none⟩=some (.string ((rd_T38 l0 (ji21)).f2.f6))∧w'.cell? ⟨(ad315.add (((ji21)).toNat * 12)).block,(ad315.add (((ji21)).toNat * 12)).off + 9,none⟩=some (.int .i64 ((rd_T38 l0 (ji21)).f2.f7))∧w'.cell? ⟨(ad315.add (((ji21)).toNat * 12)).block,(ad315.add (((ji21)).toNat * 12)).off + 10,none⟩=some (.int .i64 ((rd_T38 l0 (ji21)).f2.f8))∧w'.cell? ⟨(ad315.add (((ji21)).toNat * 12)).block,(ad315.add (((ji21)).toNat * 12)).off + 11,none⟩=some (.string ((rd_T38 l0 (ji21)).f2.f9))) (ds:=[]) (bm 13 0) (by kernel_rfl) rfl rfl ⟨(blk_cell BK316.out 0).trans rfl,(blk_cell BK316.out 1).trans rfl,(blk_cell BK316.out 2).trans rfl,(blk_cell BK316.out 3).trans rfl,(blk_cell BK316.out 4).trans rfl,(blk_cell BK316.out 5).trans rfl,(blk_cell BK316.out 6).trans rfl,(blk_cell BK316.out 7).trans rfl,(blk_cell BK316.out 8).trans rfl,(blk_cell BK316.out 9).trans rfl,(blk_cell BK316.out 10).trans rfl,(blk_cell BK316.out 11).trans rfl,((HB.out.cell (World.block_lt_of_cell? w _ hw320_0)).trans hw320_0),((HB.out.cell (World.block_lt_of_cell? w _ hw320_1)).trans hw320_1),((HB.out.cell (World.block_lt_of_cell? w _ hw320_2)).trans hw320_2),((HB.out.cell (World.block_lt_of_cell? w _ hw320_3)).trans hw320_3),((HB.out.cell (World.block_lt_of_cell? w _ hw320_4)).trans hw320_4),((HB.out.cell (World.block_lt_of_cell? w _ hw320_5)).trans hw320_5),((HB.out.cell (World.block_lt_of_cell? w _ hw320_6)).trans hw320_6),((HB.out.cell (World.block_lt_of_cell? w _ hw320_7)).trans hw320_7),((HB.out.cell (World.block_lt_of_cell? w _ hw320_8)).trans hw320_8),((HB.out.cell (World.block_lt_of_cell? w _ hw320_9)).trans hw320_9),((HB.out.cell (World.block_lt_of_cell? w _ hw320_10)).trans hw320_10),((HB.out.cell (World.block_lt_of_cell? w _ hw320_11)).trans hw320_11)⟩ (fun hHeld=>?_);refine with_tabW pq15.tab9 pq15.bits9 (fun HT_ HW_=>?_)
                generalize wc.drew=w26 at BK316 HB hx320_0 hx320_1 hx320_10 hx320_11 hx320_2 hx320_3 hx320_4 hx320_5 hx320_6 hx320_7 hx320_8 hx320_9 hHeld ⊢
                refine pT 0 44 ?_ (bm 13 1) HT_.out rfl rfl (by kernel_rfl) (fun _ _ _=>id) (by rfl) ?_ ?_ ?_ ?_
                rotate_left
                ·intro w'
                 go_simp
                 with_reducible rfl
                rotate_left
                ·simp only [aP,i64_w,i32_w]
                 rfl
                refine pT 1 45 ?_ (bm 13 3) HT_.out rfl rfl (by kernel_rfl) (fun _ _ _=>id) (by rfl) ?_ ?_ ?_ ?_
                rotate_left
                ·intro w'
                 go_simp
                 with_reducible rfl
                rotate_left
                ·simp only [aP,i64_w,i32_w]
                 rfl
                refine pT 2 46 ?_ (bm 13 7) HT_.out rfl rfl (by kernel_rfl) (fun _ _ _=>id) (by rfl) ?_ ?_ ?_ ?_
                rotate_left
                ·intro w'
                 go_simp
                 with_reducible rfl
                rotate_left
                ·simp only [aP,i64_w,i32_w]
                 rfl
                refine pT 3 47 ?_ (bm 13 15) HT_.out rfl rfl (by kernel_rfl) (fun _ _ _=>id) (by rfl) ?_ ?_ ?_ ?_
                rotate_left
                ·intro w'
                 go_simp
                 with_reducible rfl
                rotate_left
                ·simp only [aP,i64_w,i32_w]
                 rfl
                refine pT 4 48 ?_ (bm 13 31) HT_.out rfl rfl (by kernel_rfl) (fun _ _ _=>id) (by rfl) ?_ ?_ ?_ ?_
                rotate_left
                ·intro w'
                 go_simp
                 with_reducible rfl
                rotate_left
                ·simp only [aP,i64_w,i32_w]
                 rfl
                refine pT 5 49 ?_ (bm 13 63) HT_.out rfl rfl (by kernel_rfl) (fun _ _ _=>id) (by rfl) ?_ ?_ ?_ ?_
                rotate_left
                ·intro w'
                 go_simp
                 with_reducible rfl
                rotate_left
                ·simp only [aP,i64_w,i32_w]
                 rfl
                refine pT 6 50 ?_ (bm 13 127) HT_.out rfl rfl (by kernel_rfl) (fun _ _ _=>id) (by rfl) ?_ ?_ ?_ ?_
                rotate_left
                ·intro w'
                 go_simp
                 with_reducible rfl
                rotate_left
                ·simp only [aP,i64_w,i32_w]
                 rfl
                refine take_ (i:=7) (N:=some 51) (v:=?_) (a':=?_) (bm 13 255) rfl rfl (take_ofW HT_.out HW_.out (by kernel_rfl)) (fun _ _ _ h=>h) (Or.inl ⟨by rfl,?_⟩) hHeld ?_ ?_
                rotate_left
                ·rintro w' ⟨s0,s1,s2,s3,s4,s5,s6,s7,s8,s9,s10,s11,s12,s13,s14,s15,s16,s17,s18,s19,s20,s21,s22,s23⟩
                 go_simp
                 with_reducible rfl
                rotate_left
                ·simp only [aP,i64_w,i32_w]
                 rfl
                refine take_ (i:=8) (N:=some 52) (v:=?_) (a':=?_) (bm 13 511) rfl rfl (take_ofW HT_.out HW_.out (by kernel_rfl)) (fun _ _ _ h=>h) (Or.inl ⟨by rfl,?_⟩) hHeld ?_ ?_
                rotate_left
                ·rintro w' ⟨s0,s1,s2,s3,s4,s5,s6,s7,s8,s9,s10,s11,s12,s13,s14,s15,s16,s17,s18,s19,s20,s21,s22,s23⟩
                 go_simp
                 with_reducible rfl
                rotate_left
                ·simp only [aP,i64_w,i32_w]
                 rfl
                refine one_ (i:=9) (N:=some 53) (bm 13 1023) rfl rfl (one_of HT_.out (by kernel_rfl)) (by decide) (fun K hK=>?_)
                refine goes_ Tryz.func54 (by kernel_rfl) rfl #[.agg #[.string ((rd_T38 l0 (ji21)).f0),.int .i64 ((rd_T38 l0 (ji21)).f1),.int .i64 ((rd_T38 l0 (ji21)).f2.f0),.int .i64 ((rd_T38 l0 (ji21)).f2.f1),.int .i64 ((rd_T38 l0 (ji21)).f2.f2),.int .i64 ((rd_T38 l0 (ji21)).f2.f3),.int .i64 ((rd_T38 l0 (ji21)).f2.f4),.string ((rd_T38 l0 (ji21)).f2.f5),.string ((rd_T38 l0 (ji21)).f2.f6),.int .i64 ((rd_T38 l0 (ji21)).f2.f7),.int .i64 ((rd_T38 l0 (ji21)).f2.f8),.string ((rd_T38 l0 (ji21)).f2.f9)],.agg #[.string ((rd_T38 l0 x9_1).f0),.int .i64 ((rd_T38 l0 x9_1).f1),.int .i64 ((rd_T38 l0 x9_1).f2.f0),.int .i64 ((rd_T38 l0 x9_1).f2.f1),.int .i64 ((rd_T38 l0 x9_1).f2.f2),.int .i64 ((rd_T38 l0 x9_1).f2.f3),.int .i64 ((rd_T38 l0 x9_1).f2.f4),.string ((rd_T38 l0 x9_1).f2.f5),.string ((rd_T38 l0 x9_1).f2.f6),.int .i64 ((rd_T38 l0 x9_1).f2.f7),.int .i64 ((rd_T38 l0 x9_1).f2.f8),.string ((rd_T38 l0 x9_1).f2.f9)]] (by rfl) rfl rfl (by (try simp only [List.map_toArray,List.map_cons,List.map_nil]);first|done|(simp only [hji21];rfl)|rfl|(simp only [List.length_drop,List.length_take];rfl)) ?_
                with_reducible refine (change_Less.calls kj14 ((rd_T38 l0 (ji21)).f0) ((rd_T38 l0 (ji21)).f1) ((rd_T38 l0 (ji21)).f2.f0) ((rd_T38 l0 (ji21)).f2.f1) ((rd_T38 l0 (ji21)).f2.f2) ((rd_T38 l0 (ji21)).f2.f3) ((rd_T38 l0 (ji21)).f2.f4) ((rd_T38 l0 (ji21)).f2.f5) ((rd_T38 l0 (ji21)).f2.f6) ((rd_T38 l0 (ji21)).f2.f7) ((rd_T38 l0 (ji21)).f2.f8) ((rd_T38 l0 (ji21)).f2.f9) ((rd_T38 l0 x9_1).f0) ((rd_T38 l0 x9_1).f1) ((rd_T38 l0 x9_1).f2.f0) ((rd_T38 l0 x9_1).f2.f1) ((rd_T38 l0 x9_1).f2.f2) ((rd_T38 l0 x9_1).f2.f3) ((rd_T38 l0 x9_1).f2.f4) ((rd_T38 l0 x9_1).f2.f5) ((rd_T38 l0 x9_1).f2.f6) ((rd_T38 l0 x9_1).f2.f7) ((rd_T38 l0 x9_1).f2.f8) ((rd_T38 l0 x9_1).f2.f9) true _ (hG.ext (by repeat (first|(with_reducible first|exact HB.out|apply below_alloc|apply pw_below_drewN|apply below_drew1|refine below_set ?_ GE316.out)|exact HB.out))) A24.out).mono ?_
                rintro e w27 ⟨rfl,hb⟩
                refine ⟨_,rfl,?_⟩
                have n0_:=Aside0.mk (blk_below (g:=gb316) (o:=.cells #[.string ((rd_T38 l0 x9_1).f0),.int .i64 ((rd_T38 l0 x9_1).f1),.int .i64 ((rd_T38 l0 x9_1).f2.f0),.int .i64 ((rd_T38 l0 x9_1).f2.f1),.int .i64 ((rd_T38 l0 x9_1).f2.f2),.int .i64 ((rd_T38 l0 x9_1).f2.f3),.int .i64 ((rd_T38 l0 x9_1).f2.f4),.string ((rd_T38 l0 x9_1).f2.f5),.string ((rd_T38 l0 x9_1).f2.f6),.int .i64 ((rd_T38 l0 x9_1).f2.f7),.int .i64 ((rd_T38 l0 x9_1).f2.f8),.string ((rd_T38 l0 x9_1).f2.f9)] 38 (0,0)) (by (with_reducible repeat (first|refine blk_drewN ?_ _|refine blk_drew ?_|refine blk_alloc ?_ _));exact BK316.out) hb)
                have n1_:=Aside0.mk (below_step (by repeat (first|(with_reducible first|exact HB.out|apply below_alloc|apply pw_below_drewN|apply below_drew1|refine below_set ?_ GE316.out)|exact HB.out)) hb)
                clear BK316
                clear HB
                have BK316:=n0_
                have HB:=n1_
                clear n0_ n1_
                (try clear hb)
                (try clear hb2)
                (try clear hk)
                (try clear hi)
                refine hK.out _ _ ⟨(blk_cell BK316.out 0).trans rfl,(blk_cell BK316.out 1).trans rfl,(blk_cell BK316.out 2).trans rfl,(blk_cell BK316.out 3).trans rfl,(blk_cell BK316.out 4).trans rfl,(blk_cell BK316.out 5).trans rfl,(blk_cell BK316.out 6).trans rfl,(blk_cell BK316.out 7).trans rfl,(blk_cell BK316.out 8).trans rfl,(blk_cell BK316.out 9).trans rfl,(blk_cell BK316.out 10).trans rfl,(blk_cell BK316.out 11).trans rfl,((HB.out.cell (World.block_lt_of_cell? w _ hw320_0)).trans hw320_0),((HB.out.cell (World.block_lt_of_cell? w _ hw320_1)).trans hw320_1),((HB.out.cell (World.block_lt_of_cell? w _ hw320_2)).trans hw320_2),((HB.out.cell (World.block_lt_of_cell? w _ hw320_3)).trans hw320_3),((HB.out.cell (World.block_lt_of_cell? w _ hw320_4)).trans hw320_4),((HB.out.cell (World.block_lt_of_cell? w _ hw320_5)).trans hw320_5),((HB.out.cell (World.block_lt_of_cell? w _ hw320_6)).trans hw320_6),((HB.out.cell (World.block_lt_of_cell? w _ hw320_7)).trans hw320_7),((HB.out.cell (World.block_lt_of_cell? w _ hw320_8)).trans hw320_8),((HB.out.cell (World.block_lt_of_cell? w _ hw320_9)).trans hw320_9),((HB.out.cell (World.block_lt_of_cell? w _ hw320_10)).trans hw320_10),((HB.out.cell (World.block_lt_of_cell? w _ hw320_11)).trans hw320_11)⟩ (fun hHeld=>?_)
                clear hK K
                refine norm_ (a':=?_) ?_ ?_
                rotate_left
                ·show Act.put _ (some 53) _=_
                 simp only [aP,i64_w,i32_w]
                 rfl
                refine pT 10 54 ?_ (bm 13 2047) HT_.out rfl rfl (by kernel_rfl) (fun _ _ _=>id) (by rfl) ?_ ?_ ?_ ?_
                rotate_left
                ·intro w'
                 go_simp
                 with_reducible rfl
                rotate_left
                ·simp only [aP,i64_w,i32_w]
                 rfl
                refine pT 11 55 ?_ (bm 13 4095) HT_.out rfl rfl (by kernel_rfl) (fun _ _ _=>id) (by rfl) ?_ ?_ ?_ ?_
                rotate_left
                ·intro w'
                 go_simp
                 with_reducible rfl
                rotate_left
                ·simp only [aP,i64_w,i32_w]
                 rfl
                refine pT 12 43 ?_ (bm 13 8191) HT_.out rfl rfl (by kernel_rfl) (fun _ _ _=>id) (by rfl) ?_ ?_ ?_ ?_
                rotate_left
                ·intro w'
                 go_simp
                 with_reducible rfl
                rotate_left
                ·simp only [aP,i64_w,i32_w]
                 rfl
                refine done_ (done_of HT_.out (by kernel_rfl)) ?_
                try go_wp2
                go_roundg kj14
                case measure=>have:=HK1.out;have:=HJ5.out;have:=HJ14.out;omega
                case rel=>exact ⟨(wrap64 (x9_1 + 1)),(by first|rfl|(simp;done)|(simp [*];done)),H',⟨by have:=HK1.out;have:=HJ5.out;have:=HJ14.out;omega⟩,⟨by repeat (first|(with_reducible first|exact HB.out|apply below_alloc|apply pw_below_drewN|apply below_drew1|refine below_set ?_ GE316.out)|exact HB.out)⟩⟩
               ·replace c25:=Bool.eq_false_iff.mpr c25
                subst c25
                have H1:(some false)=some r:=by rw [if_neg (show ¬ (false=true) by decide)] at H;exact H
                clear H
                have H:=H1
                clear H1
                obtain rfl:=Option.some.inj H
                try go_wp2
                have n0_:=Aside0.mk (blk_drew BK316.out)
                have n1_:=Aside0.mk (below_drew1 HB.out)
                clear BK316
                clear HB
                have BK316:=n0_
                have HB:=n1_
                clear n0_ n1_
                have p320:0≤((ji21):Int):=of_decide_eq_true (by first|(with_reducible assumption)|assumption)
                have q320:(ji21)<(l0.length:Int):=of_decide_eq_true (by first|(with_reducible assumption)|assumption)
                obtain ⟨ad320,e320,hx320_0,hx320_1,hx320_2,hx320_3,hx320_4,hx320_5,hx320_6,hx320_7,hx320_8,hx320_9,hx320_10,hx320_11⟩:=at_T38 HR0.out (ji21) p320 q320
                have hw320_11:=hx320_11
                have hw320_10:=hx320_10
                have hw320_9:=hx320_9
                have hw320_8:=hx320_8
                have hw320_7:=hx320_7
                have hw320_6:=hx320_6
                have hw320_5:=hx320_5
                have hw320_4:=hx320_4
                have hw320_3:=hx320_3
                have hw320_2:=hx320_2
                have hw320_1:=hx320_1
                have hw320_0:=hx320_0
                obtain rfl:ad315=ad320:=(by injection e320)
                replace hx320_0:=(HB.out.cell (World.block_lt_of_cell? w _ hx320_0)).trans hx320_0
                replace hx320_1:=(HB.out.cell (World.block_lt_of_cell? w _ hx320_1)).trans hx320_1
                replace hx320_2:=(HB.out.cell (World.block_lt_of_cell? w _ hx320_2)).trans hx320_2
                replace hx320_3:=(HB.out.cell (World.block_lt_of_cell? w _ hx320_3)).trans hx320_3
                replace hx320_4:=(HB.out.cell (World.block_lt_of_cell? w _ hx320_4)).trans hx320_4
                replace hx320_5:=(HB.out.cell (World.block_lt_of_cell? w _ hx320_5)).trans hx320_5
                replace hx320_6:=(HB.out.cell (World.block_lt_of_cell? w _ hx320_6)).trans hx320_6
                replace hx320_7:=(HB.out.cell (World.block_lt_of_cell? w _ hx320_7)).trans hx320_7
                replace hx320_8:=(HB.out.cell (World.block_lt_of_cell? w _ hx320_8)).trans hx320_8
                replace hx320_9:=(HB.out.cell (World.block_lt_of_cell? w _ hx320_9)).trans hx320_9
                replace hx320_10:=(HB.out.cell (World.block_lt_of_cell? w _ hx320_10)).trans hx320_10
                replace hx320_11:=(HB.out.cell (World.block_lt_of_cell? w _ hx320_11)).trans hx320_11
                replace p320:=eq_true p320
                replace q320:=eq_true q320
                refine start_ (n:=13) (S:=fun w'=>w'.cell? ⟨gb316,0,none⟩=some (.string ((rd_T38 l0 x9_1).f0))∧w'.cell? ⟨gb316,1,none⟩=some (.int .i64 ((rd_T38 l0 x9_1).f1))∧w'.cell? ⟨gb316,2,none⟩=some (.int .i64 ((rd_T38 l0 x9_1).f2.f0))∧w'.cell? ⟨gb316,3,none⟩=some (.int .i64 ((rd_T38 l0 x9_1).f2.f1))∧w'.cell? ⟨gb316,4,none⟩=some (.int .i64 ((rd_T38 l0 x9_1).f2.f2))∧w'.cell? ⟨gb316,5,none⟩=some (.int .i64 ((rd_T38 l0 x9_1).f2.f3))∧w'.cell? ⟨gb316,6,none⟩=some (.int .i64 ((rd_T38 l0 x9_1).f2.f4))∧w'.cell? ⟨gb316,7,none⟩=some (.string ((rd_T38 l0 x9_1).f2.f5))∧w'.cell? ⟨gb316,8,none⟩=some (.string ((rd_T38 l0 x9_1).f2.f6))∧w'.cell? ⟨gb316,9,none⟩=some (.int .i64 ((rd_T38 l0 x9_1).f2.f7))∧w'.cell? ⟨gb316,10,none⟩=some (.int .i64 ((rd_T38 l0 x9_1).f2.f8))∧w'.cell? ⟨gb316,11,none⟩=some (.string ((rd_T38 l0 x9_1).f2.f9))∧w'.cell? (ad315.add (((ji21)).toNat * 12))=some (.string ((rd_T38 l0 (ji21)).f0))∧w'.cell? ⟨(ad315.add (((ji21)).toNat * 12)).block,(ad315.add (((ji21)).toNat * 12)).off + 1,none⟩=some (.int .i64 ((rd_T38 l0 (ji21)).f1))∧w'.cell? ⟨(ad315.add (((ji21)).toNat * 12)).block,(ad315.add (((ji21)).toNat * 12)).off + 2,none⟩=some (.int .i64 ((rd_T38 l0 (ji21)).f2.f0))∧w'.cell? ⟨(ad315.add (((ji21)).toNat * 12)).block,(ad315.add (((ji21)).toNat * 12)).off + 3,none⟩=some (.int .i64 ((rd_T38 l0 (ji21)).f2.f1))∧w'.cell? ⟨(ad315.add (((ji21)).toNat * 12)).block,(ad315.add (((ji21)).toNat * 12)).off + 4,none⟩=some (.int .i64 ((rd_T38 l0 (ji21)).f2.f2))∧w'.cell? ⟨(ad315.add (((ji21)).toNat * 12)).block,(ad315.add (((ji21)).toNat * 12)).off + 5,none⟩=some (.int .i64 ((rd_T38 l0 (ji21)).f2.f3))∧w'.cell? ⟨(ad315.add (((ji21)).toNat * 12)).block,(ad315.add (((ji21)).toNat * 12)).off + 6,none⟩=some (.int .i64 ((rd_T38 l0 (ji21)).f2.f4))∧w'.cell? ⟨(ad315.add (((ji21)).toNat * 12)).block,(ad315.add (((ji21)).toNat * 12)).off + 7,none⟩=some (.string ((rd_T38 l0 (ji21)).f2.f5))∧w'.cell? ⟨(ad315.add (((ji21)).toNat * 12)).block,(ad315.add (((ji21)).toNat * 12)).off + 8,none⟩=some (.string ((rd_T38 l0 (ji21)).f2.f6))∧w'.cell? ⟨(ad315.add (((ji21)).toNat * 12)).block,(ad315.add (((ji21)).toNat * 12)).off + 9,none⟩=some (.int .i64 ((rd_T38 l0 (ji21)).f2.f7))∧w'.cell? ⟨(ad315.add (((ji21)).toNat * 12)).block,(ad315.add (((ji21)).toNat * 12)).off + 10,none⟩=some (.int .i64 ((rd_T38 l0 (ji21)).f2.f8))∧w'.cell? ⟨(ad315.add (((ji21)).toNat * 12)).block,(ad315.add (((ji21)).toNat * 12)).off + 11,none⟩=some (.string ((rd_T38 l0 (ji21)).f2.f9))) (ds:=[]) (bm 13 0) (by kernel_rfl) rfl rfl ⟨(blk_cell BK316.out 0).trans rfl,(blk_cell BK316.out 1).trans rfl,(blk_cell BK316.out 2).trans rfl,(blk_cell BK316.out 3).trans rfl,(blk_cell BK316.out 4).trans rfl,(blk_cell BK316.out 5).trans rfl,(blk_cell BK316.out 6).trans rfl,(blk_cell BK316.out 7).trans rfl,(blk_cell BK316.out 8).trans rfl,(blk_cell BK316.out 9).trans rfl,(blk_cell BK316.out 10).trans rfl,(blk_cell BK316.out 11).trans rfl,((HB.out.cell (World.block_lt_of_cell? w _ hw320_0)).trans hw320_0),((HB.out.cell (World.block_lt_of_cell? w _ hw320_1)).trans hw320_1),((HB.out.cell (World.block_lt_of_cell? w _ hw320_2)).trans hw320_2),((HB.out.cell (World.block_lt_of_cell? w _ hw320_3)).trans hw320_3),((HB.out.cell (World.block_lt_of_cell? w _ hw320_4)).trans hw320_4),((HB.out.cell (World.block_lt_of_cell? w _ hw320_5)).trans hw320_5),((HB.out.cell (World.block_lt_of_cell? w _ hw320_6)).trans hw320_6),((HB.out.cell (World.block_lt_of_cell? w _ hw320_7)).trans hw320_7),((HB.out.cell (World.block_lt_of_cell? w _ hw320_8)).trans hw320_8),((HB.out.cell (World.block_lt_of_cell? w _ hw320_9)).trans hw320_9),((HB.out.cell (World.block_lt_of_cell? w _ hw320_10)).trans hw320_10),((HB.out.cell (World.block_lt_of_cell? w _ hw320_11)).trans hw320_11)⟩ (fun hHeld=>?_);refine with_tabW pq15.tab9 pq15.bits9 (fun HT_ HW_=>?_)
                generalize wc.drew=w28 at BK316 HB hx320_0 hx320_1 hx320_10 hx320_11 hx320_2 hx320_3 hx320_4 hx320_5 hx320_6 hx320_7 hx320_8 hx320_9 hHeld ⊢
                refine pT 0 44 ?_ (bm 13 1) HT_.out rfl rfl (by kernel_rfl) (fun _ _ _=>id) (by rfl) ?_ ?_ ?_ ?_
                rotate_left
                ·intro w'
                 go_simp
                 with_reducible rfl
                rotate_left
                ·simp only [aP,i64_w,i32_w]
                 rfl
                refine pT 1 45 ?_ (bm 13 3) HT_.out rfl rfl (by kernel_rfl) (fun _ _ _=>id) (by rfl) ?_ ?_ ?_ ?_
                rotate_left
                ·intro w'
                 go_simp
                 with_reducible rfl
                rotate_left
                ·simp only [aP,i64_w,i32_w]
                 rfl
                refine pT 2 46 ?_ (bm 13 7) HT_.out rfl rfl (by kernel_rfl) (fun _ _ _=>id) (by rfl) ?_ ?_ ?_ ?_
                rotate_left
                ·intro w'
                 go_simp
                 with_reducible rfl
                rotate_left
                ·simp only [aP,i64_w,i32_w]
                 rfl
                refine pT 3 47 ?_ (bm 13 15) HT_.out rfl rfl (by kernel_rfl) (fun _ _ _=>id) (by rfl) ?_ ?_ ?_ ?_
                rotate_left
                ·intro w'
                 go_simp
                 with_reducible rfl
                rotate_left
                ·simp only [aP,i64_w,i32_w]
                 rfl
                refine pT 4 48 ?_ (bm 13 31) HT_.out rfl rfl (by kernel_rfl) (fun _ _ _=>id) (by rfl) ?_ ?_ ?_ ?_
                rotate_left
                ·intro w'
                 go_simp
                 with_reducible rfl
                rotate_left
                ·simp only [aP,i64_w,i32_w]
                 rfl
                refine pT 5 49 ?_ (bm 13 63) HT_.out rfl rfl (by kernel_rfl) (fun _ _ _=>id) (by rfl) ?_ ?_ ?_ ?_
                rotate_left
                ·intro w'
                 go_simp
                 with_reducible rfl
                rotate_left
                ·simp only [aP,i64_w,i32_w]
                 rfl
                refine pT 6 50 ?_ (bm 13 127) HT_.out rfl rfl (by kernel_rfl) (fun _ _ _=>id) (by rfl) ?_ ?_ ?_ ?_
                rotate_left
                ·intro w'
                 go_simp
                 with_reducible rfl
                rotate_left
                ·simp only [aP,i64_w,i32_w]
                 rfl
                refine take_ (i:=7) (N:=some 51) (v:=?_) (a':=?_) (bm 13 255) rfl rfl (take_ofW HT_.out HW_.out (by kernel_rfl)) (fun _ _ _ h=>h) (Or.inl ⟨by rfl,?_⟩) hHeld ?_ ?_
                rotate_left
                ·rintro w' ⟨s0,s1,s2,s3,s4,s5,s6,s7,s8,s9,s10,s11,s12,s13,s14,s15,s16,s17,s18,s19,s20,s21,s22,s23⟩
                 go_simp
                 with_reducible rfl
                rotate_left
                ·simp only [aP,i64_w,i32_w]
                 rfl
                refine take_ (i:=8) (N:=some 52) (v:=?_) (a':=?_) (bm 13 511) rfl rfl (take_ofW HT_.out HW_.out (by kernel_rfl)) (fun _ _ _ h=>h) (Or.inl ⟨by rfl,?_⟩) hHeld ?_ ?_
                rotate_left
                ·rintro w' ⟨s0,s1,s2,s3,s4,s5,s6,s7,s8,s9,s10,s11,s12,s13,s14,s15,s16,s17,s18,s19,s20,s21,s22,s23⟩
                 go_simp
                 with_reducible rfl
                rotate_left
                ·simp only [aP,i64_w,i32_w]
                 rfl
                refine one_ (i:=9) (N:=some 53) (bm 13 1023) rfl rfl (one_of HT_.out (by kernel_rfl)) (by decide) (fun K hK=>?_)
                refine goes_ Tryz.func54 (by kernel_rfl) rfl #[.agg #[.string ((rd_T38 l0 (ji21)).f0),.int .i64 ((rd_T38 l0 (ji21)).f1),.int .i64 ((rd_T38 l0 (ji21)).f2.f0),.int .i64 ((rd_T38 l0 (ji21)).f2.f1),.int .i64 ((rd_T38 l0 (ji21)).f2.f2),.int .i64 ((rd_T38 l0 (ji21)).f2.f3),.int .i64 ((rd_T38 l0 (ji21)).f2.f4),.string ((rd_T38 l0 (ji21)).f2.f5),.string ((rd_T38 l0 (ji21)).f2.f6),.int .i64 ((rd_T38 l0 (ji21)).f2.f7),.int .i64 ((rd_T38 l0 (ji21)).f2.f8),.string ((rd_T38 l0 (ji21)).f2.f9)],.agg #[.string ((rd_T38 l0 x9_1).f0),.int .i64 ((rd_T38 l0 x9_1).f1),.int .i64 ((rd_T38 l0 x9_1).f2.f0),.int .i64 ((rd_T38 l0 x9_1).f2.f1),.int .i64 ((rd_T38 l0 x9_1).f2.f2),.int .i64 ((rd_T38 l0 x9_1).f2.f3),.int .i64 ((rd_T38 l0 x9_1).f2.f4),.string ((rd_T38 l0 x9_1).f2.f5),.string ((rd_T38 l0 x9_1).f2.f6),.int .i64 ((rd_T38 l0 x9_1).f2.f7),.int .i64 ((rd_T38 l0 x9_1).f2.f8),.string ((rd_T38 l0 x9_1).f2.f9)]] (by rfl) rfl rfl (by (try simp only [List.map_toArray,List.map_cons,List.map_nil]);first|done|(simp only [hji21];rfl)|rfl|(simp only [List.length_drop,List.length_take];rfl)) ?_
                with_reducible refine (change_Less.calls kj14 ((rd_T38 l0 (ji21)).f0) ((rd_T38 l0 (ji21)).f1) ((rd_T38 l0 (ji21)).f2.f0) ((rd_T38 l0 (ji21)).f2.f1) ((rd_T38 l0 (ji21)).f2.f2) ((rd_T38 l0 (ji21)).f2.f3) ((rd_T38 l0 (ji21)).f2.f4) ((rd_T38 l0 (ji21)).f2.f5) ((rd_T38 l0 (ji21)).f2.f6) ((rd_T38 l0 (ji21)).f2.f7) ((rd_T38 l0 (ji21)).f2.f8) ((rd_T38 l0 (ji21)).f2.f9) ((rd_T38 l0 x9_1).f0) ((rd_T38 l0 x9_1).f1) ((rd_T38 l0 x9_1).f2.f0) ((rd_T38 l0 x9_1).f2.f1) ((rd_T38 l0 x9_1).f2.f2) ((rd_T38 l0 x9_1).f2.f3) ((rd_T38 l0 x9_1).f2.f4) ((rd_T38 l0 x9_1).f2.f5) ((rd_T38 l0 x9_1).f2.f6) ((rd_T38 l0 x9_1).f2.f7) ((rd_T38 l0 x9_1).f2.f8) ((rd_T38 l0 x9_1).f2.f9) false _ (hG.ext (by repeat (first|(with_reducible first|exact HB.out|apply below_alloc|apply pw_below_drewN|apply below_drew1|refine below_set ?_ GE316.out)|exact HB.out))) A24.out).mono ?_
                rintro e w29 ⟨rfl,hb⟩
                refine ⟨_,rfl,?_⟩
                have n0_:=Aside0.mk (blk_below (g:=gb316) (o:=.cells #[.string ((rd_T38 l0 x9_1).f0),.int .i64 ((rd_T38 l0 x9_1).f1),.int .i64 ((rd_T38 l0 x9_1).f2.f0),.int .i64 ((rd_T38 l0 x9_1).f2.f1),.int .i64 ((rd_T38 l0 x9_1).f2.f2),.int .i64 ((rd_T38 l0 x9_1).f2.f3),.int .i64 ((rd_T38 l0 x9_1).f2.f4),.string ((rd_T38 l0 x9_1).f2.f5),.string ((rd_T38 l0 x9_1).f2.f6),.int .i64 ((rd_T38 l0 x9_1).f2.f7),.int .i64 ((rd_T38 l0 x9_1).f2.f8),.string ((rd_T38 l0 x9_1).f2.f9)] 38 (0,0)) (by (with_reducible repeat (first|refine blk_drewN ?_ _|refine blk_drew ?_|refine blk_alloc ?_ _));exact BK316.out) hb)
                have n1_:=Aside0.mk (below_step (by repeat (first|(with_reducible first|exact HB.out|apply below_alloc|apply pw_below_drewN|apply below_drew1|refine below_set ?_ GE316.out)|exact HB.out)) hb)
                clear BK316
                clear HB
                have BK316:=n0_
                have HB:=n1_
                clear n0_ n1_
                (try clear hb)
                (try clear hb2)
                (try clear hk)
                (try clear hi)
                refine hK.out _ _ ⟨(blk_cell BK316.out 0).trans rfl,(blk_cell BK316.out 1).trans rfl,(blk_cell BK316.out 2).trans rfl,(blk_cell BK316.out 3).trans rfl,(blk_cell BK316.out 4).trans rfl,(blk_cell BK316.out 5).trans rfl,(blk_cell BK316.out 6).trans rfl,(blk_cell BK316.out 7).trans rfl,(blk_cell BK316.out 8).trans rfl,(blk_cell BK316.out 9).trans rfl,(blk_cell BK316.out 10).trans rfl,(blk_cell BK316.out 11).trans rfl,((HB.out.cell (World.block_lt_of_cell? w _ hw320_0)).trans hw320_0),((HB.out.cell (World.block_lt_of_cell? w _ hw320_1)).trans hw320_1),((HB.out.cell (World.block_lt_of_cell? w _ hw320_2)).trans hw320_2),((HB.out.cell (World.block_lt_of_cell? w _ hw320_3)).trans hw320_3),((HB.out.cell (World.block_lt_of_cell? w _ hw320_4)).trans hw320_4),((HB.out.cell (World.block_lt_of_cell? w _ hw320_5)).trans hw320_5),((HB.out.cell (World.block_lt_of_cell? w _ hw320_6)).trans hw320_6),((HB.out.cell (World.block_lt_of_cell? w _ hw320_7)).trans hw320_7),((HB.out.cell (World.block_lt_of_cell? w _ hw320_8)).trans hw320_8),((HB.out.cell (World.block_lt_of_cell? w _ hw320_9)).trans hw320_9),((HB.out.cell (World.block_lt_of_cell? w _ hw320_10)).trans hw320_10),((HB.out.cell (World.block_lt_of_cell? w _ hw320_11)).trans hw320_11)⟩ (fun hHeld=>?_)
                clear hK K
                refine norm_ (a':=?_) ?_ ?_
                rotate_left
                ·show Act.put _ (some 53) _=_
                 simp only [aP,i64_w,i32_w]
                 rfl
                refine pT 10 54 ?_ (bm 13 2047) HT_.out rfl rfl (by kernel_rfl) (fun _ _ _=>id) (by rfl) ?_ ?_ ?_ ?_
                rotate_left
                ·intro w'
                 go_simp
                 with_reducible rfl
                rotate_left
                ·simp only [aP,i64_w,i32_w]
                 rfl
                refine pT 11 55 ?_ (bm 13 4095) HT_.out rfl rfl (by kernel_rfl) (fun _ _ _=>id) (by rfl) ?_ ?_ ?_ ?_
                rotate_left
                ·intro w'
                 go_simp
                 with_reducible rfl
                rotate_left
                ·simp only [aP,i64_w,i32_w]
                 rfl
                refine pT 12 43 ?_ (bm 13 8191) HT_.out rfl rfl (by kernel_rfl) (fun _ _ _=>id) (by rfl) ?_ ?_ ?_ ?_
                rotate_left
                ·intro w'
                 go_simp
                 with_reducible rfl
                rotate_left
                ·simp only [aP,i64_w,i32_w]
                 rfl
                refine done_ (done_of HT_.out (by kernel_rfl)) ?_
                try go_wp2
                go_ret
                exact ⟨by first|rfl|(simp [errW_none,errW_some] <;> rfl)|(simp only [← hji21];first|rfl|(simp [errW_none,errW_some] <;> rfl))|(simp [*,errW_none,errW_some] <;> rfl),by repeat (first|(with_reducible first|exact HB.out|apply below_alloc|apply pw_below_drewN|apply below_drew1|refine below_set ?_ GE316.out)|exact HB.out)⟩
              ·rw [if_neg c23] at H
               exact absurd H (by simp)
             ·rw [if_neg c22] at H
              exact absurd H (by simp)
            ·rw [if_neg c20] at H
             have c20b0:decide (0<x9_1)=false:=decide_eq_false c20
             clear c20
             have H':=Aside0.mk H
             clear H
             try go_wp2
             have n0_:=Aside0.mk (blk_drew BK316.out)
             have n1_:=Aside0.mk (below_drew1 HB.out)
             clear BK316
             clear HB
             have BK316:=n0_
             have HB:=n1_
             clear n0_ n1_
             refine start_ (n:=13) (S:=fun w'=>True) (ds:=[]) (bm 13 0) (by kernel_rfl) rfl rfl trivial (fun hHeld=>?_);refine with_tabW pq15.tab9 pq15.bits9 (fun HT_ HW_=>?_)
             generalize wc.drew=w30 at BK316 HB hHeld ⊢
             refine pT 0 44 ?_ (bm 13 1) HT_.out rfl rfl (by kernel_rfl) (fun _ _ _=>id) (by rfl) ?_ ?_ ?_ ?_
             rotate_left
             ·intro w'
              go_simp
              with_reducible rfl
             rotate_left
             ·simp only [aP,i64_w,i32_w]
              rfl
             refine pT 1 45 ?_ (bm 13 3) HT_.out rfl rfl (by kernel_rfl) (fun _ _ _=>id) (by rfl) ?_ ?_ ?_ ?_
             rotate_left
             ·intro w'
              go_simp
              with_reducible rfl
             rotate_left
             ·simp only [aP,i64_w,i32_w]
              rfl
             refine pT 2 46 ?_ (bm 13 7) HT_.out rfl rfl (by kernel_rfl) (fun _ _ _=>id) (by rfl) ?_ ?_ ?_ ?_
             rotate_left
             ·intro w'
              go_simp
              with_reducible rfl
             rotate_left
             ·simp only [aP,i64_w,i32_w]
              rfl
             refine pN 3 47 (bm 13 15) rfl rfl (any_of HT_.out (by kernel_rfl)) (fun _ _ _=>id) (by rfl) ?_ ?_ ?_
             rotate_left
             ·simp only [aP,i64_w,i32_w]
              rfl
             refine pN 4 48 (bm 13 31) rfl rfl (any_of HT_.out (by kernel_rfl)) (fun _ _ _=>id) (by rfl) ?_ ?_ ?_
             rotate_left
             ·simp only [aP,i64_w,i32_w]
              rfl
             refine pN 5 49 (bm 13 63) rfl rfl (any_of HT_.out (by kernel_rfl)) (fun _ _ _=>id) (by rfl) ?_ ?_ ?_
             rotate_left
             ·simp only [aP,i64_w,i32_w]
              rfl
             refine pN 6 50 (bm 13 127) rfl rfl (any_of HT_.out (by kernel_rfl)) (fun _ _ _=>id) (by rfl) ?_ ?_ ?_
             rotate_left
             ·simp only [aP,i64_w,i32_w]
              rfl
             refine pN 7 51 (bm 13 255) rfl rfl (any_of HT_.out (by kernel_rfl)) (fun _ _ _=>id) (by rfl) ?_ ?_ ?_
             rotate_left
             ·simp only [aP,i64_w,i32_w]
              rfl
             refine pN 8 52 (bm 13 511) rfl rfl (any_of HT_.out (by kernel_rfl)) (fun _ _ _=>id) (by rfl) ?_ ?_ ?_
             rotate_left
             ·simp only [aP,i64_w,i32_w]
              rfl
             refine pN 9 53 (bm 13 1023) rfl rfl (any_of HT_.out (by kernel_rfl)) (fun _ _ _=>id) (by rfl) ?_ ?_ ?_
             rotate_left
             ·simp only [aP,i64_w,i32_w]
              rfl
             refine pN 10 54 (bm 13 2047) rfl rfl (any_of HT_.out (by kernel_rfl)) (fun _ _ _=>id) (by rfl) ?_ ?_ ?_
             rotate_left
             ·simp only [aP,i64_w,i32_w]
              rfl
             refine pT 11 55 ?_ (bm 13 4095) HT_.out rfl rfl (by kernel_rfl) (fun _ _ _=>id) (by rfl) ?_ ?_ ?_ ?_
             rotate_left
             ·intro w'
              go_simp
              with_reducible rfl
             rotate_left
             ·simp only [aP,i64_w,i32_w]
              rfl
             refine pT 12 43 ?_ (bm 13 8191) HT_.out rfl rfl (by kernel_rfl) (fun _ _ _=>id) (by rfl) ?_ ?_ ?_ ?_
             rotate_left
             ·intro w'
              go_simp
              with_reducible rfl
             rotate_left
             ·simp only [aP,i64_w,i32_w]
              rfl
             refine done_ (done_of HT_.out (by kernel_rfl)) ?_
             try go_wp2
             go_roundg kj14
             case measure=>have:=HK1.out;have:=HJ5.out;have:=HJ14.out;omega
             case rel=>exact ⟨(wrap64 (x9_1 + 1)),(by first|rfl|(simp;done)|(simp [*];done)),H',⟨by have:=HK1.out;have:=HJ5.out;have:=HJ14.out;omega⟩,⟨by repeat (first|(with_reducible first|exact HB.out|apply below_alloc|apply pw_below_drewN|apply below_drew1|refine below_set ?_ GE316.out)|exact HB.out)⟩⟩
     ·rw [if_neg c4] at H
      exact absurd H (by simp)
    ·rw [if_neg c3] at H
     exact absurd H (by simp)
   ·rw [if_neg c2] at H
    have c2b0:decide (x9_1<(l0.length:Int))=false:=decide_eq_false c2
    clear c2
    obtain rfl:=Option.some.inj H
    go_wp2
    go_ret
    exact ⟨by first|rfl|(simp [errW_none,errW_some] <;> rfl)|(simp [*,errW_none,errW_some] <;> rfl),by repeat (first|(with_reducible first|exact HB.out|apply below_alloc|apply pw_below_drewN|apply below_drew1)|exact HB.out)⟩
end Go.Proofs.YtdkjinmkallhnaaGreatDoorQ
end
section
namespace Go.Proofs.YtdkjinmkallhnaaGreatDoorQ
open Go.RowKit Go.Proofs.YtdkjinmkallhnaaGreatDoor Go.Proofs.YtdkjinmkallhnaaGreatDoorW.PrintWords Go.Proofs.YtdkjinmkallhnaaGreatDoorW.PrintLast Go.Proofs.YtdkjinmkallhnaaGreatDoorW.PrintMore
open Go.Proofs.YtdkjinmkallhnaaGreatDoorT (partM markedM markM opqM isM parM lastM underM markF unmarkF wouldM tarM belowM Ch Row Lyr rightC keyM lessM plainM)
theorem right_f (s:Str) (n:Nd) (ha:n.attrs.length≤10000000):mktar_Right.f (B s) n.kind n.mode n.uid n.gid n.mtime (B n.link) (B n.data) n.major n.minor (B n.attrs)=some (rtM s n):=by
  unfold mktar_Right.f
  rw [if_pos (by rw [B_size];exact ha)]
theorem plain_f (s:Str) (n:Nd) (hs:s.length≤1000000000) (ha:n.attrs.length≤10000000) (k:Nat) (hk:s.length + 60<k) :
    tree_plain.f k (B s) n.kind n.mode n.uid n.gid n.mtime (B n.link) (B n.data) n.major n.minor (B n.attrs)=some (plainM Y (s,n)):=by
  unfold tree_plain.f plainM
  rw [mark_f s (by omega) k (by omega)]
  simp only [Option.bind_some]
  unfold markR
  cases h:markF s with
  | none=>simp
  | some q =>
    obtain ⟨o,p⟩:=q
    simp only [if_true]
    by_cases ho:o=0
    · subst ho
      have hp:=(YtdkjinmkallhnaaGreatDoorT.mark_put h).1
      subst hp
      rw [if_pos rfl,right_f s n ha]
      simp only [Option.bind_some,Option.some.injEq]
      show (rtM s n == 0)=_
      simp only [decide_true,Bool.true_and]
      rfl
    · rw [if_neg ho]
      have:decide (some (o,p)=some (0,s))=false:=by simp [ho]
      rw [this];rfl
end Go.Proofs.YtdkjinmkallhnaaGreatDoorQ
end
section
namespace Go.Proofs.YtdkjinmkallhnaaGreatDoorQ
open Go.RowKit Go.WideMaps Go.Maps Go.Proofs.YtdkjinmkallhnaaGreatDoor Go.Proofs.YtdkjinmkallhnaaGreatDoorW.PrintWords Go.Proofs.YtdkjinmkallhnaaGreatDoorW.PrintLast Go.Proofs.YtdkjinmkallhnaaGreatDoorW.PrintMore
theorem wpList_insert_own {H:Type} {P:Program} (w:World) {ops:Array Oper} {rest:List Oper} {o:Oper} {a:Act} {Q:Exit→Act→World→Prop}
    (hg:o.guard=none) (m x v:Operand) (t:TypeId) (hop:o.op=Op.insert t m x v)
    (k e:TypeId) (K:Keyed P k) (ht:P.underlying t=some (.map k e)) (R:Value→Option (DataW H×List MemPlace)) (b n:Nat) (D:DataW H)
    (hm:a.eval m=.map (some b)) (hown:w.ownsMap P k R b n D) (hn:n<maxLen) (key val:Value) (kl:Lit) (hx:a.eval x=key) (hv:a.eval v=val) (hkey:keyOf P k key=some kl)
    (d:DataW H) (ps:List MemPlace) (hval:R val=some (d,ps))
    (hK:∀ w',w'.ownsMap P k R b (n + 1) (D.put kl d)→w.grownBy w' (some b)→wpList P ops Q rest (a.put o.dst undef) w') :
    wpList P ops Q (o :: rest) a w:=by
  refine wpList_plain hg fun K' hK'=>?_
  obtain ⟨w',hrun,r1,r2⟩:=hown.update K ht hn hkey hval
  unfold Oper.wp
  simp [execOp,hop,hm,hx,hv,hrun,Result.andThen]
  exact hK' _ _ (hK w' r1 r2)
theorem wpList_cnt_in {P:Program} (hP:P=Tryz.prog) {w:World} {ops:Array Oper} {rest:List Oper} {o:Oper} {a:Act} {Q:Exit→Act→World→Prop}
    (hg:o.guard=none) (m x v:Operand) (hop:o.op=Op.insert 55 m x v) (b n:Nat) (f:Str→Nat) (hm:a.eval m=.map (some b)) (hown:CntMap w b n f) (hn:n≤1000000000)
    (s:Str) (c:Nat) (hx:a.eval x=S s) (hv:a.eval v=.int .i64 c) (hs:s.length≤1000000000) (hc:c≤1000000001)
    (f':Str→Nat) (hf:∀ key,f' key=if key == s then c else f key)
    (hK:∀ w',CntMap w' b (n + 1) f'→w.grownBy w' (some b)→wpList P ops Q rest (a.put o.dst undef) w') :
    wpList P ops Q (o :: rest) a w:=by
  subst hP
  obtain ⟨D,h1,h2,h3⟩:=hown
  refine wpList_insert_own _ hg m x v _ hop 9 3 strLaw Tryz.underlying55 _ b n D hm h1 (by unfold maxLen;omega) _ _ _ hx hv (keyStr hs) _ []
    (plainElem_int Tryz.underlying3 (wf_nat (by omega))) ?_
  intro w' h1' hg'
  refine hK w' ⟨_,h1',h2.put _ _,fun key=>?_⟩ hg'
  rw [hf key]
  by_cases hk:key=s
  · subst hk
    rw [atKey_put_same h2 (by trivial)]
    simp
  · rw [atKey_put_other (by simpa using hk),h3]
    have:(key == s)=false:=by simpa using hk
    simp [this]
def enCells (e:S40):List Value:=[.string e.f0,.int .i64 e.f1.f0,.int .i64 e.f1.f1,.int .i64 e.f1.f2,.int .i64 e.f1.f3,.int .i64 e.f1.f4,.string e.f1.f5,.string e.f1.f6,.int .i64 e.f1.f7,.int .i64 e.f1.f8,.string e.f1.f9]
theorem en_at {w:World} {A:Option Addr} {xs:List S40} (h:Kd.C k40 w A xs.length xs) (i:Nat) (hi:i<xs.length) :
    ∃ ad,A=some ad∧LiesAt w (ad.add (i * 11)) (enCells xs[i]):=by
  obtain ⟨ad,c,e,_,hK,hc0⟩:=Kd.C_get h z40 (i:Int) (by omega) (by omega)
  have hd:xs.getD ((i:Nat):Int).toNat z40=xs[i]:=by
    rw [show ((i:Nat):Int).toNat=i from rfl,List.getD_eq_getElem?_getD,List.getElem?_eq_getElem hi];rfl
  rw [hd] at hK
  obtain rfl:=k40_open hK
  refine ⟨ad,e,fun j v hv=>?_⟩
  rw [Addr.add_add]
  exact hc0 j v hv
def ms (n i:Nat):Array Bool:=(List.replicate i true ++ List.replicate (n - i) false).toArray
theorem yi_agg {P:Program} {ops:Array Oper} {S:World→Prop} {op:Oper} {a:Act} (hw:Region.wanted op (yielded ops a.tmps)=true) (ty:TypeId) (x:Operand) (ho:op.op=.load ty x)
    (ad:Addr) (hx:a.eval x=.pointer (some ad)) (cs:List Value) (d:TypeDesc) (hS:∀ w,S w→LiesAt w ad cs)
    (hu:P.underlying ty=some d) (hd:d.isRow=true) (hi:(P.info? ty).map (·.size)=some cs.length):YieldsIf P ops S op (.agg cs.toArray) a :=
  .inl ⟨hw,fun W hw'=>by
    have hl:(loadCells ad cs.length).run P W=.ok cs.toArray W:=run_loadCells_list (P:=P) W ad cs (hS W hw')
    have hv:(loadVar ty ad).run P W=.ok (.agg cs.toArray) W:=by
      cases hq:P.info? ty with
      | none=>simp [hq] at hi
      | some i =>
        have hs:i.size=cs.length:=by simpa [hq] using hi
        have hagg:(isAgg ty).run P W=.ok true W:=by
          unfold isAgg
          rw [Sem.run_bind,run_underlying hu W]
          cases d <;> simp_all
        simp [loadVar,Sem.run_bind,hagg,sizeOf,typeInfo,hq,hs,hl]
    unfold execOp
    simp only [ho,hx,Instr.loadAt,Instr.sureAddr,Sem.run_bind,Sem.run_pure,Result.andThen_ok,hv]⟩
theorem ndVal_inj {a b:Nd} (h:ndVal a=ndVal b):a=b:=by
  obtain ⟨a1,a2,a3,a4,a5,a6,a7,a8,a9,a10⟩:=a
  obtain ⟨b1,b2,b3,b4,b5,b6,b7,b8,b9,b10⟩:=b
  unfold ndVal ndCells at h
  simp at h
  simp only [Nd.mk.injEq]
  obtain ⟨h1,h2,h3,h4,h5,h6,h7,h8,h9,h10⟩:=h
  exact ⟨h1,h2,h3,h4,h5,h6,h7,h8,h9,h10⟩
open Classical in
noncomputable def Rn (v:Value):Option (DataW Nd×List MemPlace):=if h:∃ n,v=ndVal n then some (.held h.choose,[]) else none
theorem Rn_val (n:Nd):Rn (ndVal n)=some (.held n,[]):=by
  unfold Rn
  have h:∃ m,ndVal n=ndVal m:=⟨n,rfl⟩
  rw [dif_pos h,← ndVal_inj h.choose_spec]
theorem Rn_inv {v:Value} {y:DataW Nd×List MemPlace} (h:Rn v=some y):∃ n,v=ndVal n:=by
  unfold Rn at h
  split at h
  · rename_i h1;exact h1
  · cases h
theorem zeroNd (w:World):(zeroValue 26).run Tryz.prog w=.ok (ndVal zeroN) w:=by kernel_rfl
def NdMap (w:World) (b n:Nat) (f:Str→Option Nd):Prop :=
  ∃ D:DataW Nd,w.ownsMap Tryz.prog 9 Rn b n D∧∀ (key:Str) (z:DataW Nd),D.atKey (.string key) z=(match f key with|some v=>.held v|none=>z)
theorem NdMap.made (w:World):NdMap (w.alloc (.map #[] 0)) w.heap.size 0 (fun _=>none) :=
  ⟨.map [],World.ownsMap_made _ _ _ _,fun _ _=>rfl⟩
theorem NdMap.lt {w:World} {b n:Nat} {f:Str→Option Nd} (h:NdMap w b n f):b<w.heap.size:=let ⟨_,h1,_⟩:=h;h1.lt
theorem NdMap.mono {w:World} {b n m:Nat} {f:Str→Option Nd} (h:NdMap w b n f) (hn:n≤m):NdMap w b m f:=let ⟨D,h1,h2⟩:=h;⟨D,h1.mono hn,h2⟩
theorem NdMap.grown {w w':World} {b n:Nat} {f:Str→Option Nd} {row:Option Nat} (h:NdMap w b n f) (hg:w.grownBy w' row) (hne:some b≠row):NdMap w' b n f :=
  let ⟨D,h1,h2⟩:=h;⟨D,h1.kept hg hne,h2⟩
theorem NdMap.ext {w w':World} {b n:Nat} {f:Str→Option Nd} (h:NdMap w b n f) (hb:Below w.heap.size w w'):NdMap w' b n f :=
  h.grown (row:=none) ⟨hb.os,hb.tape,hb.output,hb.size,fun k hk _=>hb.block k hk⟩ (by simp)
theorem NdMap.has {D:DataW Nd} {f:Str→Option Nd} (h2:∀ (key:Str) (z:DataW Nd),D.atKey (.string key) z=(match f key with|some v=>.held v|none=>z)) (key:Str):Maps.has D (.string key)=(f key).isSome:=by
  cases hf:f key with
  | none=>exact has_false_of_atKey fun z=>by rw [h2,hf]
  | some v=>exact has_true_of_atKey fun z=>by rw [h2,hf]
theorem NdMap.look {w:World} {b n:Nat} {f:Str→Option Nd} (h:NdMap w b n f) {s:Str} (hs:s.length≤1000000000) :
    (Instr.lookup 62 (.map (some b)) (S s) false).run Tryz.prog w=.ok (ndVal ((f s).getD zeroN)) w:=by
  obtain ⟨D,h1,h2⟩:=h
  obtain ⟨v,ps,hrun,hv⟩:=h1.lookup strLaw Tryz.underlying62 (zeroNd w) (Rn_val zeroN) (keyStr hs)
  obtain ⟨m,rfl⟩:=Rn_inv hv
  rw [Rn_val,h2] at hv
  rw [hrun]
  cases hf:f s with
  | none=>rw [hf] at hv;simp only [Option.some.injEq,Prod.mk.injEq,DataW.held.injEq] at hv;rw [hv.1];rfl
  | some x=>rw [hf] at hv;simp only [Option.some.injEq,Prod.mk.injEq,DataW.held.injEq] at hv;rw [hv.1];rfl
theorem NdMap.look2 {w:World} {b n:Nat} {f:Str→Option Nd} (h:NdMap w b n f) {s:Str} (hs:s.length≤1000000000) :
    (Instr.lookup 62 (.map (some b)) (S s) true).run Tryz.prog w=.ok (.tuple #[ndVal ((f s).getD zeroN),.bool (f s).isSome]) w:=by
  obtain ⟨D,h1,h2⟩:=h
  obtain ⟨v,ps,hrun,hv⟩:=h1.look_ok strLaw Tryz.underlying62 (zeroNd w) (Rn_val zeroN) (keyStr hs)
  obtain ⟨m,rfl⟩:=Rn_inv hv
  rw [Rn_val,h2] at hv
  rw [hrun,NdMap.has h2]
  cases hf:f s with
  | none=>rw [hf] at hv;simp only [Option.some.injEq,Prod.mk.injEq,DataW.held.injEq] at hv;rw [hv.1];rfl
  | some x=>rw [hf] at hv;simp only [Option.some.injEq,Prod.mk.injEq,DataW.held.injEq] at hv;rw [hv.1];rfl
section
variable {P:Program} {w:World} {ops:Array Oper} {rest:List Oper} {o:Oper} {a:Act} {Q:Exit→Act→World→Prop}
theorem wpList_nd_up (hP:P=Tryz.prog) (hg:o.guard=none) (m x v:Operand) (hop:o.op=Op.mapUpdate 62 m x v) (b n:Nat) (f:Str→Option Nd) (hm:a.eval m=.map (some b)) (hown:NdMap w b n f) (hn:n≤1000000000)
    (s:Str) (c:Nd) (hx:a.eval x=S s) (hv:a.eval v=ndVal c) (hs:s.length≤1000000000) (f':Str→Option Nd) (hf:∀ key,f' key=if key=s then some c else f key)
    (hK:∀ w',NdMap w' b (n + 1) f'→w.grownBy w' (some b)→wpList P ops Q rest (a.put o.dst undef) w'):wpList P ops Q (o :: rest) a w:=by
  subst hP
  obtain ⟨D,h1,h2⟩:=hown
  refine wpList_mapUpdate_own _ hg m x v _ hop 9 26 strLaw Tryz.underlying62 _ b n D hm h1 (by unfold maxLen;omega) _ _ _ hx hv (keyStr hs) _ [] (Rn_val c) ?_
  intro w' h1' hg'
  refine hK w' ⟨_,h1',fun key z=>?_⟩ hg'
  rw [hf key]
  by_cases hk:key=s
  · subst hk
    rw [atKey_put_same h1.isMap (by trivial),if_pos rfl]
  · rw [atKey_put_other (by simpa using hk),h2,if_neg hk]
theorem wpList_nd_del (hP:P=Tryz.prog) (hg:o.guard=none) (m x:Operand) (hop:o.op=Op.call { callee:=Callee.builtin Builtin.delete,args:=#[m,x],argTypes:=#[62,9] }) (b n:Nat) (f:Str→Option Nd) (hm:a.eval m=.map (some b)) (hown:NdMap w b n f)
    (s:Str) (hx:a.eval x=S s) (hs:s.length≤1000000000) (f':Str→Option Nd) (hf:∀ key,f' key=if key=s then none else f key)
    (hK:∀ w',NdMap w' b n f'→w.grownBy w' (some b)→wpList P ops Q rest (a.put o.dst (.tuple #[])) w'):wpList P ops Q (o :: rest) a w:=by
  subst hP
  obtain ⟨D,h1,h2⟩:=hown
  refine wpList_delete_own _ hg m x _ _ hop 26 strLaw Tryz.underlying62 _ b n D hm h1 _ _ hx (keyStr hs) ?_
  intro w' h1' ht
  refine hK w' ⟨_,h1',fun key z=>?_⟩ ht.grown
  rw [hf key]
  by_cases hk:key=s
  · subst hk
    rw [atKey_del_same,if_pos rfl]
  · rw [atKey_del_other (by simpa using hk),h2,if_neg hk]
end
theorem atKey_filter {es:List (Lit×DataW Nd)} (hp:es.Pairwise fun p q=>p.1≠q.1) (q:Lit→Bool) {k:Lit} (hk:WideAt.IsKeyLit k) (z:DataW Nd) :
    (DataW.map (es.filter fun p=>!q p.1)).atKey k z=if q k=true then z else (DataW.map es).atKey k z:=by
  have hin:∀ (l:List (Lit×DataW Nd)),Maps.has (.map l) k=true→∃ d,(k,d) ∈ l:=by
    intro l h
    rw [has_eq,List.any_eq_true] at h
    obtain ⟨⟨a,d⟩,hm,hs⟩:=h
    by_cases e:a=k
    · subst e;exact ⟨d,hm⟩
    · rw [sameKey_ne e] at hs;cases hs
  by_cases hq:q k=true
  · rw [if_pos hq]
    refine atKey_of_not_has ?_ z
    rw [Bool.eq_false_iff]
    intro h
    obtain ⟨d,hm⟩:=hin _ h
    have:=(List.mem_filter.1 hm).2
    simp [hq] at this
  · rw [if_neg hq]
    cases hh:Maps.has (DataW.map es) k with
    | false =>
      rw [atKey_of_not_has hh]
      refine atKey_of_not_has ?_ z
      rw [Bool.eq_false_iff]
      intro h
      obtain ⟨d,hm⟩:=hin _ h
      have hm':=(List.mem_filter.1 hm).1
      rw [has_eq,List.any_eq_false] at hh
      exact hh _ hm' (WideAt.sameKey_self hk)
    | true =>
      obtain ⟨d,hm⟩:=hin _ hh
      rw [WideAt.atKey_mem z hk hp hm,WideAt.atKey_mem z hk (hp.filter _) (List.mem_filter.2 ⟨hm,by simp [hq]⟩)]
end Go.Proofs.YtdkjinmkallhnaaGreatDoorQ
end
