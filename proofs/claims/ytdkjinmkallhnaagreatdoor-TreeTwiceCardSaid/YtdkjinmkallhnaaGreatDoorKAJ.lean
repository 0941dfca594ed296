/- A part of a proof of TreeTwiceCardSaid of this seat: what its walks and its laws lean on; joined by a program of this repo (wip/pack.py) out of the texts XNd2, XNd3, ShelfB, XNd4, Mod8, XTree1, XCRight, XApp1, XApp2, XTree, XSm17a. -/
import Derived.Deep.LoopGhost
import Derived.Ground.GgzProg
import Derived.Ground.SlsfProg
import Derived.IntWalk
import Derived.Laws.IdiomRangeMap
import Derived.Lib.OwnBridge
import Derived.Shelf.SlGeneric
import Derived.Shelf.SlIter.Collect
import Derived.Shelf.SlSortCmp.NoneTotal
import Derived.Shelf.SlSortCmp.Whole1
import Derived.Sort.MapsRangeIn
import Derived.Test.YtdkjinmkallhnaaGreatDoorProg
import Derived.Test.YtdkjinmkallhnaaGreatDoorKAB
import Derived.Test.YtdkjinmkallhnaaGreatDoorKAD
import Derived.Test.YtdkjinmkallhnaaGreatDoorKAH
import Derived.Test.YtdkjinmkallhnaaGreatDoorKAI
set_option linter.unusedSimpArgs false
set_option linter.unusedVariables false
section
namespace Go.Proofs.YtdkjinmkallhnaaGreatDoorQ
open Go.RowKit Go.WideMaps Go.Maps Go.Proofs.YtdkjinmkallhnaaGreatDoor Go.Proofs.YtdkjinmkallhnaaGreatDoorW.PrintWords Go.Proofs.YtdkjinmkallhnaaGreatDoorW.PrintLast Go.Proofs.YtdkjinmkallhnaaGreatDoorW.PrintMore
open Go.Proofs.YtdkjinmkallhnaaGreatDoorT (underM parM)
def ndZero:Array Value:=#[.int .i64 0,.int .i64 0,.int .i64 0,.int .i64 0,.int .i64 0,.string (⟨#[]⟩:ByteArray),.string (⟨#[]⟩:ByteArray),.int .i64 0,.int .i64 0,.string (⟨#[]⟩:ByteArray)]
theorem ndCells_all (e:Nd):(ndCells e).toArray.all (·.oneCell')=true:=by simp [ndCells,Value.oneCell']
theorem S_data (x:ByteArray):S x.data.toList=.string x:=by cases x;rfl
theorem clear1_calls (w:World) (p q:Str) (n:Nd) (g:Nat) (hc:w.cell? ⟨g,0,none⟩=some (S p)) (hp:p.length≤1000000000) :
    Calls Tryz.prog 106 #[S q,ndVal n,.pointer (some ⟨g,0,none⟩)] w fun e w'=>e=.returned (.bool (underM p q))∧w.grownBy w' none:=by
  have HC:=Lib.hid hc
  have HP:=Lib.hid hp
  clear hc hp
  have h31:=Tryz.underlying26
  go_enter Tryz.func106,Tryz.ntmps106
  go_wp2_with (first|((with_reducible refine gate_dst (N:=4) rfl ?_);refine box_event rfl (N:=4) rfl (cs:=(ndCells n).toArray) (t:=26) ?hr ?_;(case hr=>first|(go_simp;done)|(go_simp;rfl));intro g4 hg w2 hb2 hbl2;have HB2:=Lib.hid hbl2;have hc2:=pw_cell_below hbl2 HC.out;clear hg hb2 hbl2))
  refine (paths_Under.calls (B p) (B q) (underM p q) _ (under_f p q (by have:=HP.out;omega))).mono ?_
  rintro e w3 ⟨rfl,hd⟩
  have HB3:Hid (Below w.heap.size w w3):=Lib.hid (Go.Proofs.YtdkjinmkallhnaaGreatDoor.below_then HB2.out hd.below)
  clear hd
  go_wp2
  go_ret
  exact ⟨rfl,⟨HB3.out.os,HB3.out.tape,HB3.out.output,HB3.out.size,fun k hk _=>HB3.out.block k hk⟩⟩
set_option maxHeartbeats 4000000 in
set_option maxRecDepth 100000 in
theorem ndDel_calls (w:World) (b n:Nat) (f:Str→Option Nd) (hm:NdMap w b n f) (p:Str) (g:Nat) (hc:w.cell? ⟨g,0,none⟩=some (S p)) (hgb:g≠b) (hp:p.length≤1000000000) :
    Calls Tryz.prog 105 #[.map (some b),.func (.func 106) #[] #[.pointer (some ⟨g,0,none⟩)]] w fun e w'=>e=.returned (.tuple #[])∧NdMap w' b n (fun key=>if underM p key=true then none else f key)∧w.grownBy w' (some b):=by
  obtain ⟨D,hown,hat⟩:=hm
  have K:=strLaw
  have hk9:=Tryz.underlying9
  obtain ⟨es0,rfl,hap,hkeys⟩:=hown.entries K
  have HAT:=Lib.hid hat
  clear hat
  have HC:=Lib.hid hc
  have HP:=Lib.hid hp
  clear hc hp
  have hdel:∀ (W:World) (q:Str) (x:Nd),w.grownBy W (some b)→Calls Tryz.prog 106 #[S q,ndVal x,.pointer (some ⟨g,0,none⟩)] W fun e w'=>e=.returned (.bool (underM p q))∧W.grownBy w' none :=
    fun W q x hW=>clear1_calls W p q x g (hW.cell HC.out (by simp;exact hgb)) HP.out
  have HD:=Lib.hid hdel
  clear hdel
  obtain ⟨pd,hpd⟩:∃ pd:Lit→DataW Nd→Bool,pd=fun k _=>match k with|.string s=>underM p s|_=>false:=⟨_,rfl⟩
  have HPD:=Lib.hid hpd
  clear hpd
  go_enter Tryz.func105,Tryz.ntmps105
  go_wp2_with (first|(at_range;refine wpList_range_own _ rfl _ 62 rfl 9 26 K Tryz.underlying62 Rn b n _ rfl hown ?_;intro w0 hrg0 hg0 hs0))
  go_frame
  go_loopw [8] (fun _ wr=>∃ (left:Lit→Bool) (cnt:Nat),wr.ranges Tryz.prog 9 Rn b w.heap.size n (Fk pd es0 left) left cnt∧w.grownBy wr (some b))
    (fun _ wr=>wr.rangeLeft b w.heap.size)
  case atStart=>exact ⟨_,_,by rw [Fk_start hkeys];exact hrg0,hg0.but _⟩
  case round =>
    obtain ⟨left,cnt,hrg,hgw⟩:=hrel
    go_wp2_with (first|(at_next;refine wpList_next_ranges _ rfl _ rfl 9 K Rn Value.string ndVal (fun key kl hk=>Maps.keyOf_string_inv hk9 hk) (fun v y hv=>Rn_inv hv) b w.heap.size n _ _ _ rfl hrg ?_ ?_))
    · intro _ hl0
      go_wp2
      go_end0
      refine ⟨rfl,⟨Lib.deleteFuncD pd (.map es0),by rw [← Fk_end hl0];exact hrg.owns,fun key z=>?_⟩,hgw⟩
      have h1:=atKey_filter hap (fun k=>pd k .nil) (k:=.string key) trivial z
      have h2:(es0.filter fun q=>!pd q.1 q.2)=es0.filter fun q=>!(fun k=>pd k .nil) q.1:=List.filter_congr fun q _=>by rw [HPD.out]
      show (DataW.map (es0.filter fun q=>!pd q.1 q.2)).atKey _ _=_
      rw [h2,h1,HAT.out,HPD.out]
      dsimp only
      by_cases hu:underM p key=true
      · rw [if_pos hu,if_pos hu]
      · rw [if_neg hu,if_neg hu]
    · intro x c kl yd yp w1 cnt1 hkey hlx hv hat1 hrg1 hlt hg1 hs1 hen
      have hgw1:=hgw.andThen hg1 (fun j hj=>by cases hj;exact Or.inl (Nat.le_refl _))
      obtain ⟨s,hs1',hs2,_⟩:=string_of_keyOf hk9 hkey
      simp only [Value.string.injEq] at hs1'
      subst hs1'
      have hpk:pd kl yd=underM p x.data.toList:=by rw [HPD.out,hs2]
      have hbl:=hrg1.owns.lt
      have hrl:=hrg1.lt
      obtain ⟨u,hu⟩:∃ u,u=underM p x.data.toList:=⟨_,rfl⟩
      have HU:=Lib.hid hu
      rw [← hu] at hpk
      clear hu
      have h31:=Tryz.underlying26
      have HHC:Hid (w1.cell? ⟨g,0,none⟩=some (S p)):=Lib.hid (hgw1.cell HC.out (by simp;exact hgb))
      have HRG:=Lib.hid hrg1
      have HGW:=Lib.hid hgw1
      clear hrg1 hgw1 hg1
      go_wp2_with (first|((with_reducible refine gate_dst (N:=5) rfl ?_);refine box_event rfl (N:=5) rfl (cs:=ndZero) (t:=26) ?hr ?_;(case hr=>first|(go_simp;done)|(go_simp;rfl));intro g5 hg w2 hb2 hbl2;have HGE:Hid (w1.heap.size≤g5):=Lib.hid (by rw [hg];exact Nat.le_refl _);have HB2:=Lib.hid hb2;have HBL2:=Lib.hid hbl2;clear hg hb2 hbl2)|((with_reducible refine gate_store (t:=26) (p:=5) rfl ?_);refine wpList_store_agg rfl rfl 26 _ _ rfl g5 (ndCells c).toArray rfl rfl 26 ndZero HB2.out rfl rfl (ndCells_all _) ?_;intro w3 hb3 hg3;have HB3:=Lib.hid hb3;have HG3:Hid (w1.grownBy w3 none):=Lib.hid (World.grownBy.andThen (row:=none) ⟨HBL2.out.os,HBL2.out.tape,HBL2.out.output,HBL2.out.size,fun k hk _=>HBL2.out.block k hk⟩ hg3 (fun j hj=>by cases hj;exact Or.inl HGE.out));clear hb3 hg3)|((with_reducible refine gate_dst (N:=15) rfl ?_);refine wpList_load_agg rfl 26 _ rfl _ rfl (ndCells c) _ (lies_of HB3.out) h31 rfl rfl ?_))
      have HGW3:Hid (w.grownBy w3 (some b)):=Lib.hid (HGW.out.andThen HG3.out (fun j hj=>by cases hj))
      have hc:=HD.out w3 x.data.toList c HGW3.out
      rw [S_data,← HU.out] at hc
      refine hc.mono ?_
      rintro e w4 ⟨rfl,hg4⟩
      clear hc
      have HG4:Hid (w.grownBy w4 (some b)):=Lib.hid (HGW3.out.andThen hg4 (fun j hj=>by cases hj))
      have hrg4:=(HRG.out.kept HG3.out (by simp) (by simp)).kept hg4 (by simp) (by simp)
      clear hg4
      cases u with
      | false =>
        go_wp2
        go_roundw
        case rel=>exact ⟨_,cnt1,by rw [← Fk_stays hap (K.key hkey) hlx hpk hat1];exact hrg4,HG4.out⟩
        case measure=>rw [hrg4.left_eq,hrg.left_eq];exact hlt
      | true =>
        go_wp2_with (first|(at_delete;refine wpList_delete_ranges _ rfl _ _ 62 9 rfl 26 K Tryz.underlying62 Rn b w.heap.size n _ _ _ rfl hrg4 _ _ rfl hkey ?_;intro w5 cnt3 hrg3 hle hturn;go_frame))
        rw [strike_twice] at hrg3
        go_roundw
        case rel=>exact ⟨_,cnt3,by rw [← Fk_struck hap (K.key hkey) hlx hpk hat1];exact hrg3,HG4.out.andThen hturn.grown (fun j hj=>by cases hj;exact Or.inr rfl)⟩
        case measure=>rw [hrg3.left_eq,hrg.left_eq];omega
end Go.Proofs.YtdkjinmkallhnaaGreatDoorQ
end
section
namespace Go.Proofs.YtdkjinmkallhnaaGreatDoorQ
open Go.RowKit Go.WideMaps Go.Maps Go.Proofs.YtdkjinmkallhnaaGreatDoor Go.Proofs.YtdkjinmkallhnaaGreatDoorW.PrintWords Go.Proofs.YtdkjinmkallhnaaGreatDoorW.PrintLast Go.Proofs.YtdkjinmkallhnaaGreatDoorW.PrintMore
open Go.Proofs.YtdkjinmkallhnaaGreatDoorT (underM parM Ch)
def clearF (f:Str→Option Nd) (p:Str):Str→Option Nd:=fun key=>if underM p key=true then none else f key
theorem clear_calls (w:World) (b n:Nat) (f:Str→Option Nd) (hm:NdMap w b n f) (p:Str) (hp:p.length≤1000000000) :
    Calls Tryz.prog 74 #[.map (some b),S p] w fun e w'=>e=.returned (.tuple #[])∧NdMap w' b n (clearF f p)∧w.grownBy w' (some b):=by
  have HM:=Lib.hid hm
  have HP:=Lib.hid hp
  clear hm hp
  go_enter Tryz.func74,Tryz.ntmps74
  go_wp2_with fail
  have hb:=Go.Proofs.YtdkjinmkallhnaaGreatDoor.below_new w (.cells #[S p] 9)
  refine (ndDel_calls _ b n f (HM.out.ext hb) p w.heap.size (Go.Proofs.YtdkjinmkallhnaaGreatDoor.cell_new _ _ _ _ rfl) (by have:=HM.out.lt;omega) HP.out).mono ?_
  rintro e w1 ⟨rfl,hm1,hg1⟩
  have HM1:=Lib.hid hm1
  have HG1:Hid (w.grownBy w1 (some b)):=Lib.hid (World.grownBy.andThen (row:=some b) ((below_none hb).but _) hg1 (fun j hj=>by cases hj;exact .inr rfl))
  clear hm1 hg1
  go_wp2
  go_end0
  exact ⟨rfl,HM1.out,HG1.out⟩
set_option maxRecDepth 100000
def folderF (f:Str→Option Nd) (p:Str):Bool:=decide (p=[]) || match f p with|some n=>decide (n.kind=1)|none=>false
theorem folder_calls (w:World) (b n:Nat) (f:Str→Option Nd) (hm:NdMap w b n f) (p:Str) (hp:p.length≤1000000000) :
    Calls Tryz.prog 75 #[.map (some b),S p] w fun e w'=>e=.returned (.bool (folderF f p))∧Below w.heap.size w w':=by
  have hlk:=hm.look2 hp
  have HM:=Lib.hid hm
  clear hm hp
  have h31:=Tryz.underlying26
  obtain ⟨r,hr⟩:∃ r,r=folderF f p:=⟨_,rfl⟩
  rw [← hr]
  have HR:=Lib.hid hr
  clear hr
  obtain ⟨v,hv⟩:∃ v,v=(f p).getD zeroN:=⟨_,rfl⟩
  obtain ⟨is,hi⟩:∃ is,is=(f p).isSome:=⟨_,rfl⟩
  rw [← hv,← hi] at hlk
  have HV:Hid (r=(p.isEmpty || (is && v.kind == 1))):=Lib.hid (by
    rw [HR.out,hv,hi];unfold folderF
    have he:decide (p=[])=p.isEmpty:=by cases p <;> rfl
    rw [he]
    cases f p <;> simp [zeroN]
    rfl)
  clear hv hi HR
  go_enter Tryz.func75,Tryz.ntmps75
  go_wp2_with (first|((with_reducible refine gate_dst (N:=5) rfl ?_);refine box_event rfl (N:=5) rfl (cs:=ndZero) (t:=26) ?hr ?_;(case hr=>first|(go_simp;done)|(go_simp;rfl));intro g5 hg w2 hb2 hbl2;have HGE:Hid (w.heap.size≤g5):=Lib.hid (by rw [hg];exact Nat.le_refl _);have HB2:=Lib.hid hb2;have HBL2:=Lib.hid hbl2;clear hg hb2 hbl2)|((with_reducible refine gate_store (t:=26) (p:=5) rfl ?_);refine wpList_store_agg rfl rfl 26 _ _ rfl g5 (ndCells v).toArray rfl rfl 26 ndZero HB2.out rfl rfl (ndCells_all _) ?_;intro w3 hb3 hg3;have q0:=(lies_of hb3) 0 _ rfl;simp only [Addr.add_mid,Nat.zero_add] at q0;have HB3:Hid (Below w.heap.size w w3):=Lib.hid (HBL2.out.grown hg3 HBL2.out.size (fun j hj=>by cases hj;exact HGE.out));clear hb3 hg3))
  all_goals
    go_ret
    refine ⟨?_,HB3.out⟩
    rw [HV.out]
    first|rfl|(simp [*];done)
theorem chCells_all (e:Ch Str Nd):(chCells e).toArray.all (·.oneCell')=true:=by simp [chCells,ndCells,Value.oneCell']
def takeF (f:Str→Option Nd) (c:Ch Str Nd):Str→Option Nd :=
  if c.op=1 then clearF (fun key=>if key=c.path then none else f key) c.path else if c.op=2 then clearF f c.path else f
theorem take_calls (w:World) (b n:Nat) (f:Str→Option Nd) (hm:NdMap w b n f) (c:Ch Str Nd) (hp:c.path.length≤1000000000) :
    Calls Tryz.prog 44 #[.map (some b),.agg (chCells c).toArray] w fun e w'=>e=.returned (.tuple #[])∧NdMap w' b n (takeF f c)∧w.grownBy w' (some b):=by
  have HM:=Lib.hid hm
  have HP:=Lib.hid hp
  clear hm hp
  go_enter Tryz.func44,Tryz.ntmps44
  have h1:c.op=1∨c.op=2∨(c.op≠1∧c.op≠2):=by omega
  rcases h1 with h1|h1|⟨h1,h2⟩
  · have HT:Hid (takeF f c=clearF (fun key=>if key=c.path then none else f key) c.path):=Lib.hid (by unfold takeF;rw [if_pos h1])
    have hk:(c.op == 1)=true:=by simp [h1]
    go_wp2_with (first|((with_reducible refine gate_dst (N:=3) rfl ?_);refine box_event rfl (N:=3) rfl (cs:=(chCells c).toArray) (t:=38) ?hr ?_;(case hr=>first|(go_simp;done)|(go_simp;rfl));intro g3 hg w2 hb2 hbl2;have HGE:Hid (w.heap.size≤g3):=Lib.hid (by rw [hg];exact Nat.le_refl _);have q0:=(lies_of hb2) 0 _ rfl;have q1:=(lies_of hb2) 1 _ rfl;have q2:=(lies_of hb2) 2 _ rfl;simp only [Addr.add_mid,Nat.zero_add] at q0 q1 q2;have HB2:=Lib.hid hb2;have HBL2:=Lib.hid hbl2;clear hg hb2 hbl2)|(at_delete;refine wpList_nd_del rfl rfl _ _ rfl b n f rfl (HM.out.ext HBL2.out) c.path rfl HP.out _ (fun _=>rfl) ?_;intro w3 hm3 hg3;have q0':=hg3.cell q0 (by have:=HM.out.lt;have:=HGE.out;simp;omega);have HM3:=Lib.hid hm3;have HG3:=Lib.hid hg3;clear hm3 hg3))
    refine (clear_calls _ b n _ HM3.out c.path HP.out).mono ?_
    rintro e w4 ⟨rfl,hm4,hg4⟩
    have HM4:=Lib.hid hm4
    have HG4:Hid (w.grownBy w4 (some b)):=Lib.hid ((((below_none HBL2.out).but (some b)).trans HG3.out).trans hg4)
    clear hm4 hg4
    go_wp2
    go_end0
    exact ⟨rfl,by rw [HT.out];exact HM4.out,HG4.out⟩
  · have HT:Hid (takeF f c=clearF f c.path):=Lib.hid (by unfold takeF;rw [if_neg (by omega),if_pos h1])
    have hk:(c.op == 1)=false:=by simp [h1]
    have hk2:(c.op == 2)=true:=by simp [h1]
    go_wp2_with (first|((with_reducible refine gate_dst (N:=3) rfl ?_);refine box_event rfl (N:=3) rfl (cs:=(chCells c).toArray) (t:=38) ?hr ?_;(case hr=>first|(go_simp;done)|(go_simp;rfl));intro g3 hg w2 hb2 hbl2;have HGE:Hid (w.heap.size≤g3):=Lib.hid (by rw [hg];exact Nat.le_refl _);have q0:=(lies_of hb2) 0 _ rfl;have q1:=(lies_of hb2) 1 _ rfl;have q2:=(lies_of hb2) 2 _ rfl;simp only [Addr.add_mid,Nat.zero_add] at q0 q1 q2;have HB2:=Lib.hid hb2;have HBL2:=Lib.hid hbl2;clear hg hb2 hbl2))
    refine (clear_calls _ b n _ (HM.out.ext HBL2.out) c.path HP.out).mono ?_
    rintro e w4 ⟨rfl,hm4,hg4⟩
    have HM4:=Lib.hid hm4
    have HG4:Hid (w.grownBy w4 (some b)):=Lib.hid (((below_none HBL2.out).but (some b)).trans hg4)
    clear hm4 hg4
    go_wp2
    go_end0
    exact ⟨rfl,by rw [HT.out];exact HM4.out,HG4.out⟩
  · have HT:Hid (takeF f c=f):=Lib.hid (by unfold takeF;rw [if_neg h1,if_neg h2])
    have hk:(c.op == 1)=false:=by simpa using h1
    have hk2:(c.op == 2)=false:=by simpa using h2
    go_wp2_with (first|((with_reducible refine gate_dst (N:=3) rfl ?_);refine box_event rfl (N:=3) rfl (cs:=(chCells c).toArray) (t:=38) ?hr ?_;(case hr=>first|(go_simp;done)|(go_simp;rfl));intro g3 hg w2 hb2 hbl2;have HGE:Hid (w.heap.size≤g3):=Lib.hid (by rw [hg];exact Nat.le_refl _);have q0:=(lies_of hb2) 0 _ rfl;have q1:=(lies_of hb2) 1 _ rfl;have q2:=(lies_of hb2) 2 _ rfl;simp only [Addr.add_mid,Nat.zero_add] at q0 q1 q2;have HB2:=Lib.hid hb2;have HBL2:=Lib.hid hbl2;clear hg hb2 hbl2))
    go_end0
    exact ⟨rfl,by rw [HT.out];exact HM.out.ext HBL2.out,(below_none HBL2.out).but (some b)⟩
def putF (f:Str→Option Nd) (c:Ch Str Nd):Str→Option Nd :=
  fun key=>if key=c.path then some c.node else (if (!decide (c.node.kind=1) || !folderF f c.path)=true then clearF f c.path else f) key
theorem put_calls (w:World) (b n:Nat) (f:Str→Option Nd) (hm:NdMap w b n f) (hn:n≤100000000) (c:Ch Str Nd) (hp:c.path.length≤1000000) :
    Calls Tryz.prog 45 #[.map (some b),.agg (chCells c).toArray] w fun e w'=>e=.returned (.bool (folderF f (parM c.path)))∧NdMap w' b (n + 1) (if folderF f (parM c.path)=true then putF f c else f)∧w.grownBy w' (some b):=by
  have HM:=Lib.hid hm
  have HP:=Lib.hid hp
  clear hm hp
  go_enter Tryz.func45,Tryz.ntmps45
  go_wp2_with (first|((with_reducible refine gate_dst (N:=3) rfl ?_);refine box_event rfl (N:=3) rfl (cs:=(chCells c).toArray) (t:=38) ?hr ?_;(case hr=>first|(go_simp;done)|(go_simp;rfl));intro g3 hg w2 hb2 hbl2;have HGE:Hid (w.heap.size≤g3):=Lib.hid (by rw [hg];exact Nat.le_refl _);have q0:=(lies_of hb2) 0 _ rfl;have q1:=(lies_of hb2) 1 _ rfl;have q2:=(lies_of hb2) 2 _ rfl;simp only [Addr.add_mid,Nat.zero_add] at q0 q1 q2;have HB2:=Lib.hid hb2;have HBL2:=Lib.hid hbl2;clear hg hb2 hbl2))
  refine (paths_Parent.calls (B c.path) (B (parM c.path)) _ (parent_f _ (by have:=HP.out;omega))).mono ?_
  rintro e w3 ⟨rfl,hb3⟩
  have HBL3:=Lib.hid (Go.Proofs.YtdkjinmkallhnaaGreatDoor.below_then HBL2.out hb3)
  have HB3:=Lib.hid (blk_below HB2.out hb3)
  clear hb3
  go_wp2_with fail
  refine (folder_calls _ b n f (HM.out.ext HBL3.out) (parM c.path) (by have:=(part_len c.path).1;have:=HP.out;omega)).mono ?_
  rintro e w4 ⟨rfl,hb4⟩
  have HBL4:=Lib.hid (Go.Proofs.YtdkjinmkallhnaaGreatDoor.below_then HBL3.out hb4)
  have HB4:=Lib.hid (blk_below HB3.out hb4)
  clear hb4
  cases hf:folderF f (parM c.path) with
  | false =>
    go_wp2_with fail
    all_goals
      go_ret
      exact ⟨rfl,by simpa using (HM.out.ext HBL4.out).mono (Nat.le_succ n),(below_none HBL4.out).but (some b)⟩
  | true =>
    have r2:=(lies_of HB4.out) 2 _ rfl
    have r0:=(lies_of HB4.out) 0 _ rfl
    simp only [Addr.add_mid,Nat.zero_add] at r0 r2
    have h31:=Tryz.underlying26
    have HN:Hid (∀ W,W.heap[g3]?=some (.cells (chCells c).toArray 38 (0,0))→LiesAt W ⟨g3,2,none⟩ (ndCells c.node)):=Lib.hid (fun W hW j v hv=>by
      have:=(lies_of hW) (2 + j) v (by rw [Nat.add_comm];exact hv)
      rw [Addr.add_mid,Nat.zero_add] at this
      rw [Addr.add_mid]
      exact this)
    have clears:∀ w5:World,Below w.heap.size w w5→w5.heap[g3]?=some (.cells (chCells c).toArray 38 (0,0))→(!decide (c.node.kind=1) || !folderF f c.path)=true →
        Calls Tryz.prog 74 #[.map (some b),.string (B c.path)] w5 fun e w'=>e=.returned (.tuple #[])∧NdMap w' b n ((if (!decide (c.node.kind=1) || !folderF f c.path)=true then clearF f c.path else f))∧w.grownBy w' (some b)∧w'.heap[g3]?=some (.cells (chCells c).toArray 38 (0,0)):=by
      intro w5 hb5 hg5 hcl
      refine (clear_calls _ b n f (HM.out.ext hb5) c.path (by have:=HP.out;omega)).mono ?_
      rintro e w6 ⟨rfl,hm6,hg6⟩
      refine ⟨rfl,by rw [if_pos hcl];exact hm6,((below_none hb5).but (some b)).trans hg6,?_⟩
      exact (hg6.block g3 (Go.Proofs.YtdkjinmkallhnaaGreatDoorW.PrintWords.blk_lt hg5) (by have:=HM.out.lt;have:=HGE.out;simp;omega)).trans hg5
    have HCL:=Lib.hid clears
    clear clears
    have HPF:Hid (∀ key,putF f c key=if key=c.path then some c.node else (if (!decide (c.node.kind=1) || !folderF f c.path)=true then clearF f c.path else f) key):=Lib.hid (fun _=>rfl)
    cases hk:(c.node.kind == 1) with
    | false =>
      have hk1:¬ c.node.kind=1:=by simpa using hk
      have hcl:(!decide (c.node.kind=1) || !folderF f c.path)=true:=by simp [hk1]
      have hk2:(c.node.kind != 1)=true:=by simp [bne,hk]
      go_wp2_with fail
      refine (HCL.out _ HBL4.out HB4.out hcl).mono ?_
      rintro e w6 ⟨rfl,hm6,hg6,hb6⟩
      have HMN:=Lib.hid hm6
      have HGN:=Lib.hid hg6
      have HLN:=Lib.hid (HN.out _ hb6)
      have u0:=(lies_of hb6) 0 _ rfl
      simp only [Addr.add_mid,Nat.zero_add] at u0
      clear hm6 hg6 hb6
      go_wp2_with (first|((with_reducible refine gate_dst (N:=30) rfl ?_);refine wpList_load_agg rfl 26 _ rfl _ rfl (ndCells c.node) _ HLN.out h31 rfl rfl ?_)|(at_mapUpdate;refine wpList_nd_up rfl rfl _ _ _ rfl b n _ rfl HMN.out (by omega) c.path c.node rfl rfl (by have:=HP.out;omega) _ HPF.out ?_;intro w8 hm8 hg8;have HM8:=Lib.hid hm8;have HG8:Hid (w.grownBy w8 (some b)):=Lib.hid (HGN.out.trans hg8);clear hm8 hg8))
      go_ret
      exact ⟨rfl,by simpa using HM8.out,HG8.out⟩
    | true =>
      have hk1:c.node.kind=1:=by simpa using hk
      have hk2:(c.node.kind != 1)=false:=by simp [bne,hk]
      go_wp2_with fail
      refine (folder_calls _ b n f (HM.out.ext HBL4.out) c.path (by have:=HP.out;omega)).mono ?_
      rintro e w5 ⟨rfl,hb5⟩
      have HBL5:=Lib.hid (Go.Proofs.YtdkjinmkallhnaaGreatDoor.below_then HBL4.out hb5)
      have HB5:=Lib.hid (blk_below HB4.out hb5)
      clear hb5
      have t0:=(lies_of HB5.out) 0 _ rfl
      simp only [Addr.add_mid,Nat.zero_add] at t0
      cases hfo:folderF f c.path with
      | false =>
        have hcl:(!decide (c.node.kind=1) || !folderF f c.path)=true:=by simp [hfo]
        go_wp2_with fail
        refine (HCL.out _ HBL5.out HB5.out hcl).mono ?_
        rintro e w6 ⟨rfl,hm6,hg6,hb6⟩
        have HMN:=Lib.hid hm6
        have HGN:=Lib.hid hg6
        have HLN:=Lib.hid (HN.out _ hb6)
        have u0:=(lies_of hb6) 0 _ rfl
        simp only [Addr.add_mid,Nat.zero_add] at u0
        clear hm6 hg6 hb6
        go_wp2_with (first|((with_reducible refine gate_dst (N:=30) rfl ?_);refine wpList_load_agg rfl 26 _ rfl _ rfl (ndCells c.node) _ HLN.out h31 rfl rfl ?_)|(at_mapUpdate;refine wpList_nd_up rfl rfl _ _ _ rfl b n _ rfl HMN.out (by omega) c.path c.node rfl rfl (by have:=HP.out;omega) _ HPF.out ?_;intro w8 hm8 hg8;have HM8:=Lib.hid hm8;have HG8:Hid (w.grownBy w8 (some b)):=Lib.hid (HGN.out.trans hg8);clear hm8 hg8))
        go_ret
        exact ⟨rfl,by simpa using HM8.out,HG8.out⟩
      | true =>
        have HMN:Hid (NdMap w5 b n (if (!decide (c.node.kind=1) || !folderF f c.path)=true then clearF f c.path else f)):=Lib.hid (by rw [if_neg (by simp [hk1,hfo])];exact HM.out.ext HBL5.out)
        have HGN:Hid (w.grownBy w5 (some b)):=Lib.hid ((below_none HBL5.out).but _)
        have HLN:=Lib.hid (HN.out _ HB5.out)
        go_wp2_with (first|((with_reducible refine gate_dst (N:=30) rfl ?_);refine wpList_load_agg rfl 26 _ rfl _ rfl (ndCells c.node) _ HLN.out h31 rfl rfl ?_)|(at_mapUpdate;refine wpList_nd_up rfl rfl _ _ _ rfl b n _ rfl HMN.out (by omega) c.path c.node rfl rfl (by have:=HP.out;omega) _ HPF.out ?_;intro w8 hm8 hg8;have HM8:=Lib.hid hm8;have HG8:Hid (w.grownBy w8 (some b)):=Lib.hid (HGN.out.trans hg8);clear hm8 hg8))
        go_ret
        exact ⟨rfl,by simpa using HM8.out,HG8.out⟩
end Go.Proofs.YtdkjinmkallhnaaGreatDoorQ
end
section
namespace Go.Proofs
open Go.Shelf
def Tryz.layKeys1_ren:Go.Shelf.Ren:=⟨fun|10=>78|n=>n,fun|33=>87|23=>62|0=>0|4=>4|26=>9|3=>26|n=>n,fun|n=>n⟩
theorem Tryz.layKeys1:Go.Proofs.SlLaysZ.n10 Tryz.prog Tryz.layKeys1_ren:={
  mixed:=by kernel_rfl
  f10:=⟨Tryz.f78.name,by decide,Tryz.func78.trans (congrArg some (by kernel_rfl))⟩
  t0:=Tryz.underlying0
  a0:=Tryz.isAgg0
  z0:=Tryz.sizeOf0
  v0:=Tryz.zeroValue0
  t4:=Tryz.underlying4
  a4:=Tryz.isAgg4
  z4:=Tryz.sizeOf4
  v4:=Tryz.zeroValue4
  t23:=Tryz.underlying62
  a23:=Tryz.isAgg62
  z23:=Tryz.sizeOf62
  v23:=Tryz.zeroValue62
  t26:=Tryz.underlying9
  a26:=Tryz.isAgg9
  z26:=Tryz.sizeOf9
  v26:=Tryz.zeroValue9
  t33:=Tryz.underlying87
  a33:=Tryz.isAgg87
  z33:=Tryz.sizeOf87
  v33:=Tryz.zeroValue87 }
def Tryz.layKeys_ren:Go.Shelf.Ren:=⟨fun|7=>47|10=>78|n=>n,fun|23=>62|26=>9|3=>26|28=>68|0=>0|27=>67|33=>87|4=>4|n=>n,fun|n=>n⟩
theorem Tryz.layKeys:Go.Proofs.SlLaysZ.n7 Tryz.prog Tryz.layKeys_ren:={
  mixed:=by kernel_rfl
  f7:=⟨Tryz.f47.name,by decide,Tryz.func47.trans (congrArg some (by kernel_rfl))⟩
  f10:=⟨Tryz.f78.name,by decide,Tryz.func78.trans (congrArg some (by kernel_rfl))⟩
  t0:=Tryz.underlying0
  a0:=Tryz.isAgg0
  z0:=Tryz.sizeOf0
  v0:=Tryz.zeroValue0
  t4:=Tryz.underlying4
  a4:=Tryz.isAgg4
  z4:=Tryz.sizeOf4
  v4:=Tryz.zeroValue4
  t23:=Tryz.underlying62
  a23:=Tryz.isAgg62
  z23:=Tryz.sizeOf62
  v23:=Tryz.zeroValue62
  t26:=Tryz.underlying9
  a26:=Tryz.isAgg9
  z26:=Tryz.sizeOf9
  v26:=Tryz.zeroValue9
  t27:=Tryz.underlying67
  a27:=Tryz.isAgg67
  z27:=Tryz.sizeOf67
  v27:=Tryz.zeroValue67
  t28:=Tryz.underlying68
  a28:=Tryz.isAgg68
  z28:=Tryz.sizeOf68
  v28:=Tryz.zeroValue68
  t33:=Tryz.underlying87
  a33:=Tryz.isAgg87
  z33:=Tryz.sizeOf87
  v33:=Tryz.zeroValue87 }
def Tryz.layCollect_ren:Go.Shelf.Ren:=⟨fun|8=>76|11=>107|n=>n,fun|26=>9|28=>68|24=>65|0=>0|33=>87|4=>4|n=>n,fun|n=>n⟩
theorem Tryz.layCollect:Go.Proofs.SlLaysZ.n8 Tryz.prog Tryz.layCollect_ren:={
  mixed:=by kernel_rfl
  f8:=⟨Tryz.f76.name,by decide,Tryz.func76.trans (congrArg some (by kernel_rfl))⟩
  f11:=⟨Tryz.f107.name,by decide,Tryz.func107.trans (congrArg some (by kernel_rfl))⟩
  t0:=Tryz.underlying0
  a0:=Tryz.isAgg0
  z0:=Tryz.sizeOf0
  v0:=Tryz.zeroValue0
  t24:=Tryz.underlying65
  a24:=Tryz.isAgg65
  z24:=Tryz.sizeOf65
  v24:=Tryz.zeroValue65
  t26:=Tryz.underlying9
  a26:=Tryz.isAgg9
  z26:=Tryz.sizeOf9
  v26:=Tryz.zeroValue9
  t28:=Tryz.underlying68
  a28:=Tryz.isAgg68
  z28:=Tryz.sizeOf68
  v28:=Tryz.zeroValue68
  i26:=by kernel_rfl }
def Tryz.laySortFunc_ren:Go.Shelf.Ren:=⟨fun|6=>77|15=>109|14=>108|28=>134|29=>135|20=>126|21=>127|22=>128|23=>129|24=>130|25=>131|26=>132|27=>133|46=>153|47=>154|48=>155|49=>156|50=>157|57=>170|n=>n,fun|22=>65|24=>9|25=>57|3=>3|39=>121|0=>0|53=>134|55=>136|4=>4|46=>127|45=>126|50=>131|5=>5|9=>9|66=>153|70=>157|76=>170|77=>171|n=>n,fun|n=>n⟩
theorem Tryz.laySortFunc:Go.Proofs.SlLaysF.n6 Tryz.prog Tryz.laySortFunc_ren:={
  mixed:=by kernel_rfl
  f6:=⟨Tryz.f77.name,by decide,Tryz.func77.trans (congrArg some (by kernel_rfl))⟩
  f14:=⟨Tryz.f108.name,by decide,Tryz.func108.trans (congrArg some (by kernel_rfl))⟩
  f15:=Tryz.func109.trans (congrArg some (by kernel_rfl))
  f20:=⟨Tryz.f126.name,by decide,Tryz.func126.trans (congrArg some (by kernel_rfl))⟩
  f21:=⟨Tryz.f127.name,by decide,Tryz.func127.trans (congrArg some (by kernel_rfl))⟩
  f22:=⟨Tryz.f128.name,by decide,Tryz.func128.trans (congrArg some (by kernel_rfl))⟩
  f23:=⟨Tryz.f129.name,by decide,Tryz.func129.trans (congrArg some (by kernel_rfl))⟩
  f24:=⟨Tryz.f130.name,by decide,Tryz.func130.trans (congrArg some (by kernel_rfl))⟩
  f25:=⟨Tryz.f131.name,by decide,Tryz.func131.trans (congrArg some (by kernel_rfl))⟩
  f26:=⟨Tryz.f132.name,by decide,Tryz.func132.trans (congrArg some (by kernel_rfl))⟩
  f27:=⟨Tryz.f133.name,by decide,Tryz.func133.trans (congrArg some (by kernel_rfl))⟩
  f28:=Tryz.func134.trans (congrArg some (by kernel_rfl))
  f29:=Tryz.func135.trans (congrArg some (by kernel_rfl))
  f46:=⟨Tryz.f153.name,by decide,Tryz.func153.trans (congrArg some (by kernel_rfl))⟩
  f47:=Tryz.func154.trans (congrArg some (by kernel_rfl))
  f48:=Tryz.func155.trans (congrArg some (by kernel_rfl))
  f49:=⟨Tryz.f156.name,by decide,Tryz.func156.trans (congrArg some (by kernel_rfl))⟩
  f50:=⟨Tryz.f157.name,by decide,Tryz.func157.trans (congrArg some (by kernel_rfl))⟩
  f57:=⟨Tryz.f170.name,by decide,Tryz.func170.trans (congrArg some (by kernel_rfl))⟩
  t0:=Tryz.underlying0
  a0:=Tryz.isAgg0
  z0:=Tryz.sizeOf0
  v0:=Tryz.zeroValue0
  t3:=Tryz.underlying3
  a3:=Tryz.isAgg3
  z3:=Tryz.sizeOf3
  v3:=Tryz.zeroValue3
  t4:=Tryz.underlying4
  a4:=Tryz.isAgg4
  z4:=Tryz.sizeOf4
  v4:=Tryz.zeroValue4
  t5:=Tryz.underlying5
  a5:=Tryz.isAgg5
  z5:=Tryz.sizeOf5
  v5:=Tryz.zeroValue5
  t9:=Tryz.underlying9
  a9:=Tryz.isAgg9
  z9:=Tryz.sizeOf9
  v9:=Tryz.zeroValue9
  t22:=Tryz.underlying65
  a22:=Tryz.isAgg65
  z22:=Tryz.sizeOf65
  v22:=Tryz.zeroValue65
  a24:=Tryz.isAgg9
  z24:=Tryz.sizeOf9
  t25:=Tryz.underlying57
  a25:=Tryz.isAgg57
  z25:=Tryz.sizeOf57
  v25:=Tryz.zeroValue57
  t39:=Tryz.underlying121
  a39:=Tryz.isAgg121
  z39:=Tryz.sizeOf121
  v39:=Tryz.zeroValue121
  t45:=Tryz.underlying126
  a45:=Tryz.isAgg126
  z45:=Tryz.sizeOf126
  v45:=Tryz.zeroValue126
  t46:=Tryz.underlying127
  a46:=Tryz.isAgg127
  z46:=Tryz.sizeOf127
  v46:=Tryz.zeroValue127
  t50:=Tryz.underlying131
  a50:=Tryz.isAgg131
  z50:=Tryz.sizeOf131
  v50:=Tryz.zeroValue131
  t53:=Tryz.underlying134
  a53:=Tryz.isAgg134
  z53:=Tryz.sizeOf134
  v53:=Tryz.zeroValue134
  t55:=Tryz.underlying136
  a55:=Tryz.isAgg136
  z55:=Tryz.sizeOf136
  v55:=Tryz.zeroValue136
  t66:=Tryz.underlying153
  a66:=Tryz.isAgg153
  z66:=Tryz.sizeOf153
  v66:=Tryz.zeroValue153
  t70:=Tryz.underlying157
  a70:=Tryz.isAgg157
  z70:=Tryz.sizeOf157
  v70:=Tryz.zeroValue157
  t76:=Tryz.underlying170
  a76:=Tryz.isAgg170
  z76:=Tryz.sizeOf170
  v76:=Tryz.zeroValue170
  t77:=Tryz.underlying171
  a77:=Tryz.isAgg171
  z77:=Tryz.sizeOf171
  v77:=Tryz.zeroValue171 }
end Go.Proofs
end
section
namespace Go.Proofs.YtdkjinmkallhnaaGreatDoorQ
open Go.RowKit Go.WideMaps Go.Maps Go.Sort Go.Proofs.YtdkjinmkallhnaaGreatDoor Go.Proofs.YtdkjinmkallhnaaGreatDoorW.PrintWords Go.Proofs.YtdkjinmkallhnaaGreatDoorW.PrintLast Go.Proofs.YtdkjinmkallhnaaGreatDoorW.PrintMore
open Go.Proofs.YtdkjinmkallhnaaGreatDoorT (cmpM cmpM_refl cmpM_anti cmpM_eq cmpM_trans)
abbrev Sh:={s:Str // s.length≤1000000}
instance:Inhabited Sh:=⟨⟨[],by simp⟩⟩
def encSh (x:Sh):Value:=S x.1
def cmpSh (x y:Sh):Int:=cmpM x.1 y.1
theorem swo_sh:SWO (ltOf cmpSh) where
  irrefl x:=decide_eq_false (by unfold cmpSh;rw [cmpM_refl];decide)
  trans x y z h1 h2:=decide_eq_true (cmpM_trans (of_decide_eq_true (p:=cmpM x.1 y.1<0) h1) (of_decide_eq_true (p:=cmpM y.1 z.1<0) h2))
  ntrans x y z h1 h2:=by
    have h1:¬ cmpM x.1 y.1<0:=of_decide_eq_false (p:=cmpM x.1 y.1<0) h1
    have h2:¬ cmpM y.1 z.1<0:=of_decide_eq_false (p:=cmpM y.1 z.1<0) h2
    refine decide_eq_false (p:=cmpM x.1 z.1<0) fun h3=>?_
    have a1:=cmpM_anti x.1 y.1
    have a2:=cmpM_anti y.1 z.1
    by_cases e1:cmpM x.1 y.1=0
    · rw [cmpM_eq e1] at h3;exact h2 h3
    · by_cases e2:cmpM y.1 z.1=0
      · rw [← cmpM_eq e2] at h3;exact h1 h3
      · have:=cmpM_trans (a:=z.1) (b:=y.1) (c:=x.1) (by omega) (by omega)
        have a3:=cmpM_anti x.1 z.1
        omega
theorem cmp_lays (w w0:World) (hG:GL w0) (g:Nat) (hg:w0.heap.size≤g) (hb:Below w0.heap.size w0 w) (size:Nat):CmpLays1 Tryz.prog 38 #[] encSh cmpSh g 0 size w:=by
  intro m os dk hs x y
  have hB:Below w0.heap.size w0 (sortWorld encSh w g 0 m dk os):=by
    have h1:Below w0.heap.size w0 (putRow encSh (Sort.ahead w m) g 0 dk):=Go.Lib.below_putRow hb hg
    refine ⟨h1.os,h1.tape,h1.output,?_,fun k hk=>?_⟩
    · refine Nat.le_trans h1.size ?_
      show _≤(grow _ os).heap.size
      simp [grow]
    · rw [← h1.block k hk]
      show ((putRow encSh (Sort.ahead w m) g 0 dk).heap ++ os)[k]?=_
      rw [Array.getElem?_append_left (by have:=h1.size;omega)]
  refine (compareL_calls _ (hG.ext hB) x.1 y.1 (by have:=x.2;omega) (by have:=y.2;omega)).mono ?_
  rintro e w' ⟨rfl,n,os',h⟩
  exact ⟨rfl,n,os',h⟩
theorem mem_strKeys {es:List (Lit×DataW Nd)} (hk:∀ p ∈ es,∃ x,p.1=.string x) (x:Str):x ∈ strKeys (.map es)↔Maps.has (.map es) (.string x)=true:=by
  rw [has_eq,List.any_eq_true]
  show x ∈ es.map (fun p=>strOf p.1)↔_
  rw [List.mem_map]
  constructor
  · rintro ⟨p,hp,rfl⟩
    obtain ⟨a,ha⟩:=hk p hp
    refine ⟨p,hp,?_⟩
    rw [ha]
    exact WideAt.sameKey_self trivial
  · rintro ⟨p,hp,h⟩
    refine ⟨p,hp,?_⟩
    by_cases e:p.1=.string x
    · rw [e];rfl
    · rw [sameKey_ne e] at h;cases h
theorem nodup_strKeys {es:List (Lit×DataW Nd)} (hp:es.Pairwise fun p q=>p.1≠q.1) (hk:∀ p ∈ es,∃ x,p.1=.string x):(strKeys (.map es)).Nodup:=by
  show (es.map fun p=>strOf p.1).Nodup
  refine List.pairwise_map.2 (hp.imp_of_mem fun {p q} hp' hq' hne e=>hne ?_)
  obtain ⟨a,ha⟩:=hk p hp'
  obtain ⟨b,hb⟩:=hk q hq'
  rw [ha,hb] at e ⊢
  exact congrArg _ e
theorem keys_fn_calls (w:World) (b:Nat):Calls Tryz.prog 47 #[.map (some b)] w fun e w' =>
    e=.returned (.func (.func 78) #[] #[.pointer (some ⟨w.heap.size,0,none⟩)])∧w'=w.alloc (.cells #[.map (some b)] 62) :=
  callsIn_wide.1 (AnyZ.keys_in Tryz.layKeys Fence.wide 6 trivial rfl (some b) w)
theorem collect_calls (w:World) (b n:Nat) (f:Str→Option Nd) (hm:NdMap w b n f) (hn:n≤100000000) (g:Nat) (hc:w.cell? ⟨g,0,none⟩=some (.map (some b))) :
    Calls Tryz.prog 76 #[.func (.func 78) #[] #[.pointer (some ⟨g,0,none⟩)]] w fun e w' =>
      ∃ (v:Value) (ss:List Str),e=.returned v∧(∀ x,x ∈ ss↔(f x).isSome=true)∧ss.Nodup∧ss.length≤n∧w'.ownsRow w.heap.size 9 1 v ss.length (ss.map encStr)∧Below w.heap.size w w':=by
  obtain ⟨D,hown,hat⟩:=hm
  obtain ⟨es,rfl,hap,_⟩:=hown.entries strLaw
  have hks:∀ p ∈ es,∃ x,p.1=.string x:=by
    obtain ⟨es',e,h⟩:=hown.keysOf
    cases e
    intro p hp
    obtain ⟨v,hv⟩:=h p hp
    obtain ⟨x,_,h2,_⟩:=Maps.keyOf_str Tryz.underlying9 hv
    exact ⟨x,h2⟩
  have hsz:Maps.size (DataW.map es)≤n:=hown.size_le
  have hseq:=AnyZ.keys_gives Tryz.layKeys1 Fence.wide (6 - 1 - 1) trivial rfl (by omega) g b n _ w (World.block_lt_of_cell? w _ hc) hc hown
  refine (callsIn_wide.1 (AnyZ.collect_in Tryz.layCollect Fence.wide 6 trivial trivial rfl (by omega) 78 #[.pointer (some ⟨g,0,none⟩)] trivial
    (Tryz.layKeys1.f10.enters rfl) _ _ (by unfold maxLen;omega) (by omega) w hseq)).mono ?_
  rintro e w' ⟨v,ss,rfl,hp,hrow,_,hb⟩
  refine ⟨v,ss,rfl,fun x=>?_,?_,?_,hrow,hb⟩
  · rw [hp.mem_iff,mem_strKeys hks,NdMap.has hat]
  · exact (hp.nodup_iff).2 (nodup_strKeys hap hks)
  · rw [hp.length_eq]
    show (es.map _).length≤n
    rw [List.length_map]
    exact hsz
def TextsAt (w:World) (v:Value) (ks:List Str):Prop:=∃ A cap,v=.slice A ks.length cap∧∀ i (h:i<ks.length),∃ g,A=some ⟨g,0,none⟩∧w.cell? ⟨g,i,none⟩=some (S ks[i])
theorem TextsAt.below {w w1:World} {v:Value} {ks:List Str} (h:TextsAt w v ks) (hb:Below w.heap.size w w1):TextsAt w1 v ks:=by
  obtain ⟨A,cap,h1,h2⟩:=h
  refine ⟨A,cap,h1,fun i hi=>?_⟩
  obtain ⟨g,h3,h4⟩:=h2 i hi
  exact ⟨g,h3,pw_cell_below hb h4⟩
theorem sort_calls (w w0:World) (hG:GL w0) (hb:Below w0.heap.size w0 w) (v:Value) (ss:List Str) (hbd:∀ x ∈ ss,x.length≤1000000) (hrow:w.ownsRow w0.heap.size 9 1 v ss.length (ss.map encStr)) (hlen:ss.length≤100000000) :
    Calls Tryz.prog 77 #[v,.func (.func 38) #[] #[]] w fun e w'=>e=.returned (.tuple #[])∧∃ ks:List Str,ks.Perm ss∧(ks.Pairwise fun a b=>cmpM a b≤0)∧TextsAt w' v ks∧Below w0.heap.size w0 w':=by
  obtain ⟨_,hv⟩:=hrow
  rcases hv with ⟨rfl,h0⟩|⟨g,cap,cur,rfl,hg,hblk,hcap,hcm,hcs,hcur⟩
  · obtain rfl:ss=[]:=List.length_eq_zero_iff.1 h0
    refine (AnyF.slices_SortFunc_none (P:=Tryz.prog) (ρ:=Tryz.laySortFunc_ren) { Tryz.laySortFunc with } none 0 _ w).mono ?_
    rintro e w' ⟨rfl,rfl⟩
    exact ⟨rfl,[],List.Perm.refl _,List.Pairwise.nil,⟨none,0,rfl,fun i h=>by cases h⟩,hb⟩
  · obtain ⟨d,hd⟩:∃ d:List Sh,d.map (·.1)=ss:=⟨ss.pmap (fun x h=>⟨x,h⟩) hbd,by rw [List.map_pmap];simp⟩
    have hdl:d.length=ss.length:=by rw [← hd];simp
    have hH:Holds encSh w g 0 d.toArray:=by
      intro j hj
      have hj':j<d.length:=by simpa using hj
      have hcell:w.cell? ⟨g,j,none⟩=cur[j]?:=Go.Proofs.YtdkjinmkallhnaaGreatDoorW.PrintWords.blk_cell hblk j
      refine ⟨?_,?_⟩
      · rw [Nat.zero_add,hcell]
        have h2:(cur.toList.take (ss.length * 1))[j]?=(ss.map encStr)[j]?:=by rw [hcur]
        rw [List.getElem?_take_of_lt (by omega)] at h2
        have h3:cur[j]?=(ss.map encStr)[j]?:=by rw [← h2];simp
        rw [h3,List.getElem?_map,← hd,List.getElem?_map,List.getElem?_eq_getElem hj']
        have:(d.toArray)[j]! = d[j]:=by simp [hj']
        rw [this]
        rfl
      · exact Go.Proofs.YtdkjinmkallhnaaGreatDoorW.PrintWords.blk_frozen hblk _
    have hgl:g<w.heap.size:=Go.Proofs.YtdkjinmkallhnaaGreatDoorW.PrintWords.blk_lt hblk
    have hsz:d.toArray.size=ss.length:=by simpa using hdl
    have hT:∀ x y:Sh,(ltOf cmpSh) x y=false→(ltOf cmpSh) y x=false→x=y:=by
      intro x y h1 h2
      have h1:¬ cmpM x.1 y.1<0:=of_decide_eq_false (p:=cmpM x.1 y.1<0) h1
      have h2:¬ cmpM y.1 x.1<0:=of_decide_eq_false (p:=cmpM y.1 x.1<0) h2
      rw [cmpM_anti] at h2
      exact Subtype.ext (cmpM_eq (by omega))
    have hcall:=Any.slices_SortFunc_total Tryz.laySortFunc encSh (fun x=>rfl) cmpSh swo_sh 38 #[] g 0 cap d.toArray w (fun args w=>enters_ Tryz.func38 (by kernel_rfl) rfl args w) (cmp_lays w w0 hG g hg hb _) hH hgl (by omega) hT
    rw [hsz] at hcall
    refine hcall.mono ?_
    rintro e w' ⟨rfl,n,os,rfl⟩
    obtain ⟨s,hs⟩:∃ s,s=d.mergeSort fun x y=>!(ltOf cmpSh) y x:=⟨_,rfl⟩
    have hperm:s.Perm d:=by rw [hs];exact List.mergeSort_perm _ _
    have hsl:s.length=ss.length:=by rw [hperm.length_eq,hdl]
    have hsort:s.Pairwise fun x y=>(!(ltOf cmpSh) y x)=true:=by
      rw [hs]
      refine List.pairwise_mergeSort (fun a b c h1 h2=>?_) (fun a b=>?_) d
      · simp only [Bool.not_eq_true'] at *
        exact swo_sh.ntrans c b a h2 h1
      · rw [Bool.or_eq_true,Bool.not_eq_true',Bool.not_eq_true']
        cases h:ltOf cmpSh b a with
        | false=>exact .inl rfl
        | true =>
          right
          cases h2:ltOf cmpSh a b with
          | false=>rfl
          | true=>have:=swo_sh.trans _ _ _ h h2;rw [swo_sh.irrefl] at this;cases this
    have hdt:d.toArray.toList=d:=rfl
    rw [hdt,← hs]
    refine ⟨rfl,s.map (·.1),?_,?_,?_,?_⟩
    · rw [← hd];exact hperm.map _
    · refine List.pairwise_map.2 (hsort.imp fun {a b} h=>?_)
      rw [Bool.not_eq_true'] at h
      have h:=of_decide_eq_false (p:=cmpM b.1 a.1<0) h
      rw [cmpM_anti] at h
      omega
    · have hH':=holds_sortWorld encSh w g 0 n d.toArray s.toArray os hgl hH (by simp [hsl,hdl])
      refine ⟨some ⟨g,0,none⟩,cap,by simp [hsl],fun i hi=>⟨g,rfl,?_⟩⟩
      have hi':i<s.length:=by simpa using hi
      have:=(hH' i (by simpa using hi')).1
      rw [Nat.zero_add] at this
      rw [this]
      have h5:(s.toArray)[i]! = s[i]:=by simp [hi']
      rw [h5]
      simp [encSh]
    · have h1:Below w0.heap.size w0 (putRow encSh (Sort.ahead w n) g 0 s.toArray):=Go.Lib.below_putRow hb hg
      refine ⟨h1.os,h1.tape,h1.output,?_,fun k hk=>?_⟩
      · refine Nat.le_trans h1.size ?_
        show _≤(grow _ os).heap.size
        simp [grow]
      · rw [← h1.block k hk]
        show ((putRow encSh (Sort.ahead w n) g 0 s.toArray).heap ++ os)[k]?=_
        rw [Array.getElem?_append_left (by have:=h1.size;omega)]
theorem sorted_calls (w:World) (hG:GL w) (b n:Nat) (f:Str→Option Nd) (hm:NdMap w b n f) (hn:n≤100000000) (hbd:∀ x,(f x).isSome=true→x.length≤1000000) (g:Nat) (hc:w.cell? ⟨g,0,none⟩=some (.map (some b))) :
    Calls Tryz.prog 46 #[.func (.func 78) #[] #[.pointer (some ⟨g,0,none⟩)],.func (.func 38) #[] #[]] w fun e w' =>
      ∃ (v:Value) (ks:List Str),e=.returned v∧TextsAt w' v ks∧(∀ x,x ∈ ks↔(f x).isSome=true)∧(ks.Pairwise fun a b=>cmpM a b<0)∧ks.length≤n∧Below w.heap.size w w':=by
  have HM:=Lib.hid hm
  have HBD:=Lib.hid hbd
  have HC:=Lib.hid hc
  clear hm hbd hc
  go_enter Tryz.func46,Tryz.ntmps46
  go_wp2_with fail
  refine (collect_calls w b n f HM.out hn g HC.out).mono ?_
  rintro e w1 ⟨v,ss,rfl,hmem,hnd,hle,hrow,hb1⟩
  have HMEM:=Lib.hid hmem
  have HND:=Lib.hid hnd
  have HLE:=Lib.hid hle
  have HROW:=Lib.hid hrow
  have HB1:=Lib.hid hb1
  clear hmem hnd hle hrow hb1
  go_wp2_with fail
  refine (sort_calls w1 w hG HB1.out v ss (fun x hx=>HBD.out x ((HMEM.out x).1 hx)) HROW.out (by have:=HLE.out;omega)).mono ?_
  rintro e w2 ⟨rfl,ks,hp,hs,ht,hb2⟩
  have HP:=Lib.hid hp
  have HS:=Lib.hid hs
  have HT:=Lib.hid ht
  have HB2:=Lib.hid hb2
  clear hp hs ht hb2
  go_wp2
  go_ret
  refine ⟨v,ks,rfl,HT.out,fun x=>by rw [HP.out.mem_iff];exact HMEM.out x,?_,by rw [HP.out.length_eq];exact HLE.out,HB2.out⟩
  have hnd2:ks.Nodup:=HP.out.nodup_iff.2 HND.out
  refine (HS.out.and hnd2).imp fun {a b} h=>?_
  rcases Int.lt_or_eq_of_le h.1 with h1|h1
  · exact h1
  · exact absurd (cmpM_eq h1) h.2
end Go.Proofs.YtdkjinmkallhnaaGreatDoorQ
end
section
namespace Go.Proofs.YtdkjinmkallhnaaGreatDoorT
variable {ν:Type} [DecidableEq ν] (Y:Sys ν)
omit [DecidableEq ν] in
theorem srt_of {t:Row ν} (h1:∀ e ∈ t,plainM Y e=true) (h2:t.Pairwise fun a b=>lessM a.1 b.1=true):Srt PS t:=by
  refine ⟨fun x hx=>?_,h2.imp fun {a b} h=>by unfold lessM at h;exact of_decide_eq_true (p:=cmpM a.1 b.1<0) h⟩
  have:=h1 x hx
  unfold plainM at this
  simp only [Bool.and_eq_true,decide_eq_true_eq] at this
  exact (mark_put this.1).2.1
omit [DecidableEq ν] in
theorem rightT_unf (t:Row ν):rightT Y t=true↔(∀ e ∈ t,plainM Y e=true)∧(t.Pairwise fun a b=>lessM a.1 b.1=true)∧(∀ e ∈ t,parM e.1=[]∨∃ x ∈ t,x.1=parM e.1∧Y.dir x.2=true)∧t.length≤5000:=by
  unfold rightT
  simp only [Bool.and_eq_true,List.all_eq_true,decide_eq_true_eq]
  rw [chain_iff (fun a b c h1 h2=>by unfold lessM at *;rw [decide_eq_true_iff] at *;exact cmpM_trans h1 h2)]
  have hf:(∀ e ∈ t,plainM Y e=true)→(t.Pairwise fun a b=>lessM a.1 b.1=true)→∀ p,folderL PS Y.dir t p=true↔(p=[]∨∃ x ∈ t,x.1=p∧Y.dir x.2=true):=by
    intro h1 h2 p
    have hs:=srt_of Y h1 h2
    unfold folderL
    rw [Bool.or_eq_true,decide_eq_true_eq]
    refine or_congr Iff.rfl ?_
    constructor
    · intro h
      cases hg:getL t p with
      | none=>rw [hg] at h;cases h
      | some n=>rw [hg] at h;exact ⟨(p,n),getL_mem hg,rfl,h⟩
    · rintro ⟨⟨q,n⟩,hx,rfl,hd⟩
      rw [hs.get hx]
      exact hd
  constructor
  · rintro ⟨⟨⟨h1,h2⟩,h3⟩,h4⟩
    exact ⟨h1,h2,fun e he=>(hf h1 h2 _).1 (h3 e he),h4⟩
  · rintro ⟨h1,h2,h3,h4⟩
    exact ⟨⟨⟨h1,h2⟩,fun e he=>(hf h1 h2 _).2 (h3 e he)⟩,h4⟩
def rightGo (seen:Row ν):Row ν→Bool
  | []=>decide (seen.length≤5000)
  | e :: r=>plainM Y e && (decide (parM e.1=[]) || seen.any fun x=>decide (x.1=parM e.1) && Y.dir x.2) && (match seen.getLast? with|none=>true|some y=>lessM y.1 e.1) && rightGo (seen ++ [e]) r
omit [DecidableEq ν] in
theorem rightGo_eq:∀ (r seen:Row ν),(∀ e ∈ seen,plainM Y e=true)→(seen.Pairwise fun a b=>lessM a.1 b.1=true)→(∀ e ∈ seen,parM e.1=[]∨∃ x ∈ seen,x.1=parM e.1∧Y.dir x.2=true) →
    rightGo Y seen r=rightT Y (seen ++ r):=by
  intro r
  induction r with
  | nil =>
    intro seen h1 h2 h3
    rw [Bool.eq_iff_iff,rightT_unf,List.append_nil]
    simp only [rightGo,decide_eq_true_eq]
    exact ⟨fun h=>⟨h1,h2,h3,h⟩,fun h=>h.2.2.2⟩
  | cons e r ih =>
    intro seen h1 h2 h3
    have hless:∀ a b c:Str,lessM a b=true→lessM b c=true→lessM a c=true:=fun a b c h1 h2=>by unfold lessM at *;rw [decide_eq_true_iff] at *;exact cmpM_trans h1 h2
    by_cases ha:plainM Y e=true∧(parM e.1=[]∨∃ x ∈ seen,x.1=parM e.1∧Y.dir x.2=true)∧(match seen.getLast? with|none=>true|some y=>lessM y.1 e.1)=true
    · obtain ⟨a1,a2,a3⟩:=ha
      have hlast:∀ x ∈ seen,lessM x.1 e.1=true:=by
        intro x hx
        cases hl:seen.getLast? with
        | none=>rw [List.getLast?_eq_none_iff] at hl;subst hl;cases hx
        | some y =>
          rw [hl] at a3
          obtain ⟨ys,hys⟩:=List.getLast?_eq_some_iff.1 hl
          rw [hys] at hx h2
          rcases List.mem_append.1 hx with hx|hx
          · exact hless _ _ _ ((List.pairwise_append.1 h2).2.2 x hx y (by simp)) a3
          · rw [List.mem_singleton.1 hx];exact a3
      have := ih (seen ++ [e]) (fun x hx=>by
          rcases List.mem_append.1 hx with hx|hx
          · exact h1 x hx
          · rw [List.mem_singleton.1 hx];exact a1)
        (List.pairwise_append.2 ⟨h2,List.pairwise_singleton _ _,fun x hx y hy=>by rw [List.mem_singleton.1 hy];exact hlast x hx⟩)
        (fun x hx=>by
          rcases List.mem_append.1 hx with hx|hx
          · rcases h3 x hx with h|⟨y,hy,h⟩
            · exact .inl h
            · exact .inr ⟨y,List.mem_append_left _ hy,h⟩
          · rw [List.mem_singleton.1 hx]
            rcases a2 with h|⟨y,hy,h⟩
            · exact .inl h
            · exact .inr ⟨y,List.mem_append_left _ hy,h⟩)
      rw [List.append_assoc,List.singleton_append] at this
      rw [← this]
      have b2:(decide (parM e.1=[]) || seen.any fun x=>decide (x.1=parM e.1) && Y.dir x.2)=true:=by
        rw [Bool.or_eq_true,decide_eq_true_eq,List.any_eq_true]
        refine a2.imp id ?_
        rintro ⟨x,hx,h⟩
        exact ⟨x,hx,by simpa using h⟩
      simp only [rightGo,a1,a3,b2,Bool.true_and]
    · have hf : rightGo Y seen (e :: r)=false:=by
        rw [Bool.eq_false_iff]
        intro h
        simp only [rightGo,Bool.and_eq_true,Bool.or_eq_true,decide_eq_true_eq,List.any_eq_true] at h
        refine ha ⟨h.1.1.1,h.1.1.2,h.1.2⟩
      rw [hf]
      symm
      rw [Bool.eq_false_iff]
      intro h
      obtain ⟨k1,k2,k3,_⟩:=(rightT_unf Y _).1 h
      have hs:=srt_of Y k1 k2
      have k2':=List.pairwise_append.1 k2
      refine ha ⟨k1 e (by simp),?_,?_⟩
      · rcases k3 e (by simp) with h|⟨x,hx,hx1,hx2⟩
        · exact .inl h
        · refine .inr ⟨x,?_,hx1,hx2⟩
          rcases List.mem_append.1 hx with hx|hx
          · exact hx
          · exfalso
            have hp:cmpM (parM e.1) e.1<0:=by
              have:=k1 e (by simp)
              unfold plainM at this
              simp only [Bool.and_eq_true,decide_eq_true_eq] at this
              exact par_cmp (mark_put this.1).2.1
            rcases List.mem_cons.1 hx with rfl|hx
            · rw [← hx1,cmpM_refl] at hp;omega
            · have hl:=(List.pairwise_cons.1 k2'.2.1).1 x hx
              unfold lessM at hl
              rw [decide_eq_true_iff,hx1] at hl
              rw [cmpM_anti] at hp
              omega
      · cases hl:seen.getLast? with
        | none=>rfl
        | some y =>
          obtain ⟨ys,hys⟩:=List.getLast?_eq_some_iff.1 hl
          exact k2'.2.2 y (by rw [hys];simp) e (by simp)
omit [DecidableEq ν] in
theorem rightGo_all (t:Row ν):rightT Y t=rightGo Y [] t:=(rightGo_eq Y t [] (fun _ h=>by cases h) List.Pairwise.nil (fun _ h=>by cases h)).symm
end Go.Proofs.YtdkjinmkallhnaaGreatDoorT
end
section
namespace Go.Proofs.YtdkjinmkallhnaaGreatDoorQ
open Go.RowKit Go.WideMaps Go.Maps Go.Proofs.YtdkjinmkallhnaaGreatDoor Go.Proofs.YtdkjinmkallhnaaGreatDoorW.PrintWords Go.Proofs.YtdkjinmkallhnaaGreatDoorW.PrintLast Go.Proofs.YtdkjinmkallhnaaGreatDoorW.PrintMore
open Go.Proofs.YtdkjinmkallhnaaGreatDoorT (rightT rightGo rightGo_all plainM parM lessM cmpM)
def ndFits (n:Nd):Bool:=decide (n.attrs.length≤10000000)
def rowFits (t:List (Str×Nd)):Bool:=t.all fun e=>decide (e.1.length≤1000000) && ndFits e.2
def seenF (t:List (Str×Nd)) (key:Str):Nat:=if key=[]∨∃ x ∈ t,x.1=key∧Y.dir x.2=true then 1 else 0
theorem seen_nil:∀ key,seenF [] key=if key == [] then 1 else (fun _=>0) key:=by
  intro key;unfold seenF;by_cases h:key=[] <;> simp [h]
theorem seen_dir (t:List (Str×Nd)) (e:Str×Nd) (h:Y.dir e.2=true):∀ key,seenF (t ++ [e]) key=if key == e.1 then 1 else seenF t key:=by
  intro key
  unfold seenF
  by_cases hk:key=e.1
  · subst hk
    rw [if_pos (.inr ⟨e,by simp,rfl,h⟩)];simp
  · have:(key == e.1)=false:=by simpa using hk
    rw [this]
    simp only [Bool.false_eq_true,if_false]
    have hi:(key=[]∨∃ x ∈ t ++ [e],x.1=key∧Y.dir x.2=true)↔(key=[]∨∃ x ∈ t,x.1=key∧Y.dir x.2=true):=by
     refine or_congr Iff.rfl ⟨?_,?_⟩
     · rintro ⟨x,hx,h1,h2⟩
       rcases List.mem_append.1 hx with hx|hx
       · exact ⟨x,hx,h1,h2⟩
       · rw [List.mem_singleton.1 hx] at h1;exact absurd h1.symm hk
     · rintro ⟨x,hx,h⟩
       exact ⟨x,List.mem_append_left _ hx,h⟩
    simp only [hi]
theorem seen_not (t:List (Str×Nd)) (e:Str×Nd) (h:Y.dir e.2=false):seenF (t ++ [e])=seenF t:=by
  funext key
  unfold seenF
  have hi:(key=[]∨∃ x ∈ t ++ [e],x.1=key∧Y.dir x.2=true)↔(key=[]∨∃ x ∈ t,x.1=key∧Y.dir x.2=true):=by
   refine or_congr Iff.rfl ⟨?_,?_⟩
   · rintro ⟨x,hx,h1,h2⟩
     rcases List.mem_append.1 hx with hx|hx
     · exact ⟨x,hx,h1,h2⟩
     · rw [List.mem_singleton.1 hx,h] at h2;cases h2
   · rintro ⟨x,hx,h⟩
     exact ⟨x,List.mem_append_left _ hx,h⟩
  simp only [hi]
theorem plain_calls (w:World) (hG:GL w) (e:S40) (h:(enOf e).1.length≤1000000) (ha:ndFits (enOf e).2=true) :
    Calls Tryz.prog 37 #[.agg (enCells e).toArray] w fun x w'=>x=.returned (.bool (plainM Y (enOf e)))∧Below w.heap.size w w':=by
  have hf:=plain_f (enOf e).1 (enOf e).2 (by omega) (by simpa [ndFits] using ha) ((enOf e).1.length + 61) (by omega)
  have:=tree_plain.calls ((enOf e).1.length + 61) (B (enOf e).1) e.f1.f0 e.f1.f1 e.f1.f2 e.f1.f3 e.f1.f4 (B (enOf e).2.link) (B (enOf e).2.data) e.f1.f7 e.f1.f8 (B (enOf e).2.attrs) (plainM Y (enOf e)) w hG hf
  have e1:B (enOf e).1=e.f0:=B_L _
  have e2:B (enOf e).2.link=e.f1.f5:=B_L _
  have e3:B (enOf e).2.data=e.f1.f6:=B_L _
  have e4:B (enOf e).2.attrs=e.f1.f9:=B_L _
  rw [e1,e2,e3,e4] at this
  exact this
theorem enCells_all (e:S40):(enCells e).toArray.all (·.oneCell')=true:=by simp [enCells,Value.oneCell']
def enZero:Array Value:=#[.string (⟨#[]⟩:ByteArray),.int .i64 0,.int .i64 0,.int .i64 0,.int .i64 0,.int .i64 0,.string (⟨#[]⟩:ByteArray),.string (⟨#[]⟩:ByteArray),.int .i64 0,.int .i64 0,.string (⟨#[]⟩:ByteArray)]
theorem fits_get {t:List (Str×Nd)} (h:rowFits t=true) {e:Str×Nd} (he:e ∈ t):e.1.length≤1000000∧ndFits e.2=true:=by
  have:=List.all_eq_true.1 h e he
  simpa using this
theorem par_calls (w:World) (e:S40) (h:(enOf e).1.length≤1000000) :
    Calls Tryz.prog 27 #[.string e.f0] w fun x w'=>x=.returned (S (parM (enOf e).1))∧Below w.heap.size w w':=by
  have:=paths_Parent.calls (B (enOf e).1) (B (parM (enOf e).1)) w (parent_f _ (by omega))
  have e1:B (enOf e).1=e.f0:=B_L _
  rw [e1] at this
  exact this
def stepOk (seen:List (Str×Nd)) (e:Str×Nd):Bool:=plainM Y e && decide (seenF seen (parM e.1)≠0) && (match seen.getLast? with|none=>true|some y=>lessM y.1 e.1)
theorem right_step (seen r:List (Str×Nd)) (e:Str×Nd):rightGo Y seen (e :: r)=(stepOk seen e && rightGo Y (seen ++ [e]) r):=by
  have h:(decide (parM e.1=[]) || seen.any fun x=>decide (x.1=parM e.1) && Y.dir x.2)=decide (seenF seen (parM e.1)≠0):=by
    rw [Bool.eq_iff_iff,Bool.or_eq_true,decide_eq_true_eq,List.any_eq_true,decide_eq_true_eq]
    unfold seenF
    split
    · rename_i h
      refine ⟨fun _=>by decide,fun _=>h.imp id ?_⟩
      rintro ⟨x,hx,h⟩
      exact ⟨x,hx,by simpa using h⟩
    · rename_i h
      refine ⟨fun h2=>absurd (h2.imp id ?_) h,fun h2=>absurd rfl h2⟩
      rintro ⟨x,hx,h⟩
      exact ⟨x,hx,by simpa using h⟩
  unfold stepOk
  rw [← h]
  simp only [rightGo]
  cases seen.getLast? <;> rfl
set_option maxRecDepth 100000 in
set_option maxHeartbeats 4000000 in
theorem tright_calls (w:World) (hG:GL w) (A:Option Addr) (c:Nat) (l:List S40) (hr:Kd.C k40 w A l.length l) (hc:l.length≤c) (hfit:rowFits (l.map enOf)=true) (hl:l.length≤1000000) :
    Calls Tryz.prog 19 #[.slice A l.length c] w fun e w'=>e=.returned (.bool (rightT Y (l.map enOf)))∧Below w.heap.size w w':=by
  have HR:=Lib.hid hr
  have HF:=Lib.hid hfit
  have HL:=Lib.hid hl
  clear hr hfit hl
  have hmm:=@run_makeMap Tryz.prog
  go_enter Tryz.func19,Tryz.ntmps19
  go_wp2_with (first|(refine wpList_cnt_in rfl rfl _ _ _ rfl w.heap.size 0 _ rfl (CntMap.made w) (by omega) [] 1 rfl rfl (by simp) (by omega) _ seen_nil ?_))
  intro w1 hm1 hg1
  have HM1:=Lib.hid hm1
  have HB1:Hid (Below w.heap.size w w1):=Lib.hid (((Below.refl w.heap.size w).alloc (Nat.le_refl _) _).grown hg1 (by simp) (fun j hj=>by cases hj;exact Nat.le_refl _))
  clear hm1 hg1 hmm
  go_wp2
  go_loopg [10] (l.length + 1) (fun g v wr=>∃ i:Nat,v=.int .i64 i∧l.length<g + i∧Hid (i≤l.length)∧Hid (∃ n,n≤i + 1∧CntMap wr w.heap.size n (seenF ((l.map enOf).take i))) ∧
    Hid (rightT Y (l.map enOf)=rightGo Y ((l.map enOf).take i) ((l.map enOf).drop i))∧Hid (Below w.heap.size w wr))
  case atStart=>exact ⟨0,rfl,by omega,Lib.hid (by omega),Lib.hid ⟨1,by omega,by rw [List.take_zero];exact HM1.out⟩,Lib.hid (by rw [rightGo_all];rfl),HB1⟩
  case round =>
    obtain ⟨i,rfl,hgi,HI,HM,HG,HB⟩:=hrel
    by_cases hi:i<l.length
    · cases gk with
      | zero=>omega
      | succ g1 =>
        obtain ⟨ad,rfl,hat⟩:=en_at HR.out i hi
        have HAT:=Lib.hid (hat.below HB.out)
        clear hat
        have HE:=Lib.hid (fits_get HF.out (List.mem_map_of_mem (f:=enOf) (List.getElem_mem hi)))
        have h49:=Tryz.underlying40
        go_wp2_with (first|((with_reducible refine gate_dst (N:=14) rfl ?_);refine wpList_load_agg rfl 40 _ rfl _ rfl (enCells l[i]) _ HAT.out h49 rfl rfl ?_)|((with_reducible refine gate_dst (N:=5) rfl ?_);refine box_event rfl (N:=5) rfl (cs:=enZero) (t:=40) ?hr ?_;(case hr=>first|(go_simp;done)|(go_simp;rfl));intro g hg w2 hb2 hbl2;have HGE:Hid (w.heap.size≤g):=Lib.hid (by rw [hg];exact HB.out.size);have HGW:Hid (wr.heap.size≤g):=Lib.hid (by rw [hg];exact Nat.le_refl _);have HB2:=Lib.hid hb2;have HBL2:=Lib.hid hbl2;clear hg hb2 hbl2)|((with_reducible refine gate_store (t:=40) (p:=5) rfl ?_);refine wpList_store_agg rfl rfl 40 _ _ rfl g (enCells l[i]).toArray rfl rfl 40 enZero HB2.out rfl rfl (enCells_all _) ?_;intro w3 hb3 hg3;have HB3:=Lib.hid hb3;have HBL3:Hid (Below w.heap.size w w3):=Lib.hid ((Go.Proofs.YtdkjinmkallhnaaGreatDoor.below_then HB.out HBL2.out).grown hg3 (Nat.le_trans HB.out.size HBL2.out.size) (fun j hj=>by cases hj;exact HGE.out));have HGR3:=Lib.hid hg3;clear hb3 hg3))
        have HQ:Hid (∀ j v,(enCells l[i])[j]?=some v→w3.cell? ⟨g,j,none⟩=some v):=Lib.hid (fun j v hv=>(Go.Proofs.YtdkjinmkallhnaaGreatDoor.blk_cell HB3.out j).trans (by simpa using hv))
        obtain ⟨e,hee⟩:∃ e,e=l[i]:=⟨_,rfl⟩
        rw [← hee] at HQ HE HAT ⊢
        have HEE:=Lib.hid hee
        clear hee
        have hd:(l.map enOf).drop i=enOf e :: (l.map enOf).drop (i + 1):=by rw [HEE.out,List.drop_eq_getElem_cons (by simpa using hi)];simp
        have ht:(l.map enOf).take (i + 1)=(l.map enOf).take i ++ [enOf e]:=by rw [HEE.out,List.take_succ_eq_append_getElem (by simpa using hi)];simp
        have HT1:=Lib.hid ht
        have HG1:Hid (rightT Y (l.map enOf)=(stepOk ((l.map enOf).take i) (enOf e) && rightGo Y ((l.map enOf).take (i + 1)) ((l.map enOf).drop (i + 1)))):=Lib.hid (by rw [HG.out,hd,right_step,ht])
        clear hd ht
        have hL3:LiesAt w3 ⟨g,0,none⟩ (enCells e):=fun j v hv=>by rw [Addr.add_mid,Nat.zero_add];exact HQ.out j v hv
        have HL3:=Lib.hid hL3
        clear hL3
        have HBW3:Hid (Below wr.heap.size wr w3):=Lib.hid (HBL2.out.grown HGR3.out HBL2.out.size (fun j hj=>by cases hj;exact HGW.out))
        obtain ⟨n,hn,hm⟩:=HM.out
        have HM3:=Lib.hid (hm.ext HBW3.out)
        have HN:=Lib.hid hn
        clear hm hn
        obtain ⟨ok,hok⟩:∃ ok,ok=stepOk ((l.map enOf).take i) (enOf e):=⟨_,rfl⟩
        have HOK:=Lib.hid hok
        rw [← hok] at HG1
        clear hok
        go_cut [41] (fun v41 w'=>v41=.bool (!ok)∧Hid (Below w3.heap.size w3 w'))
        case first =>
          refine start_ (n:=27) (S:=fun w'=>Below w3.heap.size w3 w') (ds:=[]) (ms 27 0) (by kernel_rfl) rfl rfl (Below.refl _ _).drew (fun hHeld=>?_)
          refine take_ (i:=0) (N:=some 15) (v:=.agg (enCells e).toArray) (a':=?_) (ms 27 1) rfl rfl (by kernel_rfl) (fun _ _ _ h=>h) (yi_agg (by rfl) 40 _ rfl _ rfl _ _ (fun w' hb=>HL3.out.below hb) h49 rfl rfl) hHeld ?_ ?_
          rotate_left
          · (simp only [aP,i64_w,i32_w];rfl)
          refine one_ (i:=1) (N:=some 16) (ms 27 2) rfl rfl (by kernel_rfl) (by decide) (fun K hK=>?_)
          refine goes_ Tryz.func37 (by kernel_rfl) rfl #[.agg (enCells e).toArray] (by rfl) rfl rfl (by simp only [List.map_toArray,List.map_cons,List.map_nil];rfl) ?_
          refine (plain_calls _ (hG.ext HBL3.out.drew) e HE.out.1 HE.out.2).mono ?_
          rintro x w4 ⟨rfl,hb4⟩
          refine ⟨_,rfl,?_⟩
          have HB4:=Lib.hid hb4
          clear hb4
          refine hK.out _ _ (Go.Proofs.YtdkjinmkallhnaaGreatDoor.below_then hHeld HB4.out) (fun hHeld=>?_)
          clear hK K
          refine norm_ (a':=?_) ?_ ?_
          rotate_left
          · show Act.put _ (some 16) _=_
            (simp only [aP,i64_w,i32_w];rfl)
          cases hp:plainM Y (enOf e) with
          | false =>
            have ho:ok=false:=by rw [HOK.out];simp [stepOk,hp]
            subst ho
            (refine pU 2 17 ?_ (ms 27 3) rfl rfl (by kernel_rfl) (fun _ _ _=>id) (by rfl) ?_ ?_ ?_ ?_;rotate_left;(intro w';go_simp;with_reducible rfl);rotate_left;(simp only [aP,i64_w,i32_w];rfl))
            (refine pU 3 18 ?_ (ms 27 4) rfl rfl (by kernel_rfl) (fun _ _ _=>id) (by rfl) ?_ ?_ ?_ ?_;rotate_left;(intro w';go_simp;with_reducible rfl);rotate_left;(simp only [aP,i64_w,i32_w];rfl))
            (refine pN 4 19 (ms 27 5) rfl rfl (by kernel_rfl) (fun _ _ _=>id) (by rfl) ?_ ?_ ?_;rotate_left;(simp only [aP,i64_w,i32_w];rfl))
            (refine pN 5 20 (ms 27 6) rfl rfl (by kernel_rfl) (fun _ _ _=>id) (by rfl) ?_ ?_ ?_;rotate_left;(simp only [aP,i64_w,i32_w];rfl))
            (refine pN 6 21 (ms 27 7) rfl rfl (by kernel_rfl) (fun _ _ _=>id) (by rfl) ?_ ?_ ?_;rotate_left;(simp only [aP,i64_w,i32_w];rfl))
            (refine pN 7 22 (ms 27 8) rfl rfl (by kernel_rfl) (fun _ _ _=>id) (by rfl) ?_ ?_ ?_;rotate_left;(simp only [aP,i64_w,i32_w];rfl))
            (refine pN 8 23 (ms 27 9) rfl rfl (by kernel_rfl) (fun _ _ _=>id) (by rfl) ?_ ?_ ?_;rotate_left;(simp only [aP,i64_w,i32_w];rfl))
            (refine pN 9 24 (ms 27 10) rfl rfl (by kernel_rfl) (fun _ _ _=>id) (by rfl) ?_ ?_ ?_;rotate_left;(simp only [aP,i64_w,i32_w];rfl))
            (refine pU 10 25 ?_ (ms 27 11) rfl rfl (by kernel_rfl) (fun _ _ _=>id) (by rfl) ?_ ?_ ?_ ?_;rotate_left;(intro w';go_simp;with_reducible rfl);rotate_left;(simp only [aP,i64_w,i32_w];rfl))
            (refine pU 11 26 ?_ (ms 27 12) rfl rfl (by kernel_rfl) (fun _ _ _=>id) (by rfl) ?_ ?_ ?_ ?_;rotate_left;(intro w';go_simp;with_reducible rfl);rotate_left;(simp only [aP,i64_w,i32_w];rfl))
            (refine pN 12 27 (ms 27 13) rfl rfl (by kernel_rfl) (fun _ _ _=>id) (by rfl) ?_ ?_ ?_;rotate_left;(simp only [aP,i64_w,i32_w];rfl))
            (refine pN 13 28 (ms 27 14) rfl rfl (by kernel_rfl) (fun _ _ _=>id) (by rfl) ?_ ?_ ?_;rotate_left;(simp only [aP,i64_w,i32_w];rfl))
            (refine pN 14 29 (ms 27 15) rfl rfl (by kernel_rfl) (fun _ _ _=>id) (by rfl) ?_ ?_ ?_;rotate_left;(simp only [aP,i64_w,i32_w];rfl))
            (refine pN 15 30 (ms 27 16) rfl rfl (by kernel_rfl) (fun _ _ _=>id) (by rfl) ?_ ?_ ?_;rotate_left;(simp only [aP,i64_w,i32_w];rfl))
            (refine pN 16 31 (ms 27 17) rfl rfl (by kernel_rfl) (fun _ _ _=>id) (by rfl) ?_ ?_ ?_;rotate_left;(simp only [aP,i64_w,i32_w];rfl))
            (refine pN 17 32 (ms 27 18) rfl rfl (by kernel_rfl) (fun _ _ _=>id) (by rfl) ?_ ?_ ?_;rotate_left;(simp only [aP,i64_w,i32_w];rfl))
            (refine pN 18 33 (ms 27 19) rfl rfl (by kernel_rfl) (fun _ _ _=>id) (by rfl) ?_ ?_ ?_;rotate_left;(simp only [aP,i64_w,i32_w];rfl))
            (refine pN 19 34 (ms 27 20) rfl rfl (by kernel_rfl) (fun _ _ _=>id) (by rfl) ?_ ?_ ?_;rotate_left;(simp only [aP,i64_w,i32_w];rfl))
            (refine pN 20 35 (ms 27 21) rfl rfl (by kernel_rfl) (fun _ _ _=>id) (by rfl) ?_ ?_ ?_;rotate_left;(simp only [aP,i64_w,i32_w];rfl))
            (refine pN 21 36 (ms 27 22) rfl rfl (by kernel_rfl) (fun _ _ _=>id) (by rfl) ?_ ?_ ?_;rotate_left;(simp only [aP,i64_w,i32_w];rfl))
            (refine pN 22 37 (ms 27 23) rfl rfl (by kernel_rfl) (fun _ _ _=>id) (by rfl) ?_ ?_ ?_;rotate_left;(simp only [aP,i64_w,i32_w];rfl))
            (refine pN 23 38 (ms 27 24) rfl rfl (by kernel_rfl) (fun _ _ _=>id) (by rfl) ?_ ?_ ?_;rotate_left;(simp only [aP,i64_w,i32_w];rfl))
            (refine pN 24 39 (ms 27 25) rfl rfl (by kernel_rfl) (fun _ _ _=>id) (by rfl) ?_ ?_ ?_;rotate_left;(simp only [aP,i64_w,i32_w];rfl))
            (refine pN 25 40 (ms 27 26) rfl rfl (by kernel_rfl) (fun _ _ _=>id) (by rfl) ?_ ?_ ?_;rotate_left;(simp only [aP,i64_w,i32_w];rfl))
            (refine pU 26 41 ?_ (ms 27 27) rfl rfl (by kernel_rfl) (fun _ _ _=>id) (by rfl) ?_ ?_ ?_ ?_;rotate_left;(intro w';go_simp;with_reducible rfl);rotate_left;(simp only [aP,i64_w,i32_w];rfl))
            refine done_ (by kernel_rfl) ?_
            go_wp2_with fail
            go_meet
            exact ⟨rfl,Lib.hid hHeld⟩
          | true =>
            (refine pU 2 17 ?_ (ms 27 3) rfl rfl (by kernel_rfl) (fun _ _ _=>id) (by rfl) ?_ ?_ ?_ ?_;rotate_left;(intro w';go_simp;with_reducible rfl);rotate_left;(simp only [aP,i64_w,i32_w];rfl))
            (refine pU 3 18 ?_ (ms 27 4) rfl rfl (by kernel_rfl) (fun _ _ _=>id) (by rfl) ?_ ?_ ?_ ?_;rotate_left;(intro w';go_simp;with_reducible rfl);rotate_left;(simp only [aP,i64_w,i32_w];rfl))
            (refine pU 4 19 ?_ (ms 27 5) rfl rfl (by kernel_rfl) (fun _ _ _=>id) (by rfl) ?_ ?_ ?_ ?_;rotate_left;(intro w';go_simp;with_reducible rfl);rotate_left;(simp only [aP,i64_w,i32_w];rfl))
            (refine pU 5 20 ?_ (ms 27 6) rfl rfl (by kernel_rfl) (fun _ _ _=>id) (by rfl) ?_ ?_ ?_ ?_;rotate_left;(intro w';go_simp;with_reducible rfl);rotate_left;(simp only [aP,i64_w,i32_w];rfl))
            (refine take_ (i:=6) (N:=some 21) (v:=?_) (a':=?_) (ms 27 7) rfl rfl (by kernel_rfl) (fun _ _ _ h=>h) (Or.inl ⟨by rfl,?_⟩) hHeld ?_ ?_;rotate_left;(intro w' hS';have hc0:=(HL3.out.below hS') 0 _ rfl;simp only [Addr.add_zero'] at hc0;go_simp;with_reducible rfl);rotate_left;(simp only [aP,i64_w,i32_w];rfl))
            refine one_ (i:=7) (N:=some 22) (ms 27 8) rfl rfl (by kernel_rfl) (by decide) (fun K hK=>?_)
            refine goes_ Tryz.func27 (by kernel_rfl) rfl #[.string e.f0] (by rfl) rfl rfl (by simp only [List.map_toArray,List.map_cons,List.map_nil];rfl) ?_
            refine (par_calls _ e HE.out.1).mono ?_
            rintro x w5 ⟨rfl,hb5⟩
            refine ⟨_,rfl,?_⟩
            have HB5:=Lib.hid hb5
            clear hb5
            refine hK.out _ _ (Go.Proofs.YtdkjinmkallhnaaGreatDoor.below_then hHeld HB5.out) (fun hHeld=>?_)
            clear hK K
            refine norm_ (a':=?_) ?_ ?_
            rotate_left
            · show Act.put _ (some 22) _=_
              (simp only [aP,i64_w,i32_w];rfl)
            (refine take_ (i:=8) (N:=some 23) (v:=?_) (a':=?_) (ms 27 9) rfl rfl (by kernel_rfl) (fun _ _ _ h=>h) (Or.inl ⟨by rfl,?_⟩) hHeld ?_ ?_;rotate_left;(intro w' hS';have hlk:=(HM3.out.ext hS').look (s:=parM (enOf e).1) (by have:=(part_len (enOf e).1).1;have:=HE.out.1;omega);go_simp;with_reducible rfl);rotate_left;(simp only [aP,i64_w,i32_w];rfl))
            have hs01:seenF ((l.map enOf).take i) (parM (enOf e).1)=0∨seenF ((l.map enOf).take i) (parM (enOf e).1)=1:=by unfold seenF;split <;> simp
            have HO1:Hid (ok=(decide (seenF ((l.map enOf).take i) (parM (enOf e).1)≠0) && (match ((l.map enOf).take i).getLast? with|none=>true|some y=>lessM y.1 (enOf e).1))):=Lib.hid (by rw [HOK.out];unfold stepOk;rw [hp,Bool.true_and])
            generalize seenF ((l.map enOf).take i) (parM (enOf e).1)=sn at hs01 HO1 ⊢
            rcases hs01 with rfl|rfl
            · have ho:ok=false:=by rw [HO1.out];rfl
              subst ho
              (refine pU 9 24 ?_ (ms 27 10) rfl rfl (by kernel_rfl) (fun _ _ _=>id) (by rfl) ?_ ?_ ?_ ?_;rotate_left;(intro w';go_simp;with_reducible rfl);rotate_left;(simp only [aP,i64_w,i32_w];rfl))
              (refine pU 10 25 ?_ (ms 27 11) rfl rfl (by kernel_rfl) (fun _ _ _=>id) (by rfl) ?_ ?_ ?_ ?_;rotate_left;(intro w';go_simp;with_reducible rfl);rotate_left;(simp only [aP,i64_w,i32_w];rfl))
              (refine pU 11 26 ?_ (ms 27 12) rfl rfl (by kernel_rfl) (fun _ _ _=>id) (by rfl) ?_ ?_ ?_ ?_;rotate_left;(intro w';go_simp;with_reducible rfl);rotate_left;(simp only [aP,i64_w,i32_w];rfl))
              (refine pN 12 27 (ms 27 13) rfl rfl (by kernel_rfl) (fun _ _ _=>id) (by rfl) ?_ ?_ ?_;rotate_left;(simp only [aP,i64_w,i32_w];rfl))
              (refine pN 13 28 (ms 27 14) rfl rfl (by kernel_rfl) (fun _ _ _=>id) (by rfl) ?_ ?_ ?_;rotate_left;(simp only [aP,i64_w,i32_w];rfl))
              (refine pN 14 29 (ms 27 15) rfl rfl (by kernel_rfl) (fun _ _ _=>id) (by rfl) ?_ ?_ ?_;rotate_left;(simp only [aP,i64_w,i32_w];rfl))
              (refine pN 15 30 (ms 27 16) rfl rfl (by kernel_rfl) (fun _ _ _=>id) (by rfl) ?_ ?_ ?_;rotate_left;(simp only [aP,i64_w,i32_w];rfl))
              (refine pN 16 31 (ms 27 17) rfl rfl (by kernel_rfl) (fun _ _ _=>id) (by rfl) ?_ ?_ ?_;rotate_left;(simp only [aP,i64_w,i32_w];rfl))
              (refine pN 17 32 (ms 27 18) rfl rfl (by kernel_rfl) (fun _ _ _=>id) (by rfl) ?_ ?_ ?_;rotate_left;(simp only [aP,i64_w,i32_w];rfl))
              (refine pN 18 33 (ms 27 19) rfl rfl (by kernel_rfl) (fun _ _ _=>id) (by rfl) ?_ ?_ ?_;rotate_left;(simp only [aP,i64_w,i32_w];rfl))
              (refine pN 19 34 (ms 27 20) rfl rfl (by kernel_rfl) (fun _ _ _=>id) (by rfl) ?_ ?_ ?_;rotate_left;(simp only [aP,i64_w,i32_w];rfl))
              (refine pN 20 35 (ms 27 21) rfl rfl (by kernel_rfl) (fun _ _ _=>id) (by rfl) ?_ ?_ ?_;rotate_left;(simp only [aP,i64_w,i32_w];rfl))
              (refine pN 21 36 (ms 27 22) rfl rfl (by kernel_rfl) (fun _ _ _=>id) (by rfl) ?_ ?_ ?_;rotate_left;(simp only [aP,i64_w,i32_w];rfl))
              (refine pN 22 37 (ms 27 23) rfl rfl (by kernel_rfl) (fun _ _ _=>id) (by rfl) ?_ ?_ ?_;rotate_left;(simp only [aP,i64_w,i32_w];rfl))
              (refine pN 23 38 (ms 27 24) rfl rfl (by kernel_rfl) (fun _ _ _=>id) (by rfl) ?_ ?_ ?_;rotate_left;(simp only [aP,i64_w,i32_w];rfl))
              (refine pN 24 39 (ms 27 25) rfl rfl (by kernel_rfl) (fun _ _ _=>id) (by rfl) ?_ ?_ ?_;rotate_left;(simp only [aP,i64_w,i32_w];rfl))
              (refine pN 25 40 (ms 27 26) rfl rfl (by kernel_rfl) (fun _ _ _=>id) (by rfl) ?_ ?_ ?_;rotate_left;(simp only [aP,i64_w,i32_w];rfl))
              (refine pU 26 41 ?_ (ms 27 27) rfl rfl (by kernel_rfl) (fun _ _ _=>id) (by rfl) ?_ ?_ ?_ ?_;rotate_left;(intro w';go_simp;with_reducible rfl);rotate_left;(simp only [aP,i64_w,i32_w];rfl))
              refine done_ (by kernel_rfl) ?_
              go_wp2_with fail
              go_meet
              exact ⟨rfl,Lib.hid hHeld⟩
            · by_cases h0:i=0
              · have ho:ok=true:=by rw [HO1.out,h0];rfl
                subst ho
                have hgt:decide ((0:Int)<(i:Int))=false:=by simp;omega
                (refine pU 9 24 ?_ (ms 27 10) rfl rfl (by kernel_rfl) (fun _ _ _=>id) (by rfl) ?_ ?_ ?_ ?_;rotate_left;(intro w';go_simp;with_reducible rfl);rotate_left;(simp only [aP,i64_w,i32_w];rfl))
                (refine pU 10 25 ?_ (ms 27 11) rfl rfl (by kernel_rfl) (fun _ _ _=>id) (by rfl) ?_ ?_ ?_ ?_;rotate_left;(intro w';go_simp;with_reducible rfl);rotate_left;(simp only [aP,i64_w,i32_w];rfl))
                (refine pU 11 26 ?_ (ms 27 12) rfl rfl (by kernel_rfl) (fun _ _ _=>id) (by rfl) ?_ ?_ ?_ ?_;rotate_left;(intro w';go_simp;with_reducible rfl);rotate_left;(simp only [aP,i64_w,i32_w];rfl))
                (refine pU 12 27 ?_ (ms 27 13) rfl rfl (by kernel_rfl) (fun _ _ _=>id) (by rfl) ?_ ?_ ?_ ?_;rotate_left;(intro w';go_simp;with_reducible rfl);rotate_left;(simp only [aP,i64_w,i32_w];rfl))
                (refine pU 13 28 ?_ (ms 27 14) rfl rfl (by kernel_rfl) (fun _ _ _=>id) (by rfl) ?_ ?_ ?_ ?_;rotate_left;(intro w';go_simp;with_reducible rfl);rotate_left;(simp only [aP,i64_w,i32_w];rfl))
                (refine pU 14 29 ?_ (ms 27 15) rfl rfl (by kernel_rfl) (fun _ _ _=>id) (by rfl) ?_ ?_ ?_ ?_;rotate_left;(intro w';go_simp;with_reducible rfl);rotate_left;(simp only [aP,i64_w,i32_w];rfl))
                (refine pN 15 30 (ms 27 16) rfl rfl (by kernel_rfl) (fun _ _ _=>id) (by rfl) ?_ ?_ ?_;rotate_left;(simp only [aP,i64_w,i32_w];rfl))
                (refine pN 16 31 (ms 27 17) rfl rfl (by kernel_rfl) (fun _ _ _=>id) (by rfl) ?_ ?_ ?_;rotate_left;(simp only [aP,i64_w,i32_w];rfl))
                (refine pN 17 32 (ms 27 18) rfl rfl (by kernel_rfl) (fun _ _ _=>id) (by rfl) ?_ ?_ ?_;rotate_left;(simp only [aP,i64_w,i32_w];rfl))
                (refine pN 18 33 (ms 27 19) rfl rfl (by kernel_rfl) (fun _ _ _=>id) (by rfl) ?_ ?_ ?_;rotate_left;(simp only [aP,i64_w,i32_w];rfl))
                (refine pN 19 34 (ms 27 20) rfl rfl (by kernel_rfl) (fun _ _ _=>id) (by rfl) ?_ ?_ ?_;rotate_left;(simp only [aP,i64_w,i32_w];rfl))
                (refine pN 20 35 (ms 27 21) rfl rfl (by kernel_rfl) (fun _ _ _=>id) (by rfl) ?_ ?_ ?_;rotate_left;(simp only [aP,i64_w,i32_w];rfl))
                (refine pN 21 36 (ms 27 22) rfl rfl (by kernel_rfl) (fun _ _ _=>id) (by rfl) ?_ ?_ ?_;rotate_left;(simp only [aP,i64_w,i32_w];rfl))
                (refine pN 22 37 (ms 27 23) rfl rfl (by kernel_rfl) (fun _ _ _=>id) (by rfl) ?_ ?_ ?_;rotate_left;(simp only [aP,i64_w,i32_w];rfl))
                (refine pN 23 38 (ms 27 24) rfl rfl (by kernel_rfl) (fun _ _ _=>id) (by rfl) ?_ ?_ ?_;rotate_left;(simp only [aP,i64_w,i32_w];rfl))
                (refine pN 24 39 (ms 27 25) rfl rfl (by kernel_rfl) (fun _ _ _=>id) (by rfl) ?_ ?_ ?_;rotate_left;(simp only [aP,i64_w,i32_w];rfl))
                (refine pU 25 40 ?_ (ms 27 26) rfl rfl (by kernel_rfl) (fun _ _ _=>id) (by rfl) ?_ ?_ ?_ ?_;rotate_left;(intro w';go_simp;with_reducible rfl);rotate_left;(simp only [aP,i64_w,i32_w];rfl))
                (refine pU 26 41 ?_ (ms 27 27) rfl rfl (by kernel_rfl) (fun _ _ _=>id) (by rfl) ?_ ?_ ?_ ?_;rotate_left;(intro w';go_simp;with_reducible rfl);rotate_left;(simp only [aP,i64_w,i32_w];rfl))
                refine done_ (by kernel_rfl) ?_
                go_wp2_with fail
                go_meet
                exact ⟨rfl,Lib.hid hHeld⟩
              · obtain ⟨m,hm⟩:∃ m,m + 1=i:=⟨i - 1,by omega⟩
                have hml:m<l.length:=by omega
                have hgt:decide (0<i)=true:=by simp;omega
                obtain ⟨ad',hade,hatm⟩:=en_at HR.out m hml
                obtain rfl:=Option.some.inj hade
                have HATM:=Lib.hid (hatm.below HBL3.out)
                obtain ⟨y,hy⟩:∃ y,y=l[m]:=⟨_,rfl⟩
                have HEY:=Lib.hid (fits_get HF.out (List.mem_map_of_mem (f:=enOf) (List.getElem_mem hml)))
                rw [← hy] at HATM HEY
                have HO2:Hid (ok=lessM (enOf y).1 (enOf e).1):=Lib.hid (by
                  rw [HO1.out,← hm,List.take_succ_eq_append_getElem (by simpa using hml),List.getLast?_concat,List.getElem_map,← hy];rfl)
                have hsub:IntKind.i64.wrap ((i:Int) - 1)=(m:Int):=by have:=HL.out;rw [← hm,IntWalk.i64_in _ (by omega)];omega
                clear hade hatm hy h0 HO1
                (refine pU 9 24 ?_ (ms 27 10) rfl rfl (by kernel_rfl) (fun _ _ _=>id) (by rfl) ?_ ?_ ?_ ?_;rotate_left;(intro w';go_simp;with_reducible rfl);rotate_left;(simp only [aP,i64_w,i32_w];rfl))
                (refine pU 10 25 ?_ (ms 27 11) rfl rfl (by kernel_rfl) (fun _ _ _=>id) (by rfl) ?_ ?_ ?_ ?_;rotate_left;(intro w';go_simp;with_reducible rfl);rotate_left;(simp only [aP,i64_w,i32_w];rfl))
                (refine pU 11 26 ?_ (ms 27 12) rfl rfl (by kernel_rfl) (fun _ _ _=>id) (by rfl) ?_ ?_ ?_ ?_;rotate_left;(intro w';go_simp;with_reducible rfl);rotate_left;(simp only [aP,i64_w,i32_w];rfl))
                (refine pU 12 27 ?_ (ms 27 13) rfl rfl (by kernel_rfl) (fun _ _ _=>id) (by rfl) ?_ ?_ ?_ ?_;rotate_left;(intro w';go_simp;with_reducible rfl);rotate_left;(simp only [aP,i64_w,i32_w];rfl))
                (refine pU 13 28 ?_ (ms 27 14) rfl rfl (by kernel_rfl) (fun _ _ _=>id) (by rfl) ?_ ?_ ?_ ?_;rotate_left;(intro w';go_simp;with_reducible rfl);rotate_left;(simp only [aP,i64_w,i32_w];rfl))
                (refine pU 14 29 ?_ (ms 27 15) rfl rfl (by kernel_rfl) (fun _ _ _=>id) (by rfl) ?_ ?_ ?_ ?_;rotate_left;(intro w';go_simp;with_reducible rfl);rotate_left;(simp only [aP,i64_w,i32_w];rfl))
                (refine pU 15 30 ?_ (ms 27 16) rfl rfl (by kernel_rfl) (fun _ _ _=>id) (by rfl) ?_ ?_ ?_ ?_;rotate_left;(intro w';go_simp;with_reducible rfl);rotate_left;(simp only [aP,i64_w,i32_w];rfl))
                (refine pU 16 31 ?_ (ms 27 17) rfl rfl (by kernel_rfl) (fun _ _ _=>id) (by rfl) ?_ ?_ ?_ ?_;rotate_left;(intro w';go_simp;with_reducible rfl);rotate_left;(simp only [aP,i64_w,i32_w];rfl))
                (refine pU 17 32 ?_ (ms 27 18) rfl rfl (by kernel_rfl) (fun _ _ _=>id) (by rfl) ?_ ?_ ?_ ?_;rotate_left;(intro w';have hsub1:=hsub;go_simp;with_reducible rfl);rotate_left;(simp only [aP,i64_w,i32_w];rfl))
                have hm0:(0:Int)≤(m:Int):=by omega
                have hm1:(m:Int)<(l.length:Int):=by omega
                (refine pU 18 33 ?_ (ms 27 19) rfl rfl (by kernel_rfl) (fun _ _ _=>id) (by rfl) ?_ ?_ ?_ ?_;rotate_left;(intro w';go_simp;with_reducible rfl);rotate_left;(simp only [aP,i64_w,i32_w];rfl))
                (refine pU 19 34 ?_ (ms 27 20) rfl rfl (by kernel_rfl) (fun _ _ _=>id) (by rfl) ?_ ?_ ?_ ?_;rotate_left;(intro w';go_simp;with_reducible rfl);rotate_left;(simp only [aP,i64_w,i32_w];rfl))
                (refine take_ (i:=20) (N:=some 35) (v:=?_) (a':=?_) (ms 27 21) rfl rfl (by kernel_rfl) (fun _ _ _ h=>h) (Or.inl ⟨by rfl,?_⟩) hHeld ?_ ?_;rotate_left;(intro w' hS';have hc0:=(HATM.out.below hS') 0 _ rfl;simp only [Addr.add_zero'] at hc0;go_simp;with_reducible rfl);rotate_left;(simp only [aP,i64_w,i32_w];rfl))
                (refine pU 21 36 ?_ (ms 27 22) rfl rfl (by kernel_rfl) (fun _ _ _=>id) (by rfl) ?_ ?_ ?_ ?_;rotate_left;(intro w';go_simp;with_reducible rfl);rotate_left;(simp only [aP,i64_w,i32_w];rfl))
                (refine take_ (i:=22) (N:=some 37) (v:=?_) (a':=?_) (ms 27 23) rfl rfl (by kernel_rfl) (fun _ _ _ h=>h) (Or.inl ⟨by rfl,?_⟩) hHeld ?_ ?_;rotate_left;(intro w' hS';have hc0:=(HL3.out.below hS') 0 _ rfl;simp only [Addr.add_zero'] at hc0;go_simp;with_reducible rfl);rotate_left;(simp only [aP,i64_w,i32_w];rfl))
                refine one_ (i:=23) (N:=some 38) (ms 27 24) rfl rfl (by kernel_rfl) (by decide) (fun K hK=>?_)
                refine goes_ Tryz.func38 (by kernel_rfl) rfl #[.string y.f0,.string e.f0] (by rfl) rfl rfl (by simp only [List.map_toArray,List.map_cons,List.map_nil];rfl) ?_
                refine (compare_calls _ (hG.ext (Go.Proofs.YtdkjinmkallhnaaGreatDoor.below_then HBL3.out hHeld)) (enOf y).1 (enOf e).1 (by have:=HEY.out.1;omega) (by have:=HE.out.1;omega)).mono ?_
                rintro x w6 ⟨rfl,hb6⟩
                refine ⟨_,rfl,?_⟩
                have HB6:=Lib.hid hb6
                clear hb6
                refine hK.out _ _ (Go.Proofs.YtdkjinmkallhnaaGreatDoor.below_then hHeld HB6.out) (fun hHeld=>?_)
                clear hK K
                refine norm_ (a':=?_) ?_ ?_
                rotate_left
                · show Act.put _ (some 38) _=_
                  (simp only [aP,i64_w,i32_w];rfl)
                have hok:decide ((0:Int)≤cmpM (enOf y).1 (enOf e).1)=!ok:=by rw [HO2.out];unfold lessM;by_cases h:cmpM (enOf y).1 (enOf e).1<0 <;> simp [h] <;> omega
                generalize cmpM (enOf y).1 (enOf e).1=cv at hok ⊢
                (refine pU 24 39 ?_ (ms 27 25) rfl rfl (by kernel_rfl) (fun _ _ _=>id) (by rfl) ?_ ?_ ?_ ?_;rotate_left;(intro w';go_simp;with_reducible rfl);rotate_left;(simp only [aP,i64_w,i32_w];rfl))
                (refine pU 25 40 ?_ (ms 27 26) rfl rfl (by kernel_rfl) (fun _ _ _=>id) (by rfl) ?_ ?_ ?_ ?_;rotate_left;(intro w';go_simp;with_reducible rfl);rotate_left;(simp only [aP,i64_w,i32_w];rfl))
                (refine pU 26 41 ?_ (ms 27 27) rfl rfl (by kernel_rfl) (fun _ _ _=>id) (by rfl) ?_ ?_ ?_ ?_;rotate_left;(intro w';go_simp;with_reducible rfl);rotate_left;(simp only [aP,i64_w,i32_w];rfl))
                refine done_ (by kernel_rfl) ?_
                go_wp2_with fail
                go_meet
                exact ⟨rfl,Lib.hid hHeld⟩
        case rest =>
          obtain ⟨rfl,hb5⟩:=hcut
          have HB5:Hid (Below w.heap.size w wc):=Lib.hid (Go.Proofs.YtdkjinmkallhnaaGreatDoor.below_then HBL3.out hb5.out)
          have HB35:=hb5
          cases ok with
          | false =>
            go_wp2_with fail
            go_ret
            exact ⟨by rw [HG1.out];rfl,HB5.out⟩
          | true =>
            have HLC:=Lib.hid (HL3.out.below HB35.out)
            have q0:=HLC.out 0 _ rfl
            have q1:=HLC.out 1 _ rfl
            rw [Addr.add_mid] at q0 q1
            have HMC:=Lib.hid (HM3.out.ext HB35.out)
            have HG2:Hid (rightT Y (l.map enOf)=rightGo Y ((l.map enOf).take (i + 1)) ((l.map enOf).drop (i + 1))):=Lib.hid (by rw [HG1.out,Bool.true_and])
            have HII:Hid (i + 1≤l.length):=Lib.hid hi
            have HLL:=HL.out
            cases hk:(e.f1.f0 == 1) with
            | false =>
              have hdir:Y.dir (enOf e).2=false:=by
                have:¬ e.f1.f0=1:=by simpa using hk
                show decide (e.f1.f0=1)=false
                simpa using this
              have HMN:Hid (CntMap wc w.heap.size n (seenF ((l.map enOf).take (i + 1)))):=Lib.hid (by rw [HT1.out,seen_not _ _ hdir];exact HMC.out)
              go_wp2_with fail
              go_roundg g1
              case measure=>omega
              case rel=>exact ⟨i + 1,by go_num,by omega,HII,Lib.hid ⟨n,by have:=HN.out;omega,HMN.out⟩,HG2,HB5⟩
            | true =>
              have hdir:Y.dir (enOf e).2=true:=by
                have:e.f1.f0=1:=by simpa using hk
                show decide (e.f1.f0=1)=true
                simpa using this
              have HS:Hid (∀ key,seenF ((l.map enOf).take (i + 1)) key=if key == (enOf e).1 then 1 else seenF ((l.map enOf).take i) key):=Lib.hid (by rw [HT1.out];exact seen_dir _ _ hdir)
              go_wp2_with (first|(at_mapUpdate;refine wpList_cnt_up rfl rfl _ _ _ rfl _ n _ rfl HMC.out (by have:=HN.out;omega) (enOf e).1 1 rfl rfl (by have:=HE.out.1;omega) (by omega) _ HS.out ?_))
              intro w6 hm6 hg6
              have HM6:=Lib.hid hm6
              have HB6:Hid (Below w.heap.size w w6):=Lib.hid (HB5.out.grown hg6 HB5.out.size (fun j hj=>by cases hj;exact Nat.le_refl _))
              clear hm6 hg6
              go_wp2_with fail
              go_roundg g1
              case measure=>omega
              case rel=>exact ⟨i + 1,by go_num,by omega,HII,Lib.hid ⟨n + 1,by have:=HN.out;omega,HM6.out⟩,HG2,HB6⟩
    · have he:i=l.length:=by have:=HI.out;omega
      subst he
      go_wp2_with fail
      go_ret
      refine ⟨?_,HB.out⟩
      rw [HG.out,List.drop_eq_nil_of_le (by simp)]
      have:((l.map enOf).take l.length).length=l.length:=by simp
      simp only [rightGo,this]
      have hv:decide ((l.length:Int)≤5000)=decide (l.length≤5000):=by rw [Bool.eq_iff_iff,decide_eq_true_eq,decide_eq_true_eq];omega
      exact congrArg (fun b=>Ending.returned (Value.bool b)) hv
def rowFits' (l:List S40):Prop:=rowFits (l.map enOf)=true∧l.length≤1000000
instance (l:List S40):Decidable (rowFits' l):=by unfold rowFits';infer_instance
end Go.Proofs.YtdkjinmkallhnaaGreatDoorQ
end
section
namespace Go.Proofs.YtdkjinmkallhnaaGreatDoorQ
open Go.RowKit Go.Proofs.YtdkjinmkallhnaaGreatDoor Go.Proofs.YtdkjinmkallhnaaGreatDoorW.PrintWords Go.Proofs.YtdkjinmkallhnaaGreatDoorW.PrintLast Go.Proofs.YtdkjinmkallhnaaGreatDoorW.PrintMore
open Go.Proofs.YtdkjinmkallhnaaGreatDoorT (tarM Ch rightC lessM chain cmpM unmarkF)
theorem tar_f (e:S38) (h:(chOf e).path.length≤1000000) (k:Nat) (hk:2000000<k) :
    change_tar.f k e.f0 e.f1 e.f2.f0 e.f2.f1 e.f2.f2 e.f2.f3 e.f2.f4 e.f2.f5 e.f2.f6 e.f2.f7 e.f2.f8 e.f2.f9=some (B (tarM (chOf e).op (chOf e).path)):=by
  have e1:e.f0=B (chOf e).path:=(B_L _).symm
  unfold change_tar.f
  rw [e1,show e.f1=(chOf e).op from rfl,unmark_f _ _ (by omega) k (by omega)]
  simp only [Option.bind_some]
  rw [unmarkR_1]
theorem less_f (a b:S38) (ha:(chOf a).path.length≤1000000) (hb:(chOf b).path.length≤1000000) (k:Nat) (hk:2000000<k) :
    change_Less.f k a.f0 a.f1 a.f2.f0 a.f2.f1 a.f2.f2 a.f2.f3 a.f2.f4 a.f2.f5 a.f2.f6 a.f2.f7 a.f2.f8 a.f2.f9 b.f0 b.f1 b.f2.f0 b.f2.f1 b.f2.f2 b.f2.f3 b.f2.f4 b.f2.f5 b.f2.f6 b.f2.f7 b.f2.f8 b.f2.f9 =
      some (lessM (tarM (chOf a).op (chOf a).path) (tarM (chOf b).op (chOf b).path)):=by
  unfold change_Less.f change_compare.f
  rw [tar_f a ha k hk,tar_f b hb k hk]
  simp only [Option.bind_some]
  unfold paths_Compare.f
  have h1:=tar_len (chOf a).op (chOf a).path
  have h2:=tar_len (chOf b).op (chOf b).path
  rw [if_pos (by rw [B_size,B_size];omega)]
  rfl
def oneC (c:Ch Str Nd):Bool:=!(tarM c.op c.path).isEmpty && decide (Y.rt (tarM c.op c.path) c.node=0) && (decide (c.op=0) || decide (c.node=zeroN))
def cGo:Option (Ch Str Nd)→List (Ch Str Nd)→Bool
  | _,[]=>true
  | p,c :: r=>oneC c && (match p with|none=>true|some p=>lessM (tarM p.op p.path) (tarM c.op c.path)) && cGo (some c) r
theorem cGo_some:∀ (r:List (Ch Str Nd)) (p:Ch Str Nd),cGo (some p) r=(r.all oneC && chain (fun a b=>lessM (tarM a.op a.path) (tarM b.op b.path)) (p :: r))
  | [],p=>rfl
  | c :: r,p=>by
    show (oneC c && lessM (tarM p.op p.path) (tarM c.op c.path) && cGo (some c) r)=_
    rw [cGo_some r c]
    show _=(oneC c && r.all oneC && (lessM (tarM p.op p.path) (tarM c.op c.path) && chain _ (c :: r)))
    cases oneC c <;> cases lessM (tarM p.op p.path) (tarM c.op c.path) <;> cases r.all oneC <;> simp
theorem cGo_all (l:List (Ch Str Nd)):cGo none l=rightC Y l:=by
  cases l with
  | nil=>rfl
  | cons c r =>
    show (oneC c && true && cGo (some c) r)=(oneC c && r.all oneC && chain _ (c :: r))
    rw [cGo_some,Bool.and_true,Bool.and_assoc]
theorem zero_test (n:Nd):(!(n.kind == 0) || (!(n.mode == 0) || (!(n.uid == 0) || (!(n.gid == 0) || (!(n.mtime == 0) || (!((B n.link).toList == ([]:List UInt8)) || (!((B n.data).toList == ([]:List UInt8)) || (!(n.major == 0) || (!(n.minor == 0) || (!((B n.attrs).toList == ([]:List UInt8))))))))))))=!decide (n=zeroN):=by
  obtain ⟨a1,a2,a3,a4,a5,a6,a7,a8,a9,a10⟩:=n
  simp only [toList_B,zeroN,Nd.mk.injEq]
  rw [Bool.eq_iff_iff]
  simp only [Bool.or_eq_true,Bool.not_eq_true',beq_eq_false_iff_ne,decide_eq_false_iff_not,ne_eq]
  simp only [Decidable.not_and_iff_or_not]
theorem rd_at (ls:List S38) (i:Nat) (h:i<ls.length):rd_T38 ls (i:Int)=ls[i]:=by
  unfold rd_T38
  rw [show ((i:Nat):Int).toNat=i from rfl,List.getD_eq_getElem?_getD,List.getElem?_eq_getElem h];rfl
theorem cright_l (ls:List S38) (hn:ls.length≤1000000) (hf:∀ x ∈ ls,(chOf x).path.length≤1000000∧(chOf x).node.attrs.length≤10000000) :
    ∀ (d i k:Nat),i + d=ls.length→3 * d + 3000000<k →
    pq15.l0 k ls ls (ls.length:Int) (i:Int)=some (cGo (if h:0<i∧i - 1<ls.length then some (chOf (ls[i - 1]'h.2)) else none) ((ls.map chOf).drop i)):=by
  intro d
  induction d with
  | zero =>
    intro i k hi hk
    obtain ⟨k,rfl⟩:∃ m,k=m + 1:=⟨k - 1,by omega⟩
    simp only [pq15.l0]
    rw [if_neg (by omega),List.drop_eq_nil_of_le (by simp;omega)]
    simp [cGo]
  | succ d ih =>
    intro i k hi hk
    obtain ⟨k,rfl⟩:∃ m,k=m + 3:=⟨k - 3,by omega⟩
    have hlt:i<ls.length:=by omega
    have hb:=hf _ (List.getElem_mem hlt)
    have hdr:(ls.map chOf).drop i=chOf ls[i] :: (ls.map chOf).drop (i + 1):=by rw [List.drop_eq_getElem_cons (by simpa using hlt)];simp
    have hih:=ih (i + 1) k (by omega) (by omega)
    rw [dif_pos (show 0<i + 1∧i + 1 - 1<ls.length by omega)] at hih
    simp only [Nat.add_sub_cancel] at hih
    have hw:wrap64 ((i:Int) + 1)=((i + 1:Nat):Int):=by rw [wrap_in (by omega) (by omega)];omega
    have hw2:0<i→wrap64 ((i:Int) - 1)=((i - 1:Nat):Int):=fun h=>by rw [wrap_in (by omega) (by omega)];omega
    rw [hdr]
    simp only [pq15.l0]
    rw [if_pos (by omega),if_pos (by omega),if_pos (by omega),rd_at ls i hlt]
    obtain ⟨e,he⟩:∃ e,e=ls[i]:=⟨_,rfl⟩
    rw [← he] at hb hih ⊢
    have e1:e.f0=B (chOf e).path:=(B_L _).symm
    have e2:e.f2.f5=B (chOf e).node.link:=(B_L _).symm
    have e3:e.f2.f6=B (chOf e).node.data:=(B_L _).symm
    have e4:e.f2.f9=B (chOf e).node.attrs:=(B_L _).symm
    have hu:=unmark_f (chOf e).op (chOf e).path (by omega) (k + 2) (by omega)
    rw [← e1,show (chOf e).op=e.f1 from rfl] at hu
    rw [hu]
    simp only [Option.bind_some]
    rw [unmarkR_2,unmarkR_1]
    have hj2:∀ x33:Bool,pq15.j2 (k + 1) ls (i:Int) ls (ls.length:Int) (i:Int) x33 e.f0 e.f1 e.f2.f0 e.f2.f1 e.f2.f2 e.f2.f3 e.f2.f4 e.f2.f5 e.f2.f6 e.f2.f7 e.f2.f8 e.f2.f9 =
        some (!x33 && (match (if h:0<i∧i - 1<ls.length then some (chOf (ls[i - 1]'h.2)) else none) with|none=>true|some p=>lessM (tarM p.op p.path) (tarM (chOf e).op (chOf e).path)) && cGo (some (chOf e)) ((ls.map chOf).drop (i + 1))):=by
      intro x33
      simp only [pq15.j2]
      cases x33 with
      | true=>rw [if_pos rfl];simp
      | false =>
        rw [if_neg (by simp)]
        by_cases h0:0<i
        · have hm:i - 1<ls.length:=by omega
          rw [if_pos (by omega),hw2 h0,if_pos (by omega),if_pos (by omega),rd_at ls (i - 1) hm,dif_pos ⟨h0,hm⟩,less_f _ _ (hf _ (List.getElem_mem hm)).1 hb.1 k (by omega)]
          simp only [Option.bind_some,hw,hih]
          cases lessM (tarM (chOf ls[i - 1]).op (chOf ls[i - 1]).path) (tarM (chOf e).op (chOf e).path) <;> simp
        · rw [if_neg (by omega),hw,hih,dif_neg (by omega)]
          simp
    have hj1:∀ x22:Bool,pq15.j1 (k + 2) ls (i:Int) ls (ls.length:Int) (i:Int) x22 e.f0 e.f1 e.f2.f0 e.f2.f1 e.f2.f2 e.f2.f3 e.f2.f4 e.f2.f5 e.f2.f6 e.f2.f7 e.f2.f8 e.f2.f9 =
        some (!x22 && (decide (e.f1=0) || decide ((chOf e).node=zeroN)) && (match (if h:0<i∧i - 1<ls.length then some (chOf (ls[i - 1]'h.2)) else none) with|none=>true|some p=>lessM (tarM p.op p.path) (tarM (chOf e).op (chOf e).path)) && cGo (some (chOf e)) ((ls.map chOf).drop (i + 1))):=by
      intro x22
      simp only [pq15.j1]
      cases x22 with
      | true=>rw [if_pos rfl];simp
      | false =>
        rw [if_neg (by simp)]
        by_cases h0:e.f1=0
        · rw [if_pos h0,hj2];simp [h0]
        · rw [if_neg h0,hj2]
          have hz:=zero_test (chOf e).node
          rw [← e2,← e3,← e4] at hz
          rw [show e.f2.f0=(chOf e).node.kind from rfl,show e.f2.f1=(chOf e).node.mode from rfl,show e.f2.f2=(chOf e).node.uid from rfl,show e.f2.f3=(chOf e).node.gid from rfl,show e.f2.f4=(chOf e).node.mtime from rfl,show e.f2.f7=(chOf e).node.major from rfl,show e.f2.f8=(chOf e).node.minor from rfl,hz]
          simp [h0]
    show _=some (oneC (chOf e) && _ && cGo (some (chOf e)) _)
    unfold oneC
    cases hte:(tarM (chOf e).op (chOf e).path).isEmpty with
    | true =>
      rw [show tarM e.f1 (chOf e).path=tarM (chOf e).op (chOf e).path from rfl,hte,if_neg (by simp),hj1]
      simp
    | false =>
      rw [show tarM e.f1 (chOf e).path=tarM (chOf e).op (chOf e).path from rfl,hte,if_pos (by simp)]
      have hr:=right_f (tarM (chOf e).op (chOf e).path) (chOf e).node hb.2
      rw [← e2,← e3,← e4] at hr
      have hr':mktar_Right.f (B (tarM (chOf e).op (chOf e).path)) e.f2.f0 e.f2.f1 e.f2.f2 e.f2.f3 e.f2.f4 e.f2.f5 e.f2.f6 e.f2.f7 e.f2.f8 e.f2.f9=some (rtM (tarM (chOf e).op (chOf e).path) (chOf e).node):=hr
      rw [hr']
      simp only [Option.bind_some]
      rw [hj1]
      have hd:(rtM (tarM (chOf e).op (chOf e).path) (chOf e).node != 0)=!decide (Y.rt (tarM (chOf e).op (chOf e).path) (chOf e).node=0):=by
        show _=!decide (rtM _ _=0)
        rw [bne,Bool.not_inj_iff];rfl
      rw [hd]
      simp
      rfl
theorem cright_f (ls:List S38) (hn:ls.length≤1000000) (hf:∀ x ∈ ls,(chOf x).path.length≤1000000∧(chOf x).node.attrs.length≤10000000) (k:Nat) (hk:3 * ls.length + 3000000<k) :
    pq15.f k ls=some (rightC Y (ls.map chOf)):=by
  unfold pq15.f
  have:=cright_l ls hn hf ls.length 0 k (by omega) hk
  rw [dif_neg (by omega),List.drop_zero,cGo_all] at this
  exact this
end Go.Proofs.YtdkjinmkallhnaaGreatDoorQ
end
section
namespace Go.Proofs.YtdkjinmkallhnaaGreatDoorQ
open Go.RowKit Go.WideMaps Go.Maps Go.Proofs.YtdkjinmkallhnaaGreatDoor Go.Proofs.YtdkjinmkallhnaaGreatDoorW.PrintWords Go.Proofs.YtdkjinmkallhnaaGreatDoorW.PrintLast Go.Proofs.YtdkjinmkallhnaaGreatDoorW.PrintMore
open Go.Proofs.YtdkjinmkallhnaaGreatDoorT (rightT rightC applyM applyL parM lessM cmpM getL Ch puts Puts tkL PS Srt isM)
theorem eCells_en (e:S40):enCells e=eCells (enOf e):=by
  obtain ⟨p,x⟩:=e
  obtain ⟨a1,a2,a3,a4,a5,a6,a7,a8,a9,a10⟩:=x
  simp [enCells,eCells,ndCells,enOf,ndOf,B_L]
theorem eCells_all (e:Str×Nd):(eCells e).toArray.all (·.oneCell')=true:=by simp [eCells,ndCells,Value.oneCell']
theorem eCells_len (e:Str×Nd):(eCells e).length=11:=rfl
theorem eCells_one (e:Str×Nd):∀ u ∈ eCells e,u.oneCell'=true:=by
  intro u hu
  simp [eCells,ndCells] at hu
  rcases hu with rfl|rfl|rfl|rfl|rfl|rfl|rfl|rfl|rfl|rfl|rfl <;> rfl
theorem e_at {w:World} {A:Option Addr} {xs:List S40} (h:Kd.C k40 w A xs.length xs) (i:Nat) (hi:i<xs.length) :
    ∃ ad,A=some ad∧LiesAt w (ad.add (i * 11)) (eCells (enOf xs[i])):=by
  obtain ⟨ad,h1,h2⟩:=en_at h i hi
  rw [eCells_en] at h2
  exact ⟨ad,h1,h2⟩
theorem c_at {w:World} {A:Option Addr} {xs:List S38} (h:Kd.C k38 w A xs.length xs) (i:Nat) (hi:i<xs.length) :
    ∃ ad,A=some ad∧LiesAt w (ad.add (i * 12)) (chCells (chOf xs[i])):=by
  obtain ⟨ad,c,e,_,hK,hc0⟩:=Kd.C_get h z38 (i:Int) (by omega) (by omega)
  have hd:xs.getD ((i:Nat):Int).toNat z38=xs[i]:=by
    rw [show ((i:Nat):Int).toNat=i from rfl,List.getD_eq_getElem?_getD,List.getElem?_eq_getElem hi];rfl
  rw [hd] at hK
  obtain rfl:=k38_open hK
  refine ⟨ad,e,fun j v hv=>?_⟩
  rw [Addr.add_add]
  refine hc0 j v ?_
  rw [← hv]
  generalize xs[i]=x
  obtain ⟨p,o,x⟩:=x
  obtain ⟨a1,a2,a3,a4,a5,a6,a7,a8,a9,a10⟩:=x
  simp [chCells,ndCells,chOf,ndOf,B_L]
def lyrFits (l:List (Ch Str Nd)):Bool:=l.all fun e=>decide (e.path.length≤1000000) && ndFits e.node
theorem cright_calls (w:World) (hG:GL w) (A:Option Addr) (c:Nat) (l:List S38) (hr:Kd.C k38 w A l.length l) (hc:l.length≤c) (hfit:lyrFits (l.map chOf)=true) (hl:l.length≤1000000) :
    Calls Tryz.prog 26 #[.slice A l.length c] w fun e w'=>e=.returned (.bool (rightC Y (l.map chOf)))∧Below w.heap.size w w':=by
  refine pq15.calls (3 * l.length + 3000001) A c l _ w hG hr hc (cright_f l hl (fun x hx=>?_) _ (by omega))
  have:=List.all_eq_true.1 hfit _ (List.mem_map_of_mem (f:=chOf) hx)
  simpa [ndFits] using this
end Go.Proofs.YtdkjinmkallhnaaGreatDoorQ
end
section
namespace Go.Proofs.YtdkjinmkallhnaaGreatDoorQ
open Go.RowKit Go.WideMaps Go.Maps Go.Proofs.YtdkjinmkallhnaaGreatDoor Go.Proofs.YtdkjinmkallhnaaGreatDoorW.PrintWords Go.Proofs.YtdkjinmkallhnaaGreatDoorW.PrintLast Go.Proofs.YtdkjinmkallhnaaGreatDoorW.PrintMore
open Go.Proofs.YtdkjinmkallhnaaGreatDoorT (rightT rightC applyM applyL parM lessM cmpM getL Ch puts Puts tkL PS Srt isM RightT RightL underM)
theorem getL_step {t:List (Str×Nd)} (hs:t.Pairwise fun a b=>a.1≠b.1) (i:Nat) (hi:i<t.length) (key:Str):getL (t.take (i + 1)) key=if key=t[i].1 then some t[i].2 else getL (t.take i) key:=by
  rw [List.take_succ_eq_append_getElem hi,YtdkjinmkallhnaaGreatDoorT.getL_append]
  by_cases hk:key=t[i].1
  · subst hk
    rw [if_pos rfl,if_pos rfl]
    have : getL (t.take i) t[i].1=none:=by
      cases h:getL (t.take i) t[i].1 with
      | none=>rfl
      | some n =>
        have hm:=YtdkjinmkallhnaaGreatDoorT.getL_mem h
        obtain ⟨j,hj,he⟩:=List.getElem_of_mem hm
        have hj':j<i:=by simp at hj;omega
        have:=List.pairwise_iff_getElem.1 hs j i (by omega) hi hj'
        rw [List.getElem_take] at he
        rw [he] at this
        exact absurd rfl this
    rw [this];rfl
  · rw [if_neg hk,if_neg (fun h=>hk h.symm)]
    cases getL (t.take i) key <;> rfl
theorem lyr_get {t:List (Ch Str Nd)} (h:lyrFits t=true) {e:Ch Str Nd} (he:e ∈ t):e.path.length≤1000000∧ndFits e.node=true:=by
  have:=List.all_eq_true.1 h e he
  simpa using this
theorem foldl_take (q:Str):∀ (l:List (Ch Str Nd)) (f:Str→Option Nd),l.foldl takeF f q=if tkL PS l q=true then none else f q
  | [],f=>by simp [tkL]
  | c :: r,f=>by
    rw [List.foldl_cons,foldl_take q r]
    have ht:tkL PS (c :: r) q=(YtdkjinmkallhnaaGreatDoorT.Takes PS c q || tkL PS r q):=by simp [tkL]
    rw [ht]
    by_cases hr:tkL PS r q=true
    · rw [if_pos hr,hr,Bool.or_true,if_pos rfl]
    · have hr':tkL PS r q=false:=by simpa using hr
      rw [if_neg hr,hr',Bool.or_false]
      have hu:∀ a b,PS.under a b=underM a b:=fun _ _=>rfl
      unfold takeF YtdkjinmkallhnaaGreatDoorT.Takes clearF
      simp only [hu]
      by_cases h1:c.op=1
      · rw [if_pos h1]
        by_cases h2:underM c.path q=true
        · simp [h1,h2]
        · by_cases h3:q=c.path
          · simp [h1,h2,h3]
          · simp [h1,h2,h3]
      · rw [if_neg h1]
        by_cases h2:c.op=2
        · rw [if_pos h2]
          by_cases h3:underM c.path q=true <;> simp [h2,h3]
        · rw [if_neg h2]
          simp [h1,h2]
theorem folderF_iff (g:Str→Option Nd) (p:Str):folderF g p=true↔YtdkjinmkallhnaaGreatDoorT.Fold PS Y.dir g p:=by
  unfold folderF YtdkjinmkallhnaaGreatDoorT.Fold
  rw [Bool.or_eq_true,decide_eq_true_eq]
  refine or_congr Iff.rfl ?_
  cases g p with
  | none=>simp
  | some n =>
    show decide (n.kind=1)=true↔∃ m,some n=some m∧Y.dir m=true
    constructor
    · intro h;exact ⟨n,rfl,h⟩
    · rintro ⟨m,hm,h⟩;cases hm;exact h
theorem putF_eq (g:Str→Option Nd) (c:Ch Str Nd):YtdkjinmkallhnaaGreatDoorT.putF PS Y.dir c.path c.node g=putF g c:=by
  funext q
  unfold putF YtdkjinmkallhnaaGreatDoorT.putF clearF
  have hd:Y.dir c.node=decide (c.node.kind=1):=rfl
  by_cases hq:q=c.path
  · rw [if_pos hq,if_pos hq]
  · rw [if_neg hq,if_neg hq]
    have hc:(Y.dir c.node=false∨¬ YtdkjinmkallhnaaGreatDoorT.Fold PS Y.dir g c.path)↔(!decide (c.node.kind=1) || !folderF g c.path)=true:=by
      rw [← folderF_iff,hd]
      cases decide (c.node.kind=1) <;> cases folderF g c.path <;> simp
    by_cases h1:(!decide (c.node.kind=1) || !folderF g c.path)=true
    · rw [if_pos h1]
      by_cases h2:underM c.path q=true
      · rw [if_pos ⟨h2,hc.2 h1⟩,if_pos h2]
      · rw [if_neg (fun h=>h2 h.1),if_neg h2]
    · rw [if_neg h1,if_neg (fun h=>h1 (hc.1 h.2))]
theorem putF_V {g:Str→Option Nd} (hg:∀ x,(g x).isSome=true→PS.V x) {c:Ch Str Nd} (hv:PS.V c.path):∀ x,(putF g c x).isSome=true→PS.V x:=by
  intro x hx
  unfold putF at hx
  split at hx
  · rename_i h;rw [h];exact hv
  · split at hx
    · unfold clearF at hx
      split at hx
      · cases hx
      · exact hg x hx
    · exact hg x hx
theorem nd_size {w:World} {b n:Nat} {D:DataW Nd} {f:Str→Option Nd} (hown:w.ownsMap Tryz.prog 9 Rn b n D) (hat:∀ (key:Str) (z:DataW Nd),D.atKey (.string key) z=(match f key with|some v=>.held v|none=>z))
    (ks:List Str) (hnd:ks.Nodup) (hm:∀ x,x ∈ ks↔(f x).isSome=true):ks.length=Maps.size D:=by
  obtain ⟨es,rfl,hap,_⟩:=hown.entries strLaw
  have hks:∀ p ∈ es,∃ x,p.1=.string x:=by
    obtain ⟨es',e,h⟩:=hown.keysOf
    cases e
    intro p hp
    obtain ⟨v,hv⟩:=h p hp
    obtain ⟨x,_,h2,_⟩:=Maps.keyOf_str Tryz.underlying9 hv
    exact ⟨x,h2⟩
  have hp:ks.Perm (strKeys (.map es)):=(List.perm_ext_iff_of_nodup hnd (nodup_strKeys hap hks)).2 fun x=>by rw [hm,mem_strKeys hks,NdMap.has hat]
  rw [hp.length_eq]
  show (es.map _).length=es.length
  rw [List.length_map]
theorem keys_nodup {t:List (Str×Nd)} (h:Srt PS t):(t.map (·.1)).Nodup:=by
  refine List.pairwise_map.2 (h.s.imp fun {a b} hl e=>?_)
  have hl:cmpM a.1 b.1<0:=hl
  rw [e,YtdkjinmkallhnaaGreatDoorT.cmpM_refl] at hl;omega
theorem keys_mem {t:List (Str×Nd)} (h:Srt PS t) {g:Str→Option Nd} (hq:∀ q,PS.V q→g q=getL t q) (hv:∀ x,(g x).isSome=true→PS.V x) (x:Str):x ∈ t.map (·.1)↔(g x).isSome=true:=by
  rw [List.mem_map]
  constructor
  · rintro ⟨⟨p,n⟩,hm,rfl⟩
    rw [hq _ (h.v _ hm),h.get hm];rfl
  · intro hx
    have:=hv x hx
    rw [hq x this] at hx
    obtain ⟨n,hn⟩:=Option.isSome_iff_exists.1 hx
    exact ⟨(x,n),YtdkjinmkallhnaaGreatDoorT.getL_mem hn,rfl⟩
theorem getL_keys (g:Str→Option Nd) (ks:List Str) (hm:∀ x,x ∈ ks↔(g x).isSome=true) (q:Str):getL (ks.map fun k=>(k,(g k).getD zeroN)) q=g q:=by
  have h : ∀ ks:List Str,getL (ks.map fun k=>(k,(g k).getD zeroN)) q=if q ∈ ks then some ((g q).getD zeroN) else none:=by
    intro ks
    induction ks with
    | nil=>rfl
    | cons k r ih =>
      show (if k=q then some ((g k).getD zeroN) else getL (r.map _) q)=_
      rw [ih]
      by_cases e:k=q
      · subst e;simp
      · have:¬ q=k:=fun h=>e h.symm
        simp [e,this]
  rw [h]
  cases hg:g q with
  | none=>rw [if_neg];rw [hm,hg];simp
  | some n=>rw [if_pos ((hm q).2 (by rw [hg];rfl))];rfl
theorem isM_short {x:Str} (h:PS.V x):x.length≤1000000:=by
  have hi:=YtdkjinmkallhnaaGreatDoorT.isM_iff.1 (show isM x=true from h)
  have:=hi.all
  revert this
  split <;> omega
theorem info_en:(Tryz.prog.info? 40).map (fun i=>(i.zero,i.size,i.bytes))=some (some (.agg enZero),11,120):=by kernel_rfl
def chZero:Array Value:=#[.string (⟨#[]⟩:ByteArray),.int .i64 0,.int .i64 0,.int .i64 0,.int .i64 0,.int .i64 0,.int .i64 0,.string (⟨#[]⟩:ByteArray),.string (⟨#[]⟩:ByteArray),.int .i64 0,.int .i64 0,.string (⟨#[]⟩:ByteArray)]
set_option maxRecDepth 100000 in
set_option maxHeartbeats 4000000 in
theorem tapply_calls (w : World) (hG:GL w) (A:Option Addr) (c:Nat) (l:List S40) (hr:Kd.C k40 w A l.length l) (hc:l.length≤c) (hfit:rowFits (l.map enOf)=true) (hl:l.length≤1000000)
    (A2:Option Addr) (c2:Nat) (ls:List S38) (hr2:Kd.C k38 w A2 ls.length ls) (hc2:ls.length≤c2) (hfit2:lyrFits (ls.map chOf)=true) (hl2:ls.length≤1000000) :
    Calls Tryz.prog 22 #[.slice A l.length c,.slice A2 ls.length c2] w fun e w'=>∃ v:Value,e=.returned (.tuple #[v,.int .i64 (applyM Y (l.map enOf) (ls.map chOf)).2]) ∧
      Own eCells 40 11 w.heap.size w' v (applyM Y (l.map enOf) (ls.map chOf)).1∧Below w.heap.size w w':=by
  have HR:=Lib.hid hr
  have HF:=Lib.hid hfit
  have HL:=Lib.hid hl
  have HR2:=Lib.hid hr2
  have HF2:=Lib.hid hfit2
  have HL2:=Lib.hid hl2
  have HCC:=Lib.hid hc
  have HCC2:=Lib.hid hc2
  clear hr hfit hl hr2 hfit2 hl2 hc hc2
  have hmm:=@run_makeMap Tryz.prog
  obtain ⟨res,hres⟩:∃ res,res=applyM Y (l.map enOf) (ls.map chOf):=⟨_,rfl⟩
  have HRES:=Lib.hid hres
  rw [← hres]
  clear hres
  go_enter Tryz.func22,Tryz.ntmps22
  go_wp2_with fail
  refine (tright_calls w hG A c l HR.out HCC.out HF.out HL.out).mono ?_
  rintro e w1 ⟨rfl,hb1⟩
  have HB1:=Lib.hid hb1
  clear hb1
  cases ht:rightT Y (l.map enOf) with
  | false =>
    have HE:Hid (res=([],1)):=Lib.hid (by rw [HRES.out];unfold applyM;rw [ht];rfl)
    go_wp2_with fail
    all_goals
      go_ret2
      exact ⟨_,by rw [HE.out];rfl,by rw [HE.out];exact Own.nil _ _ _ _ _,HB1.out⟩
  | true =>
    go_wp2_with fail
    refine (cright_calls w1 (hG.ext HB1.out) A2 c2 ls (Kd.C_below HR2.out HB1.out) HCC2.out HF2.out HL2.out).mono ?_
    rintro e w2 ⟨rfl,hb2⟩
    have HB2:=Lib.hid (Go.Proofs.YtdkjinmkallhnaaGreatDoor.below_then HB1.out hb2)
    clear hb2
    cases hcr:rightC Y (ls.map chOf) with
    | false =>
      have HE:Hid (res=([],1)):=Lib.hid (by rw [HRES.out];unfold applyM;rw [ht,hcr];rfl)
      go_wp2_with fail
      all_goals
        go_ret2
        exact ⟨_,by rw [HE.out];rfl,by rw [HE.out];exact Own.nil _ _ _ _ _,HB2.out⟩
    | true =>
      have HT:=Lib.hid ((YtdkjinmkallhnaaGreatDoorT.rightT_iff Y).1 ht)
      have HCR:=Lib.hid ((YtdkjinmkallhnaaGreatDoorT.rightC_iff Y).1 hcr)
      have HE:Hid (res=(match applyL PS Y.dir lessM (l.map enOf) (ls.map chOf) with|none=>([],10)|some t'=>if t'.length≤5000 then (t',0) else ([],2))):=Lib.hid (by
        rw [HRES.out];unfold applyM;rw [ht,hcr];simp only [Bool.and_self,if_true];cases applyL PS Y.dir lessM (l.map enOf) (ls.map chOf) <;> rfl)
      clear ht hcr
      have HM2:Hid (NdMap (w2.alloc (.map #[] 0)) w2.heap.size 0 (fun _=>none)):=Lib.hid (NdMap.made w2)
      have HB3:Hid (Below w.heap.size w (w2.alloc (.map #[] 0))):=Lib.hid (HB2.out.alloc HB2.out.size _)
      obtain ⟨bm,hbm⟩:∃ bm,bm=w2.heap.size:=⟨_,rfl⟩
      have HBM:Hid (w.heap.size≤bm):=Lib.hid (by rw [hbm];exact HB2.out.size)
      rw [← hbm] at HM2
      go_wp2
      rw [← hbm]
      clear hbm
      generalize w2.alloc (.map #[] 0)=w3 at HM2 HB3 ⊢
      clear hmm
      have HD:Hid ((l.map enOf).Pairwise fun a b=>a.1≠b.1):=Lib.hid (HT.out.srt.s.imp fun {a b} h e=>by
        have h:cmpM a.1 b.1<0:=h
        rw [e,YtdkjinmkallhnaaGreatDoorT.cmpM_refl] at h;omega)
      have h49:=Tryz.underlying40
      have h31:=Tryz.underlying26
      have h33:=Tryz.underlying38
      go_loopg [27] (l.length + 1) (fun g v wr=>∃ i:Nat,v=.int .i64 i∧l.length<g + i∧Hid (i≤l.length)∧Hid (NdMap wr bm i (getL ((l.map enOf).take i)))∧Hid (Below w.heap.size w wr))
      case atStart=>exact ⟨0,rfl,by omega,Lib.hid (by omega),Lib.hid (by rw [List.take_zero];exact HM2.out),HB3⟩
      case round =>
        obtain ⟨i,rfl,hgi,HI,HM,HB⟩:=hrel
        by_cases hi:i<l.length
        · cases gk with
          | zero=>omega
          | succ g1 =>
            obtain ⟨ad,rfl,hat⟩:=e_at HR.out i hi
            have HAT:=Lib.hid (hat.below HB.out)
            clear hat
            have HEF:=Lib.hid (fits_get HF.out (List.mem_map_of_mem (f:=enOf) (List.getElem_mem hi)))
            have hst:=getL_step HD.out i (by simpa using hi)
            rw [List.getElem_map] at hst
            obtain ⟨e,hee⟩:∃ e,e=enOf l[i]:=⟨_,rfl⟩
            rw [← hee] at HAT HEF hst
            have HST:=Lib.hid hst
            clear hst hee
            have HLL:=HL.out
            go_wp2_with (first|((with_reducible refine gate_dst (N:=30) rfl ?_);refine wpList_load_agg rfl 40 _ rfl _ rfl (eCells e) _ HAT.out h49 rfl rfl ?_)|((with_reducible refine gate_dst (N:=8) rfl ?_);refine box_event rfl (N:=8) rfl (cs:=enZero) (t:=40) ?hr ?_;(case hr=>first|(go_simp;done)|(go_simp;rfl));intro g hg w4 hb2 hbl2;have HGE:Hid (w.heap.size≤g):=Lib.hid (by rw [hg];exact HB.out.size);have HGW:Hid (wr.heap.size≤g):=Lib.hid (by rw [hg];exact Nat.le_refl _);have HB4:=Lib.hid hb2;have HBL4:=Lib.hid hbl2;clear hg hb2 hbl2)|((with_reducible refine gate_store (t:=40) (p:=8) rfl ?_);refine wpList_store_agg rfl rfl 40 _ _ rfl g (eCells e).toArray rfl rfl 40 enZero HB4.out rfl rfl (eCells_all _) ?_;intro w5 hb3 hg3;have q0:=(lies_of hb3) 0 _ rfl;simp only [Addr.add_mid,Nat.zero_add] at q0;have HN5:Hid (LiesAt w5 ⟨g,1,none⟩ (ndCells e.2)):=Lib.hid (fun j v hv=>(by have:=(lies_of hb3) (1 + j) v (by rw [Nat.add_comm];exact hv);rw [Addr.add_mid,Nat.zero_add] at this;rw [Addr.add_mid];exact this));have HBW5:Hid (Below wr.heap.size wr w5):=Lib.hid (HBL4.out.grown hg3 HBL4.out.size (fun j hj=>by cases hj;exact HGW.out));have HB5:Hid (Below w.heap.size w w5):=Lib.hid (Go.Proofs.YtdkjinmkallhnaaGreatDoor.below_then HB.out HBW5.out);clear hb3 hg3)|((with_reducible refine gate_dst (N:=35) rfl ?_);refine wpList_load_agg rfl 26 _ rfl _ rfl (ndCells e.2) _ HN5.out h31 rfl rfl ?_)|(at_mapUpdate;refine wpList_nd_up rfl rfl _ _ _ rfl bm i _ rfl (HM.out.ext HBW5.out) (by have:=HL.out;omega) e.1 e.2 rfl rfl (by have:=HEF.out.1;omega) _ HST.out ?_;intro w6 hm6 hg6;have HM6:=Lib.hid hm6;have HB6:Hid (Below w.heap.size w w6):=Lib.hid (HB5.out.grown hg6 HB5.out.size (fun j hj=>by cases hj;exact HBM.out));clear hm6 hg6 q0))
            have HII:Hid (i + 1≤l.length):=Lib.hid hi
            go_roundg g1
            case measure=>omega
            case rel=>exact ⟨i + 1,by go_num,by omega,HII,HM6,HB6⟩
        · have he : i = l.length:=by have:=HI.out;omega
          subst he
          have HMM:Hid (NdMap wr bm l.length (getL (l.map enOf))):=Lib.hid (by have:=HM.out;rwa [List.take_of_length_le (by simp)] at this)
          clear HM HB3 HM2 HI hgi hi
          go_wp2_with fail
          obtain ⟨f0,hf0⟩:∃ f0,f0=getL (l.map enOf):=⟨_,rfl⟩
          rw [← hf0] at HMM
          have HF0:=Lib.hid hf0
          clear hf0
          have HLN:=HL.out
          go_loopg [39] (ls.length + 1) (fun g v wr=>∃ i:Nat,v=.int .i64 i∧ls.length<g + i∧Hid (i≤ls.length)∧Hid (NdMap wr bm l.length (((ls.map chOf).take i).foldl takeF f0))∧Hid (Below w.heap.size w wr))
          case atStart=>exact ⟨0,rfl,by omega,Lib.hid (by omega),Lib.hid (by rw [List.take_zero];exact HMM.out),HB⟩
          case round =>
            obtain ⟨i,rfl,hgi,HI,HM,HB⟩:=hrel
            by_cases hi:i<ls.length
            · cases gk with
              | zero=>omega
              | succ g1 =>
                obtain ⟨ad,rfl,hat⟩:=c_at HR2.out i hi
                have HAT:=Lib.hid (hat.below HB.out)
                clear hat
                have HEF:=Lib.hid (lyr_get HF2.out (List.mem_map_of_mem (f:=chOf) (List.getElem_mem hi)))
                have hst:((ls.map chOf).take (i + 1)).foldl takeF f0=takeF (((ls.map chOf).take i).foldl takeF f0) (chOf ls[i]):=by
                  rw [List.take_succ_eq_append_getElem (by simpa using hi),List.foldl_append,List.getElem_map];rfl
                obtain ⟨e,hee⟩:∃ e,e=chOf ls[i]:=⟨_,rfl⟩
                rw [← hee] at HAT HEF hst
                have HST:=Lib.hid hst
                clear hst hee
                have HLL:=HL2.out
                go_wp2_with (first|((with_reducible refine gate_dst (N:=42) rfl ?_);refine wpList_load_agg rfl 38 _ rfl _ rfl (chCells e) _ HAT.out h33 rfl rfl ?_)|((with_reducible refine gate_dst (N:=10) rfl ?_);refine box_event rfl (N:=10) rfl (cs:=chZero) (t:=38) ?hr ?_;(case hr=>first|(go_simp;done)|(go_simp;rfl));intro g hg w4 hb2 hbl2;have HGE:Hid (w.heap.size≤g):=Lib.hid (by rw [hg];exact HB.out.size);have HGW:Hid (wr.heap.size≤g):=Lib.hid (by rw [hg];exact Nat.le_refl _);have HB4:=Lib.hid hb2;have HBL4:=Lib.hid hbl2;clear hg hb2 hbl2)|((with_reducible refine gate_store (t:=38) (p:=10) rfl ?_);refine wpList_store_agg rfl rfl 38 _ _ rfl g (chCells e).toArray rfl rfl 38 chZero HB4.out rfl rfl (chCells_all _) ?_;intro w5 hb3 hg3;have HB6:=Lib.hid hb3;have q1:=(lies_of hb3) 1 _ rfl;simp only [Addr.add_mid,Nat.zero_add] at q1;have HBW5:Hid (Below wr.heap.size wr w5):=Lib.hid (HBL4.out.grown hg3 HBL4.out.size (fun j hj=>by cases hj;exact HGW.out));have HB5:Hid (Below w.heap.size w w5):=Lib.hid (Go.Proofs.YtdkjinmkallhnaaGreatDoor.below_then HB.out HBW5.out);clear hb3 hg3)|((with_reducible refine gate_dst (N:=44) rfl ?_);refine wpList_load_agg rfl 38 _ rfl _ rfl (chCells e) _ (lies_of HB6.out) h33 rfl rfl ?_))
                refine (take_calls w5 bm l.length _ (HM.out.ext HBW5.out) e (by have:=HEF.out.1;omega)).mono ?_
                rintro x w6 ⟨rfl,hm6,hg6⟩
                have HM6:Hid (NdMap w6 bm l.length (((ls.map chOf).take (i + 1)).foldl takeF f0)):=Lib.hid (by rw [HST.out];exact hm6)
                have HB7:Hid (Below w.heap.size w w6):=Lib.hid (HB5.out.grown hg6 HB5.out.size (fun j hj=>by cases hj;exact HBM.out))
                clear hm6 hg6
                have HII:Hid (i + 1≤ls.length):=Lib.hid hi
                go_wp2_with fail
                go_roundg g1
                case measure=>omega
                case rel=>exact ⟨i + 1,by go_num,by omega,HII,HM6,HB7⟩
            · have he : i = ls.length:=by have:=HI.out;omega
              subst he
              have HMT:Hid (NdMap wr bm l.length ((ls.map chOf).foldl takeF f0)):=Lib.hid (by have:=HM.out;rwa [List.take_of_length_le (by simp)] at this)
              clear HM HMM HI hgi hi
              go_wp2_with fail
              obtain ⟨G0,hg0⟩:∃ G0,G0=(ls.map chOf).foldl takeF f0:=⟨_,rfl⟩
              rw [← hg0] at HMT
              have HG0:Hid (∀ q,PS.V q→G0 q=if tkL PS (ls.map chOf) q=true then none else getL (l.map enOf) q):=Lib.hid (fun q _=>by rw [hg0,foldl_take,HF0.out])
              have HGV:Hid (∀ x,(G0 x).isSome=true→PS.V x):=Lib.hid (fun x hx=>by
                rw [hg0,foldl_take,HF0.out] at hx
                split at hx
                · cases hx
                · obtain ⟨n,hn⟩:=Option.isSome_iff_exists.1 hx
                  exact HT.out.srt.v _ (YtdkjinmkallhnaaGreatDoorT.getL_mem hn))
              have HUN:=fun {o} hp=>YtdkjinmkallhnaaGreatDoorT.applyL_unique (dir:=Y.dir) YtdkjinmkallhnaaGreatDoorT.lessM_iff HCR.out.layR HT.out.srt HT.out.wf HG0.out (o:=o) hp
              have HUN:=Lib.hid (fun o=>HUN (o:=o))
              clear hg0
              have HLM:=HL2.out
              go_loopg [49] (ls.length + 1) (fun gg v wr=>∃ (i:Nat) (g:Str→Option Nd),v=.int .i64 i∧ls.length<gg + i∧Hid (i≤ls.length)∧Hid (NdMap wr bm (l.length + i) g) ∧
                Hid (∀ o,Puts PS Y.dir (puts ((ls.map chOf).drop i)) g o→Puts PS Y.dir (puts (ls.map chOf)) G0 o)∧Hid (∀ x,(g x).isSome=true→PS.V x)∧Hid (Below w.heap.size w wr))
              case atStart=>exact ⟨0,G0,rfl,by omega,Lib.hid (by omega),HMT,Lib.hid (fun o h=>h),HGV,HB⟩
              case round =>
                obtain ⟨i,gf,rfl,hgi,HI,HM,HPT,HV,HB⟩:=hrel
                by_cases hi:i<ls.length
                · cases gk with
                  | zero=>omega
                  | succ g1 =>
                    obtain ⟨ad,rfl,hat⟩:=c_at HR2.out i hi
                    have HAT:=Lib.hid (hat.below HB.out)
                    clear hat
                    have HEF:=Lib.hid (lyr_get HF2.out (List.mem_map_of_mem (f:=chOf) (List.getElem_mem hi)))
                    have hdr:(ls.map chOf).drop i=chOf ls[i] :: (ls.map chOf).drop (i + 1):=by rw [List.drop_eq_getElem_cons (by simpa using hi)];simp
                    have hmem:chOf ls[i] ∈ ls.map chOf:=List.mem_map_of_mem (f:=chOf) (List.getElem_mem hi)
                    obtain ⟨e,hee⟩:∃ e,e=chOf ls[i]:=⟨_,rfl⟩
                    rw [← hee] at HAT HEF hdr hmem
                    have HDR:=Lib.hid hdr
                    have HMEM:=Lib.hid hmem
                    clear hdr hee hmem
                    have HLL:=HL2.out
                    have HII:Hid (i + 1≤ls.length):=Lib.hid hi
                    cases hop:(e.op == 0) with
                    | false =>
                      have hop1:¬ e.op=0:=by simpa using hop
                      have HPT2:Hid (∀ o,Puts PS Y.dir (puts ((ls.map chOf).drop (i + 1))) gf o→Puts PS Y.dir (puts (ls.map chOf)) G0 o):=Lib.hid (fun o h=>HPT.out o (by rw [HDR.out];unfold puts;rw [if_neg hop1];exact h))
                      go_wp2_with (first|((with_reducible refine gate_dst (N:=52) rfl ?_);refine wpList_load_agg rfl 38 _ rfl _ rfl (chCells e) _ HAT.out h33 rfl rfl ?_)|((with_reducible refine gate_dst (N:=12) rfl ?_);refine box_event rfl (N:=12) rfl (cs:=chZero) (t:=38) ?hr ?_;(case hr=>first|(go_simp;done)|(go_simp;rfl));intro g hg w4 hb2 hbl2;have HGE:Hid (w.heap.size≤g):=Lib.hid (by rw [hg];exact HB.out.size);have HGW:Hid (wr.heap.size≤g):=Lib.hid (by rw [hg];exact Nat.le_refl _);have HB4:=Lib.hid hb2;have HBL4:=Lib.hid hbl2;clear hg hb2 hbl2)|((with_reducible refine gate_store (t:=38) (p:=12) rfl ?_);refine wpList_store_agg rfl rfl 38 _ _ rfl g (chCells e).toArray rfl rfl 38 chZero HB4.out rfl rfl (chCells_all _) ?_;intro w5 hb3 hg3;have HB6:=Lib.hid hb3;have q1:=(lies_of hb3) 1 _ rfl;simp only [Addr.add_mid,Nat.zero_add] at q1;have HBW5:Hid (Below wr.heap.size wr w5):=Lib.hid (HBL4.out.grown hg3 HBL4.out.size (fun j hj=>by cases hj;exact HGW.out));have HB5:Hid (Below w.heap.size w w5):=Lib.hid (Go.Proofs.YtdkjinmkallhnaaGreatDoor.below_then HB.out HBW5.out);clear hb3 hg3)|((with_reducible refine gate_dst (N:=58) rfl ?_);refine wpList_load_agg rfl 38 _ rfl _ rfl (chCells e) _ (lies_of HB6.out) h33 rfl rfl ?_))
                      go_roundg g1
                      case measure=>omega
                      case rel=>exact ⟨i + 1,gf,by go_num,by omega,HII,Lib.hid ((HM.out.ext HBW5.out).mono (by omega)),HPT2,HV,HB5⟩
                    | true =>
                      have hop1:e.op=0:=by simpa using hop
                      go_wp2_with (first|((with_reducible refine gate_dst (N:=52) rfl ?_);refine wpList_load_agg rfl 38 _ rfl _ rfl (chCells e) _ HAT.out h33 rfl rfl ?_)|((with_reducible refine gate_dst (N:=12) rfl ?_);refine box_event rfl (N:=12) rfl (cs:=chZero) (t:=38) ?hr ?_;(case hr=>first|(go_simp;done)|(go_simp;rfl));intro g hg w4 hb2 hbl2;have HGE:Hid (w.heap.size≤g):=Lib.hid (by rw [hg];exact HB.out.size);have HGW:Hid (wr.heap.size≤g):=Lib.hid (by rw [hg];exact Nat.le_refl _);have HB4:=Lib.hid hb2;have HBL4:=Lib.hid hbl2;clear hg hb2 hbl2)|((with_reducible refine gate_store (t:=38) (p:=12) rfl ?_);refine wpList_store_agg rfl rfl 38 _ _ rfl g (chCells e).toArray rfl rfl 38 chZero HB4.out rfl rfl (chCells_all _) ?_;intro w5 hb3 hg3;have HB6:=Lib.hid hb3;have q1:=(lies_of hb3) 1 _ rfl;simp only [Addr.add_mid,Nat.zero_add] at q1;have HBW5:Hid (Below wr.heap.size wr w5):=Lib.hid (HBL4.out.grown hg3 HBL4.out.size (fun j hj=>by cases hj;exact HGW.out));have HB5:Hid (Below w.heap.size w w5):=Lib.hid (Go.Proofs.YtdkjinmkallhnaaGreatDoor.below_then HB.out HBW5.out);clear hb3 hg3)|((with_reducible refine gate_dst (N:=58) rfl ?_);refine wpList_load_agg rfl 38 _ rfl _ rfl (chCells e) _ (lies_of HB6.out) h33 rfl rfl ?_))
                      refine (put_calls w5 bm (l.length + i) gf (HM.out.ext HBW5.out) (by have:=HL.out;omega) e (by have:=HEF.out.1;omega)).mono ?_
                      rintro x w6 ⟨rfl,hm6,hg6⟩
                      have HB7:Hid (Below w.heap.size w w6):=Lib.hid (HB5.out.grown hg6 HB5.out.size (fun j hj=>by cases hj;exact HBM.out))
                      cases hfo:folderF gf (parM e.path) with
                      | false =>
                        have hp:=HPT.out none (by rw [HDR.out];unfold puts;rw [if_pos hop1];exact Puts.no (fun h=>by have:=(folderF_iff gf _).2 h;rw [show PS.par e.path=parM e.path from rfl,hfo] at this;cases this))
                        have HE2:Hid (res=([],10)):=Lib.hid (by
                          rcases HUN.out none hp with ⟨_,ha⟩|⟨_,_,h,_⟩
                          · rw [HE.out,ha]
                          · cases h)
                        clear hm6 hg6 hp
                        go_wp2_with fail
                        all_goals
                          go_ret2
                          exact ⟨_,by rw [HE2.out];rfl,by rw [HE2.out];exact Own.nil _ _ _ _ _,HB7.out⟩
                      | true =>
                        have HM6:Hid (NdMap w6 bm (l.length + (i + 1)) (putF gf e)):=Lib.hid (by rw [hfo,if_pos rfl] at hm6;exact hm6)
                        have HPT2:Hid (∀ o,Puts PS Y.dir (puts ((ls.map chOf).drop (i + 1))) (putF gf e) o→Puts PS Y.dir (puts (ls.map chOf)) G0 o):=Lib.hid (fun o h=>HPT.out o (by
                          rw [HDR.out];unfold puts;rw [if_pos hop1]
                          exact Puts.step ((folderF_iff gf _).1 hfo) (by rw [putF_eq];exact h)))
                        have HV2:=Lib.hid (putF_V HV.out (HCR.out.layR.put e HMEM.out hop1).1)
                        clear hm6 hg6
                        go_wp2_with fail
                        go_roundg g1
                        case measure=>omega
                        case rel=>exact ⟨i + 1,putF gf e,by go_num,by omega,HII,HM6,HPT2,HV2,HB7⟩
                · have he : i=ls.length:=by have:=HI.out;omega
                  subst he
                  have hp:=HPT.out (some gf) (by rw [List.drop_eq_nil_of_le (by simp)];exact Puts.nil gf)
                  obtain ⟨t',HAP,HSR,HQ,HUQ⟩:∃ t',Hid (applyL PS Y.dir lessM (l.map enOf) (ls.map chOf)=some t')∧Hid (Srt PS t')∧Hid (∀ q,PS.V q→gf q=getL t' q)∧Hid (∀ out,Srt PS out→(∀ q,PS.V q→getL out q=gf q)→out=t'):=by
                    rcases HUN.out _ hp with ⟨h,_⟩|⟨g',t',hg',h1,h2,h3,h4⟩
                    · cases h
                    · cases hg';exact ⟨t',h1,h2,h3,h4⟩
                  have HE2:Hid (res=if t'.length≤5000 then (t',0) else ([],2)):=Lib.hid (by rw [HE.out,HAP.out])
                  clear hp HPT HUN HG0
                  obtain ⟨D,hown,hat⟩:=HM.out
                  have hsz:=nd_size hown hat (t'.map (·.1)) (keys_nodup HSR.out) (fun x=>keys_mem HSR.out HQ.out HV.out x)
                  rw [List.length_map] at hsz
                  have HOWN:=Lib.hid hown
                  clear hown hat
                  by_cases h5:t'.length≤5000
                  · have hd5:(5000:Int)<(Maps.size D:Int)↔False:=by constructor <;> intro h <;> first|omega|cases h
                    have HE3:Hid (res=(t',0)):=Lib.hid (by rw [HE2.out,if_pos h5])
                    have hd6:decide ((5000:Int)<(Maps.size D:Int))=false:=by simp;omega
                    go_wp2_with (first|(at_len;refine wpList_len_own _ rfl _ 62 rfl 9 26 Tryz.underlying62 Rn bm _ D rfl HOWN.out ?_))
                    refine (keys_fn_calls wr bm).mono ?_
                    rintro x w4 ⟨rfl,hw4⟩
                    have HB4:Hid (Below wr.heap.size wr w4):=Lib.hid (by rw [hw4];exact Go.Proofs.YtdkjinmkallhnaaGreatDoor.below_new _ _)
                    have HC4:Hid (w4.cell? ⟨wr.heap.size,0,none⟩=some (.map (some bm))):=Lib.hid (by rw [hw4];exact Go.Proofs.YtdkjinmkallhnaaGreatDoor.cell_new _ _ _ _ rfl)
                    have HBW4:Hid (Below w.heap.size w w4):=Lib.hid (Go.Proofs.YtdkjinmkallhnaaGreatDoor.below_then HB.out HB4.out)
                    clear hw4
                    go_wp2_with fail
                    refine (sorted_calls w4 (hG.ext HBW4.out) bm _ gf (HM.out.ext HB4.out) (by have:=HL.out;have:=HL2.out;omega) (fun x hx=>isM_short (HV.out x hx)) wr.heap.size HC4.out).mono ?_
                    rintro x w5 ⟨v,ks,rfl,htx,hmem,hpw,hlen,hb5⟩
                    have HTX:=Lib.hid htx
                    have HMEM:=Lib.hid hmem
                    have HPW:=Lib.hid hpw
                    have HLEN:=Lib.hid hlen
                    have HB5:Hid (Below w.heap.size w w5):=Lib.hid (Go.Proofs.YtdkjinmkallhnaaGreatDoor.below_then HBW4.out hb5)
                    have HM5:Hid (NdMap w5 bm (l.length + ls.length) gf):=Lib.hid ((HM.out.ext HB4.out).ext hb5)
                    clear htx hmem hpw hlen hb5 hd5 hd6
                    obtain ⟨A9,c9,rfl,hcell⟩:=HTX.out
                    have HCELL:=Lib.hid hcell
                    clear hcell HTX
                    obtain ⟨outs,houts⟩:∃ outs:List (Str×Nd),outs=ks.map fun k=>(k,(gf k).getD zeroN):=⟨_,rfl⟩
                    have HOUT:Hid (outs=t'):=Lib.hid (by
                      refine HUQ.out outs ⟨?_,?_⟩ ?_
                      · intro x hx
                        rw [houts,List.mem_map] at hx
                        obtain ⟨k,hk,rfl⟩:=hx
                        exact HV.out k ((HMEM.out k).1 hk)
                      · rw [houts];exact List.pairwise_map.2 HPW.out
                      · intro q _
                        rw [houts]
                        exact getL_keys gf ks HMEM.out q)
                    have HOL:Hid (outs.length=ks.length):=Lib.hid (by rw [houts];simp)
                    have HOG:Hid (∀ i (h:i<ks.length),outs.take (i + 1)=outs.take i ++ [(ks[i],(gf ks[i]).getD zeroN)]):=Lib.hid (fun i h=>by
                      rw [List.take_succ_eq_append_getElem (by rw [houts];simpa using h)]
                      simp [houts])
                    clear houts
                    have HKL:Hid (ks.length≤2000000):=Lib.hid (by have:=HLEN.out;have:=HL.out;have:=HL2.out;omega)
                    go_wp2_with fail
                    obtain ⟨i0,hi,hz0,hz1,hz2⟩:=info_parts info_en
                    have HI0:=Lib.hid hi
                    have HZ0:=Lib.hid hz0
                    have HZ1:=Lib.hid hz1
                    have HZ2:=Lib.hid hz2
                    clear hi hz0 hz1 hz2
                    have hkl:=HKL.out
                    go_loopg [13,70] (ks.length + 1) (fun gg v13 v70 wr=>∃ i:Nat,v70=.int .i64 i∧ks.length<gg + i∧Hid (i≤ks.length)∧Hid (Own eCells 40 11 w5.heap.size wr v13 (outs.take i))∧Hid (Below w5.heap.size w5 wr))
                    case atStart=>exact ⟨0,rfl,by omega,Lib.hid (by omega),Lib.hid (by rw [List.take_zero];exact Own.nil _ _ _ _ _),Lib.hid (Below.refl _ _)⟩
                    case round =>
                      obtain ⟨i,rfl,hgi,HI,HO,HBr⟩:=hrel
                      by_cases hi:i<ks.length
                      · cases gk with
                        | zero=>omega
                        | succ g1 =>
                          obtain ⟨gb,rfl,hkc⟩:=HCELL.out i hi
                          have hkc':=pw_cell_below HBr.out hkc
                          have hmk:(gf ks[i]).isSome=true:=(HMEM.out _).1 (List.getElem_mem hi)
                          have hks:=isM_short (HV.out _ hmk)
                          have hlk:=(HM5.out.ext HBr.out).look (s:=ks[i]) (by omega)
                          have hog:=HOG.out i hi
                          generalize ks[i]=k at hkc' hks hlk hog
                          generalize (gf k).getD zeroN=m at hlk hog
                          clear hkc hmk
                          have HOGI:=Lib.hid hog
                          clear hog
                          simp only [ndVal,ndCells] at hlk
                          have hil:(outs.take i).length≤2000000:=by rw [List.length_take];omega
                          have HIL:=Lib.hid hil
                          clear hil
                          go_wp2_with (at_builtin;refine wpList_append_one rfl _ _ 22 rfl w5.heap.size 40 11 120 i0 (.agg enZero) Tryz.underlying22 HI0.out HZ0.out HZ1.out HZ2.out rfl (by decide) eCells_len eCells_one _ (outs.take i) rfl (HO.out.alloc _) (k,m) _ 1 rfl ?c1 ?c2 ?c3 ?c4 ?_)
                          case c1=>intro j u hu;exact Go.Proofs.YtdkjinmkallhnaaGreatDoor.cell_new_at (cs:=eCells (k,m)) rfl hu
                          case c2=>have:=HIL.out;unfold maxLen;omega
                          case c3=>have:=HIL.out;omega
                          case c4=>have:=HBr.out.size;simp;omega
                          intro v' w7 ho' hg'
                          have HO7:Hid (Own eCells 40 11 w5.heap.size w7 v' (outs.take (i + 1))):=Lib.hid (by rw [HOGI.out];exact ho')
                          have HB7:Hid (Below w5.heap.size w5 w7):=Lib.hid ((HBr.out.alloc HBr.out.size _).grown hg' (by have:=HBr.out.size;simp;omega) (fun j hj=>(World.ownsRow.lt HO.out j hj).1))
                          have HII:Hid (i + 1≤ks.length):=Lib.hid hi
                          clear ho' hg'
                          go_wp2_with fail
                          go_roundg g1
                          case measure=>omega
                          case rel=>exact ⟨i + 1,by go_num,by omega,HII,HO7,HB7⟩
                      · have he:i=ks.length:=by have:=HI.out;omega
                        subst he
                        go_wp2_with fail
                        go_ret2
                        refine ⟨_,by rw [HE3.out];rfl,?_,Go.Proofs.YtdkjinmkallhnaaGreatDoor.below_then HB5.out HBr.out⟩
                        rw [HE3.out,← HOUT.out]
                        have:=HO.out
                        rw [List.take_of_length_le (by rw [HOL.out];exact Nat.le_refl _)] at this
                        exact own_weaken this HB5.out.size
                  · have HE3:Hid (res=([],2)):=Lib.hid (by rw [HE2.out,if_neg h5])
                    have hd6:decide ((5000:Int)<(Maps.size D:Int))=true:=by simp;omega
                    go_wp2_with (first|(at_len;refine wpList_len_own _ rfl _ 62 rfl 9 26 Tryz.underlying62 Rn bm _ D rfl HOWN.out ?_))
                    all_goals
                      go_ret2
                      exact ⟨_,by rw [HE3.out];rfl,by rw [HE3.out];exact Own.nil _ _ _ _ _,HB.out⟩
end Go.Proofs.YtdkjinmkallhnaaGreatDoorQ
end
section
namespace Go.Proofs.YtdkjinmkallhnaaGreatDoorQ
open Go.RowKit Go.WideMaps Go.Maps Go.Proofs.YtdkjinmkallhnaaGreatDoor Go.Proofs.YtdkjinmkallhnaaGreatDoorW.PrintWords Go.Proofs.YtdkjinmkallhnaaGreatDoorW.PrintLast Go.Proofs.YtdkjinmkallhnaaGreatDoorW.PrintMore
open Go.Proofs.YtdkjinmkallhnaaGreatDoorT (applyM)
theorem en_R {w:World} {base:Nat} {v:Value} {l:List (Str×Nd)} (h:Own eCells 40 11 base w v l):Kd.R k40 40 w base (fun _=>True) v (l.map ofEn) :=
  R_of_own (d:=k40) (f:=enOf) (fun w base ok x=>by rw [← eCells_en];exact k40_mkM w base ok x) eCells_len (by rw [ens_back];exact h)
def lyrFits' (l:List S38):Prop:=lyrFits (l.map chOf)=true∧l.length≤1000000
instance (l:List S38):Decidable (lyrFits' l):=by unfold lyrFits';infer_instance
def tree_Apply.f (l0:List S40) (l1:List S38):Option (List S40×Int) :=
  if rowFits' l0∧lyrFits' l1 then some ((applyM Y (l0.map enOf) (l1.map chOf)).1.map ofEn,(applyM Y (l0.map enOf) (l1.map chOf)).2) else none
theorem tree_Apply.calls (A0:Option Addr) (c0:Nat) (l0:List S40) (A1:Option Addr) (c1:Nat) (l1:List S38) (r1:List S40) (r2:Int) (w:World) (hG:GL w)
    (hr0:Kd.C k40 w A0 l0.length l0) (hc0:l0.length≤c0) (hr1:Kd.C k38 w A1 l1.length l1) (hc1:l1.length≤c1) (h:tree_Apply.f l0 l1=some (r1,r2)) :
    Calls Tryz.prog 22 #[.slice A0 l0.length c0,.slice A1 l1.length c1] w fun e w'=>∃ v0_:Value,e=.returned (.tuple #[v0_,.int .i64 r2])∧Kd.R k40 40 w' w.heap.size (fun _=>True) v0_ r1∧Below w.heap.size w w':=by
  unfold tree_Apply.f at h
  split at h
  · rename_i hs
    cases h
    exact (tapply_calls w hG A0 c0 l0 hr0 hc0 hs.1.1 hs.1.2 A1 c1 l1 hr1 hc1 hs.2.1 hs.2.2).mono fun e w' ⟨v,he,ho,hb⟩=>⟨v,he,en_R ho,hb⟩
  · cases h
end Go.Proofs.YtdkjinmkallhnaaGreatDoorQ
end
section
namespace Go.Proofs.YtdkjinmkallhnaaGreatDoorQ
open Go.RowKit Go.Proofs.YtdkjinmkallhnaaGreatDoor
open Go.Proofs.YtdkjinmkallhnaaGreatDoorT (applyM rightT Ch)
def dN:Nd:={ zeroN with kind:=1 }
def t17:List (Str×Nd):=[([97],dN),([97,47,98],{ zeroN with data:=[49] }),([97,47,99],dN),([97,47,99,47,100],zeroN)]
theorem r17:rightT Y t17=true:=by kernel_rfl
theorem r17b:rightT Y [([98],zeroN),([97],zeroN)]=false:=by kernel_rfl
end Go.Proofs.YtdkjinmkallhnaaGreatDoorQ
end
