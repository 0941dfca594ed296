/- A part of a proof of statements of this seat: what its walks and its laws lean on; joined by a program of this repo (wip/pack.py) out of the texts XDiff, XEnM, XBoth, XEqlE, XStep, XFold, XTrees, XSm18, QEq59, XSm19, XDiffL, Th4Extra, Mod2Extra, Needs. -/
import Derived.DeepKeys5
import Derived.LoopIn
import Derived.LoopNIn
import Derived.OwnWalkIn
import Derived.RangeFuncBound
import Derived.RangeFuncBox
import Derived.RangeFuncCalls
import Derived.RangeFuncLeaves
import Derived.RangeFuncNested
import Derived.Shelf.Abstract
import Derived.TacticsInMore
import Derived.WalkKit
import Derived.WideKeyEntry
import Derived.Test.YtdacflloaehjeaaGreatDoorKAB
import Derived.Test.YtdacflloaehjeaaGreatDoorKAC
import Derived.Test.YtdacflloaehjeaaGreatDoorKAE
import Derived.Test.YtdacflloaehjeaaGreatDoorKAH
import Derived.Test.YtdacflloaehjeaaGreatDoorKAI
import Derived.Test.YtdacflloaehjeaaGreatDoorKAJ
set_option linter.unusedSimpArgs false
set_option linter.unusedVariables false
section
namespace Go.Proofs.Zq
open Go.RowKit Go.WideMaps Go.Maps Go.Proofs.YtdacflloaehjeaaGreatDoor Go.Proofs.Zw.PrintWords Go.Proofs.Zw.PrintLast Go.Proofs.Zw.PrintMore
open Go.Proofs.Zt (getL folderL PS parM rightT RightT diffM diffC sortL lessC lessM keyM Ch)
attribute [local go_sem high] eqNg
def goesB (b:List (Str×Nd)) (e:Str×Nd):Bool:=(getL b e.1).isNone && folderL PS Y.dir b (parM e.1)
def setB (a:List (Str×Nd)) (e:Str×Nd):Bool:=decide (getL a e.1≠some e.2)
def dA (b l:List (Str×Nd)):List (Ch Str Nd):=(l.filter (goesB b)).map fun e=>⟨e.1,1,zeroN⟩
def dB (a l:List (Str×Nd)):List (Ch Str Nd):=(l.filter (setB a)).map fun e=>⟨e.1,0,e.2⟩
theorem diffC_parts (a b:List (Str×Nd)):diffC Y a b=dA b a ++ dB a b:=rfl
theorem dA_step (b l:List (Str×Nd)) (i:Nat) (hi:i<l.length):dA b (l.take (i + 1))=dA b (l.take i) ++ if goesB b l[i]=true then [⟨l[i].1,1,zeroN⟩] else []:=by
 unfold dA
 rw [List.take_succ_eq_append_getElem hi,List.filter_append,List.map_append]
 cases h:goesB b l[i] <;> simp [h]
theorem dB_step (a l:List (Str×Nd)) (i:Nat) (hi:i<l.length):dB a (l.take (i + 1))=dB a (l.take i) ++ if setB a l[i]=true then [⟨l[i].1,0,l[i].2⟩] else []:=by
 unfold dB
 rw [List.take_succ_eq_append_getElem hi,List.filter_append,List.map_append]
 cases h:setB a l[i] <;> simp [h]
theorem dA_len (b l:List (Str×Nd)):(dA b l).length≤l.length:=by unfold dA;rw [List.length_map];exact List.length_filter_le _ _
theorem dB_len (a l:List (Str×Nd)):(dB a l).length≤l.length:=by unfold dB;rw [List.length_map];exact List.length_filter_le _ _
theorem diffC_short {a b:List (Str×Nd)} (ha:rowFits a=true) (hb:rowFits b=true):∀ c ∈ diffC Y a b,c.path.length≤1000000:=by
 intro c hc
 rcases (Zt.mem_diffC c).1 hc with ⟨e,h1,_,_,rfl⟩|⟨e,h1,_,rfl⟩
 ·exact (fits_get ha h1).1
 ·exact (fits_get hb h1).1
theorem info_ch:(Tryz.prog.info? 59).map (fun i=>(i.zero,i.size,i.bytes))=some (some (.agg chZero),12,128):=by kernel_rfl
theorem own_chweaken {base0 base:Nat} {w:World} {v:Value} {l:List (Ch Str Nd)} (h:YtdacflloaehjeaaGreatDoor.Owr chCells 59 12 base w v l) (hb:base0≤base):YtdacflloaehjeaaGreatDoor.Owr chCells 59 12 base0 w v l:=by
 refine ⟨h.1,?_⟩
 rcases h.2 with h|⟨g,cap,cur,h1,h2,h3⟩
 ·exact .inl h
 ·exact .inr ⟨g,cap,cur,h1,Nat.le_trans hb h2,h3⟩
def cfD (x y:ShC):Int:=if lessC x.1 y.1=true then -1 else 1
theorem swo_D:Go.Sort.SWO (ltOf cfD):=by
 have hl:∀ x y:ShC,ltOf cfD x y=lessC x.1 y.1:=by
  intro x y
  unfold ltOf cfD
  cases lessC x.1 y.1 <;> rfl
 refine ⟨fun x=>?_,fun x y z h1 h2=>?_,fun x y z h1 h2=>?_⟩
 ·rw [hl]
  cases h:lessC x.1 x.1 with
  | false=>rfl
  | true=>exact absurd h (Zt.lessC_ord.irrefl _ trivial)
 ·rw [hl] at *
  exact Zt.lessC_ord.trans _ _ _ trivial trivial trivial h1 h2
 ·rw [hl] at *
  unfold lessC lessM at *
  have h1:¬ Zt.cmpM (keyM x.1) (keyM y.1)<0:=of_decide_eq_false h1
  have h2:¬ Zt.cmpM (keyM y.1) (keyM z.1)<0:=of_decide_eq_false h2
  refine decide_eq_false fun h3=>?_
  have a1:=Zt.cmpM_anti (keyM x.1) (keyM y.1)
  have a2:=Zt.cmpM_anti (keyM y.1) (keyM z.1)
  by_cases e1:Zt.cmpM (keyM x.1) (keyM y.1)=0
  ·rw [Zt.cmpM_eq e1] at h3;exact h2 h3
  ·by_cases e2:Zt.cmpM (keyM y.1) (keyM z.1)=0
   ·rw [← Zt.cmpM_eq e2] at h3;exact h1 h3
   ·have:=Zt.cmpM_trans (a:=keyM z.1) (b:=keyM y.1) (c:=keyM x.1) (by omega) (by omega)
    have a3:=Zt.cmpM_anti (keyM x.1) (keyM z.1)
    omega
set_option maxRecDepth 100000 in
theorem cmpD_calls (w:World) (hG:GL w) (x y:ShC):Calls Tryz.prog 47 #[.agg (chCells x.1).toArray,.agg (chCells y.1).toArray] w fun e w'=>e=.returned (.int .i64 (cfD x y))∧Below w.heap.size w w':=by
 have h33:=Tryz.underlying59
 have HX:=Lib.hid x.2
 have HY:=Lib.hid y.2
 have HCF:Hid (cfD x y=if lessM (Zt.tarM x.1.op x.1.path) (Zt.tarM y.1.op y.1.path)=true then -1 else 1):=Lib.hid rfl
 generalize cfD x y=r at HCF
 obtain ⟨a,ha⟩:∃ a,a=x.1:=⟨_,rfl⟩
 obtain ⟨b,hb⟩:∃ b,b=y.1:=⟨_,rfl⟩
 rw [← ha] at HX HCF ⊢
 rw [← hb] at HY HCF ⊢
 clear ha hb x y
 go_enter Tryz.func47,Tryz.ntmps47
 go_wp2_with (first|((with_reducible refine gate_dst (N:=2) rfl ?_);refine box_event rfl (N:=2) rfl (cs:=(chCells a).toArray) (t:=59) ?hr ?_;(case hr=>first|(go_simp;done)|(go_simp;rfl));intro g2 hg w2 hb2 hbl2;have HC2:=Lib.hid hb2;have HBL2:=Lib.hid hbl2;clear hg hb2 hbl2)|((with_reducible refine gate_dst (N:=3) rfl ?_);refine box_event rfl (N:=3) rfl (cs:=(chCells b).toArray) (t:=59) ?hr ?_;(case hr=>first|(go_simp;done)|(go_simp;rfl));intro g3 hg w3 hb2 hbl2;have HC3:=Lib.hid hb2;have HC23:=Lib.hid (blk_below HC2.out hbl2);have HBL3:=Lib.hid (YtdacflloaehjeaaGreatDoor.below_then HBL2.out hbl2);clear hg hb2 hbl2)|((with_reducible refine gate_dst (N:=5) rfl ?_);refine wpList_load_agg rfl 59 _ rfl _ rfl (chCells a) _ (lies_of HC23.out) h33 rfl rfl ?_)|((with_reducible refine gate_dst (N:=6) rfl ?_);refine wpList_load_agg rfl 59 _ rfl _ rfl (chCells b) _ (lies_of HC3.out) h33 rfl rfl ?_))
 refine (less_calls w3 (hG.ext HBL3.out) a b HX.out HY.out).mono ?_
 rintro e w4 ⟨rfl,hb4⟩
 have HB4:=Lib.hid (YtdacflloaehjeaaGreatDoor.below_then HBL3.out hb4)
 clear hb4
 cases hl:lessM (Zt.tarM a.op a.path) (Zt.tarM b.op b.path) with
 | true =>
  have HR:Hid (r = -1):=Lib.hid (by rw [HCF.out,hl];rfl)
  go_wp2_with fail
  go_ret
  exact ⟨by rw [HR.out];rfl,HB4.out⟩
 | false =>
  have HR:Hid (r=1):=Lib.hid (by rw [HCF.out,hl];rfl)
  go_wp2_with fail
  go_ret
  exact ⟨by rw [HR.out];rfl,HB4.out⟩
theorem sort_diff {a b:List (Str×Nd)} (ha:RightT Y a) (hb:RightT Y b) {l l':List ShC} (hl:l.map (·.1)=diffC Y a b) (hp:l'.Perm l) (hs:l'.Pairwise fun x y=>¬ cfD y x<0):l'.map (·.1)=sortL lessC [] (diffC Y a b):=by
 refine Zt.sortL_unique (Zt.diffC_keys ha hb) ?_ ?_
 ·rw [← hl];exact (hp.map _).symm
 ·refine List.pairwise_map.2 (hs.imp fun {x y} h h2=>h ?_)
  unfold cfD
  rw [if_pos h2]
  decide
set_option maxRecDepth 100000 in
set_option maxHeartbeats 16000000 in
theorem diff_calls (w:World) (hG:GL w) (A0:Option Addr) (c0:Nat) (l0:List S39) (hr0:Kd.C k39 w A0 l0.length l0) (hc0:l0.length≤c0) (hf0:rowFits' l0)
  (A1:Option Addr) (c1:Nat) (l1:List S39) (hr1:Kd.C k39 w A1 l1.length l1) (hc1:l1.length≤c1) (hf1:rowFits' l1) :
  Calls Tryz.prog 17 #[.slice A0 l0.length c0,.slice A1 l1.length c1] w fun e w'=>∃ v:Value,e=.returned (.tuple #[v,.bool (diffM Y (l0.map enOf) (l1.map enOf)).2]) ∧
   YtdacflloaehjeaaGreatDoor.Owr chCells 59 12 w.heap.size w' v (diffM Y (l0.map enOf) (l1.map enOf)).1∧Below w.heap.size w w':=by
 have HR0:=Lib.hid hr0
 have HR1:=Lib.hid hr1
 have HC0:=Lib.hid hc0
 have HC1:=Lib.hid hc1
 have HF0:=Lib.hid hf0
 have HF1:=Lib.hid hf1
 clear hr0 hr1 hc0 hc1 hf0 hf1
 obtain ⟨i0,hi,hz0,hz1,hz2⟩:=info_parts info_ch
 have HI0:=Lib.hid hi
 have HZ0:=Lib.hid hz0
 have HZ1:=Lib.hid hz1
 have HZ2:=Lib.hid hz2
 clear hi hz0 hz1 hz2
 obtain ⟨res,hres⟩:∃ res,res=diffM Y (l0.map enOf) (l1.map enOf):=⟨_,rfl⟩
 have HRES:=Lib.hid hres
 rw [← hres]
 clear hres
 have h49:=Tryz.underlying39
 have h31:=Tryz.underlying35
 go_enter Tryz.func17,Tryz.ntmps17
 go_wp2_with fail
 refine (tright_calls w hG A0 c0 l0 HR0.out HC0.out HF0.out.1 HF0.out.2).mono ?_
 rintro e w1 ⟨rfl,hb1⟩
 have HB1:=Lib.hid hb1
 clear hb1
 cases ht0:rightT Y (l0.map enOf) with
 | false =>
  have HE:Hid (res=([],false)):=Lib.hid (by rw [HRES.out];unfold diffM;rw [ht0];rfl)
  go_wp2_with fail
  all_goals
   go_ret2
   exact ⟨_,by rw [HE.out];rfl,by rw [HE.out];exact Owr.nil _ _ _ _ _,HB1.out⟩
 | true =>
 go_wp2_with fail
 refine (tright_calls w1 (hG.ext HB1.out) A1 c1 l1 (Kd.C_below HR1.out HB1.out) HC1.out HF1.out.1 HF1.out.2).mono ?_
 rintro e w2 ⟨rfl,hb2⟩
 have HB2:=Lib.hid (YtdacflloaehjeaaGreatDoor.below_then HB1.out hb2)
 clear hb2 HB1
 cases ht1:rightT Y (l1.map enOf) with
 | false =>
  have HE:Hid (res=([],false)):=Lib.hid (by rw [HRES.out];unfold diffM;rw [ht0,ht1];rfl)
  go_wp2_with fail
  all_goals
   go_ret2
   exact ⟨_,by rw [HE.out];rfl,by rw [HE.out];exact Owr.nil _ _ _ _ _,HB2.out⟩
 | true =>
 have HT0:=Lib.hid ((Zt.rightT_iff Y).1 ht0)
 have HT1:=Lib.hid ((Zt.rightT_iff Y).1 ht1)
 have HE:Hid (res=(sortL lessC [] (diffC Y (l0.map enOf) (l1.map enOf)),true)):=Lib.hid (by rw [HRES.out];unfold diffM;rw [ht0,ht1];rfl)
 clear ht0 ht1 HRES
 go_wp2_with fail
 refine (index_calls w2 A0 c0 l0 (Kd.C_below HR0.out HB2.out) (Zt.srt_ne HT0.out.srt) HF0.out.1 HF0.out.2).mono ?_
 rintro e w3 ⟨ba,rfl,_,hma,hb3⟩
 have HMA:=Lib.hid hma
 have HB3:=Lib.hid (YtdacflloaehjeaaGreatDoor.below_then HB2.out hb3)
 clear hma hb3 HB2
 go_wp2_with fail
 refine (index_calls w3 A1 c1 l1 (Kd.C_below HR1.out HB3.out) (Zt.srt_ne HT1.out.srt) HF1.out.1 HF1.out.2).mono ?_
 rintro e w4 ⟨bb,rfl,_,hmb,hb4⟩
 have HMB:=Lib.hid hmb
 have HMA4:=Lib.hid (HMA.out.ext hb4)
 have HB4:=Lib.hid (YtdacflloaehjeaaGreatDoor.below_then HB3.out hb4)
 have HK0:=Lib.hid (Kd.C_below HR0.out HB4.out)
 have HK1:=Lib.hid (Kd.C_below HR1.out HB4.out)
 clear hmb hb4 HB3 HMA HR0 HR1
 have hl0:=HF0.out.2
 have hl1:=HF1.out.2
 go_wp2_with fail
 go_loopg [8,34] (l0.length + 1) (fun gq v8 v34 wr=>∃ i:Nat,v34=.int .i64 i∧l0.length<gq + i∧Hid (i≤l0.length)∧Hid (YtdacflloaehjeaaGreatDoor.Owr chCells 59 12 w4.heap.size wr v8 (dA (l1.map enOf) ((l0.map enOf).take i)))∧Hid (Below w4.heap.size w4 wr))
 case atStart=>exact ⟨0,rfl,by omega,Lib.hid (by omega),Lib.hid (by rw [List.take_zero];exact Owr.nil _ _ _ _ _),Lib.hid (Below.refl _ _)⟩
 case round =>
  obtain ⟨i,rfl,hgi,HI,HO,HB⟩:=hrel
  by_cases hi:i<l0.length
  ·cases gk with
   | zero=>omega
   | succ g1 =>
    obtain ⟨ad,rfl,hat⟩:=e_at HK0.out i hi
    have HAT:=Lib.hid (hat.below HB.out)
    clear hat
    have HEF:=Lib.hid (fits_get HF0.out.1 (List.mem_map_of_mem (f:=enOf) (List.getElem_mem hi)))
    have hst:=dA_step (l1.map enOf) (l0.map enOf) i (by simpa using hi)
    have hdl:=dA_len (l1.map enOf) ((l0.map enOf).take i)
    rw [List.length_take,List.length_map] at hdl
    rw [List.getElem_map] at hst
    obtain ⟨e,hee⟩:∃ e,e=enOf l0[i]:=⟨_,rfl⟩
    rw [← hee] at HAT HEF hst
    obtain ⟨rw0,hrw0⟩:∃ r,r=dA (l1.map enOf) ((l0.map enOf).take i):=⟨_,rfl⟩
    rw [← hrw0] at HO hst hdl
    have HST:=Lib.hid hst
    have HDL:Hid (rw0.length≤1000000):=Lib.hid (by omega)
    have HII:Hid (i + 1≤l0.length):=Lib.hid hi
    clear hst hee hrw0 hdl
    obtain ⟨fb,hfb⟩:∃ f,f=getL (l1.map enOf):=⟨_,rfl⟩
    have HGB:Hid (goesB (l1.map enOf) e=(!(fb e.1).isSome && ((parM e.1).isEmpty || ((fb (parM e.1)).isSome && ((fb (parM e.1)).getD zeroN).kind == 1)))):=Lib.hid (by
     rw [hfb];unfold goesB folderL
     have h1:decide (parM e.1=PS.root)=(parM e.1).isEmpty:=by show decide (parM e.1=[])=_;cases parM e.1 <;> rfl
     rw [h1]
     cases getL (l1.map enOf) e.1 <;> cases getL (l1.map enOf) (parM e.1) <;> simp [Y]
     rfl)
    have HM:=Lib.hid (HMB.out.ext HB.out)
    rw [← hfb] at HM
    clear hfb
    go_wp2_with (first|((with_reducible refine gate_dst (N:=37) rfl ?_);refine wpList_load_agg rfl 39 _ rfl _ rfl (eCells e) _ HAT.out h49 rfl rfl ?_)|((with_reducible refine gate_dst (N:=10) rfl ?_);refine box_event rfl (N:=10) rfl (cs:=enZero) (t:=39) ?hr ?_;(case hr=>first|(go_simp;done)|(go_simp;rfl));intro g10 hg w5 hb2 hbl2;have HGE_g10:Hid (wr.heap.size≤g10):=Lib.hid (by rw [hg];exact Nat.le_refl _);have HB_g10:=Lib.hid hb2;have HBL_g10:=Lib.hid hbl2;clear hg hb2 hbl2)|((with_reducible refine gate_store (t:=39) (p:=10) rfl ?_);refine wpList_store_agg rfl rfl 39 _ _ rfl g10 (eCells e).toArray rfl rfl 39 enZero HB_g10.out rfl rfl (eCells_all _) ?_;intro w6 hb3 hg3;have HC_g10:=Lib.hid hb3;have HBW_g10:Hid (Below wr.heap.size wr w6):=Lib.hid (HBL_g10.out.grown hg3 HBL_g10.out.size (fun j hj=>by cases hj;exact HGE_g10.out));clear hb3 hg3 HB_g10 HBL_g10 HGE_g10;have q0:=(lies_of HC_g10.out) 0 _ rfl;simp only [Addr.add_mid,Nat.zero_add] at q0))
    refine (par_c w6 e.1 HEF.out.1).mono ?_
    rintro x w7 ⟨rfl,hb7⟩
    have HBW7:Hid (Below wr.heap.size wr w7):=Lib.hid (YtdacflloaehjeaaGreatDoor.below_then HBW_g10.out hb7)
    have HE7:=Lib.hid (blk_below HC_g10.out hb7)
    clear hb7 q0
    have hlk:=(HM.out.ext HBW7.out).lookT Tryz.underlying60 (s:=parM e.1) (by have:=(part_len e.1).1;have:=HEF.out.1;omega)
    obtain ⟨v1,hv1⟩:∃ v,v=(fb (parM e.1)).getD zeroN:=⟨_,rfl⟩
    obtain ⟨i1,hi1⟩:∃ v,v=(fb (parM e.1)).isSome:=⟨_,rfl⟩
    obtain ⟨v2,hv2⟩:∃ v,v=(fb e.1).getD zeroN:=⟨_,rfl⟩
    obtain ⟨i2,hi2⟩:∃ v,v=(fb e.1).isSome:=⟨_,rfl⟩
    rw [← hv1,← hi1] at hlk HGB
    rw [← hi2] at HGB
    have HV2:=Lib.hid hv2
    have HI2:=Lib.hid hi2
    clear hv1 hi1 hv2 hi2
    go_upto_region 10 with (first|((with_reducible refine gate_dst (N:=12) rfl ?_);refine box_event rfl (N:=12) rfl (cs:=ndZero) (t:=35) ?hr ?_;(case hr=>first|(go_simp;done)|(go_simp;rfl));intro g12 hg w8 hb2 hbl2;have HGE_g12:Hid (w7.heap.size≤g12):=Lib.hid (by rw [hg];exact Nat.le_refl _);have HB_g12:=Lib.hid hb2;have HBL_g12:=Lib.hid hbl2;clear hg hb2 hbl2)|((with_reducible refine gate_store (t:=35) (p:=12) rfl ?_);refine wpList_store_agg rfl rfl 35 _ _ rfl g12 (ndCells v1).toArray rfl rfl 35 ndZero HB_g12.out rfl rfl (ndCells_all _) ?_;intro w9 hb3 hg3;have HC_g12:=Lib.hid hb3;have HBW_g12:Hid (Below w7.heap.size w7 w9):=Lib.hid (HBL_g12.out.grown hg3 HBL_g12.out.size (fun j hj=>by cases hj;exact HGE_g12.out));clear hb3 hg3 HB_g12 HBL_g12 HGE_g12))
    clear hlk
    have HBW9:Hid (Below wr.heap.size wr w9):=Lib.hid (YtdacflloaehjeaaGreatDoor.below_then HBW7.out HBW_g12.out)
    have HE9:=Lib.hid (blk_below HE7.out HBW_g12.out)
    have q9:=(lies_of HE9.out) 0 _ rfl
    simp only [Addr.add_mid,Nat.zero_add] at q9
    have hlk:=(HM.out.ext HBW9.out).lookT Tryz.underlying60 (s:=e.1) (by have:=HEF.out.1;omega)
    rw [← HV2.out,← HI2.out] at hlk
    go_upto_region 11 with (first|((with_reducible refine gate_dst (N:=14) rfl ?_);refine box_event rfl (N:=14) rfl (cs:=ndZero) (t:=35) ?hr ?_;(case hr=>first|(go_simp;done)|(go_simp;rfl));intro g14 hg w10 hb2 hbl2;have HGE_g14:Hid (w9.heap.size≤g14):=Lib.hid (by rw [hg];exact Nat.le_refl _);have HB_g14:=Lib.hid hb2;have HBL_g14:=Lib.hid hbl2;clear hg hb2 hbl2)|((with_reducible refine gate_store (t:=35) (p:=14) rfl ?_);refine wpList_store_agg rfl rfl 35 _ _ rfl g14 (ndCells v2).toArray rfl rfl 35 ndZero HB_g14.out rfl rfl (ndCells_all _) ?_;intro w11 hb3 hg3;have HC_g14:=Lib.hid hb3;have HBW_g14:Hid (Below w9.heap.size w9 w11):=Lib.hid (HBL_g14.out.grown hg3 HBL_g14.out.size (fun j hj=>by cases hj;exact HGE_g14.out));clear hb3 hg3 HB_g14 HBL_g14 HGE_g14))
    clear hlk q9
    have HBW11:Hid (Below wr.heap.size wr w11):=Lib.hid (YtdacflloaehjeaaGreatDoor.below_then HBW9.out HBW_g14.out)
    have HE11:=Lib.hid (blk_below HE9.out HBW_g14.out)
    have HV11:=Lib.hid (blk_below HC_g12.out HBW_g14.out)
    have q11:=(lies_of HV11.out) 0 _ rfl
    have qe:=(lies_of HE11.out) 0 _ rfl
    simp only [Addr.add_mid,Nat.zero_add] at q11 qe
    have HOW:=Lib.hid (HO.out.ext HBW11.out)
    have HBB:Hid (Below w4.heap.size w4 w11):=Lib.hid (YtdacflloaehjeaaGreatDoor.below_then HB.out HBW11.out)
    clear HC_g12 HC_g14 HC_g10 HBW_g12 HBW_g14 HBW_g10 HE7 HE9 HBW7 HBW9 HV11 HV2 HI2 HAT HM HO HB
    generalize hcnd:goesB (l1.map enOf) e=cnd at HST HGB
    clear hcnd
    go_cut [67] (fun v wc=>v=.bool cnd∧wc=w11)
    case first =>
     cases i2 with
     | true =>
      go_wp2_with fail
      go_meet
      exact ⟨by rw [HGB.out];rfl,rfl⟩
     | false =>
      cases hpe:(parM e.1).isEmpty with
      | true =>
       have hp0:parM e.1=[]:=by simpa using hpe
       go_wp2_with fail
       go_meet
       exact ⟨by rw [HGB.out,hp0];rfl,rfl⟩
      | false =>
       cases i1 with
       | false =>
        go_wp2_with fail
        go_meet
        exact ⟨by rw [HGB.out,hpe];rfl,rfl⟩
       | true =>
        go_wp2_with fail
        go_meet
        exact ⟨by rw [HGB.out,hpe];simp,rfl⟩
    case rest =>
    obtain ⟨rfl,rfl⟩:=hcut
    cases cnd with
    | false =>
     go_wp2_with fail
     go_roundg g1
     case measure=>omega
     case rel=>exact ⟨i + 1,by go_num,by omega,HII,Lib.hid (by rw [HST.out];simpa using HOW.out),HBB⟩
    | true =>
     have HO:=HOW
     have hlen:=HDL.out
     go_wp2_with (first|((with_reducible refine gate_dst (N:=71) rfl ?_);refine build_event rfl (N:=71) rfl 59 _ rfl (chCells ⟨e.1,1,zeroN⟩).toArray (by kernel_rfl) ?_;go_frame)|((with_reducible refine gate_dst (N:=72) rfl ?_);refine row_event rfl (N:=72) rfl (cs:=(chCells ⟨e.1,1,zeroN⟩).toArray) (t:=59) (n:=1) (by kernel_rfl) ?_;intro gr hg wq hb hbl;have HBR:=Lib.hid hb;have HBLR:=Lib.hid hbl;clear hg hb hbl;go_frame)|(at_builtin;refine wpList_append_one rfl _ _ 25 rfl w4.heap.size 59 12 128 i0 (.agg chZero) Tryz.underlying25 HI0.out HZ0.out HZ1.out HZ2.out rfl (by decide) chC_len chC_one _ rw0 rfl (HO.out.ext HBLR.out) ⟨e.1,1,zeroN⟩ gr 1 rfl ?c1 ?c2 ?c3 ?c4 ?_))
     case c1=>intro j u hu;rw [YtdacflloaehjeaaGreatDoor.blk_cell HBR.out j];simpa using hu
     case c2=>have:=HDL.out;unfold maxLen;omega
     case c3=>have:=HDL.out;omega
     case c4=>exact Nat.le_trans HBB.out.size HBLR.out.size
     intro v' w12 ho' hg'
     have HO7:Hid (YtdacflloaehjeaaGreatDoor.Owr chCells 59 12 w4.heap.size w12 v' (dA (l1.map enOf) ((l0.map enOf).take (i + 1)))):=Lib.hid (by rw [HST.out];exact ho')
     have HB7:Hid (Below w4.heap.size w4 w12):=Lib.hid ((YtdacflloaehjeaaGreatDoor.below_then HBB.out HBLR.out).grown hg' (Nat.le_trans HBB.out.size HBLR.out.size) (fun j hj=>(World.ownsRow.lt HO.out j hj).1))
     clear ho' hg'
     go_wp2_with fail
     go_roundg g1
     case measure=>omega
     case rel=>exact ⟨i + 1,by go_num,by omega,HII,HO7,HB7⟩
  ·have he:i=l0.length:=by have:=HI.out;omega
   subst he
   have ho1:=HO.out
   rw [List.take_of_length_le (by simp)] at ho1
   have HO1:=Lib.hid ho1
   clear ho1
   have hdA:=dA_len (l1.map enOf) (l0.map enOf)
   rw [List.length_map] at hdA
   obtain ⟨ra,hra⟩:∃ r,r=dA (l1.map enOf) (l0.map enOf):=⟨_,rfl⟩
   rw [← hra] at HO1 hdA
   have HRA:=Lib.hid hra
   have HDA:Hid (ra.length≤1000000):=Lib.hid (by omega)
   clear hra hdA HO HI hgi hi
   go_wp2_with fail
   go_loopg [8,77] (l1.length + 1) (fun gq v8 v77 wr=>∃ i:Nat,v77=.int .i64 i∧l1.length<gq + i∧Hid (i≤l1.length)∧Hid (YtdacflloaehjeaaGreatDoor.Owr chCells 59 12 w4.heap.size wr v8 (ra ++ dB (l0.map enOf) ((l1.map enOf).take i)))∧Hid (Below w4.heap.size w4 wr))
   case atStart=>exact ⟨0,rfl,by omega,Lib.hid (by omega),Lib.hid (by rw [List.take_zero];show YtdacflloaehjeaaGreatDoor.Owr _ _ _ _ _ _ (ra ++ []);rw [List.append_nil];exact HO1.out),HB⟩
   case round =>
    clear HO1 HB
    obtain ⟨i,rfl,hgi,HI,HO,HB⟩:=hrel
    by_cases hi:i<l1.length
    ·cases gk with
     | zero=>omega
     | succ g1 =>
      obtain ⟨ad,rfl,hat⟩:=e_at HK1.out i hi
      have HAT:=Lib.hid (hat.below HB.out)
      clear hat
      have HEF:=Lib.hid (fits_get HF1.out.1 (List.mem_map_of_mem (f:=enOf) (List.getElem_mem hi)))
      have hst:=dB_step (l0.map enOf) (l1.map enOf) i (by simpa using hi)
      have hdl:=dB_len (l0.map enOf) ((l1.map enOf).take i)
      rw [List.length_take,List.length_map] at hdl
      rw [List.getElem_map] at hst
      obtain ⟨e,hee⟩:∃ e,e=enOf l1[i]:=⟨_,rfl⟩
      rw [← hee] at HAT HEF hst
      obtain ⟨rw0,hrw0⟩:∃ r,r=ra ++ dB (l0.map enOf) ((l1.map enOf).take i):=⟨_,rfl⟩
      have hst2:ra ++ dB (l0.map enOf) ((l1.map enOf).take (i + 1))=rw0 ++ (if setB (l0.map enOf) e=true then [⟨e.1,0,e.2⟩] else []):=by rw [hst,hrw0,List.append_assoc]
      rw [← hrw0] at HO
      have HST:=Lib.hid hst2
      have HDL:Hid (rw0.length≤2000000):=Lib.hid (by rw [hrw0,List.length_append];have:=HDA.out;omega)
      have HII:Hid (i + 1≤l1.length):=Lib.hid hi
      clear hst hst2 hee hrw0 hdl
      obtain ⟨fa,hfa⟩:∃ f,f=getL (l0.map enOf):=⟨_,rfl⟩
      have HSB:Hid (setB (l0.map enOf) e=(!(fa e.1).isSome || !decide ((fa e.1).getD zeroN=e.2))):=Lib.hid (by
       rw [hfa];unfold setB
       cases getL (l0.map enOf) e.1 <;> simp)
      have HM:=Lib.hid (HMA4.out.ext HB.out)
      rw [← hfa] at HM
      clear hfa
      go_upto_region 17 with (first|((with_reducible refine gate_dst (N:=80) rfl ?_);refine wpList_load_agg rfl 39 _ rfl _ rfl (eCells e) _ HAT.out h49 rfl rfl ?_)|((with_reducible refine gate_dst (N:=17) rfl ?_);refine box_event rfl (N:=17) rfl (cs:=enZero) (t:=39) ?hr ?_;(case hr=>first|(go_simp;done)|(go_simp;rfl));intro g17 hg w5 hb2 hbl2;have HGE_g17:Hid (wr.heap.size≤g17):=Lib.hid (by rw [hg];exact Nat.le_refl _);have HB_g17:=Lib.hid hb2;have HBL_g17:=Lib.hid hbl2;clear hg hb2 hbl2)|((with_reducible refine gate_store (t:=39) (p:=17) rfl ?_);refine wpList_store_agg rfl rfl 39 _ _ rfl g17 (eCells e).toArray rfl rfl 39 enZero HB_g17.out rfl rfl (eCells_all _) ?_;intro w6 hb3 hg3;have HC_g17:=Lib.hid hb3;have HBW_g17:Hid (Below wr.heap.size wr w6):=Lib.hid (HBL_g17.out.grown hg3 HBL_g17.out.size (fun j hj=>by cases hj;exact HGE_g17.out));clear hb3 hg3 HB_g17 HBL_g17 HGE_g17;have q0:=(lies_of HC_g17.out) 0 _ rfl;simp only [Addr.add_mid,Nat.zero_add] at q0))
      have hlk:=(HM.out.ext HBW_g17.out).lookT Tryz.underlying60 (s:=e.1) (by have:=HEF.out.1;omega)
      obtain ⟨v1,hv1⟩:∃ v,v=(fa e.1).getD zeroN:=⟨_,rfl⟩
      obtain ⟨i1,hi1⟩:∃ v,v=(fa e.1).isSome:=⟨_,rfl⟩
      rw [← hv1,← hi1] at hlk HSB
      clear hv1 hi1
      go_upto_region 18 with (first|((with_reducible refine gate_dst (N:=18) rfl ?_);refine box_event rfl (N:=18) rfl (cs:=ndZero) (t:=35) ?hr ?_;(case hr=>first|(go_simp;done)|(go_simp;rfl));intro g18 hg w7 hb2 hbl2;have HGE_g18:Hid (w6.heap.size≤g18):=Lib.hid (by rw [hg];exact Nat.le_refl _);have HB_g18:=Lib.hid hb2;have HBL_g18:=Lib.hid hbl2;clear hg hb2 hbl2)|((with_reducible refine gate_store (t:=35) (p:=18) rfl ?_);refine wpList_store_agg rfl rfl 35 _ _ rfl g18 (ndCells v1).toArray rfl rfl 35 ndZero HB_g18.out rfl rfl (ndCells_all _) ?_;intro w8 hb3 hg3;have HC_g18:=Lib.hid hb3;have HBW_g18:Hid (Below w6.heap.size w6 w8):=Lib.hid (HBL_g18.out.grown hg3 HBL_g18.out.size (fun j hj=>by cases hj;exact HGE_g18.out));clear hb3 hg3 HB_g18 HBL_g18 HGE_g18))
      clear hlk q0
      have HBW8:Hid (Below wr.heap.size wr w8):=Lib.hid (YtdacflloaehjeaaGreatDoor.below_then HBW_g17.out HBW_g18.out)
      have HE8:=Lib.hid (blk_below HC_g17.out HBW_g18.out)
      have HEN:Hid (LiesAt w8 ⟨g17,1,none⟩ (ndCells e.2)):=Lib.hid (fun j v hv=>by
       have:=(lies_of HE8.out) (1 + j) v (by rw [Nat.add_comm];exact hv)
       rw [Addr.add_mid,Nat.zero_add] at this
       rw [Addr.add_mid];exact this)
      have HVN:=Lib.hid (lies_of HC_g18.out)
      have qe:=(lies_of HE8.out) 0 _ rfl
      simp only [Addr.add_mid,Nat.zero_add] at qe
      have HOW:=Lib.hid (HO.out.ext HBW8.out)
      have HBB:Hid (Below w4.heap.size w4 w8):=Lib.hid (YtdacflloaehjeaaGreatDoor.below_then HB.out HBW8.out)
      clear HC_g17 HC_g18 HBW_g17 HBW_g18 HBW8 HAT HM HO HB HE8
      generalize hcnd:setB (l0.map enOf) e=cnd at HST HSB
      clear hcnd
      go_cut [95] (fun v wc=>v=.bool cnd∧wc=w8)
      case first =>
       cases i1 with
       | false =>
        go_wp2_with fail
        go_meet
        exact ⟨by rw [HSB.out];rfl,rfl⟩
       | true =>
        go_wp2_with (first|((with_reducible refine gate_dst (N:=91) rfl ?_);refine wpList_load_agg rfl 35 _ rfl _ rfl (ndCells v1) _ HVN.out h31 rfl rfl ?_;go_frame)|((with_reducible refine gate_dst (N:=93) rfl ?_);refine wpList_load_agg rfl 35 _ rfl _ rfl (ndCells e.2) _ HEN.out h31 rfl rfl ?_;go_frame))
        go_meet
        exact ⟨by rw [HSB.out];rfl,rfl⟩
      case rest =>
      obtain ⟨rfl,rfl⟩:=hcut
      cases cnd with
      | false =>
       go_wp2_with fail
       go_roundg g1
       case measure=>omega
       case rel=>exact ⟨i + 1,by go_num,by omega,HII,Lib.hid (by rw [HST.out];simpa using HOW.out),HBB⟩
      | true =>
       have HO:=HOW
       have hlen:=HDL.out
       go_wp2_with (first|((with_reducible refine gate_dst (N:=100) rfl ?_);refine wpList_load_agg rfl 35 _ rfl _ rfl (ndCells e.2) _ HEN.out h31 rfl rfl ?_)|((with_reducible refine gate_dst (N:=101) rfl ?_);refine build_event rfl (N:=101) rfl 59 _ rfl (chCells ⟨e.1,0,e.2⟩).toArray (by kernel_rfl) ?_;go_frame)|((with_reducible refine gate_dst (N:=102) rfl ?_);refine row_event rfl (N:=102) rfl (cs:=(chCells ⟨e.1,0,e.2⟩).toArray) (t:=59) (n:=1) (by kernel_rfl) ?_;intro gr hg wq hb hbl;have HBR:=Lib.hid hb;have HBLR:=Lib.hid hbl;clear hg hb hbl;go_frame)|(at_builtin;refine wpList_append_one rfl _ _ 25 rfl w4.heap.size 59 12 128 i0 (.agg chZero) Tryz.underlying25 HI0.out HZ0.out HZ1.out HZ2.out rfl (by decide) chC_len chC_one _ rw0 rfl (HO.out.ext HBLR.out) ⟨e.1,0,e.2⟩ gr 1 rfl ?c1 ?c2 ?c3 ?c4 ?_))
       case c1=>intro j u hu;rw [YtdacflloaehjeaaGreatDoor.blk_cell HBR.out j];simpa using hu
       case c2=>have:=HDL.out;unfold maxLen;omega
       case c3=>have:=HDL.out;omega
       case c4=>exact Nat.le_trans HBB.out.size HBLR.out.size
       intro v' w12 ho' hg'
       have HO7:Hid (YtdacflloaehjeaaGreatDoor.Owr chCells 59 12 w4.heap.size w12 v' (ra ++ dB (l0.map enOf) ((l1.map enOf).take (i + 1)))):=Lib.hid (by rw [HST.out];exact ho')
       have HB7:Hid (Below w4.heap.size w4 w12):=Lib.hid ((YtdacflloaehjeaaGreatDoor.below_then HBB.out HBLR.out).grown hg' (Nat.le_trans HBB.out.size HBLR.out.size) (fun j hj=>(World.ownsRow.lt HO.out j hj).1))
       clear ho' hg'
       go_wp2_with fail
       go_roundg g1
       case measure=>omega
       case rel=>exact ⟨i + 1,by go_num,by omega,HII,HO7,HB7⟩
    ·have he:i=l1.length:=by have:=HI.out;omega
     subst he
     have ho1:=HO.out
     rw [List.take_of_length_le (by simp),HRA.out,← diffC_parts] at ho1
     have HO1:=Lib.hid ho1
     clear ho1
     obtain ⟨lc,hlc⟩:∃ lc:List ShC,lc.map (·.1)=diffC Y (l0.map enOf) (l1.map enOf):=⟨(diffC Y (l0.map enOf) (l1.map enOf)).pmap (fun x h=>⟨x,h⟩) (diffC_short HF0.out.1 HF1.out.1),by rw [List.map_pmap];simp⟩
     have hll:lc.length≤2000000:=by
      have h1:lc.length=(diffC Y (l0.map enOf) (l1.map enOf)).length:=by rw [← hlc,List.length_map]
      have h2:=dA_len (l1.map enOf) (l0.map enOf)
      have h3:=dB_len (l0.map enOf) (l1.map enOf)
      rw [diffC_parts,List.length_append] at h1
      rw [List.length_map] at h2 h3
      omega
     have HSRT:=Lib.hid (sortC_calls 47 cfD swo_D (fun args w=>enters_ Tryz.func47 (by kernel_rfl) rfl args w) wr w4 HB.out (fun w1 hb x y=>cmpD_calls w1 (hG.ext (YtdacflloaehjeaaGreatDoor.below_then HB4.out hb)) x y) _ lc (by rw [hlc];exact HO1.out) (by omega))
     have HLC:=Lib.hid hlc
     clear HO HI hgi hi hlc hll
     go_wp2_with fail
     refine HSRT.out.mono ?_
     rintro e w13 ⟨rfl,l',hp,hs,ho,hb⟩
     have hso:=sort_diff HT0.out HT1.out HLC.out hp (hs.imp fun h=>Int.not_lt.2 h)
     rw [hso] at ho
     have HOF:=Lib.hid ho
     have HBF:=Lib.hid (YtdacflloaehjeaaGreatDoor.below_then HB4.out hb)
     clear hp hs ho hb hso
     go_wp2_with fail
     go_ret2
     exact ⟨_,by rw [HE.out];rfl,by rw [HE.out];exact own_chweaken HOF.out HB4.out.size,HBF.out⟩
end Go.Proofs.Zq
end
section
namespace Go.Proofs.Zq
open Go.RowKit Go.WideMaps Go.Maps Go.Proofs.YtdacflloaehjeaaGreatDoor Go.Proofs.Zw.PrintWords Go.Proofs.Zw.PrintLast Go.Proofs.Zw.PrintMore
abbrev enVal (e:Str×Nd):Value:=.agg (eCells e).toArray
theorem laid_out:laidOutB Tryz.prog=true:=by kernel_rfl
theorem enLaw:KeyLaw Tryz.prog 39:=deep_law_laid laid_out (m:=3) (by omega) (of_decide_eq_true (by kernel_rfl)) (by kernel_rfl) (by rw [Tryz.underlying39])
def NdWf (n:Nd):Prop:=(Lit.int .i64 n.kind).wf=true∧(Lit.int .i64 n.mode).wf=true∧(Lit.int .i64 n.uid).wf=true∧(Lit.int .i64 n.gid).wf=true∧(Lit.int .i64 n.mtime).wf=true∧(Lit.int .i64 n.major).wf=true∧(Lit.int .i64 n.minor).wf=true
def EnOk (e:Str×Nd):Prop:=∃ kl,keyOf Tryz.prog 39 (enVal e)=some kl
theorem lits_str (d:Nat) (s:Str) (h:s.length≤1000000000):Tryz.prog.keyLits (d + 1) 9 [.string (B s)]=some [.string s]:=by
 unfold Program.keyLits
 rw [Tryz.underlying9]
 have:(B s).size≤maxLen:=by show s.toArray.size≤maxLen;unfold maxLen;simp;omega
 simp [this,B]
theorem lits_int (d:Nat) (x:Int) (h:(Lit.int .i64 x).wf=true):Tryz.prog.keyLits (d + 1) 3 [.int .i64 x]=some [.int .i64 x]:=by
 unfold Program.keyLits
 rw [Tryz.underlying3]
 simp [h]
theorem lits_nd (d:Nat) (n:Nd) (h:NdWf n) (h1:n.link.length≤1000000000) (h2:n.data.length≤1000000000) (h3:n.attrs.length≤1000000000) :
  ∃ ls,Tryz.prog.keyLits (d + 2) 35 (ndCells n)=some ls:=by
 obtain ⟨w0,w1,w2,w3,w4,w7,w8⟩:=h
 have hI:Tryz.prog.cellsOf 3=1:=by kernel_rfl
 have hS:Tryz.prog.cellsOf 9=1:=by kernel_rfl
 have hN:Tryz.prog.cellsOf 35=10:=by kernel_rfl
 refine ⟨[.int .i64 n.kind,.int .i64 n.mode,.int .i64 n.uid,.int .i64 n.gid,.int .i64 n.mtime,.string n.link,.string n.data,.int .i64 n.major,.int .i64 n.minor,.string n.attrs],?_⟩
 unfold Program.keyLits
 rw [Tryz.underlying35]
 simp only [hN,ndCells]
 simp [hI,hS,lits_int _ _ w0,lits_int _ _ w1,lits_int _ _ w2,lits_int _ _ w3,lits_int _ _ w4,lits_int _ _ w7,lits_int _ _ w8,lits_str _ _ h1,lits_str _ _ h2,lits_str _ _ h3]
theorem enOk_of {e:Str×Nd} (h:e.1.length≤1000000000) (hw:NdWf e.2) (h1:e.2.link.length≤1000000000) (h2:e.2.data.length≤1000000000) (h3:e.2.attrs.length≤1000000000):EnOk e:=by
 have hN:Tryz.prog.cellsOf 35=10:=by kernel_rfl
 have hS:Tryz.prog.cellsOf 9=1:=by kernel_rfl
 have hE:Tryz.prog.cellsOf 39=11:=by kernel_rfl
 have hkt:Tryz.prog.keyType 39=true:=by kernel_rfl
 have hsz:∃ d,Tryz.prog.types.size=d + 3:=⟨Tryz.prog.types.size - 3,by have:3≤Tryz.prog.types.size:=of_decide_eq_true (by kernel_rfl);omega⟩
 obtain ⟨d,hd⟩:=hsz
 obtain ⟨ls,hls⟩:=lits_nd (d + 1) e.2 hw h1 h2 h3
 refine ⟨.string (keyBytes (.string e.1 :: ls)),?_⟩
 unfold keyOf
 rw [Tryz.underlying39]
 have hf:(enVal e).formed Tryz.prog 39=true:=by
  simp only [Value.formed,Tryz.underlying39,hE]
  rfl
 simp only [hkt,hf,Bool.and_self,if_true,hd]
 have:Tryz.prog.keyLits (d + 3 + 1) 39 (enVal e).cells.toList=some (.string e.1 :: ls):=by
  unfold Program.keyLits
  rw [Tryz.underlying39]
  simp only [hE,Value.cells,eCells]
  simp [hN,hS,lits_str _ _ h]
  refine ⟨by simp [ndCells],?_⟩
  have e1:(ndCells e.2).take 10=ndCells e.2:=List.take_of_length_le (by simp [ndCells])
  have e2:Tryz.prog.keyLits (d + 3) 35 (ndCells e.2)=some ls:=hls
  rw [e1,e2]
  simp
 rw [this]
 rfl
def EnMap (w:World) (b n:Nat) (f:Str×Nd→Nat):Prop :=
 ∃ D:DataW Unit,w.ownsMap Tryz.prog 39 (plainElem Tryz.prog 3) b n D∧IsMap D∧∀ (e:Str×Nd) (kl:Lit),keyOf Tryz.prog 39 (enVal e)=some kl→D.atKey kl (.lit (.int .i64 0))=.lit (.int .i64 (f e))
theorem EnMap.made (w:World):EnMap (w.alloc (.map #[] 0)) w.heap.size 0 (fun _=>0) :=
 ⟨.map [],World.ownsMap_made _ _ _ _,isMap_empty,fun _ _ _=>rfl⟩
theorem EnMap.lt {w:World} {b n:Nat} {f:Str×Nd→Nat} (h:EnMap w b n f):b<w.heap.size:=let ⟨_,h1,_⟩:=h;h1.lt
theorem EnMap.ext {w w':World} {b n:Nat} {f:Str×Nd→Nat} (h:EnMap w b n f) (hb:Below w.heap.size w w'):EnMap w' b n f :=
 let ⟨D,h1,h2,h3⟩:=h;⟨D,h1.kept (row:=none) ⟨hb.os,hb.tape,hb.output,hb.size,fun k hk _=>hb.block k hk⟩ (by simp),h2,h3⟩
theorem EnMap.drew {w:World} {b n:Nat} {f:Str×Nd→Nat} (h:EnMap w b n f):EnMap w.drew b n f:=h
theorem EnMap.look {w:World} {b n:Nat} {f:Str×Nd→Nat} (h:EnMap w b n f) {e:Str×Nd} (he:EnOk e) :
  (Instr.lookup 67 (.map (some b)) (enVal e) false).run Tryz.prog w=.ok (.int .i64 (f e)) w:=by
 obtain ⟨D,h1,h2,h3⟩:=h
 obtain ⟨kl,hkl⟩:=he
 obtain ⟨c,hrun,hat,_⟩:=h1.lookup_int (Keyed.of_law enLaw) Tryz.underlying67 Tryz.underlying3 (zeroInt _) hkl
 rw [hrun]
 rw [h3 e kl hkl] at hat
 simp only [DataW.lit.injEq,Lit.int.injEq,true_and] at hat
 rw [hat]
theorem enVal_inj {a b:Str×Nd} (h:enVal a=enVal b):a=b:=by
 obtain ⟨a1,a2⟩:=a
 obtain ⟨b1,b2⟩:=b
 have h':eCells (a1,a2)=eCells (b1,b2):=by
  have:=congrArg (fun v=>match v with|.agg cs=>cs.toList|_=>[]) h
  simpa using this
 have e1:B a1=B b1:=by
  have:=congrArg (fun l=>l[0]?) h'
  simpa [eCells] using this
 have e2:ndCells a2=ndCells b2:=by
  have:=congrArg (fun l=>l.drop 1) h'
  simpa [eCells] using this
 have e3:a1=b1:=by
  have:=congrArg (fun s:ByteArray=>s.data.toList) e1
  simpa [B] using this
 have e4:a2=b2:=ndVal_inj (by unfold ndVal;rw [e2])
 rw [e3,e4]
theorem setBlock_self {w:World} {b:Nat} {o:Obj} (h:w.heap[b]?=some o):Go.ChangeMaps.setBlock w b o=w:=by
 unfold Go.ChangeMaps.setBlock
 have:w.heap.setIfInBounds b o=w.heap:=by
  apply Array.ext_getElem?
  intro i
  rw [Array.getElem?_setIfInBounds]
  split
  ·rename_i e;subst e;split <;> simp_all
  ·rfl
 rw [this]
theorem EnMap.mono {w:World} {b n m:Nat} {f:Str×Nd→Nat} (h:EnMap w b n f) (hn:n≤m):EnMap w b m f:=let ⟨D,h1,h2,h3⟩:=h;⟨D,h1.mono hn,h2,h3⟩
theorem EnMap.entry {w:World} {b n:Nat} {f:Str×Nd→Nat} (h:EnMap w b n f) (hn:n≤1000000000) {e:Str×Nd} (he:EnOk e) (hf:f e≤1000000000) :
  ∃ (v0:Value) (st:Nat) (w1:World),(Instr.mapEntry 67 (.map (some b)) (enVal e)).run Tryz.prog w=.ok (.tuple #[v0,.int .i64 st]) w1∧EnMap w1 b (n + 1) f∧w.grownBy w1 (some b) ∧
   ∃ w2,(Instr.entryStore 67 (.map (some b)) (.int .i64 st) (.int .i64 ((f e + 1:Nat):Int))).run Tryz.prog w1=.ok () w2∧EnMap w2 b (n + 1) (fun x=>if x=e then f e + 1 else f x)∧w.grownBy w2 (some b):=by
 have hE:=h
 obtain ⟨D,h1,h2,h3⟩:=h
 obtain ⟨kl,hkl⟩:=he
 have hup:=fun (c:Nat) (hc:c≤9223372036854775807)=>h1.update (Keyed.of_law enLaw) Tryz.underlying67 (by unfold maxLen;omega) hkl (plainElem_int (H:=Unit) Tryz.underlying3 (wf_nat hc))
 obtain ⟨w2,hrun,hown,hg⟩:=hup (f e + 1) (by omega)
 obtain ⟨es,clock,hb,F,hs,hD⟩:=h1
 obtain ⟨v0,st,es1,clock1,hent,_,hst⟩:=Go.WideElems.entry_then_store enLaw Tryz.underlying67 (fun u=>zeroInt u) hb F hkl
 have hbl:b<w.heap.size:=(Array.getElem?_eq_some_iff.1 hb).1
 obtain ⟨es',clock',hs1,hs2⟩:=hst (Go.ChangeMaps.setBlock w b (.map es1 clock1)) (.int .i64 ((f e + 1:Nat):Int)) (by
  show (w.heap.setIfInBounds b _)[b]?=_
  rw [Array.getElem?_setIfInBounds_self_of_lt hbl])
 rw [hs2] at hrun
 injection hrun with _ hrun
 have e1:Go.ChangeMaps.setBlock (Go.ChangeMaps.setBlock w b (.map es1 clock1)) b (.map es' clock')=w2:=by
  rw [← hrun]
  unfold Go.ChangeMaps.setBlock
  simp
 have key:EnMap (Go.ChangeMaps.setBlock w b (.map es1 clock1)) b (n + 1) f∧w.grownBy (Go.ChangeMaps.setBlock w b (.map es1 clock1)) (some b):=by
  rcases enLaw.find w hkl es.toList F.keys with ⟨q1,q2⟩|⟨j,e0,q1,q2,q3⟩
  ·have hz:(Instr.mapEntry 67 (.map (some b)) (enVal e)).run Tryz.prog w=.ok (.tuple #[.int .i64 0,goInt clock]) (Go.ChangeMaps.setBlock w b (.map (es.push ⟨enVal e,.int .i64 0,clock⟩) (clock + 1))):=by
    simp [Instr.mapEntry,run_underlying Tryz.underlying67,MapKept.run_getObj_map hb,enLaw.check w false hkl,q1,zeroInt,MapKept.run_setObj_map _ hb,Result.andThen,Go.ChangeMaps.setBlock]
   have hm:(Instr.mapUpdate 67 (.map (some b)) (enVal e) (.int .i64 ((0:Nat):Int))).run Tryz.prog w=.ok () (Go.ChangeMaps.setBlock w b (.map (es.push ⟨enVal e,.int .i64 0,clock⟩) (clock + 1))):=by
    simp [Instr.mapUpdate,run_underlying Tryz.underlying67,MapKept.run_getObj_map hb,enLaw.check w false hkl,q1,MapKept.run_setObj_map _ hb,Result.andThen,Go.ChangeMaps.setBlock]
   rw [hent] at hz
   injection hz with _ hz
   obtain ⟨w3,r3,o3,g3⟩:=hup 0 (by omega)
   rw [hm] at r3
   injection r3 with _ r3
   have hf0:f e=0:=by
    rcases Maps.fit_look false (Keyed.of_law enLaw) Tryz.underlying67 (zeroInt w) hb F hkl with ⟨_,_,hat⟩|⟨x0,y,hm0,k3,_⟩
    ·have:=h3 e kl hkl
     rw [hD,hat] at this
     simpa using this.symm
    ·exact absurd k3 (q2 x0 hm0)
   rw [hz,r3]
   refine ⟨⟨_,o3,h2.put _ _,fun x kx hx=>?_⟩,g3⟩
   by_cases hxe:x=e
   ·subst hxe
    rw [hkl] at hx
    obtain rfl:=Option.some.inj hx
    rw [atKey_put_same h2 ((Keyed.of_law enLaw).key hkl),hf0]
   ·have hne:kx≠kl:=fun hk=>hxe (enVal_inj (enLaw.inj (l:=kl) (by rw [hx,hk]) hkl))
    rw [atKey_put_other hne,h3 x kx hx]
  ·have hj:es[j]?=some e0:=by simpa using q2
   have hsame:es.modify j (fun y=>{ y with key:=enVal e })=es:=by
    apply Array.ext'
    rw [Array.toList_modify,Go.ChangeMaps.modify_eq_set _ _ _ _ q2]
    have:({ e0 with key:=enVal e }:MapEntry)=e0:=by rw [← q3]
    rw [this]
    exact Go.WideElems.set_self _ _ _ q2
   have hz:(Instr.mapEntry 67 (.map (some b)) (enVal e)).run Tryz.prog w=.ok (.tuple #[e0.val,goInt e0.born]) (Go.ChangeMaps.setBlock w b (.map es clock)):=by
    simp [Instr.mapEntry,run_underlying Tryz.underlying67,MapKept.run_getObj_map hb,enLaw.check w false hkl,q1,hj,q3,enLaw.stays w hkl,hsame,MapKept.run_setObj_map _ hb,Result.andThen,Go.ChangeMaps.setBlock]
   rw [hent] at hz
   injection hz with _ hz
   rw [hz,setBlock_self hb]
   exact ⟨hE.mono (Nat.le_succ n),⟨rfl,rfl,rfl,Nat.le_refl _,fun _ _ _=>rfl⟩⟩
 refine ⟨v0,st,_,hent,key.1,key.2,_,hs1,?_⟩
 rw [e1]
 refine ⟨⟨_,hown,h2.put _ _,fun x kx hx=>?_⟩,hg⟩
 by_cases hxe:x=e
 ·subst hxe
  rw [hkl] at hx
  obtain rfl:=Option.some.inj hx
  show _=DataW.lit (Lit.int IntKind.i64 ((if x=x then f x + 1 else f x:Nat):Int))
  rw [if_pos rfl,atKey_put_same h2 ((Keyed.of_law enLaw).key hkl)]
 ·show _=DataW.lit (Lit.int IntKind.i64 ((if x=e then f e + 1 else f x:Nat):Int))
  have hne:kx≠kl:=fun hk=>hxe (enVal_inj (enLaw.inj (l:=kl) (by rw [hx,hk]) hkl))
  rw [if_neg hxe,atKey_put_other hne,h3 x kx hx]
end Go.Proofs.Zq
end
section
namespace Go.Proofs.Zq
open Go.RowKit Go.WideMaps Go.Maps Go.Proofs.YtdacflloaehjeaaGreatDoor Go.Proofs.Zw.PrintWords Go.Proofs.Zw.PrintLast Go.Proofs.Zw.PrintMore
open Go.Proofs.Zt (getL bothM bothL allM rightT RightT parM PS)
theorem es_at {w:World} {A:Option Addr} {xs:List (List S39)} (h:Kd.C (Kd.slice 39 k39) w A xs.length xs) (i:Nat) (hi:i<xs.length) :
  ∃ ad A0 c0,A=some ad∧w.cell? (ad.add i)=some (.slice A0 xs[i].length c0)∧xs[i].length≤c0∧Kd.C k39 w A0 xs[i].length xs[i]:=by
 obtain ⟨ad,c,e,_,hK,hc0⟩:=Kd.C_get h ([]:List S39) (i:Int) (by omega) (by omega)
 have hc:∀ j u,c[j]?=some u→w.cell? (ad.add (i * 1 + j))=some u:=hc0
 have hd:xs.getD ((i:Nat):Int).toNat []=xs[i]:=by
  rw [show ((i:Nat):Int).toNat=i from rfl,List.getD_eq_getElem?_getD,List.getElem?_eq_getElem hi];rfl
 rw [hd] at hK
 obtain ⟨A0,c0,rfl,l0,g0⟩:=hK
 exact ⟨ad,A0,c0,e,by have hq:=hc 0 _ rfl;rwa [Nat.mul_one,Nat.add_zero] at hq,l0,g0⟩
theorem both1_calls (w:World) (hG:GL w) (A:Option Addr) (c:Nat) (l:List S39) (hr:Kd.C k39 w A l.length l) (hc:l.length≤c) (hf:rowFits' l) :
  Calls Tryz.prog 54 #[.slice A l.length c] w fun e w'=>e=.returned (.bool (!rightT Y (l.map enOf)))∧Below w.heap.size w w':=by
 have HC:=Lib.hid (tright_calls w hG A c l hr hc hf.1 hf.2)
 clear hr hc hf
 go_enter Tryz.func54,Tryz.ntmps54
 go_wp2_with fail
 refine HC.out.mono ?_
 rintro e w1 ⟨rfl,hb⟩
 have HB:=Lib.hid hb
 clear hb
 go_wp2_with fail
 go_ret
 exact ⟨rfl,HB.out⟩
set_option maxRecDepth 100000 in
theorem notree_calls (w:World) (hG:GL w) (A:Option Addr) (c:Nat) (xs:List (List S39)) (hS:Kd.C (Kd.slice 39 k39) w A xs.length xs) (hn:xs.length≤1000000) (hf:∀ l ∈ xs,rowFits' l) :
  Calls Tryz.prog 84 #[.slice A xs.length c,.func (.func 54) #[] #[]] w fun e w'=>∃ r:Int,e=.returned (.int .i64 r)∧((r = -1∧∀ l ∈ xs,rightT Y (l.map enOf)=true)∨(0≤r∧∃ l ∈ xs,rightT Y (l.map enOf)=false))∧Below w.heap.size w w':=by
 have HS:=Lib.hid hS
 have HN:=Lib.hid hn
 have HF:=Lib.hid hf
 clear hS hn hf
 go_enter Tryz.func84,Tryz.ntmps84
 go_wp2
 go_loopg [8] (xs.length + 1) (fun gq v wr=>∃ i:Nat,v=.int .i64 i∧xs.length<gq + i∧Hid (i≤xs.length)∧Hid (∀ l ∈ xs.take i,rightT Y (l.map enOf)=true)∧Hid (Below w.heap.size w wr))
 case atStart=>exact ⟨0,rfl,by omega,Lib.hid (by omega),Lib.hid (fun l h=>by simp at h),Lib.hid (Below.refl _ _)⟩
 case round =>
  obtain ⟨i,rfl,hgi,HI,HT,HB⟩:=hrel
  by_cases hi:i<xs.length
  ·cases gk with
   | zero=>omega
   | succ g1 =>
    obtain ⟨ad,A1,c1,rfl,hc,hl1,hk1⟩:=es_at HS.out i hi
    have HC:=Lib.hid (both1_calls wr (hG.ext HB.out) A1 c1 xs[i] (Kd.C_below hk1 HB.out) hl1 (HF.out _ (List.getElem_mem hi)))
    have q1:=pw_cell_below HB.out hc
    have HII:Hid (i + 1≤xs.length):=Lib.hid hi
    have hnn:=HN.out
    clear hc hl1 hk1
    go_wp2_with fail
    refine HC.out.mono ?_
    rintro x w2 ⟨rfl,hb⟩
    have HB2:=Lib.hid (YtdacflloaehjeaaGreatDoor.below_then HB.out hb)
    clear hb q1 HC
    cases hr:rightT Y (xs[i].map enOf) with
    | false =>
     have HX:Hid (∃ l ∈ xs,rightT Y (l.map enOf)=false):=Lib.hid ⟨_,List.getElem_mem hi,hr⟩
     go_wp2_with fail
     go_ret
     exact ⟨_,rfl,.inr ⟨by omega,HX.out⟩,HB2.out⟩
    | true =>
     have HT2:Hid (∀ l ∈ xs.take (i + 1),rightT Y (l.map enOf)=true):=Lib.hid (fun l hl=>by
      rw [List.take_succ_eq_append_getElem hi] at hl
      rcases List.mem_append.1 hl with h|h
      ·exact HT.out l h
      ·rw [List.mem_singleton.1 h];exact hr)
     clear hr
     go_wp2_with fail
     go_roundg g1
     case measure=>omega
     case rel=>exact ⟨i + 1,by go_num,by omega,HII,HT2,HB2⟩
  ·have he:i=xs.length:=by have:=HI.out;omega
   subst he
   go_wp2_with fail
   go_ret
   exact ⟨-1,rfl,.inl ⟨rfl,by have:=HT.out;rwa [List.take_of_length_le (Nat.le_refl _)] at this⟩,HB.out⟩
theorem anyno_calls (w:World) (hG:GL w) (A:Option Addr) (c:Nat) (xs:List (List S39)) (hS:Kd.C (Kd.slice 39 k39) w A xs.length xs) (hn:xs.length≤1000000) (hf:∀ l ∈ xs,rowFits' l) :
  Calls Tryz.prog 53 #[.slice A xs.length c,.func (.func 54) #[] #[]] w fun e w'=>e=.returned (.bool (!(xs.map (List.map enOf)).all (rightT Y)))∧Below w.heap.size w w':=by
 have HC:=Lib.hid (notree_calls w hG A c xs hS hn hf)
 clear hS hn hf
 go_enter Tryz.func53,Tryz.ntmps53
 go_wp2_with fail
 refine HC.out.mono ?_
 rintro e w1 ⟨r,rfl,hr,hb⟩
 have HB:=Lib.hid hb
 clear hb HC
 rcases hr with ⟨rfl,hall⟩|⟨h0,l,hl,hno⟩
 ·have HA:Hid ((xs.map (List.map enOf)).all (rightT Y)=true):=Lib.hid (by rw [List.all_eq_true];intro x hx;obtain ⟨l,hl,rfl⟩:=List.mem_map.1 hx;exact hall l hl)
  clear hall
  go_wp2_with fail
  go_ret
  exact ⟨by rw [HA.out];rfl,HB.out⟩
 ·have HA:Hid ((xs.map (List.map enOf)).all (rightT Y)=false):=Lib.hid (by rw [List.all_eq_false];exact ⟨_,List.mem_map_of_mem hl,by rw [hno];simp⟩)
  have hq:decide ((0:Int)≤r)=true:=by simpa using h0
  clear hl hno
  go_wp2_with fail
  go_ret
  exact ⟨by rw [HA.out];rfl,HB.out⟩
def cntT (ts:List (List (Str×Nd))) (e:Str×Nd):Nat:=(ts.map (List.count e)).sum
theorem count_right {t:List (Str×Nd)} (h:RightT Y t) (e:Str×Nd):t.count e=if getL t e.1=some e.2 then 1 else 0:=by
 have hnd:t.Nodup:=(Zt.srt_ne h.srt).imp fun hne e=>hne (by rw [e])
 by_cases hm:e ∈ t
 ·rw [if_pos (h.srt.get hm),hnd.count,if_pos hm]
 ·rw [if_neg (fun hg=>hm (Zt.getL_mem hg)),hnd.count,if_neg hm]
theorem cnt_le (ts:List (List (Str×Nd))) (h:∀ t ∈ ts,RightT Y t) (e:Str×Nd):cntT ts e≤ts.length:=by
 unfold cntT
 induction ts with
 | nil=>simp
 | cons t r ih =>
  have:=ih (fun x hx=>h x (by simp [hx]))
  rw [List.map_cons,List.sum_cons,List.length_cons,count_right (h t (by simp))]
  split <;> omega
theorem cnt_all (ts:List (List (Str×Nd))) (h:∀ t ∈ ts,RightT Y t) (e:Str×Nd):((cntT ts e:Int) == (ts.length:Int))=allM ts e:=by
 have:cntT ts e=ts.length↔allM ts e=true:=by
  unfold allM
  induction ts with
  | nil=>simp [cntT]
  | cons t r ih =>
   have h1:=ih (fun x hx=>h x (by simp [hx]))
   have h2:=cnt_le r (fun x hx=>h x (by simp [hx])) e
   have h3:cntT (t :: r) e=t.count e + cntT r e:=by simp [cntT]
   rw [h3,count_right (h t (by simp)),List.length_cons,List.all_cons,Bool.and_eq_true,← h1,decide_eq_true_eq]
   by_cases hg:getL t e.1=some e.2
   ·rw [if_pos hg];simp [hg];omega
   ·rw [if_neg hg];simp [hg];omega
 rw [Bool.eq_iff_iff,← this]
 simp;omega
theorem cnt_step (xs:List (List S39)) (i:Nat) (hi:i<xs.length) (x:Str×Nd):cntT ((xs.map (List.map enOf)).take (i + 1)) x=cntT ((xs.map (List.map enOf)).take i) x + (xs[i].map enOf).count x:=by
 unfold cntT
 rw [List.take_succ_eq_append_getElem (by simpa using hi),List.map_append,List.sum_append,List.getElem_map]
 simp
theorem count_step (l:List S39) (j:Nat) (hj:j<l.length) (x:Str×Nd):((l.map enOf).take (j + 1)).count x=((l.map enOf).take j).count x + if x=enOf l[j] then 1 else 0:=by
 rw [List.take_succ_eq_append_getElem (by simpa using hj),List.count_append,List.getElem_map,List.count_singleton]
 by_cases hxe:x=enOf l[j]
 ·simp [hxe]
 ·have:¬ enOf l[j]=x:=fun h=>hxe h.symm
  simp [hxe,this]
theorem cnt_bound (ts:List (List (Str×Nd))) (e:Str×Nd) (b:Nat) (h:∀ t ∈ ts,t.length≤b):cntT ts e≤ts.length * b:=by
 unfold cntT
 induction ts with
 | nil=>simp
 | cons t r ih =>
  have h1:=ih (fun x hx=>h x (by simp [hx]))
  have h2:=h t (by simp)
  have h3:t.count e≤t.length:=List.count_le_length
  rw [List.map_cons,List.sum_cons,List.length_cons,Nat.succ_mul]
  omega
def keptF (out:List (Str×Nd)) (key:Str):Nat:=if key=[]∨(getL out key).isSome=true then 1 else 0
theorem kept_nil (key:Str):keptF [] key=if key == [] then 1 else (fun _=>0) key:=by
 unfold keptF
 by_cases h:key=[]
 ·simp [h]
 ·simp [h,getL]
theorem kept_snoc (out:List (Str×Nd)) (e:Str×Nd) (key:Str):keptF (out ++ [e]) key=if key == e.1 then 1 else keptF out key:=by
 unfold keptF
 rw [Zt.getL_append]
 by_cases h:key=e.1
 ·subst h
  cases getL out e.1 <;> simp [getL]
 ·have h':¬ e.1=key:=fun e=>h e.symm
  cases getL out key <;> simp [getL,h,h']
theorem kept_pos (out:List (Str×Nd)) (key:Str):decide ((0:Int)<(keptF out key:Int))=(decide (key=[]) || (getL out key).isSome):=by
 unfold keptF
 by_cases h:key=[]
 ·simp [h]
 ·cases getL out key <;> simp [h]
theorem EnMap.grown {w w':World} {b n:Nat} {f:Str×Nd→Nat} {row:Option Nat} (h:EnMap w b n f) (hg:w.grownBy w' row) (hne:some b≠row):EnMap w' b n f :=
 let ⟨D,h1,h2,h3⟩:=h;⟨D,h1.kept hg hne,h2,h3⟩
theorem cntMap_grown {w w':World} {b n:Nat} {f:Str→Nat} {row:Option Nat} (h:CntMap w b n f) (hg:w.grownBy w' row) (hne:some b≠row):CntMap w' b n f :=
 let ⟨D,h1,h2,h3⟩:=h;⟨D,h1.kept hg hne,h2,h3⟩
theorem EnMap.congr {w:World} {b n:Nat} {f g:Str×Nd→Nat} (h:EnMap w b n f) (e:∀ x,g x=f x):EnMap w b n g:=by rw [show g=f from funext e];exact h
theorem cnt_more {w:World} {b n:Nat} {f:Str→Nat} (h:CntMap w b n f):CntMap w b (n + 1) f:=let ⟨D,h1,h2,h3⟩:=h;⟨D,h1.mono (Nat.le_succ n),h2,h3⟩
theorem ens_drop (l:List S39) (i:Nat) (hi:i<l.length):(l.map enOf).drop i=enOf l[i] :: (l.map enOf).drop (i + 1):=by
 rw [List.drop_eq_getElem_cons (by simpa using hi),List.getElem_map]
theorem own_eweaken {base0 base:Nat} {w:World} {v:Value} {l:List (Str×Nd)} (h:YtdacflloaehjeaaGreatDoor.Owr eCells 39 11 base w v l) (hb:base0≤base):YtdacflloaehjeaaGreatDoor.Owr eCells 39 11 base0 w v l:=by
 refine ⟨h.1,?_⟩
 rcases h.2 with h|⟨g,cap,cur,h1,h2,h3⟩
 ·exact .inl h
 ·exact .inr ⟨g,cap,cur,h1,Nat.le_trans hb h2,h3⟩
set_option maxRecDepth 100000 in
set_option maxHeartbeats 16000000 in
theorem both_calls (w:World) (hG:GL w) (A:Option Addr) (c:Nat) (xs:List (List S39)) (hS:Kd.C (Kd.slice 39 k39) w A xs.length xs) (hn:xs.length≤100) (hf:∀ l ∈ xs,rowFits' l) (hok:∀ l ∈ xs,∀ x ∈ l,EnOk (enOf x)) :
  Calls Tryz.prog 22 #[.slice A xs.length c] w fun e w'=>∃ v:Value,e=.returned v∧YtdacflloaehjeaaGreatDoor.Owr eCells 39 11 w.heap.size w' v (bothM Y (xs.map (List.map enOf)))∧Below w.heap.size w w':=by
 have HS:=Lib.hid hS
 have HN:=Lib.hid hn
 have HF:=Lib.hid hf
 have HOK:=Lib.hid hok
 have HC:=Lib.hid (anyno_calls w hG A c xs hS (by omega) hf)
 clear hS hf hok
 have hmm:=@run_makeMap Tryz.prog
 have h49:=Tryz.underlying39
 obtain ⟨i0,hi,hz0,hz1,hz2⟩:=info_parts info_en
 have HI0:=Lib.hid hi
 have HZ0:=Lib.hid hz0
 have HZ1:=Lib.hid hz1
 have HZ2:=Lib.hid hz2
 clear hi hz0 hz1 hz2
 obtain ⟨res,hres⟩:∃ res,res=bothM Y (xs.map (List.map enOf)):=⟨_,rfl⟩
 have HRES:=Lib.hid hres
 rw [← hres]
 clear hres
 by_cases hx0:xs=[]
 ·subst hx0
  have HE:Hid (res=[]):=Lib.hid HRES.out
  clear HC
  go_enter Tryz.func22,Tryz.ntmps22
  go_wp2_with fail
  go_ret
  exact ⟨_,rfl,by rw [HE.out];exact Owr.nil _ _ _ _ _,Below.refl _ _⟩
 have hlen0:0<xs.length:=List.length_pos_iff.2 hx0
 have hq0:((xs.length:Int) == 0)=false:=by simp;omega
 go_enter Tryz.func22,Tryz.ntmps22
 go_wp2_with fail
 refine HC.out.mono ?_
 rintro e w1 ⟨rfl,hb1⟩
 have HB1:=Lib.hid hb1
 clear hb1 HC
 cases hall:(xs.map (List.map enOf)).all (rightT Y) with
 | false =>
  have HE:Hid (res=[]):=Lib.hid (by
   rw [HRES.out]
   cases hxs:xs.map (List.map enOf) with
   | nil=>rfl
   | cons t r=>rw [hxs] at hall;unfold bothM;simp only [hall];rfl)
  go_wp2_with fail
  go_ret
  exact ⟨_,rfl,by rw [HE.out];exact Owr.nil _ _ _ _ _,HB1.out⟩
 | true =>
 have HRT:Hid (∀ t ∈ xs.map (List.map enOf),RightT Y t):=Lib.hid (fun t ht=>(Zt.rightT_iff Y).1 (List.all_eq_true.1 hall t ht))
 obtain ⟨t0,rest0,hxs⟩:∃ t0 r,xs=t0 :: r:=by cases xs with|nil=>exact absurd rfl hx0|cons a b=>exact ⟨a,b,rfl⟩
 have HE:Hid (res=bothL PS (allM (xs.map (List.map enOf))) [] (t0.map enOf)):=Lib.hid (by
  rw [HRES.out]
  rw [hxs,List.map_cons] at hall ⊢
  unfold bothM
  simp only [hall]
  rfl)
 have HXS:=Lib.hid hxs
 clear hall HRES hxs
 have HMK:Hid (EnMap (w1.alloc (.map #[] 0)) w1.heap.size 0 (fun _=>0)):=Lib.hid (EnMap.made w1)
 have HBA:Hid (Below w.heap.size w (w1.alloc (.map #[] 0))):=Lib.hid (HB1.out.alloc HB1.out.size _)
 obtain ⟨gm,hgm⟩:∃ gm,gm=w1.heap.size:=⟨_,rfl⟩
 have HBM:Hid (w.heap.size≤gm):=Lib.hid (by rw [hgm];exact HB1.out.size)
 rw [← hgm] at HMK
 go_wp2
 rw [← hgm]
 clear hgm
 generalize w1.alloc (.map #[] 0)=w2 at HMK HBA ⊢
 clear HB1
 have HRL:Hid (∀ l ∈ xs,l.length≤1000000):=Lib.hid (fun l hl=>(HF.out l hl).2)
 go_loopg [22] (xs.length + 1) (fun gq v wr=>∃ i:Nat,v=.int .i64 i∧xs.length<gq + i∧Hid (i≤xs.length)∧Hid (EnMap wr gm (i * 1000000) (cntT ((xs.map (List.map enOf)).take i)))∧Hid (Below w.heap.size w wr))
 case atStart=>exact ⟨0,rfl,by omega,Lib.hid (by omega),Lib.hid (HMK.out.congr (fun x=>by simp [cntT])),HBA⟩
 case round =>
  clear HMK HBA hmm
  obtain ⟨i,rfl,hgi,HI,HM,HB⟩:=hrel
  by_cases hi:i<xs.length
  ·cases gk with
   | zero=>omega
   | succ g1 =>
    obtain ⟨ad,A1,c1,rfl,hc,hl1,hk1⟩:=es_at HS.out i hi
    have q1:=pw_cell_below HB.out hc
    have HK1:=Lib.hid hk1
    have HXI:=Lib.hid (HRL.out _ (List.getElem_mem hi))
    have HOI:=Lib.hid (HOK.out _ (List.getElem_mem hi))
    have hst:=cnt_step xs i hi
    have HBD:Hid (∀ x,cntT ((xs.map (List.map enOf)).take i) x≤100 * 1000000):=Lib.hid (fun x=>by
     refine Nat.le_trans (cnt_bound _ x 1000000 (fun t ht=>?_)) (Nat.mul_le_mul_right _ ?_)
     ·obtain ⟨l,hl,rfl⟩:=List.mem_map.1 (List.mem_of_mem_take ht)
      rw [List.length_map];exact HRL.out l hl
     ·rw [List.length_take];omega)
    have HST:=Lib.hid hst
    clear hst
    obtain ⟨l,hl⟩:∃ l,l=xs[i]:=⟨_,rfl⟩
    rw [← hl] at q1 HK1 HXI HOI HST
    have HII:Hid (i + 1≤xs.length):=Lib.hid hi
    obtain ⟨F,hF⟩:∃ F,F=cntT ((xs.map (List.map enOf)).take i):=⟨_,rfl⟩
    obtain ⟨F',hF'⟩:∃ F,F=cntT ((xs.map (List.map enOf)).take (i + 1)):=⟨_,rfl⟩
    rw [← hF] at HM HBD HST
    rw [← hF'] at HST
    have HF':=Lib.hid hF'
    clear hl hF hF' hc hl1 hk1
    have hnn:=HN.out
    have hli:=HXI.out
    go_wp2_with fail
    clear q1
    go_loopg [28] (l.length + 1) (fun gq v wq=>∃ j:Nat,v=.int .i64 j∧l.length<gq + j∧Hid (j≤l.length)∧Hid (EnMap wq gm (i * 1000000 + j) (fun x=>F x + ((l.map enOf).take j).count x))∧Hid (Below w.heap.size w wq))
    case atStart=>exact ⟨0,rfl,by omega,Lib.hid (by omega),Lib.hid (by rw [Nat.add_zero];exact HM.out.congr (fun x=>by simp)),HB⟩
    case round =>
     clear HM HB
     obtain ⟨j,rfl,hgj,HJ,HM,HB⟩:=hrel
     by_cases hj:j<l.length
     ·cases gk with
      | zero=>omega
      | succ g2 =>
       obtain ⟨ae,rfl,hat⟩:=e_at HK1.out j hj
       have HAT:=Lib.hid (hat.below HB.out)
       have HEO:=Lib.hid (HOI.out _ (List.getElem_mem hj))
       have hs2:=count_step l j hj
       have hcl:∀ x,((l.map enOf).take j).count x≤1000000:=fun x=>Nat.le_trans List.count_le_length (by rw [List.length_take];have:=HXI.out;simp;omega)
       obtain ⟨e,hee⟩:∃ e,e=enOf l[j]:=⟨_,rfl⟩
       rw [← hee] at HAT HEO hs2
       have HJJ:Hid (j + 1≤l.length):=Lib.hid hj
       have HS2:=Lib.hid hs2
       have HCL:=Lib.hid hcl
       clear hat hs2 hcl hee
       have HBMW:Hid (gm<wr.heap.size):=Lib.hid HM.out.lt
       go_upto_region 10 with (first|((with_reducible refine gate_dst (N:=31) rfl ?_);refine wpList_load_agg rfl 39 _ rfl _ rfl (eCells e) _ HAT.out h49 rfl rfl ?_)|((with_reducible refine gate_dst (N:=7) rfl ?_);refine box_event rfl (N:=7) rfl (cs:=enZero) (t:=39) ?hr ?_;(case hr=>first|(go_simp;done)|(go_simp;rfl));intro g7 hg w5 hb2 hbl2;have HGE_g7:Hid (wr.heap.size≤g7):=Lib.hid (by rw [hg];exact Nat.le_refl _);have HB_g7:=Lib.hid hb2;have HBL_g7:=Lib.hid hbl2;have HGB:Hid (wr.heap.size≤g7):=Lib.hid (by rw [hg];exact Nat.le_refl _);clear hg hb2 hbl2)|((with_reducible refine gate_store (t:=39) (p:=7) rfl ?_);refine wpList_store_agg rfl rfl 39 _ _ rfl g7 (eCells e).toArray rfl rfl 39 enZero HB_g7.out rfl rfl (eCells_all _) ?_;intro w6 hb3 hg3;have HC_g7:=Lib.hid hb3;have HBW_g7:Hid (Below wr.heap.size wr w6):=Lib.hid (HBL_g7.out.grown hg3 HBL_g7.out.size (fun j hj=>by cases hj;exact HGE_g7.out));clear hb3 hg3 HB_g7 HBL_g7 HGE_g7))
       have HM6:=Lib.hid (HM.out.ext HBW_g7.out)
       have HB6:=Lib.hid (YtdacflloaehjeaaGreatDoor.below_then HB.out HBW_g7.out)
       clear HM HAT
       obtain ⟨m0,hm0⟩:∃ m,m=F e + ((l.map enOf).take j).count e:=⟨_,rfl⟩
       have hmb:m0≤101 * 1000000:=by have h1:=HBD.out e;have h2:=HCL.out e;omega
       have HLK:Hid ((Instr.lookup 67 (.map (some gm)) (enVal e) false).run Tryz.prog w6.drew=.ok (.int .i64 m0) w6.drew):=Lib.hid (by rw [hm0];exact HM6.out.drew.look HEO.out)
       obtain ⟨v0,st,w7,hent,hm7,hg7,w8,hsto,hm8,hg8⟩:=HM6.out.drew.entry (by have:=HXI.out;omega) HEO.out (by show F e + ((l.map enOf).take j).count e≤_;omega)
       have HLK7:Hid ((Instr.lookup 67 (.map (some gm)) (enVal e) false).run Tryz.prog w7=.ok (.int .i64 m0) w7):=Lib.hid (by rw [hm0];exact hm7.look HEO.out)
       have HC7:Hid (w7.heap[g7]?=some (.cells (eCells e).toArray 39 (0,0))):=Lib.hid ((hg7.block g7 (Go.Proofs.Zw.PrintWords.blk_lt HC_g7.out) (fun h=>by cases h;have h1:=HGB.out;have h2:=HBMW.out;omega)).trans HC_g7.out)
       have HAG:Hid (∀ w',(w'=w6.drew∨w'=w7)→LiesAt w' ⟨g7,0,none⟩ (eCells e)):=Lib.hid (fun w' hb=>hb.elim (fun h=>by rw [h];exact lies_of (w:=w6.drew) HC_g7.out) (fun h=>by rw [h];exact lies_of HC7.out))
       have hm0':F e + ((l.map enOf).take j).count e=m0:=hm0.symm
       rw [hm0'] at hsto
       rw [show ((m0 + 1:Nat):Int)=(m0:Int) + 1 from by omega] at hsto
       have hw1:Go.RowKit.wrap64 ((m0:Int) + 1)=((m0 + 1:Nat):Int):=by rw [wrap_in (by omega) (by omega)];omega
       have HENT:=Lib.hid hent
       have HSTO:=Lib.hid hsto
       have HM8:Hid (EnMap w8 gm (i * 1000000 + (j + 1)) (fun x=>F x + ((l.map enOf).take (j + 1)).count x)):=Lib.hid (by rw [← Nat.add_assoc];exact hm8.congr (fun x=>by
        rw [HS2.out x]
        show _=if x=e then F e + ((l.map enOf).take j).count e + 1 else F x + ((l.map enOf).take j).count x
        by_cases hxe:x=e
        ·subst hxe;rw [if_pos rfl,if_pos rfl];omega
        ·rw [if_neg hxe,if_neg hxe];omega))
       have HB8:Hid (Below w.heap.size w w8):=Lib.hid (HB6.out.drew.grown hg8 HB6.out.size (fun k hk=>by cases hk;exact HBM.out))
       clear hent hsto hm8 hg8 hm0' hm0 HM6 HB6 HB
       refine start_ (n:=7) (S:=fun w'=>w'=w6.drew∨w'=w7) (ds:=[6]) (ms 7 0) (by kernel_rfl) rfl rfl (.inl rfl) (fun hHeld=>?_)
       (refine pU 0 32 ?_ (ms 7 1) rfl rfl (by kernel_rfl) (fun _ _ _=>id) (by rfl) ?_ ?_ ?_ ?_;rotate_left;(intro w';go_simp;with_reducible rfl);rotate_left;(simp only [aP,i64_w,i32_w];rfl))
       refine take_ (i:=1) (N:=some 33) (v:=.agg (eCells e).toArray) (a':=?_) (ms 7 2) rfl rfl (by kernel_rfl) (fun _ _ _ h=>h) (yi_agg (by rfl) 39 _ rfl _ rfl _ _ HAG.out h49 rfl rfl) hHeld ?_ ?_
       rotate_left
       ·(simp only [aP,i64_w,i32_w];rfl)
       refine two_ (i:=2) (j:=4) (Ni:=some 34) (Nj:=some 36) (ms 7 3) (bm 7 19) rfl rfl rfl rfl (by kernel_rfl) (by decide) (by decide) (fun K hK=>?_) (fun K hK=>?_)
       ·refine value_ (v:=.int .i64 m0) (w1:=w6.drew) (by rfl) rfl (by have hlk:=HLK.out;go_simp) ?_
        refine hK.out _ _ (.inl rfl) (fun hHeld=>?_)
        clear hK K
        refine norm_ (a':=?_) ?_ ?_
        rotate_left
        ·show Act.put _ (some 34) _=_
         (simp only [aP,i64_w,i32_w];rfl)
        (refine pU 3 35 ?_ (ms 7 4) rfl rfl (by kernel_rfl) (fun _ _ _=>id) (by rfl) ?_ ?_ ?_ ?_;rotate_left;(intro w';go_simp;with_reducible rfl);rotate_left;(simp only [aP,i64_w,i32_w];rfl))
        refine one_ (i:=4) (N:=some 36) (ms 7 5) rfl rfl (by kernel_rfl) (by decide) (fun K hK=>?_)
        refine value_ (v:=.tuple #[v0,.int .i64 st]) (w1:=w7) (by rfl) rfl (by have hent:=HENT.out;go_simp) ?_
        refine hK.out _ _ (.inr rfl) (fun hHeld=>?_)
        clear hK K
        refine norm_ (a':=?_) ?_ ?_
        rotate_left
        ·show Act.put _ (some 36) _=_
         (simp only [aP,i64_w,i32_w];rfl)
        (refine pU 5 37 ?_ (ms 7 6) rfl rfl (by kernel_rfl) (fun _ _ _=>id) (by rfl) ?_ ?_ ?_ ?_;rotate_left;(intro w';go_simp;with_reducible rfl);rotate_left;(simp only [aP,i64_w,i32_w];rfl))
        refine last_ (i:=6) (N:=none) (ms 7 7) rfl rfl (by kernel_rfl) (by decide) (fun K hK=>?_)
        refine skip_ (w1:=w8) (by rfl) rfl (by have hsto:=HSTO.out;go_simp) ?_
        refine hK.out _ _ ?_
        clear hK K
        refine done_ (by kernel_rfl) ?_
        go_wp2_with fail
        go_roundg g2
        case measure=>omega
        case rel=>exact ⟨j + 1,by go_num,by omega,HJJ,HM8,HB8⟩
       ·refine value_ (v:=.tuple #[v0,.int .i64 st]) (w1:=w7) (by rfl) rfl (by have hent:=HENT.out;go_simp) ?_
        refine hK.out _ _ (.inr rfl) (fun hHeld=>?_)
        clear hK K
        refine norm_ (a':=?_) ?_ ?_
        rotate_left
        ·show Act.put _ (some 36) _=_
         (simp only [aP,i64_w,i32_w];rfl)
        (refine pU 5 37 ?_ (bm 7 51) rfl rfl (by kernel_rfl) (fun _ _ _=>id) (by rfl) ?_ ?_ ?_ ?_;rotate_left;(intro w';go_simp;with_reducible rfl);rotate_left;(simp only [aP,i64_w,i32_w];rfl))
        refine one_ (i:=2) (N:=some 34) (bm 7 55) rfl rfl (by kernel_rfl) (by decide) (fun K hK=>?_)
        refine value_ (v:=.int .i64 m0) (w1:=w7) (by rfl) rfl (by have hlk:=HLK7.out;go_simp) ?_
        refine hK.out _ _ (.inr rfl) (fun hHeld=>?_)
        clear hK K
        refine norm_ (a':=?_) ?_ ?_
        rotate_left
        ·show Act.put _ (some 34) _=_
         (simp only [aP,i64_w,i32_w];rfl)
        (refine pU 3 35 ?_ (ms 7 6) rfl rfl (by kernel_rfl) (fun _ _ _=>id) (by rfl) ?_ ?_ ?_ ?_;rotate_left;(intro w';go_simp;with_reducible rfl);rotate_left;(simp only [aP,i64_w,i32_w];rfl))
        refine last_ (i:=6) (N:=none) (ms 7 7) rfl rfl (by kernel_rfl) (by decide) (fun K hK=>?_)
        refine skip_ (w1:=w8) (by rfl) rfl (by have hsto:=HSTO.out;go_simp) ?_
        refine hK.out _ _ ?_
        clear hK K
        refine done_ (by kernel_rfl) ?_
        go_wp2_with fail
        go_roundg g2
        case measure=>omega
        case rel=>exact ⟨j + 1,by go_num,by omega,HJJ,HM8,HB8⟩
     ·have he:j=l.length:=by have:=HJ.out;omega
      subst he
      have HMN:Hid (EnMap wr gm ((i + 1) * 1000000) (cntT ((xs.map (List.map enOf)).take (i + 1)))):=Lib.hid (by
       rw [← HF'.out]
       refine (HM.out.mono (by have:=HXI.out;omega)).congr (fun x=>?_)
       rw [HST.out x,List.take_of_length_le (by simp)])
      clear HM
      go_wp2_with fail
      go_roundg g1
      case measure=>omega
      case rel=>exact ⟨i + 1,by go_num,by omega,HII,HMN,HB⟩
  ·have he:i=xs.length:=by have:=HI.out;omega
   subst he
   have HMC:Hid (EnMap wr gm (xs.length * 1000000) (cntT (xs.map (List.map enOf)))):=Lib.hid (by have:=HM.out;rwa [List.take_of_length_le (by simp)] at this)
   have HBMW:Hid (gm<wr.heap.size):=Lib.hid HM.out.lt
   clear HM HI hgi hi
   obtain ⟨ad,A1,c1,rfl,hc,hl1,hk1⟩:=es_at HS.out 0 hlen0
   have ht0:xs[0]=t0:=by simp [HXS.out]
   rw [ht0] at hc hl1 hk1
   have HC0:=Lib.hid hc
   have HK1:=Lib.hid hk1
   clear hc hl1 hk1 ht0
   have hnn:=HN.out
   obtain ⟨bk,hbk⟩:∃ bk,bk=wr.heap.size:=⟨_,rfl⟩
   have hmm:=@run_makeMap Tryz.prog
   go_wp2_with (first|(refine wpList_cnt_in rfl rfl _ _ _ rfl wr.heap.size 0 _ rfl (CntMap.made wr) (by omega) [] 1 rfl rfl (by simp) (by omega) _ kept_nil ?_))
   intro w3 hm3 hg3
   rw [← hbk] at hm3 hg3 ⊢
   have HKP:Hid (CntMap w3 bk 1 (keptF [])):=Lib.hid hm3
   have HB3:Hid (Below w.heap.size w w3):=Lib.hid ((HB.out.alloc HB.out.size _).grown hg3 (by have:=HB.out.size;simp;omega) (fun j hj=>by cases hj;rw [hbk];exact HB.out.size))
   have HM3:Hid (EnMap w3 gm (xs.length * 1000000) (cntT (xs.map (List.map enOf)))):=Lib.hid ((HMC.out.ext (YtdacflloaehjeaaGreatDoor.below_new wr _)).grown hg3 (fun h=>by cases h;have:=HBMW.out;omega))
   have HBK3:Hid (bk<w3.heap.size):=Lib.hid hm3.lt
   have HBM3:Hid (gm<w3.heap.size):=Lib.hid HM3.out.lt
   have HBKW:Hid (w.heap.size≤bk):=Lib.hid (by rw [hbk];exact HB.out.size)
   have HBNE:Hid (gm≠bk):=Lib.hid (by rw [hbk];exact Nat.ne_of_lt HBMW.out)
   clear hm3 hg3 hbk HMC HB HBMW
   have q0:=pw_cell_below HB3.out HC0.out
   have h0a:ad.add 0=ad:=by cases ad;rfl
   rw [h0a] at q0
   go_wp2_with fail
   clear q0 h0a
   obtain ⟨T,hT⟩:∃ T,T=t0.map enOf:=⟨_,rfl⟩
   rw [← hT] at HE
   have HT:=Lib.hid hT
   have HTL:Hid (T.length=t0.length):=Lib.hid (by rw [hT,List.length_map])
   have hmem:t0 ∈ xs:=by rw [HXS.out];simp
   have HTB:Hid (t0.length≤1000000):=Lib.hid (HRL.out _ hmem)
   have HTO:=Lib.hid (HOK.out _ hmem)
   have HTF:=Lib.hid (HF.out _ hmem).1
   clear hT hmem
   have htb:=HTB.out
   go_loopg [8,46] (t0.length + 1) (fun gq v u wr=>∃ (i:Nat) (out:List (Str×Nd)),u=.int .i64 i∧t0.length<gq + i∧Hid (i≤t0.length)∧Hid (out.length≤i)∧Hid (res=bothL PS (allM (xs.map (List.map enOf))) out (T.drop i))∧Hid (YtdacflloaehjeaaGreatDoor.Owr eCells 39 11 w3.heap.size wr v out) ∧
    Hid (EnMap wr gm (xs.length * 1000000) (cntT (xs.map (List.map enOf))))∧Hid (CntMap wr bk (i + 1) (keptF out))∧Hid (Below w.heap.size w wr)∧Hid (w3.heap.size≤wr.heap.size))
   case atStart=>exact ⟨0,[],rfl,by omega,Lib.hid (by omega),Lib.hid (by simp),Lib.hid (by rw [List.drop_zero];exact HE.out),Lib.hid (Owr.nil _ _ _ _ _),HM3,HKP,HB3,Lib.hid (Nat.le_refl _)⟩
   case round =>
    clear HM3 HKP HB3 HE
    obtain ⟨i,out,rfl,hgi,HI,HOL,HE,HO,HM,HKP,HB,HSZ⟩:=hrel
    by_cases hi:i<t0.length
    ·cases gk with
     | zero=>omega
     | succ g1 =>
      obtain ⟨ae,rfl,hat⟩:=e_at HK1.out i hi
      have HAT:=Lib.hid (hat.below HB.out)
      have HEO:=Lib.hid (HTO.out _ (List.getElem_mem hi))
      have HEF:=Lib.hid (fits_get HTF.out (List.mem_map_of_mem (f:=enOf) (List.getElem_mem hi)))
      have hdr:=ens_drop t0 i hi
      obtain ⟨e,hee⟩:∃ e,e=enOf t0[i]:=⟨_,rfl⟩
      rw [← hee] at HAT HEO HEF hdr
      rw [← HT.out] at hdr
      have hE2:=HE.out
      rw [hdr] at hE2
      have HE2:Hid (res=bothL PS (allM (xs.map (List.map enOf))) (if allM (xs.map (List.map enOf)) e && (decide (parM e.1=[]) || (getL out (parM e.1)).isSome) then out ++ [e] else out) (T.drop (i + 1))):=Lib.hid hE2
      have HII:Hid (i + 1≤t0.length):=Lib.hid hi
      clear hat hee hdr hE2 HE
      have hcq:=cnt_all (xs.map (List.map enOf)) HRT.out e
      rw [List.length_map] at hcq
      obtain ⟨CF,hCF⟩:∃ CF,CF=cntT (xs.map (List.map enOf)):=⟨_,rfl⟩
      rw [← hCF] at HM hcq
      obtain ⟨ab,hab⟩:∃ b,b=allM (xs.map (List.map enOf)) e:=⟨_,rfl⟩
      rw [← hab] at hcq HE2
      have hkq:=kept_pos out (parM e.1)
      obtain ⟨kb,hkb⟩:∃ b,b=(decide (parM e.1=[]) || (getL out (parM e.1)).isSome):=⟨_,rfl⟩
      rw [← hkb] at hkq HE2
      have HKQ:=Lib.hid hkq
      have HCF:=Lib.hid hCF
      clear hCF hab hkb hkq
      have HGLT:Hid (gm<wr.heap.size∧bk<wr.heap.size):=Lib.hid ⟨HM.out.lt,HKP.out.lt⟩
      go_upto_region 18 with (first|((with_reducible refine gate_dst (N:=49) rfl ?_);refine wpList_load_agg rfl 39 _ rfl _ rfl (eCells e) _ HAT.out h49 rfl rfl ?_)|((with_reducible refine gate_dst (N:=11) rfl ?_);refine box_event rfl (N:=11) rfl (cs:=enZero) (t:=39) ?hr ?_;(case hr=>first|(go_simp;done)|(go_simp;rfl));intro g11 hg w5 hb2 hbl2;have HGE_g11:Hid (wr.heap.size≤g11):=Lib.hid (by rw [hg];exact Nat.le_refl _);have HB_g11:=Lib.hid hb2;have HBL_g11:=Lib.hid hbl2;have HGB:Hid (wr.heap.size≤g11):=Lib.hid (by rw [hg];exact Nat.le_refl _);clear hg hb2 hbl2)|((with_reducible refine gate_store (t:=39) (p:=11) rfl ?_);refine wpList_store_agg rfl rfl 39 _ _ rfl g11 (eCells e).toArray rfl rfl 39 enZero HB_g11.out rfl rfl (eCells_all _) ?_;intro w6 hb3 hg3;have HC_g11:=Lib.hid hb3;have HBW_g11:Hid (Below wr.heap.size wr w6):=Lib.hid (HBL_g11.out.grown hg3 HBL_g11.out.size (fun j hj=>by cases hj;exact HGE_g11.out));clear hb3 hg3 HB_g11 HBL_g11 HGE_g11))
      have hlk:=(HM.out.ext HBW_g11.out).look HEO.out
      have HB6:=Lib.hid (YtdacflloaehjeaaGreatDoor.below_then HB.out HBW_g11.out)
      have q6:=(lies_of HC_g11.out) 0 _ rfl
      simp only [Addr.add_mid,Nat.zero_add] at q6
      cases ab with
      | false =>
       go_wp2_with ((with_reducible refine gate_dst (N:=51) rfl ?_);refine wpList_load_agg rfl 39 _ rfl _ rfl (eCells e) _ (lies_of HC_g11.out) h49 rfl rfl ?_)
       go_roundg g1
       case measure=>omega
       case rel=>exact ⟨i + 1,out,by go_num,by omega,HII,Lib.hid (by have:=HOL.out;omega),Lib.hid (by rw [HE2.out];rfl),Lib.hid (HO.out.ext HBW_g11.out),Lib.hid (by rw [← HCF.out];exact HM.out.ext HBW_g11.out),Lib.hid (cnt_more (HKP.out.ext HBW_g11.out)),HB6,Lib.hid (Nat.le_trans HSZ.out HBW_g11.out.size)⟩
      | true =>
       go_wp2_with ((with_reducible refine gate_dst (N:=51) rfl ?_);refine wpList_load_agg rfl 39 _ rfl _ rfl (eCells e) _ (lies_of HC_g11.out) h49 rfl rfl ?_)
       refine (par_c w6 e.1 HEF.out.1).mono ?_
       rintro x w7 ⟨rfl,hb7⟩
       have HBW7:Hid (Below wr.heap.size wr w7):=Lib.hid (YtdacflloaehjeaaGreatDoor.below_then HBW_g11.out hb7)
       have HB7:=Lib.hid (YtdacflloaehjeaaGreatDoor.below_then HB6.out hb7)
       have HC7:=Lib.hid (blk_below HC_g11.out hb7)
       clear hb7 hlk q6 HBW_g11 HC_g11 HB6 HB
       have hlk:=(HKP.out.ext HBW7.out).look (s:=parM e.1) (by have:=(part_len e.1).1;have:=HEF.out.1;omega)
       have hkq:decide (0<keptF out (parM e.1))=kb:=by rw [← HKQ.out];exact decide_eq_decide.2 (by omega)
       cases kb with
       | false =>
        go_wp2_with fail
        go_roundg g1
        case measure=>omega
        case rel=>exact ⟨i + 1,out,by go_num,by omega,HII,Lib.hid (by have:=HOL.out;omega),Lib.hid (by rw [HE2.out];rfl),Lib.hid (HO.out.ext HBW7.out),Lib.hid (by rw [← HCF.out];exact HM.out.ext HBW7.out),Lib.hid (cnt_more (HKP.out.ext HBW7.out)),HB7,Lib.hid (Nat.le_trans HSZ.out HBW7.out.size)⟩
       | true =>
        have HO7:=Lib.hid (HO.out.ext HBW7.out)
        have HM7:=Lib.hid (HM.out.ext HBW7.out)
        have HKP7:=Lib.hid (HKP.out.ext HBW7.out)
        have HOL2:=HOL.out
        go_wp2_with (first|((with_reducible refine gate_dst (N:=65) rfl ?_);refine wpList_load_agg rfl 39 _ rfl _ rfl (eCells e) _ (lies_of HC7.out) h49 rfl rfl ?_)|((with_reducible refine gate_dst (N:=66) rfl ?_);refine row_event rfl (N:=66) rfl (cs:=(eCells e).toArray) (t:=39) (n:=1) (by kernel_rfl) ?_;intro gr hg wq hb hbl;have HBR:=Lib.hid hb;have HBLR:=Lib.hid hbl;clear hg hb hbl)|(at_builtin;refine wpList_append_one rfl _ _ 22 rfl w3.heap.size 39 11 120 i0 (.agg enZero) Tryz.underlying22 HI0.out HZ0.out HZ1.out HZ2.out rfl (by decide) eCells_len eCells_one _ out rfl (HO7.out.ext HBLR.out) e gr 1 rfl ?c1 ?c2 ?c3 ?c4 ?_))
        case c1=>intro j u hu;rw [YtdacflloaehjeaaGreatDoor.blk_cell HBR.out j];simpa using hu
        case c2=>unfold maxLen;omega
        case c3=>omega
        case c4=>exact Nat.le_trans (Nat.le_trans HSZ.out HBW7.out.size) HBLR.out.size
        intro v' w9 ho' hg'
        have hown:∀ j,_:=fun j hj=>World.ownsRow.lt (HO7.out.ext HBLR.out) j hj
        have HB9:Hid (Below w.heap.size w w9):=Lib.hid ((YtdacflloaehjeaaGreatDoor.below_then HB7.out HBLR.out).grown hg' (YtdacflloaehjeaaGreatDoor.below_then HB7.out HBLR.out).size (fun j hj=>by have:=(hown j hj).1;have:=HBK3.out;have:=HBKW.out;omega))
        have HM9:Hid (EnMap w9 gm (xs.length * 1000000) CF):=Lib.hid ((HM7.out.ext HBLR.out).grown hg' (fun h=>by have:=(hown gm h.symm).1;have:=HBM3.out;omega))
        have HKP9:Hid (CntMap w9 bk (i + 1) (keptF out)):=Lib.hid (cntMap_grown (HKP7.out.ext HBLR.out) hg' (fun h=>by have:=(hown bk h.symm).1;have:=HBK3.out;omega))
        have HSZ9:Hid (w3.heap.size≤w9.heap.size):=Lib.hid (Nat.le_trans (Nat.le_trans (Nat.le_trans HSZ.out HBW7.out.size) HBLR.out.size) hg'.size)
        have HC9:Hid (w9.heap[g11]?=some (.cells (eCells e).toArray 39 (0,0))):=Lib.hid ((hg'.block g11 (Go.Proofs.Zw.PrintWords.blk_lt (blk_below HC7.out HBLR.out)) (fun h=>by have h1:=(World.ownsRow.lt HO.out g11 h.symm).2;have h2:=HGB.out;omega)).trans (blk_below HC7.out HBLR.out))
        have HO9:=Lib.hid ho'
        have q9:=(lies_of HC9.out) 0 _ rfl
        simp only [Addr.add_mid,Nat.zero_add] at q9
        clear ho' hg' hown hlk
        go_wp2_with (first|(at_mapUpdate;refine wpList_cnt_up rfl rfl _ _ _ rfl bk (i + 1) _ rfl HKP9.out (by omega) e.1 1 rfl rfl (by have:=HEF.out.1;omega) (by omega) _ (kept_snoc out e) ?_;intro w10 hm10 hg10;have HKP10:=Lib.hid hm10;have HG10:=Lib.hid hg10;clear hm10 hg10))
        go_roundg g1
        case measure=>omega
        case rel=>exact ⟨i + 1,out ++ [e],by go_num,by omega,HII,Lib.hid (by rw [List.length_append];simp;omega),Lib.hid (by rw [HE2.out];rfl),Lib.hid (HO9.out.kept HG10.out (.inr (fun h=>by have:=(World.ownsRow.lt HO9.out bk h).1;have:=HBK3.out;omega))),Lib.hid (by rw [← HCF.out];exact HM9.out.grown HG10.out (fun h=>by cases h;exact HBNE.out rfl)),HKP10,Lib.hid (HB9.out.grown HG10.out HB9.out.size (fun j hj=>by cases hj;exact HBKW.out)),Lib.hid (Nat.le_trans HSZ9.out HG10.out.size)⟩
    ·have he:i=t0.length:=by have:=HI.out;omega
     subst he
     have HEE:Hid (res=out):=Lib.hid (by rw [HE.out,List.drop_eq_nil_of_le (by rw [HTL.out];exact Nat.le_refl _)];rfl)
     go_wp2_with fail
     go_ret
     refine ⟨_,rfl,?_,HB.out⟩
     rw [HEE.out]
     exact own_eweaken HO.out (by have h1:=HBK3.out;have h2:=HBKW.out;omega)
end Go.Proofs.Zq
end
section
namespace Go.Proofs.Zq
open Go.RowKit Go.WideMaps Go.Maps Go.Proofs.YtdacflloaehjeaaGreatDoor Go.Proofs.Zw.PrintWords Go.Proofs.Zw.PrintLast Go.Proofs.Zw.PrintMore
attribute [local go_sem high] eqEg
theorem ens_step (l:List S39) (i:Nat) (hi:i<l.length):(l.map enOf).take (i + 1)=(l.map enOf).take i ++ [enOf l[i]]:=by
 rw [List.take_succ_eq_append_getElem (by simpa using hi),List.getElem_map]
theorem ens_at {l0 l1:List S39} (h:l0.map enOf=l1.map enOf) (i:Nat) (h0:i<l0.length) (h1:i<l1.length):enOf l0[i]=enOf l1[i]:=by
 have h2:=congrArg (fun x=>x[i]?) h
 rw [List.getElem?_eq_getElem (by simpa using h0),List.getElem?_eq_getElem (by simpa using h1),List.getElem_map,List.getElem_map] at h2
 exact Option.some.inj h2
set_option maxRecDepth 100000 in
set_option maxHeartbeats 4000000 in
theorem eqlE_calls (w:World) (A0:Option Addr) (c0:Nat) (l0:List S39) (hr0:Kd.C k39 w A0 l0.length l0) (A1:Option Addr) (c1:Nat) (l1:List S39) (hr1:Kd.C k39 w A1 l1.length l1) (hl:l0.length≤1000000) (hl1:l1.length≤1000000)
  (d:Bool) (hd:d=true↔l0.map enOf=l1.map enOf) :
  Calls Tryz.prog 52 #[.slice A0 l0.length c0,.slice A1 l1.length c1] w fun e w'=>e=.returned (.bool d)∧Below w.heap.size w w':=by
 have HR0:=Lib.hid hr0
 have HR1:=Lib.hid hr1
 have HD:=Lib.hid hd
 clear hr0 hr1 hd
 have h49:=Tryz.underlying39
 go_enter Tryz.func52,Tryz.ntmps52
 by_cases hn:l0.length=l1.length
 ·have hq:((l0.length:Int) != (l1.length:Int))=false:=by rw [hn];simp
  have HN:=Lib.hid hn
  clear hn
  go_wp2_with fail
  clear hq
  go_loopg [13] (l0.length + 1) (fun gq v wr=>∃ i:Nat,v=.int .i64 i∧l0.length<gq + i∧Hid (i≤l0.length)∧Hid ((l0.map enOf).take i=(l1.map enOf).take i)∧Hid (Below w.heap.size w wr))
  case atStart=>exact ⟨0,rfl,by omega,Lib.hid (by omega),Lib.hid (by simp),Lib.hid (Below.refl _ _)⟩
  case round =>
   obtain ⟨i,rfl,hgi,HI,HT,HB⟩:=hrel
   by_cases hi:i<l0.length
   ·cases gk with
    | zero=>omega
    | succ g1 =>
     have hi1:i<l1.length:=by rw [← HN.out];exact hi
     obtain ⟨ad0,rfl,hat0⟩:=e_at HR0.out i hi
     obtain ⟨ad1,rfl,hat1⟩:=e_at HR1.out i hi1
     have HA0:=Lib.hid (hat0.below HB.out)
     have HA1:=Lib.hid (hat1.below HB.out)
     have hs0:=ens_step l0 i hi
     have hs1:=ens_step l1 i hi1
     have hdf:d=true→enOf l0[i]=enOf l1[i]:=fun h=>ens_at (HD.out.1 h) i hi hi1
     obtain ⟨e0,he0⟩:∃ e,e=enOf l0[i]:=⟨_,rfl⟩
     obtain ⟨e1,he1⟩:∃ e,e=enOf l1[i]:=⟨_,rfl⟩
     rw [← he0] at HA0 hs0 hdf
     rw [← he1] at HA1 hs1 hdf
     have HS:Hid (e0=e1→(l0.map enOf).take (i + 1)=(l1.map enOf).take (i + 1)):=Lib.hid (fun h=>by rw [hs0,hs1,HT.out,h])
     have HDF:=Lib.hid hdf
     clear hs0 hs1 hdf he0 he1 hat0 hat1
     have HII:Hid (i + 1≤l0.length):=Lib.hid hi
     have hk0:(0:Int)≤(i:Int):=by omega
     have hk1:(i:Int)<(l0.length:Int):=by omega
     have hk2:(i:Int)<(l1.length:Int):=by omega
     go_upto_region 6 with (fail)
     obtain ⟨nb,hnb⟩:∃ nb,nb=!decide (e0=e1):=⟨_,rfl⟩
     have HNB:=Lib.hid hnb
     clear hnb
     go_cut [24] (fun v wc=>v=.bool nb∧Hid (Below wr.heap.size wr wc))
     case first =>
      refine start_ (n:=9) (S:=fun w'=>Below wr.heap.size wr w') (ds:=[]) (ms 9 0) (by kernel_rfl) rfl rfl (Below.refl _ _).drew (fun hHeld=>?_)
      (refine pU 0 16 ?_ (ms 9 1) rfl rfl (by kernel_rfl) (fun _ _ _=>id) (by rfl) ?_ ?_ ?_ ?_;rotate_left;(intro w';go_simp;with_reducible rfl);rotate_left;(simp only [aP,i64_w,i32_w];rfl))
      (refine pU 1 17 ?_ (ms 9 2) rfl rfl (by kernel_rfl) (fun _ _ _=>id) (by rfl) ?_ ?_ ?_ ?_;rotate_left;(intro w';go_simp;with_reducible rfl);rotate_left;(simp only [aP,i64_w,i32_w];rfl))
      (refine pU 2 18 ?_ (ms 9 3) rfl rfl (by kernel_rfl) (fun _ _ _=>id) (by rfl) ?_ ?_ ?_ ?_;rotate_left;(intro w';go_simp;with_reducible rfl);rotate_left;(simp only [aP,i64_w,i32_w];rfl))
      refine take_ (i:=3) (N:=some 19) (v:=.agg (eCells e0).toArray) (a':=?_) (ms 9 4) rfl rfl (by kernel_rfl) (fun _ _ _ h=>h) (yi_agg (by rfl) 39 _ rfl _ rfl _ _ (fun w' hb=>HA0.out.below hb) h49 rfl rfl) hHeld ?_ ?_
      rotate_left
      ·(simp only [aP,i64_w,i32_w];rfl)
      (refine pU 4 20 ?_ (ms 9 5) rfl rfl (by kernel_rfl) (fun _ _ _=>id) (by rfl) ?_ ?_ ?_ ?_;rotate_left;(intro w';go_simp;with_reducible rfl);rotate_left;(simp only [aP,i64_w,i32_w];rfl))
      (refine pU 5 21 ?_ (ms 9 6) rfl rfl (by kernel_rfl) (fun _ _ _=>id) (by rfl) ?_ ?_ ?_ ?_;rotate_left;(intro w';go_simp;with_reducible rfl);rotate_left;(simp only [aP,i64_w,i32_w];rfl))
      (refine pU 6 22 ?_ (ms 9 7) rfl rfl (by kernel_rfl) (fun _ _ _=>id) (by rfl) ?_ ?_ ?_ ?_;rotate_left;(intro w';go_simp;with_reducible rfl);rotate_left;(simp only [aP,i64_w,i32_w];rfl))
      refine take_ (i:=7) (N:=some 23) (v:=.agg (eCells e1).toArray) (a':=?_) (ms 9 8) rfl rfl (by kernel_rfl) (fun _ _ _ h=>h) (yi_agg (by rfl) 39 _ rfl _ rfl _ _ (fun w' hb=>HA1.out.below hb) h49 rfl rfl) hHeld ?_ ?_
      rotate_left
      ·(simp only [aP,i64_w,i32_w];rfl)
      (refine pU 8 24 ?_ (ms 9 9) rfl rfl (by kernel_rfl) (fun _ _ _=>id) (by rfl) ?_ ?_ ?_ ?_;rotate_left;(intro w';go_simp;with_reducible rfl);rotate_left;(simp only [aP,i64_w,i32_w];rfl))
      refine done_ (by kernel_rfl) ?_
      go_wp2_with fail
      go_meet
      exact ⟨by rw [HNB.out],Lib.hid hHeld⟩
     case rest =>
     obtain ⟨rfl,HBC⟩:=hcut
     have HB2:=Lib.hid (YtdacflloaehjeaaGreatDoor.below_then HB.out HBC.out)
     clear HBC HA0 HA1 HB
     cases nb with
     | false =>
      have HT2:=Lib.hid (HS.out (by simpa using HNB.out))
      clear HNB
      go_wp2_with fail
      go_roundg g1
      case measure=>omega
      case rel=>exact ⟨i + 1,by go_num,by omega,HII,HT2,HB2⟩
     | true =>
      have hee:¬ e0=e1:=by simpa using HNB.out
      have HDD:Hid (d=false):=Lib.hid (by cases hdd:d with|false=>rfl|true=>exact absurd (HDF.out hdd) hee)
      clear hee HNB
      go_wp2_with fail
      go_ret
      exact ⟨by rw [HDD.out];rfl,HB2.out⟩
   ·have he:i=l0.length:=by have:=HI.out;omega
    subst he
    have HDD:Hid (d=true):=Lib.hid (HD.out.2 (by
     have:=HT.out
     rwa [List.take_of_length_le (by simp),List.take_of_length_le (by simp [HN.out])] at this))
    go_wp2_with fail
    go_ret
    exact ⟨by rw [HDD.out];rfl,HB.out⟩
 ·have hq:((l0.length:Int) != (l1.length:Int))=true:=by simp;omega
  have HDD:Hid (d=false):=Lib.hid (by
   cases hdd:d with
   | false=>rfl
   | true=>exact absurd (by have:=congrArg List.length (HD.out.1 hdd);simpa using this) hn)
  clear hn
  go_wp2_with fail
  go_ret
  exact ⟨by rw [HDD.out];rfl,Below.refl _ _⟩
theorem dsame_calls (w:World) (A0:Option Addr) (c0:Nat) (l0:List S39) (hr0:Kd.C k39 w A0 l0.length l0) (A1:Option Addr) (c1:Nat) (l1:List S39) (hr1:Kd.C k39 w A1 l1.length l1) (hl:l0.length≤1000000) (hl1:l1.length≤1000000)
  (d:Bool) (hd:d=true↔l0.map enOf=l1.map enOf) :
  Calls Tryz.prog 20 #[.slice A0 l0.length c0,.slice A1 l1.length c1] w fun e w'=>e=.returned (.bool d)∧Below w.heap.size w w':=by
 have HC:=Lib.hid (eqlE_calls w A0 c0 l0 hr0 A1 c1 l1 hr1 hl hl1 d hd)
 clear hr0 hr1 hl hl1 hd
 go_enter Tryz.func20,Tryz.ntmps20
 go_wp2_with fail
 refine HC.out.mono ?_
 rintro e w1 ⟨rfl,hb⟩
 have HB:=Lib.hid hb
 clear hb
 go_wp2_with fail
 go_ret
 exact ⟨rfl,HB.out⟩
end Go.Proofs.Zq
end
section
namespace Go.Proofs.Zq
open Go.RowKit Go.Shelf Go.Proofs.YtdacflloaehjeaaGreatDoor Go.Proofs.Zw.PrintWords Go.Proofs.Zw.PrintLast Go.Proofs.Zw.PrintMore
open Go.Proofs.Zt (applyM ontoGo ontoM Ch)
theorem own_C {W:World} {nb:Nat} {v:Value} {l:List (Str×Nd)} (h:YtdacflloaehjeaaGreatDoor.Owr eCells 39 11 nb W v l):∃ A c,v=.slice A (l.map ofEn).length c∧(l.map ofEn).length≤c∧Kd.C k39 W A (l.map ofEn).length (l.map ofEn):=by
 have hr:=en_R h
 obtain ⟨A,c,rfl⟩:=Kd.R_slice hr
 exact ⟨A,c,rfl,(Kd.R_reads' hr).2.1,(Kd.R_reads' hr).2.2⟩
theorem own_block {W:World} {nb b:Nat} {v:Value} {l:List (Str×Nd)} (h:YtdacflloaehjeaaGreatDoor.Owr eCells 39 11 nb W v l) (hb:b<nb):v.ownBlock=none∨v.ownBlock≠some b:=by
 rcases h.2 with ⟨hv,_⟩|⟨g,cap,cur,hv,hg,_⟩
 ·subst hv;exact .inl rfl
 ·subst hv
  refine .inr fun h=>?_
  have:g=b:=Option.some.inj h
  omega
theorem own_low {W:World} {nb b:Nat} {v:Value} {l:List (Str×Nd)} (h:YtdacflloaehjeaaGreatDoor.Owr eCells 39 11 nb W v l) (hb:b≤nb):YtdacflloaehjeaaGreatDoor.Owr eCells 39 11 b W v l:=by
 refine ⟨h.1,?_⟩
 rcases h.2 with h0|⟨g,cap,cur,hv,hg,rest⟩
 ·exact .inl h0
 ·exact .inr ⟨g,cap,cur,hv,Nat.le_trans hb hg,rest⟩
attribute [local go_sem] Oper.semAt_some
end Go.Proofs.Zq
end
section
namespace Go.Proofs.Zq
open Go.RowKit Go.Shelf Go.Proofs.YtdacflloaehjeaaGreatDoor Go.Proofs.Zw.PrintWords Go.Proofs.Zw.PrintLast Go.Proofs.Zw.PrintMore
open Go.Proofs.Zt (applyM ontoGo ontoM rightT Ch)
theorem set_far (W:World) (a b:Nat) (u:Value) (h:a≠b):(W.setCell ⟨a,0,none⟩ u).heap[b]?=W.heap[b]?:=by
 simp only [World.setCell,Array.getElem?_modify]
 rw [if_neg h]
theorem own_lt {W:World} {nb b:Nat} {v:Value} {l:List (Str×Nd)} (h:YtdacflloaehjeaaGreatDoor.Owr eCells 39 11 nb W v l) (hb:W.heap.size≤b):v.ownBlock=none∨v.ownBlock≠some b:=by
 rcases h.2 with ⟨hv,_⟩|⟨g,cap,cur,hv,_,hg,_⟩
 ·subst hv;exact .inl rfl
 ·subst hv
  refine .inr fun h=>?_
  have h1:g=b:=Option.some.inj h
  have h2:=(Array.getElem?_eq_some_iff.1 hg).1
  omega
structure Box3 (W:World) (n:Nat) (u4 u5 u6:Value):Prop where
 b4:W.heap[n]?=some (.cells #[u4] 22 (0,0))
 b5:W.heap[n + 1]?=some (.cells #[u5] 3 (0,0))
 b6:W.heap[n + 1 + 1]?=some (.cells #[u6] 43 (0,0))
theorem Box3.ext {W W':World} {n:Nat} {u4 u5 u6:Value} (h:Box3 W n u4 u5 u6) (hb:Below W.heap.size W W'):Box3 W' n u4 u5 u6:=⟨blk_below h.b4 hb,blk_below h.b5 hb,blk_below h.b6 hb⟩
theorem Box3.put {w W:World} {n:Nat} {u4 u5 u6:Value} (h:Box3 W n u4 u5 u6) (hn:w.heap.size≤n) (hb:Below w.heap.size w W) (x y z:Value) :
  Box3 (((W.setCell ⟨n,0,none⟩ x).setCell ⟨n + 1,0,none⟩ y).setCell ⟨n + 1 + 1,0,none⟩ z) n x y z∧Below w.heap.size w (((W.setCell ⟨n,0,none⟩ x).setCell ⟨n + 1,0,none⟩ y).setCell ⟨n + 1 + 1,0,none⟩ z):=by
 have o:∀ (V:World) (a b:Nat) (u:Value),a≠b→(V.setCell ⟨a,0,none⟩ u).heap[b]?=V.heap[b]?:=set_far
 have h5:(W.setCell ⟨n,0,none⟩ x).heap[n + 1]?=some (.cells #[u5] 3 (0,0)):=(o _ _ _ _ (by omega)).trans h.b5
 have h6:((W.setCell ⟨n,0,none⟩ x).setCell ⟨n + 1,0,none⟩ y).heap[n + 1 + 1]?=some (.cells #[u6] 43 (0,0)):=((o _ _ _ _ (by omega)).trans (o _ _ _ _ (by omega))).trans h.b6
 refine ⟨⟨((o _ _ _ _ (by omega)).trans (o _ _ _ _ (by omega))).trans (YtdacflloaehjeaaGreatDoor.heap_set h.b4 0 x),(o _ _ _ _ (by omega)).trans (YtdacflloaehjeaaGreatDoor.heap_set h5 0 y),YtdacflloaehjeaaGreatDoor.heap_set h6 0 z⟩,?_⟩
 exact ((hb.setCell (p:=⟨n,0,none⟩) hn x).setCell (p:=⟨n + 1,0,none⟩) (by show _≤n + 1;omega) y).setCell (p:=⟨n + 1 + 1,0,none⟩) (by show _≤n + 1 + 1;omega) z
theorem Box3.set {W:World} {n b:Nat} {u4 u5 u6:Value} (h:Box3 W n u4 u5 u6) (u:Value) (h4:b≠n) (h5:b≠n + 1) (h6:b≠n + 1 + 1):Box3 (W.setCell ⟨b,0,none⟩ u) n u4 u5 u6:=⟨(set_far W b n u h4).trans h.b4,(set_far W b (n + 1) u h5).trans h.b5,(set_far W b (n + 1 + 1) u h6).trans h.b6⟩
attribute [local go_sem] Oper.semAt_some
end Go.Proofs.Zq
end
section
namespace Go.Proofs.Zq
open Go.RowKit Go.Shelf Go.Proofs.YtdacflloaehjeaaGreatDoor Go.Proofs.Zw.PrintWords Go.Proofs.Zw.PrintLast Go.Proofs.Zw.PrintMore
open Go.Proofs.Zt (applyM ontoGo treesGo Ch)
def enc1 (v:Value):List Value:=[v]
theorem enc1_len (v:Value):(enc1 v).length=1:=rfl
structure TsAt (nb:Nat) (W:World) (out:Value) (vs:List Value) (Ts:List (List (Str×Nd))):Prop where
 own:YtdacflloaehjeaaGreatDoor.Owr enc1 22 1 nb W out vs
 len:vs.length=Ts.length
 rows:∀ (j:Nat) x t,vs[j]?=some x→Ts[j]?=some t→YtdacflloaehjeaaGreatDoor.Owr eCells 39 11 nb W x t
theorem own1_block {W:World} {nb b:Nat} {v:Value} {l:List Value} (h:YtdacflloaehjeaaGreatDoor.Owr enc1 22 1 nb W v l) (hb:b<nb):v.ownBlock=none∨v.ownBlock≠some b:=by
 rcases h.2 with ⟨hv,_⟩|⟨g,cap,cur,hv,hg,_⟩
 ·subst hv;exact .inl rfl
 ·subst hv
  refine .inr fun h=>?_
  have:g=b:=Option.some.inj h
  omega
theorem own_apart {W:World} {nb nb':Nat} {x out:Value} {t:List (Str×Nd)} {vs:List Value} (h:YtdacflloaehjeaaGreatDoor.Owr eCells 39 11 nb W x t) (h1:YtdacflloaehjeaaGreatDoor.Owr enc1 22 1 nb' W out vs):x.ownBlock=none∨x.ownBlock≠out.ownBlock:=by
 rcases h.2 with ⟨hv,_⟩|⟨g,cap,cur,hv,hg,hgg,_⟩
 ·subst hv;exact .inl rfl
 ·rcases h1.2 with ⟨hv1,_⟩|⟨g1,cap1,cur1,hv1,hg1,hgg1,_⟩
  ·subst hv;subst hv1;exact .inr (fun h=>by cases h)
  ·subst hv;subst hv1
   refine .inr fun h=>?_
   have e:g=g1:=Option.some.inj h
   subst e
   rw [hgg] at hgg1
   cases hgg1
theorem TsAt.kept {nb b:Nat} {W W':World} {out:Value} {vs:List Value} {Ts:List (List (Str×Nd))} (h:TsAt nb W out vs Ts) (hg:W.grownBy W' (some b)) (hb:b<nb):TsAt nb W' out vs Ts :=
 ⟨h.own.kept hg (own1_block h.own hb),h.len,fun j x t h1 h2=>(h.rows j x t h1 h2).kept hg (own_block (h.rows j x t h1 h2) hb)⟩
theorem TsAt.ext {nb:Nat} {W W':World} {out:Value} {vs:List Value} {Ts:List (List (Str×Nd))} (h:TsAt nb W out vs Ts) (hb:Below W.heap.size W W'):TsAt nb W' out vs Ts :=
 ⟨h.own.ext hb,h.len,fun j x t h1 h2=>(h.rows j x t h1 h2).ext hb⟩
theorem TsAt.snoc {nb:Nat} {W W':World} {out out':Value} {vs:List Value} {Ts:List (List (Str×Nd))} (h:TsAt nb W out vs Ts) {x:Value} {t:List (Str×Nd)} (hx:YtdacflloaehjeaaGreatDoor.Owr eCells 39 11 nb W x t)
  (ho:YtdacflloaehjeaaGreatDoor.Owr enc1 22 1 nb W' out' (vs ++ [x])) (hg:W.grownBy W' out.ownBlock):TsAt nb W' out' (vs ++ [x]) (Ts ++ [t]):=by
 refine ⟨ho,by simp [h.len],fun j y u h1 h2=>?_⟩
 by_cases hj:j<vs.length
 ·rw [List.getElem?_append_left hj] at h1
  rw [List.getElem?_append_left (by rw [← h.len];exact hj)] at h2
  have hr:=h.rows j y u h1 h2
  exact hr.kept hg (own_apart hr h.own)
 ·rw [List.getElem?_append_right (by omega)] at h1
  rw [List.getElem?_append_right (by have:=h.len;omega)] at h2
  have e:j - vs.length=0:=by
   apply Classical.byContradiction
   intro hne
   rw [List.getElem?_eq_none (by simp;omega)] at h1
   cases h1
  rw [e] at h1
  rw [show j - Ts.length=0 from by have:=h.len;omega] at h2
  obtain rfl:=Option.some.inj h1
  obtain rfl:=Option.some.inj h2
  exact hx.kept hg (own_apart hx h.own)
theorem TsAt.low {nb b:Nat} {W:World} {out:Value} {vs:List Value} {Ts:List (List (Str×Nd))} (h:TsAt nb W out vs Ts) (hb:b≤nb):TsAt b W out vs Ts:=by
 refine ⟨⟨h.own.1,?_⟩,h.len,fun j x t h1 h2=>own_low (h.rows j x t h1 h2) hb⟩
 rcases h.own.2 with h0|⟨g,cap,cur,hv,hg,rest⟩
 ·exact .inl h0
 ·exact .inr ⟨g,cap,cur,hv,Nat.le_trans hb hg,rest⟩
theorem TsAt.set {nb g cap k:Nat} {W:World} {vs:List Value} {Ts:List (List (Str×Nd))} (h:TsAt nb W (.slice (some ⟨g,0,none⟩) vs.length cap) vs Ts) (hk:k<vs.length) {x:Value} {t:List (Str×Nd)} (ht:Ts[k]?=some t)
  (hx:YtdacflloaehjeaaGreatDoor.Owr eCells 39 11 nb W x t):TsAt nb (W.setCell ⟨g,k,none⟩ x) (.slice (some ⟨g,0,none⟩) (vs.set k x).length cap) (vs.set k x) Ts:=by
 have hp:=own_put enc1_len h.own hk x
 have e:W.setCells g (k * 1) (enc1 x)=W.setCell ⟨g,k,none⟩ x:=by rw [Nat.mul_one];rfl
 have hg:W.grownBy (W.setCell ⟨g,k,none⟩ x) (some g):=by rw [← e];exact setCells_grown _ _ _ _
 rw [e] at hp
 refine ⟨hp,by rw [List.length_set];exact h.len,fun j y u h1 h2=>?_⟩
 by_cases hj:j=k
 ·subst hj
  rw [List.getElem?_set_self hk] at h1
  obtain rfl:=Option.some.inj h1
  rw [ht] at h2
  obtain rfl:=Option.some.inj h2
  exact hx.kept hg (own_apart hx h.own)
 ·rw [List.getElem?_set_ne (fun e=>hj e.symm)] at h1
  have hr:=h.rows j y u h1 h2
  exact hr.kept hg (own_apart hr h.own)
theorem TsAt.C {nb:Nat} {W:World} {out:Value} {vs:List Value} {Ts:List (List (Str×Nd))} (h:TsAt nb W out vs Ts) :
  ∃ A c,out=.slice A (Ts.map (List.map ofEn)).length c∧(Ts.map (List.map ofEn)).length≤c∧Kd.C (Kd.slice 39 k39) W A (Ts.map (List.map ofEn)).length (Ts.map (List.map ofEn)):=by
 obtain ⟨A,c,rfl,hn,hc⟩:=YtdacflloaehjeaaGreatDoor.Owr.val h.own
 have hl:(Ts.map (List.map ofEn)).length=vs.length:=by rw [List.length_map,h.len]
 refine ⟨A,c,by rw [hl],by rw [hl];exact hc,rfl,?_,fun h0=>?_⟩
 ·rw [hl]
  rcases h.own.2 with ⟨_,h0⟩|⟨g,cap,cur,hv,_,_,h1,h2,_⟩
  ·omega
  ·unfold maxLen at h2;omega
 ·cases A with
  | none=>exact absurd (hn rfl).1 (fun e=>by rw [hl,e] at h0;simp at h0)
  | some ad =>
   refine ⟨ad,rfl,fun j p hp=>?_⟩
   rw [List.getElem?_map] at hp
   obtain ⟨t,ht,rfl⟩:=Option.map_eq_some_iff.1 hp
   have hj:j<vs.length:=by
    rw [h.len]
    exact (List.getElem?_eq_some_iff.1 ht).1
   have hr:=h.rows j _ t (List.getElem?_eq_getElem hj) ht
   obtain ⟨A1,c1,hv,hc1,hk⟩:=own_C hr
   refine ⟨[vs[j]],rfl,⟨A1,c1,by rw [hv],hc1,hk⟩,fun i u hu=>?_⟩
   obtain ⟨b,o,ha,hcell⟩:=h.own.row enc1_len j _ (List.getElem?_eq_getElem hj)
   obtain rfl:=Option.some.inj ha
   have:=hcell i u hu
   show W.cell? ((⟨b,o,none⟩:Addr).add (j * 1 + i))=_
   rw [YtdacflloaehjeaaGreatDoor.add_at,← Nat.add_assoc]
   exact this
attribute [local go_sem] Oper.semAt_some
end Go.Proofs.Zq
end
section
namespace Go.Proofs.Zq
open Go.RowKit Go.WideMaps Go.Maps Go.Proofs.YtdacflloaehjeaaGreatDoor Go.Proofs.Zw.PrintWords Go.Proofs.Zw.PrintLast Go.Proofs.Zw.PrintMore
open Go.Proofs.Zt (applyM ontoGo ontoM treesGo Ch)
def m18:List (List (Ch Str Nd)):=[[⟨[97],0,dN⟩,⟨[97,47,98],0,zeroN⟩],[⟨[97,47,98],1,zeroN⟩],[⟨[120,47,121],0,zeroN⟩]]
def s18:List (List S59):=m18.map (List.map ofCh)
theorem ens_C {w:World} {g:Nat} {l:List (Str×Nd)} (h:w.heap[g]?=some (.cells (flat eCells l).toArray 39 (0,0))) (hl:l.length≤1000000):Kd.C k39 w (some ⟨g,0,none⟩) (l.map ofEn).length (l.map ofEn) :=
 en_C (by rw [ens_back];exact row_of_block eCells_len (by unfold maxLen;omega) h) (by rw [List.length_map];omega)
section
variable {P:Program} {ops:Array Oper} {Q:Exit→Act→World→Prop}
theorem make_ {oi:Oper} {N:Option Tmp} {a:Act} {w w1:World} {K:Act→World→Prop} {v:Value} (hw:Region.wanted oi (yielded ops a.tmps)=true) (hN:oi.dst=N) (hrun:(execOp a.eval oi).run P w=.ok (.value v) w1)
  (h:K (a.put N v) w1):if Region.wanted oi (yielded ops a.tmps)=true then Oper.wp P oi a w K Q else K (a.put N undef) w:=by
 rw [if_pos hw]
 subst hN
 unfold Oper.wp
 rw [hrun]
 exact h
end
end Go.Proofs.Zq
end
section
namespace Go.Proofs.Zq
open Go.RowKit Go.Proofs.Zw.PrintWords Go.Proofs.Zw.PrintLast Go.Proofs.Zw.PrintMore
open Go.Proofs.YtdacflloaehjeaaGreatDoor (GL)
attribute [local go_sem] max2_int min2_int max_two min_two max_three min_three max_four min_four
theorem eqA59 (d:Nat) (w:World) (x0 y0:ByteArray) (x1 y1:Int) (x2 y2:Int) (x3 y3:Int) (x4 y4:Int) (x5 y5:Int) (x6 y6:Int) (x7 y7:ByteArray) (x8 y8:ByteArray) (x9 y9:Int) (x10 y10:Int) (x11 y11:ByteArray) :
  (Op.equalIn (d + 3) 59 (.agg #[.string x0,.int .i64 x1,.int .i64 x2,.int .i64 x3,.int .i64 x4,.int .i64 x5,.int .i64 x6,.string x7,.string x8,.int .i64 x9,.int .i64 x10,.string x11]) (.agg #[.string y0,.int .i64 y1,.int .i64 y2,.int .i64 y3,.int .i64 y4,.int .i64 y5,.int .i64 y6,.string y7,.string y8,.int .i64 y9,.int .i64 y10,.string y11])).run Tryz.prog w=.ok (x0.toList == y0.toList && (x1 == y1 && ((x2 == y2 && (x3 == y3 && (x4 == y4 && (x5 == y5 && (x6 == y6 && (x7.toList == y7.toList && (x8.toList == y8.toList && (x9 == y9 && (x10 == y10 && (x11.toList == y11.toList))))))))))))) w:=by
 refine eqA_of Tryz.underlying59 (by kernel_rfl) ?_
 refine eqf_cons (by rfl) (by go_simp;rfl) (by go_simp;rfl) (by go_simp) ?_
 refine eqf_cons (by rfl) (by go_simp;rfl) (by go_simp;rfl) (by go_simp) ?_
 exact eqf_last (by rfl) (by go_simp) (by go_simp) (eqA35 (d + 0) w _ _ _ _ _ _ _ _ _ _ _ _ _ _ _ _ _ _ _ _)
end Go.Proofs.Zq
end
section
namespace Go.Proofs.Zq
open Go.RowKit Go.WideMaps Go.Maps Go.Proofs.YtdacflloaehjeaaGreatDoor Go.Proofs.Zw.PrintWords Go.Proofs.Zw.PrintLast Go.Proofs.Zw.PrintMore
open Go.Proofs.Zt (diffM bothM Ch)
theorem eqCg (d:Nat) (w:World) (a b:Ch Str Nd):(Op.equalIn (d + 3) 59 (.agg (chCells a).toArray) (.agg (chCells b).toArray)).run Tryz.prog w=.ok (decide (a=b)) w:=by
 obtain ⟨p,o,n⟩:=a
 obtain ⟨q,u,m⟩:=b
 have h:=eqA59 d w (B p) (B q) o u n.kind m.kind n.mode m.mode n.uid m.uid n.gid m.gid n.mtime m.mtime (B n.link) (B m.link) (B n.data) (B m.data) n.major m.major n.minor m.minor (B n.attrs) (B m.attrs)
 have e:decide ((⟨p,o,n⟩:Ch Str Nd)=⟨q,u,m⟩)=(p == q && (o == u && decide (n=m))):=by rw [Bool.eq_iff_iff];simp
 rw [e,← nd_eq]
 simp only [toList_B] at h ⊢
 exact h
attribute [local go_sem high] eqCg
def mN:Nd:={ zeroN with mode:=1 }
def a19:List (Str×Nd):=[([97],dN),([97,47,98],zeroN),([99],zeroN)]
def b19:List (Str×Nd):=[([97],dN),([97,47,98],mN),([120],zeroN)]
def c19:List (Str×Nd):=[([97],zeroN)]
def e19:List (Str×Nd):=[([97,47,98],zeroN)]
theorem d19a:diffM Y a19 b19=([⟨[99],1,zeroN⟩,⟨[97,47,98],0,mN⟩,⟨[120],0,zeroN⟩],true):=by kernel_rfl
theorem d19b:diffM Y a19 a19=([],true):=by kernel_rfl
theorem d19c:diffM Y a19 c19=([⟨[99],1,zeroN⟩,⟨[97],0,zeroN⟩],true):=by kernel_rfl
theorem d19d:diffM Y e19 []=([],false):=by kernel_rfl
theorem d19e:bothM Y [a19,b19]=[([97],dN)]:=by kernel_rfl
theorem fa19:rowFits' (a19.map ofEn):=⟨by kernel_rfl,by decide⟩
theorem fb19:rowFits' (b19.map ofEn):=⟨by kernel_rfl,by decide⟩
theorem fc19:rowFits' (c19.map ofEn):=⟨by kernel_rfl,by decide⟩
theorem fe19:rowFits' (e19.map ofEn):=⟨by kernel_rfl,by decide⟩
theorem en_ok {e:Str×Nd} (h:e.1.length≤1000) (hk:NdWf e.2) (h1:e.2.link.length≤1000) (h2:e.2.data.length≤1000) (h3:e.2.attrs.length≤1000):EnOk e:=enOk_of (by omega) hk (by omega) (by omega) (by omega)
theorem oka:∀ x ∈ a19.map ofEn,EnOk (enOf x):=by
 intro x hx
 obtain ⟨e,he,rfl⟩:=List.mem_map.1 hx
 rw [enOf_ofEn]
 simp only [a19,List.mem_cons,List.not_mem_nil,or_false] at he
 rcases he with rfl|rfl|rfl <;> exact en_ok (by decide) ⟨rfl,rfl,rfl,rfl,rfl,rfl,rfl⟩ (by decide) (by decide) (by decide)
theorem okb:∀ x ∈ b19.map ofEn,EnOk (enOf x):=by
 intro x hx
 obtain ⟨e,he,rfl⟩:=List.mem_map.1 hx
 rw [enOf_ofEn]
 simp only [b19,List.mem_cons,List.not_mem_nil,or_false] at he
 rcases he with rfl|rfl|rfl <;> exact en_ok (by decide) ⟨rfl,rfl,rfl,rfl,rfl,rfl,rfl⟩ (by decide) (by decide) (by decide)
theorem es_block {w:World} {g:Nat} {T:TypeId} {vs:List Value} {xs:List (List S39)} (h:w.heap[g]?=some (.cells vs.toArray T (0,0))) (hm:xs.length≤9223372036854775807)
  (hx:∀ (j:Nat) (p:List S39),xs[j]?=some p→∃ A c,vs[j]?=some (.slice A p.length c)∧p.length≤c∧Kd.C k39 w A p.length p) :
  Kd.C (Kd.slice 39 k39) w (some ⟨g,0,none⟩) xs.length xs:=by
 refine ⟨rfl,hm,fun _=>⟨_,rfl,fun j p hp=>?_⟩⟩
 obtain ⟨A,c,hv,hc,hk⟩:=hx j p hp
 refine ⟨[.slice A p.length c],rfl,⟨A,c,rfl,hc,hk⟩,fun i u hu=>?_⟩
 have e0:i=0:=by
  apply Classical.byContradiction
  intro hne
  rw [List.getElem?_eq_none (by simp;omega)] at hu
  cases hu
 subst e0
 obtain rfl:=Option.some.inj hu
 show w.cell? ((⟨g,0,none⟩:Addr).add (j * 1 + 0))=_
 rw [YtdacflloaehjeaaGreatDoor.add_at,Nat.zero_add,Nat.mul_one,Nat.add_zero,YtdacflloaehjeaaGreatDoor.blk_cell h]
 simpa using hv
theorem es_nil {w:World} (A:Option Addr):Kd.C (Kd.slice 39 k39) w A ([]:List (List S39)).length []:=⟨rfl,by simp,fun h=>absurd h (Nat.lt_irrefl 0)⟩
theorem own_spot {α:Type} {enc:α→List Value} {T k base:Nat} {w:World} {v:Value} {l:List α} (h:YtdacflloaehjeaaGreatDoor.Owr enc T k base w v l) (n:Nat) (hn:l.length=n) (hl:0<n):∃ g c,v=.slice (some ⟨g,0,none⟩) n c∧n≤c∧∀ i u,(flat enc l)[i]?=some u→w.cell? ⟨g,i,none⟩=some u:=by
 subst hn
 have hh:=h
 rcases h.2 with ⟨_,h0⟩|⟨g,cap,cur,hv,_,_,h1,_⟩
 ·omega
 ·subst hv
  exact ⟨g,cap,rfl,h1,fun i u hu=>by have q:=World.ownsRow.cells hh rfl i u hu;rw [Addr.add_mid,Nat.zero_add] at q;exact q⟩
theorem own_none {α:Type} {enc:α→List Value} {T k base:Nat} {w:World} {v:Value} (h:YtdacflloaehjeaaGreatDoor.Owr enc T k base w v []):∃ A c,v=.slice A 0 c:=by
 obtain ⟨A,c,rfl,_,_⟩:=YtdacflloaehjeaaGreatDoor.Owr.val h
 exact ⟨A,c,rfl⟩
theorem ab19:¬ (a19.map ofEn).map enOf=(b19.map ofEn).map enOf:=by
 rw [ens_back,ens_back]
 intro h
 have h2:((a19.map (fun e=>e.2.mode)).getD 1 0)=((b19.map (fun e=>e.2.mode)).getD 1 0):=by rw [h]
 exact absurd h2 (by decide)
set_option maxRecDepth 100000 in
set_option maxHeartbeats 16000000 in
theorem small19_calls (w:World) (hG:GL w):Calls Tryz.prog 15 #[] w fun e w'=>e=.returned (.bool true)∧Below w.heap.size w w':=by
 have h31:=Tryz.underlying35
 have h33:=Tryz.underlying59
 go_enter Tryz.func15,Tryz.ntmps15
 go_wp2_with (first|((with_reducible refine gate_dst (N:=1) rfl ?_);refine box_event rfl (N:=1) rfl (cs:=ndZero) (t:=35) ?hr ?_;(case hr=>first|(go_simp;done)|(go_simp;rfl));intro g1 hg w2 hb2 hbl2;have HB1:=Lib.hid hb2;have HBL1:=Lib.hid hbl2;have HGE1:Hid (w.heap.size≤g1):=Lib.hid (by rw [hg];exact Nat.le_refl _);clear hg hb2 hbl2;go_frame)|((with_reducible refine gate_store (t:=35) (p:=1) rfl ?_);refine wpList_store_agg rfl rfl 35 _ _ rfl g1 (ndCells dN).toArray rfl rfl 35 ndZero HB1.out rfl rfl (ndCells_all _) ?_;intro w3 hb3 hg3;have HB3:=Lib.hid hb3;have HBL3:Hid (Below w.heap.size w w3):=Lib.hid (HBL1.out.grown hg3 HBL1.out.size (fun j hj=>by cases hj;exact HGE1.out));clear hb3 hg3)|((with_reducible refine gate_dst (N:=13) rfl ?_);refine build_event rfl (N:=13) rfl 35 _ rfl (ndCells dN).toArray (by kernel_rfl) ?_;go_frame)|((with_reducible refine gate_dst (N:=14) rfl ?_);refine wpList_load_agg rfl 35 _ rfl _ rfl (ndCells dN) _ (lies_of HB3.out) h31 rfl rfl ?_;go_frame)|((with_reducible refine gate_dst (N:=15) rfl ?_);refine build_event rfl (N:=15) rfl 39 _ rfl (eCells ([97],dN)).toArray (by kernel_rfl) ?_;go_frame)|((with_reducible refine gate_dst (N:=16) rfl ?_);refine build_event rfl (N:=16) rfl 39 _ rfl (eCells ([97,47,98],zeroN)).toArray (by kernel_rfl) ?_;go_frame)|((with_reducible refine gate_dst (N:=17) rfl ?_);refine build_event rfl (N:=17) rfl 39 _ rfl (eCells ([99],zeroN)).toArray (by kernel_rfl) ?_;go_frame)|((with_reducible refine gate_dst (N:=18) rfl ?_);refine row_event rfl (N:=18) rfl (cs:=(flat eCells a19).toArray) (t:=39) (n:=3) (by kernel_rfl) ?_;intro g18 hg w18 hb hbl;have HB18:=Lib.hid hb;have HBL18:=Lib.hid hbl;clear hg hb hbl;go_frame)|((with_reducible refine gate_dst (N:=19) rfl ?_);refine wpList_load_agg rfl 35 _ rfl _ rfl (ndCells dN) _ (lies_of (blk_below HB3.out HBL18.out)) h31 rfl rfl ?_;go_frame)|((with_reducible refine gate_dst (N:=20) rfl ?_);refine build_event rfl (N:=20) rfl 39 _ rfl (eCells ([97],dN)).toArray (by kernel_rfl) ?_;go_frame)|((with_reducible refine gate_dst (N:=21) rfl ?_);refine build_event rfl (N:=21) rfl 35 _ rfl (ndCells mN).toArray (by kernel_rfl) ?_;go_frame)|((with_reducible refine gate_dst (N:=22) rfl ?_);refine build_event rfl (N:=22) rfl 39 _ rfl (eCells ([97,47,98],mN)).toArray (by kernel_rfl) ?_;go_frame)|((with_reducible refine gate_dst (N:=23) rfl ?_);refine build_event rfl (N:=23) rfl 39 _ rfl (eCells ([120],zeroN)).toArray (by kernel_rfl) ?_;go_frame)|((with_reducible refine gate_dst (N:=24) rfl ?_);refine row_event rfl (N:=24) rfl (cs:=(flat eCells b19).toArray) (t:=39) (n:=3) (by kernel_rfl) ?_;intro g24 hg w24 hb hbl;have HB24:=Lib.hid hb;have HBL24:=Lib.hid hbl;clear hg hb hbl;go_frame))
 have HW:=Lib.hid (YtdacflloaehjeaaGreatDoor.below_then (YtdacflloaehjeaaGreatDoor.below_then HBL3.out HBL18.out) HBL24.out)
 have HKA:Hid (Kd.C k39 w24 (some ⟨g18,0,none⟩) (a19.map ofEn).length (a19.map ofEn)):=Lib.hid (ens_C (l:=a19) (blk_below HB18.out HBL24.out) (by decide))
 have HKB:Hid (Kd.C k39 w24 (some ⟨g24,0,none⟩) (b19.map ofEn).length (b19.map ofEn)):=Lib.hid (ens_C (l:=b19) HB24.out (by decide))
 clear HB1 HBL1 HGE1 HB3 HBL3 HB18 HBL18 HB24 HBL24
 have c1:=diff_calls w24 (hG.ext HW.out) (some ⟨g18,0,none⟩) 3 (a19.map ofEn) HKA.out (by decide) fa19 (some ⟨g24,0,none⟩) 3 (b19.map ofEn) HKB.out (by decide) fb19
 rw [ens_back,ens_back,d19a] at c1
 have C1:=Lib.hid c1
 clear c1
 go_wp2_with fail
 refine C1.out.mono ?_
 rintro e w28 ⟨v1,rfl,ho,hb⟩
 obtain ⟨gl,cl,rfl,_,_⟩:=own_spot ho 3 rfl (by decide)
 have HO1:=Lib.hid ho
 have HW28:=Lib.hid (YtdacflloaehjeaaGreatDoor.below_then HW.out hb)
 have HKA2:=Lib.hid (Kd.C_below HKA.out hb)
 have HKB2:=Lib.hid (Kd.C_below HKB.out hb)
 clear ho hb C1 HKA HKB HW
 have c2:=diff_calls w28 (hG.ext HW28.out) (some ⟨g18,0,none⟩) 3 (a19.map ofEn) HKA2.out (by decide) fa19 (some ⟨g18,0,none⟩) 3 (a19.map ofEn) HKA2.out (by decide) fa19
 rw [ens_back,d19b] at c2
 have C2:=Lib.hid c2
 clear c2
 go_wp2_with fail
 refine C2.out.mono ?_
 rintro e w34 ⟨v2,rfl,ho,hb⟩
 obtain ⟨am,cm,rfl⟩:=own_none ho
 have HW34:=Lib.hid (YtdacflloaehjeaaGreatDoor.below_then HW28.out hb)
 have HKA3:=Lib.hid (Kd.C_below HKA2.out hb)
 have HKB3:=Lib.hid (Kd.C_below HKB2.out hb)
 have HO1b:=Lib.hid (YtdacflloaehjeaaGreatDoor.Owr.ext HO1.out hb)
 clear ho hb C2 HKA2 HKB2 HW28 HO1
 go_wp2_with (first|((with_reducible refine gate_dst (N:=39) rfl ?_);refine build_event rfl (N:=39) rfl 39 _ rfl (eCells ([97],zeroN)).toArray (by kernel_rfl) ?_;go_frame)|((with_reducible refine gate_dst (N:=40) rfl ?_);refine row_event rfl (N:=40) rfl (cs:=(flat eCells c19).toArray) (t:=39) (n:=1) (by kernel_rfl) ?_;intro g40 hg w40 hb hbl;have HB40:=Lib.hid hb;have HBL40:=Lib.hid hbl;clear hg hb hbl;go_frame))
 have HW40:=Lib.hid (YtdacflloaehjeaaGreatDoor.below_then HW34.out HBL40.out)
 have HKA4:=Lib.hid (Kd.C_below HKA3.out HBL40.out)
 have HKB4:=Lib.hid (Kd.C_below HKB3.out HBL40.out)
 have HO1c:=Lib.hid (YtdacflloaehjeaaGreatDoor.Owr.ext HO1b.out HBL40.out)
 have c3:=diff_calls w40 (hG.ext HW40.out) (some ⟨g18,0,none⟩) 3 (a19.map ofEn) HKA4.out (by decide) fa19 (some ⟨g40,0,none⟩) 1 (c19.map ofEn) (ens_C (l:=c19) HB40.out (by decide)) (by decide) fc19
 rw [ens_back,ens_back,d19c] at c3
 have C3:=Lib.hid c3
 clear c3 HW34 HKA3 HKB3 HO1b HBL40 HB40
 go_wp2_with fail
 refine C3.out.mono ?_
 rintro e w41 ⟨v3,rfl,ho,hb⟩
 obtain ⟨gn,cn,rfl,_,_⟩:=own_spot ho 2 rfl (by decide)
 have HO3:=Lib.hid ho
 have HW41:=Lib.hid (YtdacflloaehjeaaGreatDoor.below_then HW40.out hb)
 have HKA5:=Lib.hid (Kd.C_below HKA4.out hb)
 have HKB5:=Lib.hid (Kd.C_below HKB4.out hb)
 have HO1d:=Lib.hid (YtdacflloaehjeaaGreatDoor.Owr.ext HO1c.out hb)
 clear ho hb C3 HKA4 HKB4 HW40 HO1c
 go_wp2_with (first|((with_reducible refine gate_dst (N:=45) rfl ?_);refine build_event rfl (N:=45) rfl 39 _ rfl (eCells ([97,47,98],zeroN)).toArray (by kernel_rfl) ?_;go_frame)|((with_reducible refine gate_dst (N:=46) rfl ?_);refine row_event rfl (N:=46) rfl (cs:=(flat eCells e19).toArray) (t:=39) (n:=1) (by kernel_rfl) ?_;intro g46 hg w46 hb hbl;have HB46:=Lib.hid hb;have HBL46:=Lib.hid hbl;clear hg hb hbl;go_frame))
 have HW46:=Lib.hid (YtdacflloaehjeaaGreatDoor.below_then HW41.out HBL46.out)
 have HKA6:=Lib.hid (Kd.C_below HKA5.out HBL46.out)
 have HKB6:=Lib.hid (Kd.C_below HKB5.out HBL46.out)
 have HO1e:=Lib.hid (YtdacflloaehjeaaGreatDoor.Owr.ext HO1d.out HBL46.out)
 have HO3b:=Lib.hid (YtdacflloaehjeaaGreatDoor.Owr.ext HO3.out HBL46.out)
 have c4:=diff_calls w46 (hG.ext HW46.out) (some ⟨g46,0,none⟩) 1 (e19.map ofEn) (ens_C (l:=e19) HB46.out (by decide)) (by decide) fe19 none 0 [] (Kd.C_nil _ _) (Nat.le_refl _) ⟨rfl,by simp⟩
 rw [ens_back,show List.map enOf ([]:List S39)=[] from rfl,d19d] at c4
 have C4:=Lib.hid c4
 clear c4 HW41 HKA5 HKB5 HO1d HO3 HBL46 HB46
 go_wp2_with fail
 refine C4.out.mono ?_
 rintro e w47 ⟨v4,rfl,ho,hb⟩
 obtain ⟨a4,c4,rfl⟩:=own_none ho
 have HW47:=Lib.hid (YtdacflloaehjeaaGreatDoor.below_then HW46.out hb)
 have HKA7:=Lib.hid (Kd.C_below HKA6.out hb)
 have HKB7:=Lib.hid (Kd.C_below HKB6.out hb)
 have HO1f:=Lib.hid (YtdacflloaehjeaaGreatDoor.Owr.ext HO1e.out hb)
 have HO3c:=Lib.hid (YtdacflloaehjeaaGreatDoor.Owr.ext HO3b.out hb)
 clear ho hb C4 HKA6 HKB6 HW46 HO1e HO3b
 go_wp2_with ((with_reducible refine gate_dst (N:=52) rfl ?_);refine row_event rfl (N:=52) rfl (cs:=([.slice (some ⟨g18,0,none⟩) 3 3,.slice (some ⟨g24,0,none⟩) 3 3]).toArray) (t:=22) (n:=2) (by kernel_rfl) ?_;intro g52 hg w52 hb hbl;have HB52:=Lib.hid hb;have HBL52:=Lib.hid hbl;clear hg hb hbl;go_frame)
 have HW52:=Lib.hid (YtdacflloaehjeaaGreatDoor.below_then HW47.out HBL52.out)
 have HKA8:=Lib.hid (Kd.C_below HKA7.out HBL52.out)
 have HKB8:=Lib.hid (Kd.C_below HKB7.out HBL52.out)
 have HO1g:=Lib.hid (YtdacflloaehjeaaGreatDoor.Owr.ext HO1f.out HBL52.out)
 have HO3d:=Lib.hid (YtdacflloaehjeaaGreatDoor.Owr.ext HO3c.out HBL52.out)
 have hst:Kd.C (Kd.slice 39 k39) w52 (some ⟨g52,0,none⟩) [a19.map ofEn,b19.map ofEn].length [a19.map ofEn,b19.map ofEn]:=es_block HB52.out (by decide) (fun j p hp=>by
  match j,hp with
  | 0,hp=>obtain rfl:=Option.some.inj hp;exact ⟨_,_,rfl,by decide,HKA8.out⟩
  | 1,hp=>obtain rfl:=Option.some.inj hp;exact ⟨_,_,rfl,by decide,HKB8.out⟩
  | j + 2,hp=>cases hp)
 have c5:=both_calls w52 (hG.ext HW52.out) (some ⟨g52,0,none⟩) 2 [a19.map ofEn,b19.map ofEn] hst (by decide) (fun l hl=>by
  simp only [List.mem_cons,List.not_mem_nil,or_false] at hl
  rcases hl with rfl|rfl
  ·exact fa19
  ·exact fb19) (fun l hl=>by
  simp only [List.mem_cons,List.not_mem_nil,or_false] at hl
  rcases hl with rfl|rfl
  ·exact oka
  ·exact okb)
 rw [List.map_cons,List.map_cons,List.map_nil,ens_back,ens_back,d19e] at c5
 have C5:=Lib.hid c5
 clear c5 hst HW47 HKA7 HKB7 HO1f HO3c HBL52 HB52
 go_wp2_with fail
 refine C5.out.mono ?_
 rintro e w53 ⟨v5,rfl,ho,hb⟩
 obtain ⟨gb,cb,rfl,_,hcb⟩:=own_spot ho 1 rfl (by decide)
 have HW53:=Lib.hid (YtdacflloaehjeaaGreatDoor.below_then HW52.out hb)
 have HKA9:=Lib.hid (Kd.C_below HKA8.out hb)
 have HKB9:=Lib.hid (Kd.C_below HKB8.out hb)
 obtain ⟨gl',cl',el,_,hcl⟩:=own_spot (YtdacflloaehjeaaGreatDoor.Owr.ext HO1g.out hb) 3 rfl (by decide)
 obtain ⟨gn',cn',en,_,hcn⟩:=own_spot (YtdacflloaehjeaaGreatDoor.Owr.ext HO3d.out hb) 2 rfl (by decide)
 cases el
 cases en
 have HL0:Hid (LiesAt w53 ⟨gl,0,none⟩ (chCells ⟨[99],1,zeroN⟩)):=Lib.hid (fun j v hv=>by rw [Addr.add_mid,Nat.zero_add];exact hcl j v (by
  have hj:j<12:=(List.getElem?_eq_some_iff.1 hv).1
  show (chCells _ ++ _)[j]?=_
  rw [List.getElem?_append_left hj];exact hv))
 have HL1:Hid (LiesAt w53 ⟨gl,12,none⟩ (chCells ⟨[97,47,98],0,mN⟩)):=Lib.hid (fun j v hv=>by rw [Addr.add_mid];exact hcl (12 + j) v (by
  have hj:j<12:=(List.getElem?_eq_some_iff.1 hv).1
  show (chCells _ ++ (chCells _ ++ _))[12 + j]?=_
  rw [List.getElem?_append_right (by show 12≤12 + j;omega),show 12 + j - (chCells _).length=j from by show 12 + j - 12=j;omega,List.getElem?_append_left hj];exact hv))
 have q2:=hcl 24 _ rfl
 have q3:=hcn 0 _ rfl
 have q4:=hcn 12 _ rfl
 have q5:=hcb 0 _ rfl
 clear hcl hcn hcb ho hb C5 HKA8 HKB8 HO1g HO3d HW52
 go_upto_region 11 with fail
 dsimp only [List.append]
 go_wp2_with (first|((with_reducible refine gate_dst (N:=71) rfl ?_);refine wpList_load_agg rfl 59 _ rfl _ rfl (chCells ⟨[99],1,zeroN⟩) _ (HL0.out) h33 rfl rfl ?_;go_frame)|((with_reducible refine gate_dst (N:=72) rfl ?_);refine wpList_giv rfl (v:=.agg (chCells ⟨[99],1,zeroN⟩).toArray) (by kernel_rfl) ?_;go_frame)|((with_reducible refine gate_dst (N:=78) rfl ?_);refine wpList_load_agg rfl 59 _ rfl _ rfl (chCells ⟨[97,47,98],0,mN⟩) _ (HL1.out) h33 rfl rfl ?_;go_frame)|((with_reducible refine gate_dst (N:=79) rfl ?_);refine wpList_giv rfl (v:=.agg (ndCells mN).toArray) (by kernel_rfl) ?_;go_frame)|((with_reducible refine gate_dst (N:=80) rfl ?_);refine wpList_giv rfl (v:=.agg (chCells ⟨[97,47,98],0,mN⟩).toArray) (by kernel_rfl) ?_;go_frame))
 have C6:=Lib.hid (dsame_calls w53 (some ⟨g18,0,none⟩) 3 (a19.map ofEn) HKA9.out (some ⟨g18,0,none⟩) 3 (a19.map ofEn) HKA9.out (by decide) (by decide) true ⟨fun _=>rfl,fun _=>rfl⟩)
 refine C6.out.mono ?_
 rintro e w54 ⟨rfl,hb⟩
 have HW54:=Lib.hid (YtdacflloaehjeaaGreatDoor.below_then HW53.out hb)
 have HKA10:=Lib.hid (Kd.C_below HKA9.out hb)
 have HKB10:=Lib.hid (Kd.C_below HKB9.out hb)
 clear hb C6 HW53 HKA9 HKB9 HL0 HL1 q2 q3 q4 q5
 go_wp2_with fail
 have C7:=Lib.hid (dsame_calls w54 (some ⟨g18,0,none⟩) 3 (a19.map ofEn) HKA10.out (some ⟨g24,0,none⟩) 3 (b19.map ofEn) HKB10.out (by decide) (by decide) false ⟨fun h=>(nomatch h),fun h=>absurd h ab19⟩)
 refine C7.out.mono ?_
 rintro e w55 ⟨rfl,hb⟩
 have HW55:=Lib.hid (YtdacflloaehjeaaGreatDoor.below_then HW54.out hb)
 clear hb C7 HW54 HKA10 HKB10
 go_wp2_with fail
 have C8:=Lib.hid (both_calls w55 (hG.ext HW55.out) none 0 [] (es_nil none) (by decide) (fun l h=>by cases h) (fun l h=>by cases h))
 refine C8.out.mono ?_
 rintro e w56 ⟨v6,rfl,ho,hb⟩
 obtain ⟨a6,c6,rfl⟩:=own_none ho
 have HW56:=Lib.hid (YtdacflloaehjeaaGreatDoor.below_then HW55.out hb)
 clear ho hb C8 HW55
 go_wp2_with fail
 go_ret
 exact ⟨rfl,HW56.out⟩
end Go.Proofs.Zq
end
section
namespace Go.Proofs.Zq
open Go.RowKit Go.Proofs.YtdacflloaehjeaaGreatDoor Go.Proofs.Zw.PrintWords Go.Proofs.Zw.PrintLast Go.Proofs.Zw.PrintMore
open Go.Proofs.Zt (applyM diffM diffC sortL lessC RightT RightL rightT rightC Ch)
theorem own_chC {W:World} {nb:Nat} {v:Value} {l:List (Ch Str Nd)} (h:YtdacflloaehjeaaGreatDoor.Owr chCells 59 12 nb W v l) (hl:l.length≤1000000):∃ A c,v=.slice A (l.map ofCh).length c∧(l.map ofCh).length≤c∧Kd.C k59 W A (l.map ofCh).length (l.map ofCh):=by
 obtain ⟨A,c,rfl,_,hc⟩:=YtdacflloaehjeaaGreatDoor.Owr.val h
 exact ⟨A,c,by rw [List.length_map],by rw [List.length_map];exact hc,ch_C (by rw [chs_back];exact h.row chC_len) (by rw [List.length_map];omega)⟩
theorem diff_false {a b:List (Str×Nd)} (h:(diffM Y a b).2=false):diffM Y a b=([],false):=by
 unfold diffM at *
 split at h
 ·cases h
 ·rename_i hn
  rw [if_neg hn]
theorem diff_fits {a b:List (Str×Nd)} (ha:rowFits a=true) (hb:rowFits b=true):lyrFits (diffM Y a b).1=true∧(diffM Y a b).1.length≤1000000:=by
 by_cases h:(rightT Y a && rightT Y b)=true
 ·have e:diffM Y a b=(sortL lessC [] (diffC Y a b),true):=by unfold diffM;rw [if_pos h]
  rw [e]
  rw [Bool.and_eq_true] at h
  have hA:=(Zt.rightT_iff Y).1 h.1
  have hB:=(Zt.rightT_iff Y).1 h.2
  refine ⟨List.all_eq_true.2 fun c hc=>?_,?_⟩
  ·have hc':c ∈ diffC Y a b:=by have:=(Zt.sortL_perm lessC [] (diffC Y a b)).mem_iff.1 hc;simpa using this
   rcases (Zt.mem_diffC c).1 hc' with ⟨e,h1,_,_,rfl⟩|⟨e,h1,_,rfl⟩
   ·have:=(fits_get ha h1).1
    simp only [Bool.and_eq_true,decide_eq_true_eq]
    exact ⟨this,by show ndFits zeroN=true;rfl⟩
   ·have:=fits_get hb h1
    simp only [Bool.and_eq_true,decide_eq_true_eq]
    exact this
  ·rw [(Zt.sortL_perm lessC [] (diffC Y a b)).length_eq,List.nil_append,diffC_parts,List.length_append]
   have h1:=dA_len b a
   have h2:=dB_len a b
   have:=hA.len
   have:=hB.len
   omega
 ·have e:diffM Y a b=([],false):=by unfold diffM;rw [if_neg h]
  rw [e]
  exact ⟨rfl,by simp⟩
end Go.Proofs.Zq
end
section
namespace Go.Proofs.Zt
variable {π ν:Type} [DecidableEq π] {P:Paths π} {dir:ν→Bool}
theorem DiffR.needs {key:Ch π ν→π} {a b:π→Option ν} {l m:List (Ch π ν)} (hb:WF P dir b) (hl:LayR P key l) (h:DiffR P dir a b l) (hm:LayR P key m) {c:Ch π ν} (hc:c ∈ l) (hmem:∀ d ∈ m,d ∈ l∧key d≠key c)
  (hkw:∀ d ∈ l,d.op=1→c.op=1→d.path=c.path→key d=key c):after dir (layOf hm) a c.path≠b c.path:=by
 have hv:P.V c.path:=by
  rcases h.op c hc with h0|h0
  ·exact (hl.put c hc h0).1
  ·exact hl.white c hc h0
 rcases h.op c hc with h0|h0
 ·
  obtain ⟨h1,h2⟩:=(h.put c h0).1 hc
  rw [h1]
  rcases after_cases (dir:=dir) (layOf hm) a c.path with ⟨n,e1,e2⟩|⟨e1,e2,e3⟩|⟨e1,e2,e3,e4⟩
  ·exfalso
   obtain ⟨d,hd,d0,dp,_⟩:=(layOf_put hm).1 e1
   obtain ⟨d1,d2⟩:=hmem d hd
   exact d2 (by rw [(hl.put d d1 d0).2,(hl.put c hc h0).2,dp])
  ·rw [e3];simp
  ·rw [e4];exact h2
 ·
  obtain ⟨h1,h2,h3⟩:=(h.white c.path).1 ⟨c,hc,h0,rfl⟩
  rw [h2]
  have hup:∀ p,P.under p c.path=true→Fold P dir b p:=by
   intro p hp
   rcases (P.under_iff hv).1 hp with e|e
   ·rw [e];exact h3
   ·rcases P.par_V hv with hr|hv'
    ·rw [hr,P.under_root] at e;cases e
    ·rcases h3 with hr|⟨k,hk,_⟩
     ·exact absurd hr (Paths.ne_root hv')
     ·exact hb.up _ hv' k hk p e
  rcases after_cases (dir:=dir) (layOf hm) a c.path with ⟨n,e1,e2⟩|⟨e1,e2,e3⟩|⟨e1,e2,e3,e4⟩
  ·exfalso
   obtain ⟨d,hd,d0,dp,_⟩:=(layOf_put hm).1 e1
   have:=((h.put d d0).1 (hmem d hd).1).1
   rw [dp,h2] at this;cases this
  ·exfalso
   rcases e2 with ⟨p,n,c1,c2,c3⟩|e2
   ·obtain ⟨d,hd,d0,rfl,rfl⟩:=(layOf_put hm).1 c1
    have hbd:=((h.put d d0).1 (hmem d hd).1).1
    rcases hup _ c3 with hr|⟨k,hk,hkd⟩
    ·exact P.V_root (hr ▸ (hm.put d hd d0).1)
    ·rw [hbd] at hk;cases hk;rw [c2] at hkd;cases hkd
   ·obtain ⟨d,hd,⟨d1,d2⟩|⟨d1,_⟩⟩:=(layOf_tk hm).1 e2
    ·obtain ⟨dl,dk⟩:=hmem d hd
     rcases d2 with d2|d2
     ·exact dk (hkw d dl d1 h0 d2.symm)
     ·have hd':=(h.white d.path).1 ⟨d,dl,d1,rfl⟩
      rcases hup _ d2 with hr|⟨k,hk,_⟩
      ·exact P.V_root (hr ▸ hm.white d hd d1)
      ·rw [hd'.2.1] at hk;cases hk
    ·rcases h.op d (hmem d hd).1 with h0|h0 <;> rw [h0] at d1 <;> cases d1
  ·rw [e4];exact h1
end Go.Proofs.Zt
end
section
namespace Go.Proofs.Zt
variable {ν:Type} [DecidableEq ν] {Y:Sys ν}
theorem diff_needs {a b:Row ν} {l:Lyr ν} (h:diffM Y a b=(l,true)) {u:Lyr ν} {c:Ch Str ν} {v:Lyr ν} (e:l=u ++ c :: v):applyM Y a (u ++ v)≠(b,0):=by
 obtain ⟨ha,hb,hl0⟩:=diffM_some h
 obtain ⟨hl,hd⟩:=diff_right ha hb
 rw [← hl0] at hl hd
 intro hk
 obtain ⟨_,hm,_,_,hag⟩:=applyM_ok Y hk
 have hc:c ∈ l:=by rw [e];simp
 have hs:=hl.c.s
 rw [e] at hs
 have hp:=List.pairwise_append.1 hs
 have hne:∀ d ∈ u ++ v,d ∈ l∧keyM d≠keyM c:=by
  intro d hd
  rcases List.mem_append.1 hd with h'|h'
  ·refine ⟨by rw [e];exact List.mem_append_left _ h',fun ek=>?_⟩
   have:=hp.2.2 d h' c List.mem_cons_self
   unfold keyM at ek
   rw [ek,cmpM_refl] at this
   exact absurd this (by decide)
  ·refine ⟨by rw [e];exact List.mem_append_right _ (List.mem_cons_of_mem _ h'),fun ek=>?_⟩
   have:=(List.pairwise_cons.1 hp.2.1).1 d h'
   unfold keyM at ek
   rw [ek,cmpM_refl] at this
   exact absurd this (by decide)
 have hv:PS.V c.path:=by
  rcases hd.op c hc with h0|h0
  ·exact (hl.layR.put c hc h0).1
  ·exact hl.layR.white c hc h0
 exact hd.needs hb.wf hl.layR hm.layR hc hne (fun d _ h1 h2 h3=>by unfold keyM;rw [h1,h2,h3]) (hag _ hv).symm
end Go.Proofs.Zt
end
section
namespace Go.Proofs.Zq
open Go.RowKit Go.Proofs.YtdacflloaehjeaaGreatDoor Go.Proofs.Zw.PrintWords Go.Proofs.Zw.PrintLast Go.Proofs.Zw.PrintMore
open Go.Proofs.Zt (applyM diffM RightT RightL rightT rightC Ch)
section
variable {α:Type} {P:Program} {enc:α→List Value}
theorem app_lies {oi:Oper} {N:Option Tmp} {a:Act} {w:World} {Q:Exit→Act→World→Prop} {K:Act→World→Prop} {ops:Array Oper} (hw:Region.wanted oi (yielded ops a.tmps)=true) (hN:oi.dst=N) (s x:Operand) (t:TypeId)
  (ho:oi.op=.call { callee:=.builtin .append,args:=#[s,x],argTypes:=#[t,t] })
  (base T k bytes:Nat) (i:TypeInfo) (z:Value) (ht:P.underlying t=some (.slice T)) (hi:P.info? T=some i) (hz:i.zero=some z)
  (hsize:i.size=k) (hby:i.bytes=bytes) (hzs:z.cells.size=k) (hsz:0<k) (hk:∀ x,(enc x).length=k) (h1:∀ x,∀ u ∈ enc x,u.oneCell'=true)
  (v:Value) (l:List α) (hs:a.eval s=v) (hown:YtdacflloaehjeaaGreatDoor.Owr enc T k base w v l) (ad:Addr) (n c:Nat) (m:List α) (hx:a.eval x=.slice (some ad) n c) (hnm:n=m.length) (hr:LiesAt w ad (flat enc m))
  (h63:l.length + m.length≤maxLen) (hbytes:(l.length + m.length) * bytes≤140737488355328) (hbase:base≤w.heap.size)
  (h:∀ v' w',YtdacflloaehjeaaGreatDoor.Owr enc T k base w' v' (l ++ m)→w.grownBy w' v.ownBlock→K (a.put N v') w'):if Region.wanted oi (yielded ops a.tmps)=true then Oper.wp P oi a w K Q else K (a.put N undef) w:=by
 rw [if_pos hw]
 subst hnm
 subst hN
 obtain ⟨v',w',hrun,h2,h3,_⟩:=run_append_own (P:=P) w base t oi.type T i z k bytes ht hi hz hsize hby hzs hsz v l.length (flat enc l) hown ad m.length c (flat enc m) (flat_length hk m) hr (fun u hu=>by
  obtain ⟨x,_,hx⟩:=List.mem_flatMap.1 hu
  exact h1 x u hx) h63 hbytes hbase
 unfold Oper.wp execOp
 simp only [ho,resolve,invoke,builtin,Sem.run_bind,Sem.run_pure,Result.andThen_ok,List.map_toArray,List.map_cons,List.map_nil,hs,hx,hrun]
 refine h v' w' ?_ h3
 unfold YtdacflloaehjeaaGreatDoor.Owr
 rw [flat_append,List.length_append]
 exact h2
end
theorem ch_flat {w:World} {ad:Addr} {l:List (Ch Str Nd)} (h:Kd.C k59 w (some ad) (l.map ofCh).length (l.map ofCh)) (n:Nat):LiesAt w (ad.add (n * 12)) (flat chCells (l.drop n)):=fun j u hu=>by
 obtain ⟨i,jj,x,h1,h2,rfl⟩:=flat_get chC_len _ j u hu
 rw [List.getElem?_drop] at h1
 have hi:n + i<(l.map ofCh).length:=by
  rw [List.length_map]
  exact (List.getElem?_eq_some_iff.1 h1).1
 obtain ⟨ad',h3,h4⟩:=c_at h (n + i) hi
 obtain rfl:=Option.some.inj h3
 have hx:chOf (l.map ofCh)[n + i]=x:=by
  have hi':n + i<l.length:=by rw [List.length_map] at hi;exact hi
  rw [List.getElem?_eq_getElem hi'] at h1
  rw [List.getElem_map,chOf_ofCh]
  exact Option.some.inj h1
 rw [hx] at h4
 have:=h4 jj u h2
 rw [Addr.add_add] at this ⊢
 rwa [show n * 12 + (i * 12 + jj)=(n + i) * 12 + jj from by omega]
theorem lies_pre {w:World} {ad:Addr} {a b:List Value} (h:LiesAt w ad (a ++ b)):LiesAt w ad a:=fun j u hu=>h j u (by
 have hj:j<a.length:=(List.getElem?_eq_some_iff.1 hu).1
 rw [List.getElem?_append_left hj];exact hu)
theorem lies_below {w w':World} {ad:Addr} {a:List Value} (h:LiesAt w ad a) (hb:Below w.heap.size w w'):LiesAt w' ad a:=fun j u hu=>pw_cell_below hb (h j u hu)
theorem fits_cut {l:List (Ch Str Nd)} (h:lyrFits l=true) (i:Nat):lyrFits (l.take i ++ l.drop (i + 1))=true:=by
 unfold lyrFits at h ⊢
 rw [List.all_eq_true] at h ⊢
 intro x hx
 rcases List.mem_append.1 hx with hx|hx
 ·exact h x (List.mem_of_mem_take hx)
 ·exact h x (List.mem_of_mem_drop hx)
set_option maxRecDepth 100000 in
set_option maxHeartbeats 4000000 in
theorem diffNeeds_calls (w:World) (hG:GL w) (A0:Option Addr) (c0:Nat) (l0:List S39) (hr0:Kd.C k39 w A0 l0.length l0) (hc0:l0.length≤c0) (h0:SzE l0) (n0:l0.length≤1000000000000000)
  (A1:Option Addr) (c1:Nat) (l1:List S39) (hr1:Kd.C k39 w A1 l1.length l1) (hc1:l1.length≤c1) (h1:SzE l1) (n1:l1.length≤1000000000000000) :
  Calls Tryz.prog 12 #[.slice A0 l0.length c0,.slice A1 l1.length c1] w fun e w'=>e=.returned (.bool true)∧Below w.heap.size w w':=by
 obtain ⟨b0,e0,q0⟩:=few09_ev l0 h0 n0
 obtain ⟨k0,e0⟩:=e0.rounds
 obtain ⟨b1,e1,q1⟩:=few09_ev l1 h1 n1
 obtain ⟨k1,e1⟩:=e1.rounds
 have F0:Hid (b0=true→rowFits' l0):=Lib.hid fun h=>fitsE_of (q0 h)
 have F1:Hid (b1=true→rowFits' l1):=Lib.hid fun h=>fitsE_of (q1 h)
 have E0:=Lib.hid e0
 have E1:=Lib.hid e1
 have HR0:=Lib.hid hr0
 have HC0:=Lib.hid hc0
 have HR1:=Lib.hid hr1
 have HC1:=Lib.hid hc1
 clear hr0 hc0 e0 h0 n0 q0 hr1 hc1 e1 h1 n1 q1
 go_enter Tryz.func12,Tryz.ntmps12
 go_wp2_with fail
 refine (small19_calls w hG).mono ?_
 rintro x w2 ⟨rfl,hb⟩
 have HB2:=Lib.hid hb
 clear hb
 go_wp2_with fail
 refine (onionskinlaw09_Few.calls k0 A0 c0 l0 b0 w2 (Kd.C_below HR0.out HB2.out) HC0.out E0.out).mono ?_
 rintro x w3 ⟨rfl,hd⟩
 have HB3:=Lib.hid (YtdacflloaehjeaaGreatDoor.below_then HB2.out hd.below)
 clear hd HB2
 go_wp2_with fail
 refine (onionskinlaw09_Few.calls k1 A1 c1 l1 b1 w3 (Kd.C_below HR1.out HB3.out) HC1.out E1.out).mono ?_
 rintro x w4 ⟨rfl,hd⟩
 have HB4:=Lib.hid (YtdacflloaehjeaaGreatDoor.below_then HB3.out hd.below)
 clear hd HB3
 cases b0 with
 | false =>
  go_wp2_with fail
  go_ret
  exact ⟨rfl,HB4.out⟩
 | true =>
 cases b1 with
 | false =>
  go_wp2_with fail
  go_ret
  exact ⟨rfl,HB4.out⟩
 | true =>
 have HF0:=Lib.hid (F0.out rfl)
 have HF1:=Lib.hid (F1.out rfl)
 clear F0 F1 E0 E1
 have cd:=diff_calls w4 (hG.ext HB4.out) A0 c0 l0 (Kd.C_below HR0.out HB4.out) HC0.out HF0.out A1 c1 l1 (Kd.C_below HR1.out HB4.out) HC1.out HF1.out
 have hfl:=diff_fits HF0.out.1 HF1.out.1
 have hff:=diff_false (a:=l0.map enOf) (b:=l1.map enOf)
 have hdo:(diffM Y (l0.map enOf) (l1.map enOf)).2=true→∀ (i:Nat) (hi:i<(diffM Y (l0.map enOf) (l1.map enOf)).1.length),applyM Y (l0.map enOf) ((diffM Y (l0.map enOf) (l1.map enOf)).1.take i ++ (diffM Y (l0.map enOf) (l1.map enOf)).1.drop (i + 1))≠(l1.map enOf,0):=fun h i hi=>by
  have e:diffM Y (l0.map enOf) (l1.map enOf)=((diffM Y (l0.map enOf) (l1.map enOf)).1,true):=Prod.ext rfl h
  exact Zt.diff_needs e (c:=(diffM Y (l0.map enOf) (l1.map enOf)).1[i]) (by rw [← List.drop_eq_getElem_cons hi,List.take_append_drop])
 obtain ⟨R,hR⟩:∃ R,R=diffM Y (l0.map enOf) (l1.map enOf):=⟨_,rfl⟩
 rw [← hR] at cd hfl hff hdo
 obtain ⟨L,rb⟩:=R
 have CD:=Lib.hid cd
 have HFL:=Lib.hid hfl
 have HFF:=Lib.hid hff
 have HDO:=Lib.hid hdo
 clear cd hfl hff hdo hR
 go_wp2_with fail
 refine CD.out.mono ?_
 rintro x w5 ⟨v5,rfl,ho,hb⟩
 obtain ⟨A5,c5,rfl,hc5,hk5⟩:=own_chC ho HFL.out.2
 have HB5:=Lib.hid (YtdacflloaehjeaaGreatDoor.below_then HB4.out hb)
 have HC5:=Lib.hid hc5
 have HK5:=Lib.hid hk5
 clear ho hb hc5 hk5 CD HB4
 cases rb with
 | false =>
  have hl:L=[]:=congrArg Prod.fst (HFF.out rfl)
  subst hl
  go_wp2_with fail
  go_ret
  exact ⟨rfl,HB5.out⟩
 | true =>
 have HNE:=Lib.hid (HDO.out rfl)
 clear HFF HDO
 obtain ⟨i0,hi,hz0,hz1,hz2⟩:=info_parts info_ch
 have HI0:=Lib.hid hi
 have HZ0:=Lib.hid hz0
 have HZ1:=Lib.hid hz1
 have HZ2:=Lib.hid hz2
 clear hi hz0 hz1 hz2
 have hll:=HFL.out.2
 simp only [List.length_map] at HC5 HK5 ⊢
 go_wp2
 go_loopg [10] (L.length + 1) (fun gq v wr=>∃ i:Nat,v=.int .i64 i∧L.length<gq + i∧Hid (i≤L.length)∧Hid (Kd.C k59 wr A5 (L.map ofCh).length (L.map ofCh))∧Hid (Below w.heap.size w wr))
 case atStart=>exact ⟨0,rfl,by omega,Lib.hid (by omega),Lib.hid (by simpa using HK5.out),HB5⟩
 case round =>
  clear HK5 HB5
  obtain ⟨i,rfl,hgi,HI,HK,HB⟩:=hrel
  by_cases hi:i<L.length
  ·cases gk with
   | zero=>omega
   | succ g1 =>
    obtain ⟨ad,rfl⟩:∃ ad,A5=some ad:=by
     obtain ⟨ad,h,_⟩:=c_at HK.out i (by rw [List.length_map];exact hi)
     exact ⟨ad,h⟩
    have HN1:=Lib.hid (HNE.out i hi)
    have HII:Hid (i + 1≤L.length):=Lib.hid hi
    have hcc:=HC5.out
    have hi0:(0:Int)≤(i:Int):=by omega
    have hic:(i:Int)≤(c5:Int):=by omega
    have hic1:(i:Int) + 1≤(c5:Int):=by omega
    have hwr:Go.RowKit.wrap64 ((i:Int) + 1)=((i + 1:Nat):Int):=by rw [wrap_in (by omega) (by omega)];omega
    obtain ⟨adx,hadx⟩:∃ x:Addr,x=if c5=i + 1 then ad else ad.add ((i + 1) * 12):=⟨_,rfl⟩
    have hav:(if c5=i + 1 then some ad else some (ad.add ((i + 1) * 12)))=some adx:=by rw [hadx];split <;> rfl
    have HWR:=Lib.hid hwr
    have HAV:=Lib.hid hav
    have HT:Hid (LiesAt wr ad (flat chCells (L.take i))):=Lib.hid (lies_pre (b:=flat chCells (L.drop i)) (by
     have h:=ch_flat HK.out 0
     rwa [Nat.zero_mul,show ad.add 0=ad from by cases ad;rfl,List.drop_zero,← List.take_append_drop i L,flat_append] at h))
    have HD:Hid (LiesAt wr adx (flat chCells (L.drop (i + 1)))):=Lib.hid (by
     rw [hadx]
     split
     ·rename_i h
      have h0:L.drop (i + 1)=[]:=List.drop_eq_nil_of_le (by rw [← h];exact hcc)
      rw [h0]
      intro j u hu
      simp [flat] at hu
     ·exact ch_flat HK.out (i + 1))
    obtain ⟨M,hM⟩:∃ M,M=L.take i ++ L.drop (i + 1):=⟨_,rfl⟩
    have HML:Hid (lyrFits M=true∧M.length≤1000000):=Lib.hid ⟨by rw [hM];exact fits_cut HFL.out.1 i,by rw [hM,List.length_append,List.length_take,List.length_drop];have:=HFL.out.2;omega⟩
    have HM:=Lib.hid hM
    rw [← hM] at HN1
    have hn1:(L.take i).length=i:=by rw [List.length_take];omega
    have hn2:(L.drop (i + 1)).length=L.length - (i + 1):=List.length_drop
    have HN2:=Lib.hid hn1
    have HN3:=Lib.hid hn2
    clear hwr hav hadx hM hn1 hn2
    go_upto_region 12 with (fail)
    refine start_ (n:=11) (S:=fun w'=>Below wr.heap.size wr w') (ds:=[]) (ms 11 0) (by kernel_rfl) rfl rfl (Below.refl _ _).drew (fun hHeld=>?_)
    (refine pU 1 42 ?_ (bm 11 2) rfl rfl (by kernel_rfl) (fun _ _ _=>id) (by rfl) ?_ ?_ ?_ ?_;rotate_left;(intro w';go_simp;with_reducible rfl);rotate_left;(simp only [aP,i64_w,i32_w];rfl))
    (refine pU 2 43 ?_ (bm 11 6) rfl rfl (by kernel_rfl) (fun _ _ _=>id) (by rfl) ?_ ?_ ?_ ?_;rotate_left;(intro w';go_simp;with_reducible rfl);rotate_left;(simp only [aP,i64_w,i32_w];rfl))
    refine pure_ (i:=3) (N:=some 44) (v:=.slice (some ad) i c5) (a':=?_) (bm 11 14) rfl rfl (by kernel_rfl) (fun _ _ _ h=>h) (Or.inl ⟨by rfl,?_⟩) ?_ ?_
    ·intro w'
     go_simp
    rotate_left
    ·(simp only [aP,i64_w,i32_w];rfl)
    (refine pU 5 46 ?_ (bm 11 46) rfl rfl (by kernel_rfl) (fun _ _ _=>id) (by rfl) ?_ ?_ ?_ ?_;rotate_left;(intro w';go_simp;with_reducible rfl);rotate_left;(simp only [aP,i64_w,i32_w];rfl))
    (refine pU 6 47 ?_ (bm 11 110) rfl rfl (by kernel_rfl) (fun _ _ _=>id) (by rfl) ?_ ?_ ?_ ?_;rotate_left;(intro w';go_simp;with_reducible rfl);rotate_left;(simp only [aP,i64_w,i32_w];rfl))
    (refine pU 7 48 ?_ (bm 11 238) rfl rfl (by kernel_rfl) (fun _ _ _=>id) (by rfl) ?_ ?_ ?_ ?_;rotate_left;(intro w';go_simp;with_reducible rfl);rotate_left;(simp only [aP,i64_w,i32_w];rfl))
    refine pure_ (i:=8) (N:=some 49) (v:=.slice (some adx) (L.length - (i + 1)) (c5 - (i + 1))) (a':=?_) (bm 11 494) rfl rfl (by kernel_rfl) (fun _ _ _ h=>h) (Or.inl ⟨by rfl,?_⟩) ?_ ?_
    ·intro w'
     go_simp
     simp only [HWR.out,Int.toNat_natCast]
     rw [if_pos ⟨by omega,by omega⟩,HAV.out]
    rotate_left
    ·(simp only [aP,i64_w,i32_w];rfl)
    obtain ⟨wA,hwA⟩:∃ wA,wA=wr.drew.alloc (.cells #[] 59 (0,0)):=⟨_,rfl⟩
    have hA:Below wr.heap.size wr wA:=by rw [hwA];exact (Below.refl _ _).drew.alloc (Nat.le_refl _) _
    have hO:YtdacflloaehjeaaGreatDoor.Owr chCells 59 12 wr.heap.size wA (.slice (some ⟨wr.heap.size,0,none⟩) 0 0) []:=by rw [hwA];exact World.ownsRow_made wr.drew #[] 0 (Nat.le_refl _) (Nat.zero_le _) rfl
    refine one_ (i:=0) (N:=some 41) (bm 11 495) rfl rfl (by kernel_rfl) (by decide) (fun K hK=>?_)
    refine make_ (v:=.slice (some ⟨wr.heap.size,0,none⟩) 0 0) (w1:=wA) (by rfl) rfl (by rw [hwA];kernel_rfl) ?_
    refine hK.out _ _ hA (fun hHeld=>?_)
    clear hK K hwA
    refine norm_ (a':=?_) ?_ ?_
    rotate_left
    ·show Act.put _ (some 41) _=_
     (simp only [aP,i64_w,i32_w];rfl)
    refine one_ (i:=4) (N:=some 45) (bm 11 511) rfl rfl (by kernel_rfl) (by decide) (fun K hK=>?_)
    refine app_lies (by rfl) rfl _ _ 25 rfl wr.heap.size 59 12 128 i0 (.agg chZero) Tryz.underlying25 HI0.out HZ0.out HZ1.out HZ2.out rfl (by decide) chC_len chC_one _ [] rfl hO ad i c5 (L.take i) rfl HN2.out.symm (lies_below HT.out hA) ?c1 ?c2 hA.size ?_
    case c1=>simp only [List.length_nil,List.length_take,List.length_drop];unfold maxLen;omega
    case c2=>simp only [List.length_nil,List.length_take,List.length_drop];omega
    intro vB wB ho hg
    have hB:Below wr.heap.size wr wB:=hA.grown hg hA.size (fun j hj=>(World.ownsRow.lt hO j hj).1)
    have hOB:=ho
    rw [List.nil_append] at hOB
    refine hK.out _ _ hB (fun hHeld=>?_)
    clear hK K ho hg hA hO
    refine norm_ (a':=?_) ?_ ?_
    rotate_left
    ·show Act.put _ (some 45) _=_
     (simp only [aP,i64_w,i32_w];rfl)
    refine one_ (i:=9) (N:=some 50) (bm 11 1023) rfl rfl (by kernel_rfl) (by decide) (fun K hK=>?_)
    refine app_lies (by rfl) rfl _ _ 25 rfl wr.heap.size 59 12 128 i0 (.agg chZero) Tryz.underlying25 HI0.out HZ0.out HZ1.out HZ2.out rfl (by decide) chC_len chC_one _ (L.take i) rfl hOB adx (L.length - (i + 1)) (c5 - (i + 1)) (L.drop (i + 1)) rfl HN3.out.symm (lies_below HD.out hB) ?c1 ?c2 hB.size ?_
    case c1=>simp only [List.length_nil,List.length_take,List.length_drop];unfold maxLen;omega
    case c2=>simp only [List.length_nil,List.length_take,List.length_drop];omega
    intro vC wC ho hg
    have hC:Below wr.heap.size wr wC:=hB.grown hg hB.size (fun j hj=>(World.ownsRow.lt hOB j hj).1)
    rw [← HM.out] at ho
    have HOC:=Lib.hid ho
    refine hK.out _ _ hC (fun hHeld=>?_)
    have HBC:=Lib.hid hC
    clear hK K ho hg hB hOB hC
    refine norm_ (a':=?_) ?_ ?_
    rotate_left
    ·show Act.put _ (some 50) _=_
     (simp only [aP,i64_w,i32_w];rfl)
    (refine pU 10 11 ?_ (bm 11 2047) rfl rfl (by kernel_rfl) (fun _ _ _=>id) (by rfl) ?_ ?_ ?_ ?_;rotate_left;(intro w';go_simp;with_reducible rfl);rotate_left;(simp only [aP,i64_w,i32_w];rfl))
    refine done_ (by kernel_rfl) ?_
    obtain ⟨A6,c6,hv6,hc6,hk6⟩:=own_chC HOC.out HML.out.2
    obtain ⟨n6,hn6⟩:∃ n,n=(M.map ofCh).length:=⟨_,rfl⟩
    rw [← hn6] at hv6
    subst hv6
    have HN6:=Lib.hid hn6
    clear hn6
    have HWC:=Lib.hid (YtdacflloaehjeaaGreatDoor.below_then HB.out HBC.out)
    have ca:=tapply_calls wC (hG.ext HWC.out) A0 c0 l0 (Kd.C_below HR0.out HWC.out) HC0.out HF0.out.1 HF0.out.2 A6 c6 (M.map ofCh) hk6 hc6 (by rw [chs_back];exact HML.out.1) (by rw [List.length_map];exact HML.out.2)
    rw [chs_back,← HN6.out] at ca
    have hap:∀ a,applyM Y (l0.map enOf) M=(a,0)→a.length≤1000000∧a≠l1.map enOf:=fun a h=>by
     obtain ⟨_,_,hr,_,_⟩:=Zt.applyM_ok Y h
     exact ⟨Nat.le_trans hr.len (by omega),fun e=>HN1.out (by rw [h,e])⟩
    obtain ⟨RR,hRR⟩:∃ RR,RR=applyM Y (l0.map enOf) M:=⟨_,rfl⟩
    rw [← hRR] at ca hap
    obtain ⟨R,er⟩:=RR
    have HAP:=Lib.hid hap
    have CA:=Lib.hid ca
    clear hk6 hc6 ca hap hRR HOC HT HD
    go_wp2_with fail
    refine CA.out.mono ?_
    rintro x w6 ⟨v6,rfl,ho,hb⟩
    obtain ⟨A7,c7,hv7,hc7,hk7⟩:=own_C ho
    obtain ⟨n7,hn7⟩:∃ n,n=(R.map ofEn).length:=⟨_,rfl⟩
    rw [← hn7] at hv7
    subst hv7
    have HN7:=Lib.hid hn7
    have HK7:=Lib.hid hk7
    have HB6:=Lib.hid (YtdacflloaehjeaaGreatDoor.below_then HWC.out hb)
    have HBR:=Lib.hid (YtdacflloaehjeaaGreatDoor.below_then HBC.out hb)
    have HKN:=Lib.hid (Kd.C_below HK.out HBR.out)
    clear ho hb hc7 hk7 hn7 CA
    by_cases he:er=0
    ·subst he
     have hq:((0:Int) == 0)=true:=rfl
     have cs:=dsame_calls w6 A7 c7 (R.map ofEn) HK7.out A1 c1 l1 (Kd.C_below HR1.out HB6.out) (by rw [List.length_map];exact (HAP.out R rfl).1) HF1.out.2 false ⟨fun h=>(nomatch h),fun h=>absurd (by rwa [ens_back] at h) (HAP.out R rfl).2⟩
     rw [← HN7.out] at cs
     have CS:=Lib.hid cs
     clear cs
     go_wp2_with fail
     refine CS.out.mono ?_
     rintro x w7 ⟨rfl,hb⟩
     have HB7:=Lib.hid (YtdacflloaehjeaaGreatDoor.below_then HB6.out hb)
     have HK8:=Lib.hid (Kd.C_below HKN.out hb)
     clear hb CS
     go_wp2_with fail
     go_roundg g1
     case measure=>omega
     case rel=>exact ⟨i + 1,by go_num,by omega,HII,HK8,HB7⟩
    ·have hq:(er == 0)=false:=by simpa using he
     go_wp2_with fail
     go_roundg g1
     case measure=>omega
     case rel=>exact ⟨i + 1,by go_num,by omega,HII,HKN,HB6⟩
  ·have he:i=L.length:=by have:=HI.out;omega
   subst he
   go_wp2_with fail
   go_ret
   exact ⟨rfl,HB.out⟩
end Go.Proofs.Zq
end
