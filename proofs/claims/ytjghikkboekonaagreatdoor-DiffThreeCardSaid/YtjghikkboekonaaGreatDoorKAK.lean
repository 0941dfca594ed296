/- A part of a proof of statements of this seat: what its walks and its laws lean on; joined by a program of this repo (wip/pack.py) out of the texts XDiff, XEnM, XBoth, XEqlE, XRng, XCloneE, XStep, XFold, XStk, QEq57. -/
import Derived.DeepKeys5
import Derived.LoopIn
import Derived.LoopNIn
import Derived.OwnWalkIn
import Derived.RangeFuncBound
import Derived.RangeFuncBox
import Derived.RangeFuncCalls
import Derived.RangeFuncLeaves
import Derived.RangeFuncNested
import Derived.Shelf.Abstract
import Derived.TacticsInMore
import Derived.WalkKit
import Derived.WideKeyEntry
import Derived.Test.YtjghikkboekonaaGreatDoorKAB
import Derived.Test.YtjghikkboekonaaGreatDoorKAE
import Derived.Test.YtjghikkboekonaaGreatDoorKAH
import Derived.Test.YtjghikkboekonaaGreatDoorKAI
import Derived.Test.YtjghikkboekonaaGreatDoorKAJ
set_option linter.unusedSimpArgs false
set_option linter.unusedVariables false
section
namespace Go.Proofs.Zq
open Go.RowKit Go.WideMaps Go.Maps Go.Proofs.YtjghikkboekonaaGreatDoor Go.Proofs.Zw.PrintWords Go.Proofs.Zw.PrintLast Go.Proofs.Zw.PrintMore
open Go.Proofs.Zt (getL folderL PS parM rightT RightT diffM diffC sortL lessC lessM keyM Ch)
attribute [local go_sem high] eqNg
def goesB (b:List (Str×Nd)) (e:Str×Nd):Bool:=(getL b e.1).isNone && folderL PS Y.dir b (parM e.1)
def setB (a:List (Str×Nd)) (e:Str×Nd):Bool:=decide (getL a e.1≠some e.2)
def dA (b l:List (Str×Nd)):List (Ch Str Nd):=(l.filter (goesB b)).map fun e=>⟨e.1,1,zeroN⟩
def dB (a l:List (Str×Nd)):List (Ch Str Nd):=(l.filter (setB a)).map fun e=>⟨e.1,0,e.2⟩
theorem diffC_parts (a b:List (Str×Nd)):diffC Y a b=dA b a ++ dB a b:=rfl
theorem dA_step (b l:List (Str×Nd)) (i:Nat) (hi:i<l.length):dA b (l.take (i + 1))=dA b (l.take i) ++ if goesB b l[i]=true then [⟨l[i].1,1,zeroN⟩] else []:=by
 unfold dA
 rw [List.take_succ_eq_append_getElem hi,List.filter_append,List.map_append]
 cases h:goesB b l[i] <;> simp [h]
theorem dB_step (a l:List (Str×Nd)) (i:Nat) (hi:i<l.length):dB a (l.take (i + 1))=dB a (l.take i) ++ if setB a l[i]=true then [⟨l[i].1,0,l[i].2⟩] else []:=by
 unfold dB
 rw [List.take_succ_eq_append_getElem hi,List.filter_append,List.map_append]
 cases h:setB a l[i] <;> simp [h]
theorem dA_len (b l:List (Str×Nd)):(dA b l).length≤l.length:=by unfold dA;rw [List.length_map];exact List.length_filter_le _ _
theorem dB_len (a l:List (Str×Nd)):(dB a l).length≤l.length:=by unfold dB;rw [List.length_map];exact List.length_filter_le _ _
theorem diffC_short {a b:List (Str×Nd)} (ha:rowFits a=true) (hb:rowFits b=true):∀ c ∈ diffC Y a b,c.path.length≤1000000:=by
 intro c hc
 rcases (Zt.mem_diffC c).1 hc with ⟨e,h1,_,_,rfl⟩|⟨e,h1,_,rfl⟩
 ·exact (fits_get ha h1).1
 ·exact (fits_get hb h1).1
theorem info_ch:(Tryz.prog.info? 57).map (fun i=>(i.zero,i.size,i.bytes))=some (some (.agg chZero),12,128):=by kernel_rfl
theorem own_chweaken {base0 base:Nat} {w:World} {v:Value} {l:List (Ch Str Nd)} (h:YtjghikkboekonaaGreatDoor.Owr chCells 57 12 base w v l) (hb:base0≤base):YtjghikkboekonaaGreatDoor.Owr chCells 57 12 base0 w v l:=by
 refine ⟨h.1,?_⟩
 rcases h.2 with h|⟨g,cap,cur,h1,h2,h3⟩
 ·exact .inl h
 ·exact .inr ⟨g,cap,cur,h1,Nat.le_trans hb h2,h3⟩
def cfD (x y:ShC):Int:=if lessC x.1 y.1=true then -1 else 1
theorem swo_D:Go.Sort.SWO (ltOf cfD):=by
 have hl:∀ x y:ShC,ltOf cfD x y=lessC x.1 y.1:=by
  intro x y
  unfold ltOf cfD
  cases lessC x.1 y.1 <;> rfl
 refine ⟨fun x=>?_,fun x y z h1 h2=>?_,fun x y z h1 h2=>?_⟩
 ·rw [hl]
  cases h:lessC x.1 x.1 with
  | false=>rfl
  | true=>exact absurd h (Zt.lessC_ord.irrefl _ trivial)
 ·rw [hl] at *
  exact Zt.lessC_ord.trans _ _ _ trivial trivial trivial h1 h2
 ·rw [hl] at *
  unfold lessC lessM at *
  have h1:¬ Zt.cmpM (keyM x.1) (keyM y.1)<0:=of_decide_eq_false h1
  have h2:¬ Zt.cmpM (keyM y.1) (keyM z.1)<0:=of_decide_eq_false h2
  refine decide_eq_false fun h3=>?_
  have a1:=Zt.cmpM_anti (keyM x.1) (keyM y.1)
  have a2:=Zt.cmpM_anti (keyM y.1) (keyM z.1)
  by_cases e1:Zt.cmpM (keyM x.1) (keyM y.1)=0
  ·rw [Zt.cmpM_eq e1] at h3;exact h2 h3
  ·by_cases e2:Zt.cmpM (keyM y.1) (keyM z.1)=0
   ·rw [← Zt.cmpM_eq e2] at h3;exact h1 h3
   ·have:=Zt.cmpM_trans (a:=keyM z.1) (b:=keyM y.1) (c:=keyM x.1) (by omega) (by omega)
    have a3:=Zt.cmpM_anti (keyM x.1) (keyM z.1)
    omega
set_option maxRecDepth 100000 in
theorem cmpD_calls (w:World) (hG:GL w) (x y:ShC):Calls Tryz.prog 44 #[.agg (chCells x.1).toArray,.agg (chCells y.1).toArray] w fun e w'=>e=.returned (.int .i64 (cfD x y))∧Below w.heap.size w w':=by
 have h33:=Tryz.underlying57
 have HX:=Lib.hid x.2
 have HY:=Lib.hid y.2
 have HCF:Hid (cfD x y=if lessM (Zt.tarM x.1.op x.1.path) (Zt.tarM y.1.op y.1.path)=true then -1 else 1):=Lib.hid rfl
 generalize cfD x y=r at HCF
 obtain ⟨a,ha⟩:∃ a,a=x.1:=⟨_,rfl⟩
 obtain ⟨b,hb⟩:∃ b,b=y.1:=⟨_,rfl⟩
 rw [← ha] at HX HCF ⊢
 rw [← hb] at HY HCF ⊢
 clear ha hb x y
 go_enter Tryz.func44,Tryz.ntmps44
 go_wp2_with (first|((with_reducible refine gate_dst (N:=2) rfl ?_);refine box_event rfl (N:=2) rfl (cs:=(chCells a).toArray) (t:=57) ?hr ?_;(case hr=>first|(go_simp;done)|(go_simp;rfl));intro g2 hg w2 hb2 hbl2;have HC2:=Lib.hid hb2;have HBL2:=Lib.hid hbl2;clear hg hb2 hbl2)|((with_reducible refine gate_dst (N:=3) rfl ?_);refine box_event rfl (N:=3) rfl (cs:=(chCells b).toArray) (t:=57) ?hr ?_;(case hr=>first|(go_simp;done)|(go_simp;rfl));intro g3 hg w3 hb2 hbl2;have HC3:=Lib.hid hb2;have HC23:=Lib.hid (blk_below HC2.out hbl2);have HBL3:=Lib.hid (YtjghikkboekonaaGreatDoor.below_then HBL2.out hbl2);clear hg hb2 hbl2)|((with_reducible refine gate_dst (N:=5) rfl ?_);refine wpList_load_agg rfl 57 _ rfl _ rfl (chCells a) _ (lies_of HC23.out) h33 rfl rfl ?_)|((with_reducible refine gate_dst (N:=6) rfl ?_);refine wpList_load_agg rfl 57 _ rfl _ rfl (chCells b) _ (lies_of HC3.out) h33 rfl rfl ?_))
 refine (less_calls w3 (hG.ext HBL3.out) a b HX.out HY.out).mono ?_
 rintro e w4 ⟨rfl,hb4⟩
 have HB4:=Lib.hid (YtjghikkboekonaaGreatDoor.below_then HBL3.out hb4)
 clear hb4
 cases hl:lessM (Zt.tarM a.op a.path) (Zt.tarM b.op b.path) with
 | true =>
  have HR:Hid (r = -1):=Lib.hid (by rw [HCF.out,hl];rfl)
  go_wp2_with fail
  go_ret
  exact ⟨by rw [HR.out];rfl,HB4.out⟩
 | false =>
  have HR:Hid (r=1):=Lib.hid (by rw [HCF.out,hl];rfl)
  go_wp2_with fail
  go_ret
  exact ⟨by rw [HR.out];rfl,HB4.out⟩
theorem sort_diff {a b:List (Str×Nd)} (ha:RightT Y a) (hb:RightT Y b) {l l':List ShC} (hl:l.map (·.1)=diffC Y a b) (hp:l'.Perm l) (hs:l'.Pairwise fun x y=>¬ cfD y x<0):l'.map (·.1)=sortL lessC [] (diffC Y a b):=by
 refine Zt.sortL_unique (Zt.diffC_keys ha hb) ?_ ?_
 ·rw [← hl];exact (hp.map _).symm
 ·refine List.pairwise_map.2 (hs.imp fun {x y} h h2=>h ?_)
  unfold cfD
  rw [if_pos h2]
  decide
set_option maxRecDepth 100000 in
set_option maxHeartbeats 16000000 in
theorem diff_calls (w:World) (hG:GL w) (A0:Option Addr) (c0:Nat) (l0:List S32) (hr0:Kd.C k32 w A0 l0.length l0) (hc0:l0.length≤c0) (hf0:rowFits' l0)
  (A1:Option Addr) (c1:Nat) (l1:List S32) (hr1:Kd.C k32 w A1 l1.length l1) (hc1:l1.length≤c1) (hf1:rowFits' l1) :
  Calls Tryz.prog 20 #[.slice A0 l0.length c0,.slice A1 l1.length c1] w fun e w'=>∃ v:Value,e=.returned (.tuple #[v,.bool (diffM Y (l0.map enOf) (l1.map enOf)).2]) ∧
   YtjghikkboekonaaGreatDoor.Owr chCells 57 12 w.heap.size w' v (diffM Y (l0.map enOf) (l1.map enOf)).1∧Below w.heap.size w w':=by
 have HR0:=Lib.hid hr0
 have HR1:=Lib.hid hr1
 have HC0:=Lib.hid hc0
 have HC1:=Lib.hid hc1
 have HF0:=Lib.hid hf0
 have HF1:=Lib.hid hf1
 clear hr0 hr1 hc0 hc1 hf0 hf1
 obtain ⟨i0,hi,hz0,hz1,hz2⟩:=info_parts info_ch
 have HI0:=Lib.hid hi
 have HZ0:=Lib.hid hz0
 have HZ1:=Lib.hid hz1
 have HZ2:=Lib.hid hz2
 clear hi hz0 hz1 hz2
 obtain ⟨res,hres⟩:∃ res,res=diffM Y (l0.map enOf) (l1.map enOf):=⟨_,rfl⟩
 have HRES:=Lib.hid hres
 rw [← hres]
 clear hres
 have h49:=Tryz.underlying32
 have h31:=Tryz.underlying28
 go_enter Tryz.func20,Tryz.ntmps20
 go_wp2_with fail
 refine (tright_calls w hG A0 c0 l0 HR0.out HC0.out HF0.out.1 HF0.out.2).mono ?_
 rintro e w1 ⟨rfl,hb1⟩
 have HB1:=Lib.hid hb1
 clear hb1
 cases ht0:rightT Y (l0.map enOf) with
 | false =>
  have HE:Hid (res=([],false)):=Lib.hid (by rw [HRES.out];unfold diffM;rw [ht0];rfl)
  go_wp2_with fail
  all_goals
   go_ret2
   exact ⟨_,by rw [HE.out];rfl,by rw [HE.out];exact Owr.nil _ _ _ _ _,HB1.out⟩
 | true =>
 go_wp2_with fail
 refine (tright_calls w1 (hG.ext HB1.out) A1 c1 l1 (Kd.C_below HR1.out HB1.out) HC1.out HF1.out.1 HF1.out.2).mono ?_
 rintro e w2 ⟨rfl,hb2⟩
 have HB2:=Lib.hid (YtjghikkboekonaaGreatDoor.below_then HB1.out hb2)
 clear hb2 HB1
 cases ht1:rightT Y (l1.map enOf) with
 | false =>
  have HE:Hid (res=([],false)):=Lib.hid (by rw [HRES.out];unfold diffM;rw [ht0,ht1];rfl)
  go_wp2_with fail
  all_goals
   go_ret2
   exact ⟨_,by rw [HE.out];rfl,by rw [HE.out];exact Owr.nil _ _ _ _ _,HB2.out⟩
 | true =>
 have HT0:=Lib.hid ((Zt.rightT_iff Y).1 ht0)
 have HT1:=Lib.hid ((Zt.rightT_iff Y).1 ht1)
 have HE:Hid (res=(sortL lessC [] (diffC Y (l0.map enOf) (l1.map enOf)),true)):=Lib.hid (by rw [HRES.out];unfold diffM;rw [ht0,ht1];rfl)
 clear ht0 ht1 HRES
 go_wp2_with fail
 refine (index_calls w2 A0 c0 l0 (Kd.C_below HR0.out HB2.out) (Zt.srt_ne HT0.out.srt) HF0.out.1 HF0.out.2).mono ?_
 rintro e w3 ⟨ba,rfl,_,hma,hb3⟩
 have HMA:=Lib.hid hma
 have HB3:=Lib.hid (YtjghikkboekonaaGreatDoor.below_then HB2.out hb3)
 clear hma hb3 HB2
 go_wp2_with fail
 refine (index_calls w3 A1 c1 l1 (Kd.C_below HR1.out HB3.out) (Zt.srt_ne HT1.out.srt) HF1.out.1 HF1.out.2).mono ?_
 rintro e w4 ⟨bb,rfl,_,hmb,hb4⟩
 have HMB:=Lib.hid hmb
 have HMA4:=Lib.hid (HMA.out.ext hb4)
 have HB4:=Lib.hid (YtjghikkboekonaaGreatDoor.below_then HB3.out hb4)
 have HK0:=Lib.hid (Kd.C_below HR0.out HB4.out)
 have HK1:=Lib.hid (Kd.C_below HR1.out HB4.out)
 clear hmb hb4 HB3 HMA HR0 HR1
 have hl0:=HF0.out.2
 have hl1:=HF1.out.2
 go_wp2_with fail
 go_loopg [8,34] (l0.length + 1) (fun gq v8 v34 wr=>∃ i:Nat,v34=.int .i64 i∧l0.length<gq + i∧Hid (i≤l0.length)∧Hid (YtjghikkboekonaaGreatDoor.Owr chCells 57 12 w4.heap.size wr v8 (dA (l1.map enOf) ((l0.map enOf).take i)))∧Hid (Below w4.heap.size w4 wr))
 case atStart=>exact ⟨0,rfl,by omega,Lib.hid (by omega),Lib.hid (by rw [List.take_zero];exact Owr.nil _ _ _ _ _),Lib.hid (Below.refl _ _)⟩
 case round =>
  obtain ⟨i,rfl,hgi,HI,HO,HB⟩:=hrel
  by_cases hi:i<l0.length
  ·cases gk with
   | zero=>omega
   | succ g1 =>
    obtain ⟨ad,rfl,hat⟩:=e_at HK0.out i hi
    have HAT:=Lib.hid (hat.below HB.out)
    clear hat
    have HEF:=Lib.hid (fits_get HF0.out.1 (List.mem_map_of_mem (f:=enOf) (List.getElem_mem hi)))
    have hst:=dA_step (l1.map enOf) (l0.map enOf) i (by simpa using hi)
    have hdl:=dA_len (l1.map enOf) ((l0.map enOf).take i)
    rw [List.length_take,List.length_map] at hdl
    rw [List.getElem_map] at hst
    obtain ⟨e,hee⟩:∃ e,e=enOf l0[i]:=⟨_,rfl⟩
    rw [← hee] at HAT HEF hst
    obtain ⟨rw0,hrw0⟩:∃ r,r=dA (l1.map enOf) ((l0.map enOf).take i):=⟨_,rfl⟩
    rw [← hrw0] at HO hst hdl
    have HST:=Lib.hid hst
    have HDL:Hid (rw0.length≤1000000):=Lib.hid (by omega)
    have HII:Hid (i + 1≤l0.length):=Lib.hid hi
    clear hst hee hrw0 hdl
    obtain ⟨fb,hfb⟩:∃ f,f=getL (l1.map enOf):=⟨_,rfl⟩
    have HGB:Hid (goesB (l1.map enOf) e=(!(fb e.1).isSome && ((parM e.1).isEmpty || ((fb (parM e.1)).isSome && ((fb (parM e.1)).getD zeroN).kind == 1)))):=Lib.hid (by
     rw [hfb];unfold goesB folderL
     have h1:decide (parM e.1=PS.root)=(parM e.1).isEmpty:=by show decide (parM e.1=[])=_;cases parM e.1 <;> rfl
     rw [h1]
     cases getL (l1.map enOf) e.1 <;> cases getL (l1.map enOf) (parM e.1) <;> simp [Y]
     rfl)
    have HM:=Lib.hid (HMB.out.ext HB.out)
    rw [← hfb] at HM
    clear hfb
    go_wp2_with (first|((with_reducible refine gate_dst (N:=37) rfl ?_);refine wpList_load_agg rfl 32 _ rfl _ rfl (eCells e) _ HAT.out h49 rfl rfl ?_)|((with_reducible refine gate_dst (N:=10) rfl ?_);refine box_event rfl (N:=10) rfl (cs:=enZero) (t:=32) ?hr ?_;(case hr=>first|(go_simp;done)|(go_simp;rfl));intro g10 hg w5 hb2 hbl2;have HGE_g10:Hid (wr.heap.size≤g10):=Lib.hid (by rw [hg];exact Nat.le_refl _);have HB_g10:=Lib.hid hb2;have HBL_g10:=Lib.hid hbl2;clear hg hb2 hbl2)|((with_reducible refine gate_store (t:=32) (p:=10) rfl ?_);refine wpList_store_agg rfl rfl 32 _ _ rfl g10 (eCells e).toArray rfl rfl 32 enZero HB_g10.out rfl rfl (eCells_all _) ?_;intro w6 hb3 hg3;have HC_g10:=Lib.hid hb3;have HBW_g10:Hid (Below wr.heap.size wr w6):=Lib.hid (HBL_g10.out.grown hg3 HBL_g10.out.size (fun j hj=>by cases hj;exact HGE_g10.out));clear hb3 hg3 HB_g10 HBL_g10 HGE_g10;have q0:=(lies_of HC_g10.out) 0 _ rfl;simp only [Addr.add_mid,Nat.zero_add] at q0))
    refine (par_c w6 e.1 HEF.out.1).mono ?_
    rintro x w7 ⟨rfl,hb7⟩
    have HBW7:Hid (Below wr.heap.size wr w7):=Lib.hid (YtjghikkboekonaaGreatDoor.below_then HBW_g10.out hb7)
    have HE7:=Lib.hid (blk_below HC_g10.out hb7)
    clear hb7 q0
    have hlk:=(HM.out.ext HBW7.out).lookT Tryz.underlying72 (s:=parM e.1) (by have:=(part_len e.1).1;have:=HEF.out.1;omega)
    obtain ⟨v1,hv1⟩:∃ v,v=(fb (parM e.1)).getD zeroN:=⟨_,rfl⟩
    obtain ⟨i1,hi1⟩:∃ v,v=(fb (parM e.1)).isSome:=⟨_,rfl⟩
    obtain ⟨v2,hv2⟩:∃ v,v=(fb e.1).getD zeroN:=⟨_,rfl⟩
    obtain ⟨i2,hi2⟩:∃ v,v=(fb e.1).isSome:=⟨_,rfl⟩
    rw [← hv1,← hi1] at hlk HGB
    rw [← hi2] at HGB
    have HV2:=Lib.hid hv2
    have HI2:=Lib.hid hi2
    clear hv1 hi1 hv2 hi2
    go_upto_region 10 with (first|((with_reducible refine gate_dst (N:=12) rfl ?_);refine box_event rfl (N:=12) rfl (cs:=ndZero) (t:=28) ?hr ?_;(case hr=>first|(go_simp;done)|(go_simp;rfl));intro g12 hg w8 hb2 hbl2;have HGE_g12:Hid (w7.heap.size≤g12):=Lib.hid (by rw [hg];exact Nat.le_refl _);have HB_g12:=Lib.hid hb2;have HBL_g12:=Lib.hid hbl2;clear hg hb2 hbl2)|((with_reducible refine gate_store (t:=28) (p:=12) rfl ?_);refine wpList_store_agg rfl rfl 28 _ _ rfl g12 (ndCells v1).toArray rfl rfl 28 ndZero HB_g12.out rfl rfl (ndCells_all _) ?_;intro w9 hb3 hg3;have HC_g12:=Lib.hid hb3;have HBW_g12:Hid (Below w7.heap.size w7 w9):=Lib.hid (HBL_g12.out.grown hg3 HBL_g12.out.size (fun j hj=>by cases hj;exact HGE_g12.out));clear hb3 hg3 HB_g12 HBL_g12 HGE_g12))
    clear hlk
    have HBW9:Hid (Below wr.heap.size wr w9):=Lib.hid (YtjghikkboekonaaGreatDoor.below_then HBW7.out HBW_g12.out)
    have HE9:=Lib.hid (blk_below HE7.out HBW_g12.out)
    have q9:=(lies_of HE9.out) 0 _ rfl
    simp only [Addr.add_mid,Nat.zero_add] at q9
    have hlk:=(HM.out.ext HBW9.out).lookT Tryz.underlying72 (s:=e.1) (by have:=HEF.out.1;omega)
    rw [← HV2.out,← HI2.out] at hlk
    go_upto_region 11 with (first|((with_reducible refine gate_dst (N:=14) rfl ?_);refine box_event rfl (N:=14) rfl (cs:=ndZero) (t:=28) ?hr ?_;(case hr=>first|(go_simp;done)|(go_simp;rfl));intro g14 hg w10 hb2 hbl2;have HGE_g14:Hid (w9.heap.size≤g14):=Lib.hid (by rw [hg];exact Nat.le_refl _);have HB_g14:=Lib.hid hb2;have HBL_g14:=Lib.hid hbl2;clear hg hb2 hbl2)|((with_reducible refine gate_store (t:=28) (p:=14) rfl ?_);refine wpList_store_agg rfl rfl 28 _ _ rfl g14 (ndCells v2).toArray rfl rfl 28 ndZero HB_g14.out rfl rfl (ndCells_all _) ?_;intro w11 hb3 hg3;have HC_g14:=Lib.hid hb3;have HBW_g14:Hid (Below w9.heap.size w9 w11):=Lib.hid (HBL_g14.out.grown hg3 HBL_g14.out.size (fun j hj=>by cases hj;exact HGE_g14.out));clear hb3 hg3 HB_g14 HBL_g14 HGE_g14))
    clear hlk q9
    have HBW11:Hid (Below wr.heap.size wr w11):=Lib.hid (YtjghikkboekonaaGreatDoor.below_then HBW9.out HBW_g14.out)
    have HE11:=Lib.hid (blk_below HE9.out HBW_g14.out)
    have HV11:=Lib.hid (blk_below HC_g12.out HBW_g14.out)
    have q11:=(lies_of HV11.out) 0 _ rfl
    have qe:=(lies_of HE11.out) 0 _ rfl
    simp only [Addr.add_mid,Nat.zero_add] at q11 qe
    have HOW:=Lib.hid (HO.out.ext HBW11.out)
    have HBB:Hid (Below w4.heap.size w4 w11):=Lib.hid (YtjghikkboekonaaGreatDoor.below_then HB.out HBW11.out)
    clear HC_g12 HC_g14 HC_g10 HBW_g12 HBW_g14 HBW_g10 HE7 HE9 HBW7 HBW9 HV11 HV2 HI2 HAT HM HO HB
    generalize hcnd:goesB (l1.map enOf) e=cnd at HST HGB
    clear hcnd
    go_cut [67] (fun v wc=>v=.bool cnd∧wc=w11)
    case first =>
     cases i2 with
     | true =>
      go_wp2_with fail
      go_meet
      exact ⟨by rw [HGB.out];rfl,rfl⟩
     | false =>
      cases hpe:(parM e.1).isEmpty with
      | true =>
       have hp0:parM e.1=[]:=by simpa using hpe
       go_wp2_with fail
       go_meet
       exact ⟨by rw [HGB.out,hp0];rfl,rfl⟩
      | false =>
       cases i1 with
       | false =>
        go_wp2_with fail
        go_meet
        exact ⟨by rw [HGB.out,hpe];rfl,rfl⟩
       | true =>
        go_wp2_with fail
        go_meet
        exact ⟨by rw [HGB.out,hpe];simp,rfl⟩
    case rest =>
    obtain ⟨rfl,rfl⟩:=hcut
    cases cnd with
    | false =>
     go_wp2_with fail
     go_roundg g1
     case measure=>omega
     case rel=>exact ⟨i + 1,by go_num,by omega,HII,Lib.hid (by rw [HST.out];simpa using HOW.out),HBB⟩
    | true =>
     have HO:=HOW
     have hlen:=HDL.out
     go_wp2_with (first|((with_reducible refine gate_dst (N:=71) rfl ?_);refine build_event rfl (N:=71) rfl 57 _ rfl (chCells ⟨e.1,1,zeroN⟩).toArray (by kernel_rfl) ?_;go_frame)|((with_reducible refine gate_dst (N:=72) rfl ?_);refine row_event rfl (N:=72) rfl (cs:=(chCells ⟨e.1,1,zeroN⟩).toArray) (t:=57) (n:=1) (by kernel_rfl) ?_;intro gr hg wq hb hbl;have HBR:=Lib.hid hb;have HBLR:=Lib.hid hbl;clear hg hb hbl;go_frame)|(at_builtin;refine wpList_append_one rfl _ _ 35 rfl w4.heap.size 57 12 128 i0 (.agg chZero) Tryz.underlying35 HI0.out HZ0.out HZ1.out HZ2.out rfl (by decide) chC_len chC_one _ rw0 rfl (HO.out.ext HBLR.out) ⟨e.1,1,zeroN⟩ gr 1 rfl ?c1 ?c2 ?c3 ?c4 ?_))
     case c1=>intro j u hu;rw [YtjghikkboekonaaGreatDoor.blk_cell HBR.out j];simpa using hu
     case c2=>have:=HDL.out;unfold maxLen;omega
     case c3=>have:=HDL.out;omega
     case c4=>exact Nat.le_trans HBB.out.size HBLR.out.size
     intro v' w12 ho' hg'
     have HO7:Hid (YtjghikkboekonaaGreatDoor.Owr chCells 57 12 w4.heap.size w12 v' (dA (l1.map enOf) ((l0.map enOf).take (i + 1)))):=Lib.hid (by rw [HST.out];exact ho')
     have HB7:Hid (Below w4.heap.size w4 w12):=Lib.hid ((YtjghikkboekonaaGreatDoor.below_then HBB.out HBLR.out).grown hg' (Nat.le_trans HBB.out.size HBLR.out.size) (fun j hj=>(World.ownsRow.lt HO.out j hj).1))
     clear ho' hg'
     go_wp2_with fail
     go_roundg g1
     case measure=>omega
     case rel=>exact ⟨i + 1,by go_num,by omega,HII,HO7,HB7⟩
  ·have he:i=l0.length:=by have:=HI.out;omega
   subst he
   have ho1:=HO.out
   rw [List.take_of_length_le (by simp)] at ho1
   have HO1:=Lib.hid ho1
   clear ho1
   have hdA:=dA_len (l1.map enOf) (l0.map enOf)
   rw [List.length_map] at hdA
   obtain ⟨ra,hra⟩:∃ r,r=dA (l1.map enOf) (l0.map enOf):=⟨_,rfl⟩
   rw [← hra] at HO1 hdA
   have HRA:=Lib.hid hra
   have HDA:Hid (ra.length≤1000000):=Lib.hid (by omega)
   clear hra hdA HO HI hgi hi
   go_wp2_with fail
   go_loopg [8,77] (l1.length + 1) (fun gq v8 v77 wr=>∃ i:Nat,v77=.int .i64 i∧l1.length<gq + i∧Hid (i≤l1.length)∧Hid (YtjghikkboekonaaGreatDoor.Owr chCells 57 12 w4.heap.size wr v8 (ra ++ dB (l0.map enOf) ((l1.map enOf).take i)))∧Hid (Below w4.heap.size w4 wr))
   case atStart=>exact ⟨0,rfl,by omega,Lib.hid (by omega),Lib.hid (by rw [List.take_zero];show YtjghikkboekonaaGreatDoor.Owr _ _ _ _ _ _ (ra ++ []);rw [List.append_nil];exact HO1.out),HB⟩
   case round =>
    clear HO1 HB
    obtain ⟨i,rfl,hgi,HI,HO,HB⟩:=hrel
    by_cases hi:i<l1.length
    ·cases gk with
     | zero=>omega
     | succ g1 =>
      obtain ⟨ad,rfl,hat⟩:=e_at HK1.out i hi
      have HAT:=Lib.hid (hat.below HB.out)
      clear hat
      have HEF:=Lib.hid (fits_get HF1.out.1 (List.mem_map_of_mem (f:=enOf) (List.getElem_mem hi)))
      have hst:=dB_step (l0.map enOf) (l1.map enOf) i (by simpa using hi)
      have hdl:=dB_len (l0.map enOf) ((l1.map enOf).take i)
      rw [List.length_take,List.length_map] at hdl
      rw [List.getElem_map] at hst
      obtain ⟨e,hee⟩:∃ e,e=enOf l1[i]:=⟨_,rfl⟩
      rw [← hee] at HAT HEF hst
      obtain ⟨rw0,hrw0⟩:∃ r,r=ra ++ dB (l0.map enOf) ((l1.map enOf).take i):=⟨_,rfl⟩
      have hst2:ra ++ dB (l0.map enOf) ((l1.map enOf).take (i + 1))=rw0 ++ (if setB (l0.map enOf) e=true then [⟨e.1,0,e.2⟩] else []):=by rw [hst,hrw0,List.append_assoc]
      rw [← hrw0] at HO
      have HST:=Lib.hid hst2
      have HDL:Hid (rw0.length≤2000000):=Lib.hid (by rw [hrw0,List.length_append];have:=HDA.out;omega)
      have HII:Hid (i + 1≤l1.length):=Lib.hid hi
      clear hst hst2 hee hrw0 hdl
      obtain ⟨fa,hfa⟩:∃ f,f=getL (l0.map enOf):=⟨_,rfl⟩
      have HSB:Hid (setB (l0.map enOf) e=(!(fa e.1).isSome || !decide ((fa e.1).getD zeroN=e.2))):=Lib.hid (by
       rw [hfa];unfold setB
       cases getL (l0.map enOf) e.1 <;> simp)
      have HM:=Lib.hid (HMA4.out.ext HB.out)
      rw [← hfa] at HM
      clear hfa
      go_upto_region 17 with (first|((with_reducible refine gate_dst (N:=80) rfl ?_);refine wpList_load_agg rfl 32 _ rfl _ rfl (eCells e) _ HAT.out h49 rfl rfl ?_)|((with_reducible refine gate_dst (N:=17) rfl ?_);refine box_event rfl (N:=17) rfl (cs:=enZero) (t:=32) ?hr ?_;(case hr=>first|(go_simp;done)|(go_simp;rfl));intro g17 hg w5 hb2 hbl2;have HGE_g17:Hid (wr.heap.size≤g17):=Lib.hid (by rw [hg];exact Nat.le_refl _);have HB_g17:=Lib.hid hb2;have HBL_g17:=Lib.hid hbl2;clear hg hb2 hbl2)|((with_reducible refine gate_store (t:=32) (p:=17) rfl ?_);refine wpList_store_agg rfl rfl 32 _ _ rfl g17 (eCells e).toArray rfl rfl 32 enZero HB_g17.out rfl rfl (eCells_all _) ?_;intro w6 hb3 hg3;have HC_g17:=Lib.hid hb3;have HBW_g17:Hid (Below wr.heap.size wr w6):=Lib.hid (HBL_g17.out.grown hg3 HBL_g17.out.size (fun j hj=>by cases hj;exact HGE_g17.out));clear hb3 hg3 HB_g17 HBL_g17 HGE_g17;have q0:=(lies_of HC_g17.out) 0 _ rfl;simp only [Addr.add_mid,Nat.zero_add] at q0))
      have hlk:=(HM.out.ext HBW_g17.out).lookT Tryz.underlying72 (s:=e.1) (by have:=HEF.out.1;omega)
      obtain ⟨v1,hv1⟩:∃ v,v=(fa e.1).getD zeroN:=⟨_,rfl⟩
      obtain ⟨i1,hi1⟩:∃ v,v=(fa e.1).isSome:=⟨_,rfl⟩
      rw [← hv1,← hi1] at hlk HSB
      clear hv1 hi1
      go_upto_region 18 with (first|((with_reducible refine gate_dst (N:=18) rfl ?_);refine box_event rfl (N:=18) rfl (cs:=ndZero) (t:=28) ?hr ?_;(case hr=>first|(go_simp;done)|(go_simp;rfl));intro g18 hg w7 hb2 hbl2;have HGE_g18:Hid (w6.heap.size≤g18):=Lib.hid (by rw [hg];exact Nat.le_refl _);have HB_g18:=Lib.hid hb2;have HBL_g18:=Lib.hid hbl2;clear hg hb2 hbl2)|((with_reducible refine gate_store (t:=28) (p:=18) rfl ?_);refine wpList_store_agg rfl rfl 28 _ _ rfl g18 (ndCells v1).toArray rfl rfl 28 ndZero HB_g18.out rfl rfl (ndCells_all _) ?_;intro w8 hb3 hg3;have HC_g18:=Lib.hid hb3;have HBW_g18:Hid (Below w6.heap.size w6 w8):=Lib.hid (HBL_g18.out.grown hg3 HBL_g18.out.size (fun j hj=>by cases hj;exact HGE_g18.out));clear hb3 hg3 HB_g18 HBL_g18 HGE_g18))
      clear hlk q0
      have HBW8:Hid (Below wr.heap.size wr w8):=Lib.hid (YtjghikkboekonaaGreatDoor.below_then HBW_g17.out HBW_g18.out)
      have HE8:=Lib.hid (blk_below HC_g17.out HBW_g18.out)
      have HEN:Hid (LiesAt w8 ⟨g17,1,none⟩ (ndCells e.2)):=Lib.hid (fun j v hv=>by
       have:=(lies_of HE8.out) (1 + j) v (by rw [Nat.add_comm];exact hv)
       rw [Addr.add_mid,Nat.zero_add] at this
       rw [Addr.add_mid];exact this)
      have HVN:=Lib.hid (lies_of HC_g18.out)
      have qe:=(lies_of HE8.out) 0 _ rfl
      simp only [Addr.add_mid,Nat.zero_add] at qe
      have HOW:=Lib.hid (HO.out.ext HBW8.out)
      have HBB:Hid (Below w4.heap.size w4 w8):=Lib.hid (YtjghikkboekonaaGreatDoor.below_then HB.out HBW8.out)
      clear HC_g17 HC_g18 HBW_g17 HBW_g18 HBW8 HAT HM HO HB HE8
      generalize hcnd:setB (l0.map enOf) e=cnd at HST HSB
      clear hcnd
      go_cut [95] (fun v wc=>v=.bool cnd∧wc=w8)
      case first =>
       cases i1 with
       | false =>
        go_wp2_with fail
        go_meet
        exact ⟨by rw [HSB.out];rfl,rfl⟩
       | true =>
        go_wp2_with (first|((with_reducible refine gate_dst (N:=91) rfl ?_);refine wpList_load_agg rfl 28 _ rfl _ rfl (ndCells v1) _ HVN.out h31 rfl rfl ?_;go_frame)|((with_reducible refine gate_dst (N:=93) rfl ?_);refine wpList_load_agg rfl 28 _ rfl _ rfl (ndCells e.2) _ HEN.out h31 rfl rfl ?_;go_frame))
        go_meet
        exact ⟨by rw [HSB.out];rfl,rfl⟩
      case rest =>
      obtain ⟨rfl,rfl⟩:=hcut
      cases cnd with
      | false =>
       go_wp2_with fail
       go_roundg g1
       case measure=>omega
       case rel=>exact ⟨i + 1,by go_num,by omega,HII,Lib.hid (by rw [HST.out];simpa using HOW.out),HBB⟩
      | true =>
       have HO:=HOW
       have hlen:=HDL.out
       go_wp2_with (first|((with_reducible refine gate_dst (N:=100) rfl ?_);refine wpList_load_agg rfl 28 _ rfl _ rfl (ndCells e.2) _ HEN.out h31 rfl rfl ?_)|((with_reducible refine gate_dst (N:=101) rfl ?_);refine build_event rfl (N:=101) rfl 57 _ rfl (chCells ⟨e.1,0,e.2⟩).toArray (by kernel_rfl) ?_;go_frame)|((with_reducible refine gate_dst (N:=102) rfl ?_);refine row_event rfl (N:=102) rfl (cs:=(chCells ⟨e.1,0,e.2⟩).toArray) (t:=57) (n:=1) (by kernel_rfl) ?_;intro gr hg wq hb hbl;have HBR:=Lib.hid hb;have HBLR:=Lib.hid hbl;clear hg hb hbl;go_frame)|(at_builtin;refine wpList_append_one rfl _ _ 35 rfl w4.heap.size 57 12 128 i0 (.agg chZero) Tryz.underlying35 HI0.out HZ0.out HZ1.out HZ2.out rfl (by decide) chC_len chC_one _ rw0 rfl (HO.out.ext HBLR.out) ⟨e.1,0,e.2⟩ gr 1 rfl ?c1 ?c2 ?c3 ?c4 ?_))
       case c1=>intro j u hu;rw [YtjghikkboekonaaGreatDoor.blk_cell HBR.out j];simpa using hu
       case c2=>have:=HDL.out;unfold maxLen;omega
       case c3=>have:=HDL.out;omega
       case c4=>exact Nat.le_trans HBB.out.size HBLR.out.size
       intro v' w12 ho' hg'
       have HO7:Hid (YtjghikkboekonaaGreatDoor.Owr chCells 57 12 w4.heap.size w12 v' (ra ++ dB (l0.map enOf) ((l1.map enOf).take (i + 1)))):=Lib.hid (by rw [HST.out];exact ho')
       have HB7:Hid (Below w4.heap.size w4 w12):=Lib.hid ((YtjghikkboekonaaGreatDoor.below_then HBB.out HBLR.out).grown hg' (Nat.le_trans HBB.out.size HBLR.out.size) (fun j hj=>(World.ownsRow.lt HO.out j hj).1))
       clear ho' hg'
       go_wp2_with fail
       go_roundg g1
       case measure=>omega
       case rel=>exact ⟨i + 1,by go_num,by omega,HII,HO7,HB7⟩
    ·have he:i=l1.length:=by have:=HI.out;omega
     subst he
     have ho1:=HO.out
     rw [List.take_of_length_le (by simp),HRA.out,← diffC_parts] at ho1
     have HO1:=Lib.hid ho1
     clear ho1
     obtain ⟨lc,hlc⟩:∃ lc:List ShC,lc.map (·.1)=diffC Y (l0.map enOf) (l1.map enOf):=⟨(diffC Y (l0.map enOf) (l1.map enOf)).pmap (fun x h=>⟨x,h⟩) (diffC_short HF0.out.1 HF1.out.1),by rw [List.map_pmap];simp⟩
     have hll:lc.length≤2000000:=by
      have h1:lc.length=(diffC Y (l0.map enOf) (l1.map enOf)).length:=by rw [← hlc,List.length_map]
      have h2:=dA_len (l1.map enOf) (l0.map enOf)
      have h3:=dB_len (l0.map enOf) (l1.map enOf)
      rw [diffC_parts,List.length_append] at h1
      rw [List.length_map] at h2 h3
      omega
     have HSRT:=Lib.hid (sortC_calls 44 cfD swo_D (fun args w=>enters_ Tryz.func44 (by kernel_rfl) rfl args w) wr w4 HB.out (fun w1 hb x y=>cmpD_calls w1 (hG.ext (YtjghikkboekonaaGreatDoor.below_then HB4.out hb)) x y) _ lc (by rw [hlc];exact HO1.out) (by omega))
     have HLC:=Lib.hid hlc
     clear HO HI hgi hi hlc hll
     go_wp2_with fail
     refine HSRT.out.mono ?_
     rintro e w13 ⟨rfl,l',hp,hs,ho,hb⟩
     have hso:=sort_diff HT0.out HT1.out HLC.out hp (hs.imp fun h=>Int.not_lt.2 h)
     rw [hso] at ho
     have HOF:=Lib.hid ho
     have HBF:=Lib.hid (YtjghikkboekonaaGreatDoor.below_then HB4.out hb)
     clear hp hs ho hb hso
     go_wp2_with fail
     go_ret2
     exact ⟨_,by rw [HE.out];rfl,by rw [HE.out];exact own_chweaken HOF.out HB4.out.size,HBF.out⟩
end Go.Proofs.Zq
end
section
namespace Go.Proofs.Zq
open Go.RowKit Go.WideMaps Go.Maps Go.Proofs.YtjghikkboekonaaGreatDoor Go.Proofs.Zw.PrintWords Go.Proofs.Zw.PrintLast Go.Proofs.Zw.PrintMore
abbrev enVal (e:Str×Nd):Value:=.agg (eCells e).toArray
theorem laid_out:laidOutB Tryz.prog=true:=by kernel_rfl
theorem enLaw:KeyLaw Tryz.prog 32:=deep_law_laid laid_out (m:=3) (by omega) (of_decide_eq_true (by kernel_rfl)) (by kernel_rfl) (by rw [Tryz.underlying32])
def NdWf (n:Nd):Prop:=(Lit.int .i64 n.kind).wf=true∧(Lit.int .i64 n.mode).wf=true∧(Lit.int .i64 n.uid).wf=true∧(Lit.int .i64 n.gid).wf=true∧(Lit.int .i64 n.mtime).wf=true∧(Lit.int .i64 n.major).wf=true∧(Lit.int .i64 n.minor).wf=true
def EnOk (e:Str×Nd):Prop:=∃ kl,keyOf Tryz.prog 32 (enVal e)=some kl
theorem lits_str (d:Nat) (s:Str) (h:s.length≤1000000000):Tryz.prog.keyLits (d + 1) 9 [.string (B s)]=some [.string s]:=by
 unfold Program.keyLits
 rw [Tryz.underlying9]
 have:(B s).size≤maxLen:=by show s.toArray.size≤maxLen;unfold maxLen;simp;omega
 simp [this,B]
theorem lits_int (d:Nat) (x:Int) (h:(Lit.int .i64 x).wf=true):Tryz.prog.keyLits (d + 1) 3 [.int .i64 x]=some [.int .i64 x]:=by
 unfold Program.keyLits
 rw [Tryz.underlying3]
 simp [h]
theorem lits_nd (d:Nat) (n:Nd) (h:NdWf n) (h1:n.link.length≤1000000000) (h2:n.data.length≤1000000000) (h3:n.attrs.length≤1000000000) :
  ∃ ls,Tryz.prog.keyLits (d + 2) 28 (ndCells n)=some ls:=by
 obtain ⟨w0,w1,w2,w3,w4,w7,w8⟩:=h
 have hI:Tryz.prog.cellsOf 3=1:=by kernel_rfl
 have hS:Tryz.prog.cellsOf 9=1:=by kernel_rfl
 have hN:Tryz.prog.cellsOf 28=10:=by kernel_rfl
 refine ⟨[.int .i64 n.kind,.int .i64 n.mode,.int .i64 n.uid,.int .i64 n.gid,.int .i64 n.mtime,.string n.link,.string n.data,.int .i64 n.major,.int .i64 n.minor,.string n.attrs],?_⟩
 unfold Program.keyLits
 rw [Tryz.underlying28]
 simp only [hN,ndCells]
 simp [hI,hS,lits_int _ _ w0,lits_int _ _ w1,lits_int _ _ w2,lits_int _ _ w3,lits_int _ _ w4,lits_int _ _ w7,lits_int _ _ w8,lits_str _ _ h1,lits_str _ _ h2,lits_str _ _ h3]
theorem enOk_of {e:Str×Nd} (h:e.1.length≤1000000000) (hw:NdWf e.2) (h1:e.2.link.length≤1000000000) (h2:e.2.data.length≤1000000000) (h3:e.2.attrs.length≤1000000000):EnOk e:=by
 have hN:Tryz.prog.cellsOf 28=10:=by kernel_rfl
 have hS:Tryz.prog.cellsOf 9=1:=by kernel_rfl
 have hE:Tryz.prog.cellsOf 32=11:=by kernel_rfl
 have hkt:Tryz.prog.keyType 32=true:=by kernel_rfl
 have hsz:∃ d,Tryz.prog.types.size=d + 3:=⟨Tryz.prog.types.size - 3,by have:3≤Tryz.prog.types.size:=of_decide_eq_true (by kernel_rfl);omega⟩
 obtain ⟨d,hd⟩:=hsz
 obtain ⟨ls,hls⟩:=lits_nd (d + 1) e.2 hw h1 h2 h3
 refine ⟨.string (keyBytes (.string e.1 :: ls)),?_⟩
 unfold keyOf
 rw [Tryz.underlying32]
 have hf:(enVal e).formed Tryz.prog 32=true:=by
  simp only [Value.formed,Tryz.underlying32,hE]
  rfl
 simp only [hkt,hf,Bool.and_self,if_true,hd]
 have:Tryz.prog.keyLits (d + 3 + 1) 32 (enVal e).cells.toList=some (.string e.1 :: ls):=by
  unfold Program.keyLits
  rw [Tryz.underlying32]
  simp only [hE,Value.cells,eCells]
  simp [hN,hS,lits_str _ _ h]
  refine ⟨by simp [ndCells],?_⟩
  have e1:(ndCells e.2).take 10=ndCells e.2:=List.take_of_length_le (by simp [ndCells])
  have e2:Tryz.prog.keyLits (d + 3) 28 (ndCells e.2)=some ls:=hls
  rw [e1,e2]
  simp
 rw [this]
 rfl
def EnMap (w:World) (b n:Nat) (f:Str×Nd→Nat):Prop :=
 ∃ D:DataW Unit,w.ownsMap Tryz.prog 32 (plainElem Tryz.prog 3) b n D∧IsMap D∧∀ (e:Str×Nd) (kl:Lit),keyOf Tryz.prog 32 (enVal e)=some kl→D.atKey kl (.lit (.int .i64 0))=.lit (.int .i64 (f e))
theorem EnMap.made (w:World):EnMap (w.alloc (.map #[] 0)) w.heap.size 0 (fun _=>0) :=
 ⟨.map [],World.ownsMap_made _ _ _ _,isMap_empty,fun _ _ _=>rfl⟩
theorem EnMap.lt {w:World} {b n:Nat} {f:Str×Nd→Nat} (h:EnMap w b n f):b<w.heap.size:=let ⟨_,h1,_⟩:=h;h1.lt
theorem EnMap.ext {w w':World} {b n:Nat} {f:Str×Nd→Nat} (h:EnMap w b n f) (hb:Below w.heap.size w w'):EnMap w' b n f :=
 let ⟨D,h1,h2,h3⟩:=h;⟨D,h1.kept (row:=none) ⟨hb.os,hb.tape,hb.output,hb.size,fun k hk _=>hb.block k hk⟩ (by simp),h2,h3⟩
theorem EnMap.drew {w:World} {b n:Nat} {f:Str×Nd→Nat} (h:EnMap w b n f):EnMap w.drew b n f:=h
theorem EnMap.look {w:World} {b n:Nat} {f:Str×Nd→Nat} (h:EnMap w b n f) {e:Str×Nd} (he:EnOk e) :
  (Instr.lookup 69 (.map (some b)) (enVal e) false).run Tryz.prog w=.ok (.int .i64 (f e)) w:=by
 obtain ⟨D,h1,h2,h3⟩:=h
 obtain ⟨kl,hkl⟩:=he
 obtain ⟨c,hrun,hat,_⟩:=h1.lookup_int (Keyed.of_law enLaw) Tryz.underlying69 Tryz.underlying3 (zeroInt _) hkl
 rw [hrun]
 rw [h3 e kl hkl] at hat
 simp only [DataW.lit.injEq,Lit.int.injEq,true_and] at hat
 rw [hat]
theorem enVal_inj {a b:Str×Nd} (h:enVal a=enVal b):a=b:=by
 obtain ⟨a1,a2⟩:=a
 obtain ⟨b1,b2⟩:=b
 have h':eCells (a1,a2)=eCells (b1,b2):=by
  have:=congrArg (fun v=>match v with|.agg cs=>cs.toList|_=>[]) h
  simpa using this
 have e1:B a1=B b1:=by
  have:=congrArg (fun l=>l[0]?) h'
  simpa [eCells] using this
 have e2:ndCells a2=ndCells b2:=by
  have:=congrArg (fun l=>l.drop 1) h'
  simpa [eCells] using this
 have e3:a1=b1:=by
  have:=congrArg (fun s:ByteArray=>s.data.toList) e1
  simpa [B] using this
 have e4:a2=b2:=ndVal_inj (by unfold ndVal;rw [e2])
 rw [e3,e4]
theorem setBlock_self {w:World} {b:Nat} {o:Obj} (h:w.heap[b]?=some o):Go.ChangeMaps.setBlock w b o=w:=by
 unfold Go.ChangeMaps.setBlock
 have:w.heap.setIfInBounds b o=w.heap:=by
  apply Array.ext_getElem?
  intro i
  rw [Array.getElem?_setIfInBounds]
  split
  ·rename_i e;subst e;split <;> simp_all
  ·rfl
 rw [this]
theorem EnMap.mono {w:World} {b n m:Nat} {f:Str×Nd→Nat} (h:EnMap w b n f) (hn:n≤m):EnMap w b m f:=let ⟨D,h1,h2,h3⟩:=h;⟨D,h1.mono hn,h2,h3⟩
theorem EnMap.entry {w:World} {b n:Nat} {f:Str×Nd→Nat} (h:EnMap w b n f) (hn:n≤1000000000) {e:Str×Nd} (he:EnOk e) (hf:f e≤1000000000) :
  ∃ (v0:Value) (st:Nat) (w1:World),(Instr.mapEntry 69 (.map (some b)) (enVal e)).run Tryz.prog w=.ok (.tuple #[v0,.int .i64 st]) w1∧EnMap w1 b (n + 1) f∧w.grownBy w1 (some b) ∧
   ∃ w2,(Instr.entryStore 69 (.map (some b)) (.int .i64 st) (.int .i64 ((f e + 1:Nat):Int))).run Tryz.prog w1=.ok () w2∧EnMap w2 b (n + 1) (fun x=>if x=e then f e + 1 else f x)∧w.grownBy w2 (some b):=by
 have hE:=h
 obtain ⟨D,h1,h2,h3⟩:=h
 obtain ⟨kl,hkl⟩:=he
 have hup:=fun (c:Nat) (hc:c≤9223372036854775807)=>h1.update (Keyed.of_law enLaw) Tryz.underlying69 (by unfold maxLen;omega) hkl (plainElem_int (H:=Unit) Tryz.underlying3 (wf_nat hc))
 obtain ⟨w2,hrun,hown,hg⟩:=hup (f e + 1) (by omega)
 obtain ⟨es,clock,hb,F,hs,hD⟩:=h1
 obtain ⟨v0,st,es1,clock1,hent,_,hst⟩:=Go.WideElems.entry_then_store enLaw Tryz.underlying69 (fun u=>zeroInt u) hb F hkl
 have hbl:b<w.heap.size:=(Array.getElem?_eq_some_iff.1 hb).1
 obtain ⟨es',clock',hs1,hs2⟩:=hst (Go.ChangeMaps.setBlock w b (.map es1 clock1)) (.int .i64 ((f e + 1:Nat):Int)) (by
  show (w.heap.setIfInBounds b _)[b]?=_
  rw [Array.getElem?_setIfInBounds_self_of_lt hbl])
 rw [hs2] at hrun
 injection hrun with _ hrun
 have e1:Go.ChangeMaps.setBlock (Go.ChangeMaps.setBlock w b (.map es1 clock1)) b (.map es' clock')=w2:=by
  rw [← hrun]
  unfold Go.ChangeMaps.setBlock
  simp
 have key:EnMap (Go.ChangeMaps.setBlock w b (.map es1 clock1)) b (n + 1) f∧w.grownBy (Go.ChangeMaps.setBlock w b (.map es1 clock1)) (some b):=by
  rcases enLaw.find w hkl es.toList F.keys with ⟨q1,q2⟩|⟨j,e0,q1,q2,q3⟩
  ·have hz:(Instr.mapEntry 69 (.map (some b)) (enVal e)).run Tryz.prog w=.ok (.tuple #[.int .i64 0,goInt clock]) (Go.ChangeMaps.setBlock w b (.map (es.push ⟨enVal e,.int .i64 0,clock⟩) (clock + 1))):=by
    simp [Instr.mapEntry,run_underlying Tryz.underlying69,MapKept.run_getObj_map hb,enLaw.check w false hkl,q1,zeroInt,MapKept.run_setObj_map _ hb,Result.andThen,Go.ChangeMaps.setBlock]
   have hm:(Instr.mapUpdate 69 (.map (some b)) (enVal e) (.int .i64 ((0:Nat):Int))).run Tryz.prog w=.ok () (Go.ChangeMaps.setBlock w b (.map (es.push ⟨enVal e,.int .i64 0,clock⟩) (clock + 1))):=by
    simp [Instr.mapUpdate,run_underlying Tryz.underlying69,MapKept.run_getObj_map hb,enLaw.check w false hkl,q1,MapKept.run_setObj_map _ hb,Result.andThen,Go.ChangeMaps.setBlock]
   rw [hent] at hz
   injection hz with _ hz
   obtain ⟨w3,r3,o3,g3⟩:=hup 0 (by omega)
   rw [hm] at r3
   injection r3 with _ r3
   have hf0:f e=0:=by
    rcases Maps.fit_look false (Keyed.of_law enLaw) Tryz.underlying69 (zeroInt w) hb F hkl with ⟨_,_,hat⟩|⟨x0,y,hm0,k3,_⟩
    ·have:=h3 e kl hkl
     rw [hD,hat] at this
     simpa using this.symm
    ·exact absurd k3 (q2 x0 hm0)
   rw [hz,r3]
   refine ⟨⟨_,o3,h2.put _ _,fun x kx hx=>?_⟩,g3⟩
   by_cases hxe:x=e
   ·subst hxe
    rw [hkl] at hx
    obtain rfl:=Option.some.inj hx
    rw [atKey_put_same h2 ((Keyed.of_law enLaw).key hkl),hf0]
   ·have hne:kx≠kl:=fun hk=>hxe (enVal_inj (enLaw.inj (l:=kl) (by rw [hx,hk]) hkl))
    rw [atKey_put_other hne,h3 x kx hx]
  ·have hj:es[j]?=some e0:=by simpa using q2
   have hsame:es.modify j (fun y=>{ y with key:=enVal e })=es:=by
    apply Array.ext'
    rw [Array.toList_modify,Go.ChangeMaps.modify_eq_set _ _ _ _ q2]
    have:({ e0 with key:=enVal e }:MapEntry)=e0:=by rw [← q3]
    rw [this]
    exact Go.WideElems.set_self _ _ _ q2
   have hz:(Instr.mapEntry 69 (.map (some b)) (enVal e)).run Tryz.prog w=.ok (.tuple #[e0.val,goInt e0.born]) (Go.ChangeMaps.setBlock w b (.map es clock)):=by
    simp [Instr.mapEntry,run_underlying Tryz.underlying69,MapKept.run_getObj_map hb,enLaw.check w false hkl,q1,hj,q3,enLaw.stays w hkl,hsame,MapKept.run_setObj_map _ hb,Result.andThen,Go.ChangeMaps.setBlock]
   rw [hent] at hz
   injection hz with _ hz
   rw [hz,setBlock_self hb]
   exact ⟨hE.mono (Nat.le_succ n),⟨rfl,rfl,rfl,Nat.le_refl _,fun _ _ _=>rfl⟩⟩
 refine ⟨v0,st,_,hent,key.1,key.2,_,hs1,?_⟩
 rw [e1]
 refine ⟨⟨_,hown,h2.put _ _,fun x kx hx=>?_⟩,hg⟩
 by_cases hxe:x=e
 ·subst hxe
  rw [hkl] at hx
  obtain rfl:=Option.some.inj hx
  show _=DataW.lit (Lit.int IntKind.i64 ((if x=x then f x + 1 else f x:Nat):Int))
  rw [if_pos rfl,atKey_put_same h2 ((Keyed.of_law enLaw).key hkl)]
 ·show _=DataW.lit (Lit.int IntKind.i64 ((if x=e then f e + 1 else f x:Nat):Int))
  have hne:kx≠kl:=fun hk=>hxe (enVal_inj (enLaw.inj (l:=kl) (by rw [hx,hk]) hkl))
  rw [if_neg hxe,atKey_put_other hne,h3 x kx hx]
end Go.Proofs.Zq
end
section
namespace Go.Proofs.Zq
open Go.RowKit Go.WideMaps Go.Maps Go.Proofs.YtjghikkboekonaaGreatDoor Go.Proofs.Zw.PrintWords Go.Proofs.Zw.PrintLast Go.Proofs.Zw.PrintMore
open Go.Proofs.Zt (getL bothM bothL allM rightT RightT parM PS)
theorem es_at {w:World} {A:Option Addr} {xs:List (List S32)} (h:Kd.C (Kd.slice 32 k32) w A xs.length xs) (i:Nat) (hi:i<xs.length) :
  ∃ ad A0 c0,A=some ad∧w.cell? (ad.add i)=some (.slice A0 xs[i].length c0)∧xs[i].length≤c0∧Kd.C k32 w A0 xs[i].length xs[i]:=by
 obtain ⟨ad,c,e,_,hK,hc0⟩:=Kd.C_get h ([]:List S32) (i:Int) (by omega) (by omega)
 have hc:∀ j u,c[j]?=some u→w.cell? (ad.add (i * 1 + j))=some u:=hc0
 have hd:xs.getD ((i:Nat):Int).toNat []=xs[i]:=by
  rw [show ((i:Nat):Int).toNat=i from rfl,List.getD_eq_getElem?_getD,List.getElem?_eq_getElem hi];rfl
 rw [hd] at hK
 obtain ⟨A0,c0,rfl,l0,g0⟩:=hK
 exact ⟨ad,A0,c0,e,by have hq:=hc 0 _ rfl;rwa [Nat.mul_one,Nat.add_zero] at hq,l0,g0⟩
theorem both1_calls (w:World) (hG:GL w) (A:Option Addr) (c:Nat) (l:List S32) (hr:Kd.C k32 w A l.length l) (hc:l.length≤c) (hf:rowFits' l) :
  Calls Tryz.prog 39 #[.slice A l.length c] w fun e w'=>e=.returned (.bool (!rightT Y (l.map enOf)))∧Below w.heap.size w w':=by
 have HC:=Lib.hid (tright_calls w hG A c l hr hc hf.1 hf.2)
 clear hr hc hf
 go_enter Tryz.func39,Tryz.ntmps39
 go_wp2_with fail
 refine HC.out.mono ?_
 rintro e w1 ⟨rfl,hb⟩
 have HB:=Lib.hid hb
 clear hb
 go_wp2_with fail
 go_ret
 exact ⟨rfl,HB.out⟩
set_option maxRecDepth 100000 in
theorem notree_calls (w:World) (hG:GL w) (A:Option Addr) (c:Nat) (xs:List (List S32)) (hS:Kd.C (Kd.slice 32 k32) w A xs.length xs) (hn:xs.length≤1000000) (hf:∀ l ∈ xs,rowFits' l) :
  Calls Tryz.prog 73 #[.slice A xs.length c,.func (.func 39) #[] #[]] w fun e w'=>∃ r:Int,e=.returned (.int .i64 r)∧((r = -1∧∀ l ∈ xs,rightT Y (l.map enOf)=true)∨(0≤r∧∃ l ∈ xs,rightT Y (l.map enOf)=false))∧Below w.heap.size w w':=by
 have HS:=Lib.hid hS
 have HN:=Lib.hid hn
 have HF:=Lib.hid hf
 clear hS hn hf
 go_enter Tryz.func73,Tryz.ntmps73
 go_wp2
 go_loopg [8] (xs.length + 1) (fun gq v wr=>∃ i:Nat,v=.int .i64 i∧xs.length<gq + i∧Hid (i≤xs.length)∧Hid (∀ l ∈ xs.take i,rightT Y (l.map enOf)=true)∧Hid (Below w.heap.size w wr))
 case atStart=>exact ⟨0,rfl,by omega,Lib.hid (by omega),Lib.hid (fun l h=>by simp at h),Lib.hid (Below.refl _ _)⟩
 case round =>
  obtain ⟨i,rfl,hgi,HI,HT,HB⟩:=hrel
  by_cases hi:i<xs.length
  ·cases gk with
   | zero=>omega
   | succ g1 =>
    obtain ⟨ad,A1,c1,rfl,hc,hl1,hk1⟩:=es_at HS.out i hi
    have HC:=Lib.hid (both1_calls wr (hG.ext HB.out) A1 c1 xs[i] (Kd.C_below hk1 HB.out) hl1 (HF.out _ (List.getElem_mem hi)))
    have q1:=pw_cell_below HB.out hc
    have HII:Hid (i + 1≤xs.length):=Lib.hid hi
    have hnn:=HN.out
    clear hc hl1 hk1
    go_wp2_with fail
    refine HC.out.mono ?_
    rintro x w2 ⟨rfl,hb⟩
    have HB2:=Lib.hid (YtjghikkboekonaaGreatDoor.below_then HB.out hb)
    clear hb q1 HC
    cases hr:rightT Y (xs[i].map enOf) with
    | false =>
     have HX:Hid (∃ l ∈ xs,rightT Y (l.map enOf)=false):=Lib.hid ⟨_,List.getElem_mem hi,hr⟩
     go_wp2_with fail
     go_ret
     exact ⟨_,rfl,.inr ⟨by omega,HX.out⟩,HB2.out⟩
    | true =>
     have HT2:Hid (∀ l ∈ xs.take (i + 1),rightT Y (l.map enOf)=true):=Lib.hid (fun l hl=>by
      rw [List.take_succ_eq_append_getElem hi] at hl
      rcases List.mem_append.1 hl with h|h
      ·exact HT.out l h
      ·rw [List.mem_singleton.1 h];exact hr)
     clear hr
     go_wp2_with fail
     go_roundg g1
     case measure=>omega
     case rel=>exact ⟨i + 1,by go_num,by omega,HII,HT2,HB2⟩
  ·have he:i=xs.length:=by have:=HI.out;omega
   subst he
   go_wp2_with fail
   go_ret
   exact ⟨-1,rfl,.inl ⟨rfl,by have:=HT.out;rwa [List.take_of_length_le (Nat.le_refl _)] at this⟩,HB.out⟩
theorem anyno_calls (w:World) (hG:GL w) (A:Option Addr) (c:Nat) (xs:List (List S32)) (hS:Kd.C (Kd.slice 32 k32) w A xs.length xs) (hn:xs.length≤1000000) (hf:∀ l ∈ xs,rowFits' l) :
  Calls Tryz.prog 38 #[.slice A xs.length c,.func (.func 39) #[] #[]] w fun e w'=>e=.returned (.bool (!(xs.map (List.map enOf)).all (rightT Y)))∧Below w.heap.size w w':=by
 have HC:=Lib.hid (notree_calls w hG A c xs hS hn hf)
 clear hS hn hf
 go_enter Tryz.func38,Tryz.ntmps38
 go_wp2_with fail
 refine HC.out.mono ?_
 rintro e w1 ⟨r,rfl,hr,hb⟩
 have HB:=Lib.hid hb
 clear hb HC
 rcases hr with ⟨rfl,hall⟩|⟨h0,l,hl,hno⟩
 ·have HA:Hid ((xs.map (List.map enOf)).all (rightT Y)=true):=Lib.hid (by rw [List.all_eq_true];intro x hx;obtain ⟨l,hl,rfl⟩:=List.mem_map.1 hx;exact hall l hl)
  clear hall
  go_wp2_with fail
  go_ret
  exact ⟨by rw [HA.out];rfl,HB.out⟩
 ·have HA:Hid ((xs.map (List.map enOf)).all (rightT Y)=false):=Lib.hid (by rw [List.all_eq_false];exact ⟨_,List.mem_map_of_mem hl,by rw [hno];simp⟩)
  have hq:decide ((0:Int)≤r)=true:=by simpa using h0
  clear hl hno
  go_wp2_with fail
  go_ret
  exact ⟨by rw [HA.out];rfl,HB.out⟩
def cntT (ts:List (List (Str×Nd))) (e:Str×Nd):Nat:=(ts.map (List.count e)).sum
theorem count_right {t:List (Str×Nd)} (h:RightT Y t) (e:Str×Nd):t.count e=if getL t e.1=some e.2 then 1 else 0:=by
 have hnd:t.Nodup:=(Zt.srt_ne h.srt).imp fun hne e=>hne (by rw [e])
 by_cases hm:e ∈ t
 ·rw [if_pos (h.srt.get hm),hnd.count,if_pos hm]
 ·rw [if_neg (fun hg=>hm (Zt.getL_mem hg)),hnd.count,if_neg hm]
theorem cnt_le (ts:List (List (Str×Nd))) (h:∀ t ∈ ts,RightT Y t) (e:Str×Nd):cntT ts e≤ts.length:=by
 unfold cntT
 induction ts with
 | nil=>simp
 | cons t r ih =>
  have:=ih (fun x hx=>h x (by simp [hx]))
  rw [List.map_cons,List.sum_cons,List.length_cons,count_right (h t (by simp))]
  split <;> omega
theorem cnt_all (ts:List (List (Str×Nd))) (h:∀ t ∈ ts,RightT Y t) (e:Str×Nd):((cntT ts e:Int) == (ts.length:Int))=allM ts e:=by
 have:cntT ts e=ts.length↔allM ts e=true:=by
  unfold allM
  induction ts with
  | nil=>simp [cntT]
  | cons t r ih =>
   have h1:=ih (fun x hx=>h x (by simp [hx]))
   have h2:=cnt_le r (fun x hx=>h x (by simp [hx])) e
   have h3:cntT (t :: r) e=t.count e + cntT r e:=by simp [cntT]
   rw [h3,count_right (h t (by simp)),List.length_cons,List.all_cons,Bool.and_eq_true,← h1,decide_eq_true_eq]
   by_cases hg:getL t e.1=some e.2
   ·rw [if_pos hg];simp [hg];omega
   ·rw [if_neg hg];simp [hg];omega
 rw [Bool.eq_iff_iff,← this]
 simp;omega
theorem cnt_step (xs:List (List S32)) (i:Nat) (hi:i<xs.length) (x:Str×Nd):cntT ((xs.map (List.map enOf)).take (i + 1)) x=cntT ((xs.map (List.map enOf)).take i) x + (xs[i].map enOf).count x:=by
 unfold cntT
 rw [List.take_succ_eq_append_getElem (by simpa using hi),List.map_append,List.sum_append,List.getElem_map]
 simp
theorem count_step (l:List S32) (j:Nat) (hj:j<l.length) (x:Str×Nd):((l.map enOf).take (j + 1)).count x=((l.map enOf).take j).count x + if x=enOf l[j] then 1 else 0:=by
 rw [List.take_succ_eq_append_getElem (by simpa using hj),List.count_append,List.getElem_map,List.count_singleton]
 by_cases hxe:x=enOf l[j]
 ·simp [hxe]
 ·have:¬ enOf l[j]=x:=fun h=>hxe h.symm
  simp [hxe,this]
theorem cnt_bound (ts:List (List (Str×Nd))) (e:Str×Nd) (b:Nat) (h:∀ t ∈ ts,t.length≤b):cntT ts e≤ts.length * b:=by
 unfold cntT
 induction ts with
 | nil=>simp
 | cons t r ih =>
  have h1:=ih (fun x hx=>h x (by simp [hx]))
  have h2:=h t (by simp)
  have h3:t.count e≤t.length:=List.count_le_length
  rw [List.map_cons,List.sum_cons,List.length_cons,Nat.succ_mul]
  omega
def keptF (out:List (Str×Nd)) (key:Str):Nat:=if key=[]∨(getL out key).isSome=true then 1 else 0
theorem kept_nil (key:Str):keptF [] key=if key == [] then 1 else (fun _=>0) key:=by
 unfold keptF
 by_cases h:key=[]
 ·simp [h]
 ·simp [h,getL]
theorem kept_snoc (out:List (Str×Nd)) (e:Str×Nd) (key:Str):keptF (out ++ [e]) key=if key == e.1 then 1 else keptF out key:=by
 unfold keptF
 rw [Zt.getL_append]
 by_cases h:key=e.1
 ·subst h
  cases getL out e.1 <;> simp [getL]
 ·have h':¬ e.1=key:=fun e=>h e.symm
  cases getL out key <;> simp [getL,h,h']
theorem kept_pos (out:List (Str×Nd)) (key:Str):decide ((0:Int)<(keptF out key:Int))=(decide (key=[]) || (getL out key).isSome):=by
 unfold keptF
 by_cases h:key=[]
 ·simp [h]
 ·cases getL out key <;> simp [h]
theorem EnMap.grown {w w':World} {b n:Nat} {f:Str×Nd→Nat} {row:Option Nat} (h:EnMap w b n f) (hg:w.grownBy w' row) (hne:some b≠row):EnMap w' b n f :=
 let ⟨D,h1,h2,h3⟩:=h;⟨D,h1.kept hg hne,h2,h3⟩
theorem cntMap_grown {w w':World} {b n:Nat} {f:Str→Nat} {row:Option Nat} (h:CntMap w b n f) (hg:w.grownBy w' row) (hne:some b≠row):CntMap w' b n f :=
 let ⟨D,h1,h2,h3⟩:=h;⟨D,h1.kept hg hne,h2,h3⟩
theorem EnMap.congr {w:World} {b n:Nat} {f g:Str×Nd→Nat} (h:EnMap w b n f) (e:∀ x,g x=f x):EnMap w b n g:=by rw [show g=f from funext e];exact h
theorem cnt_more {w:World} {b n:Nat} {f:Str→Nat} (h:CntMap w b n f):CntMap w b (n + 1) f:=let ⟨D,h1,h2,h3⟩:=h;⟨D,h1.mono (Nat.le_succ n),h2,h3⟩
theorem ens_drop (l:List S32) (i:Nat) (hi:i<l.length):(l.map enOf).drop i=enOf l[i] :: (l.map enOf).drop (i + 1):=by
 rw [List.drop_eq_getElem_cons (by simpa using hi),List.getElem_map]
theorem own_eweaken {base0 base:Nat} {w:World} {v:Value} {l:List (Str×Nd)} (h:YtjghikkboekonaaGreatDoor.Owr eCells 32 11 base w v l) (hb:base0≤base):YtjghikkboekonaaGreatDoor.Owr eCells 32 11 base0 w v l:=by
 refine ⟨h.1,?_⟩
 rcases h.2 with h|⟨g,cap,cur,h1,h2,h3⟩
 ·exact .inl h
 ·exact .inr ⟨g,cap,cur,h1,Nat.le_trans hb h2,h3⟩
set_option maxRecDepth 100000 in
set_option maxHeartbeats 16000000 in
theorem both_calls (w:World) (hG:GL w) (A:Option Addr) (c:Nat) (xs:List (List S32)) (hS:Kd.C (Kd.slice 32 k32) w A xs.length xs) (hn:xs.length≤100) (hf:∀ l ∈ xs,rowFits' l) (hok:∀ l ∈ xs,∀ x ∈ l,EnOk (enOf x)) :
  Calls Tryz.prog 16 #[.slice A xs.length c] w fun e w'=>∃ v:Value,e=.returned v∧YtjghikkboekonaaGreatDoor.Owr eCells 32 11 w.heap.size w' v (bothM Y (xs.map (List.map enOf)))∧Below w.heap.size w w':=by
 have HS:=Lib.hid hS
 have HN:=Lib.hid hn
 have HF:=Lib.hid hf
 have HOK:=Lib.hid hok
 have HC:=Lib.hid (anyno_calls w hG A c xs hS (by omega) hf)
 clear hS hf hok
 have hmm:=@run_makeMap Tryz.prog
 have h49:=Tryz.underlying32
 obtain ⟨i0,hi,hz0,hz1,hz2⟩:=info_parts info_en
 have HI0:=Lib.hid hi
 have HZ0:=Lib.hid hz0
 have HZ1:=Lib.hid hz1
 have HZ2:=Lib.hid hz2
 clear hi hz0 hz1 hz2
 obtain ⟨res,hres⟩:∃ res,res=bothM Y (xs.map (List.map enOf)):=⟨_,rfl⟩
 have HRES:=Lib.hid hres
 rw [← hres]
 clear hres
 by_cases hx0:xs=[]
 ·subst hx0
  have HE:Hid (res=[]):=Lib.hid HRES.out
  clear HC
  go_enter Tryz.func16,Tryz.ntmps16
  go_wp2_with fail
  go_ret
  exact ⟨_,rfl,by rw [HE.out];exact Owr.nil _ _ _ _ _,Below.refl _ _⟩
 have hlen0:0<xs.length:=List.length_pos_iff.2 hx0
 have hq0:((xs.length:Int) == 0)=false:=by simp;omega
 go_enter Tryz.func16,Tryz.ntmps16
 go_wp2_with fail
 refine HC.out.mono ?_
 rintro e w1 ⟨rfl,hb1⟩
 have HB1:=Lib.hid hb1
 clear hb1 HC
 cases hall:(xs.map (List.map enOf)).all (rightT Y) with
 | false =>
  have HE:Hid (res=[]):=Lib.hid (by
   rw [HRES.out]
   cases hxs:xs.map (List.map enOf) with
   | nil=>rfl
   | cons t r=>rw [hxs] at hall;unfold bothM;simp only [hall];rfl)
  go_wp2_with fail
  go_ret
  exact ⟨_,rfl,by rw [HE.out];exact Owr.nil _ _ _ _ _,HB1.out⟩
 | true =>
 have HRT:Hid (∀ t ∈ xs.map (List.map enOf),RightT Y t):=Lib.hid (fun t ht=>(Zt.rightT_iff Y).1 (List.all_eq_true.1 hall t ht))
 obtain ⟨t0,rest0,hxs⟩:∃ t0 r,xs=t0 :: r:=by cases xs with|nil=>exact absurd rfl hx0|cons a b=>exact ⟨a,b,rfl⟩
 have HE:Hid (res=bothL PS (allM (xs.map (List.map enOf))) [] (t0.map enOf)):=Lib.hid (by
  rw [HRES.out]
  rw [hxs,List.map_cons] at hall ⊢
  unfold bothM
  simp only [hall]
  rfl)
 have HXS:=Lib.hid hxs
 clear hall HRES hxs
 have HMK:Hid (EnMap (w1.alloc (.map #[] 0)) w1.heap.size 0 (fun _=>0)):=Lib.hid (EnMap.made w1)
 have HBA:Hid (Below w.heap.size w (w1.alloc (.map #[] 0))):=Lib.hid (HB1.out.alloc HB1.out.size _)
 obtain ⟨gm,hgm⟩:∃ gm,gm=w1.heap.size:=⟨_,rfl⟩
 have HBM:Hid (w.heap.size≤gm):=Lib.hid (by rw [hgm];exact HB1.out.size)
 rw [← hgm] at HMK
 go_wp2
 rw [← hgm]
 clear hgm
 generalize w1.alloc (.map #[] 0)=w2 at HMK HBA ⊢
 clear HB1
 have HRL:Hid (∀ l ∈ xs,l.length≤1000000):=Lib.hid (fun l hl=>(HF.out l hl).2)
 go_loopg [22] (xs.length + 1) (fun gq v wr=>∃ i:Nat,v=.int .i64 i∧xs.length<gq + i∧Hid (i≤xs.length)∧Hid (EnMap wr gm (i * 1000000) (cntT ((xs.map (List.map enOf)).take i)))∧Hid (Below w.heap.size w wr))
 case atStart=>exact ⟨0,rfl,by omega,Lib.hid (by omega),Lib.hid (HMK.out.congr (fun x=>by simp [cntT])),HBA⟩
 case round =>
  clear HMK HBA hmm
  obtain ⟨i,rfl,hgi,HI,HM,HB⟩:=hrel
  by_cases hi:i<xs.length
  ·cases gk with
   | zero=>omega
   | succ g1 =>
    obtain ⟨ad,A1,c1,rfl,hc,hl1,hk1⟩:=es_at HS.out i hi
    have q1:=pw_cell_below HB.out hc
    have HK1:=Lib.hid hk1
    have HXI:=Lib.hid (HRL.out _ (List.getElem_mem hi))
    have HOI:=Lib.hid (HOK.out _ (List.getElem_mem hi))
    have hst:=cnt_step xs i hi
    have HBD:Hid (∀ x,cntT ((xs.map (List.map enOf)).take i) x≤100 * 1000000):=Lib.hid (fun x=>by
     refine Nat.le_trans (cnt_bound _ x 1000000 (fun t ht=>?_)) (Nat.mul_le_mul_right _ ?_)
     ·obtain ⟨l,hl,rfl⟩:=List.mem_map.1 (List.mem_of_mem_take ht)
      rw [List.length_map];exact HRL.out l hl
     ·rw [List.length_take];omega)
    have HST:=Lib.hid hst
    clear hst
    obtain ⟨l,hl⟩:∃ l,l=xs[i]:=⟨_,rfl⟩
    rw [← hl] at q1 HK1 HXI HOI HST
    have HII:Hid (i + 1≤xs.length):=Lib.hid hi
    obtain ⟨F,hF⟩:∃ F,F=cntT ((xs.map (List.map enOf)).take i):=⟨_,rfl⟩
    obtain ⟨F',hF'⟩:∃ F,F=cntT ((xs.map (List.map enOf)).take (i + 1)):=⟨_,rfl⟩
    rw [← hF] at HM HBD HST
    rw [← hF'] at HST
    have HF':=Lib.hid hF'
    clear hl hF hF' hc hl1 hk1
    have hnn:=HN.out
    have hli:=HXI.out
    go_wp2_with fail
    clear q1
    go_loopg [28] (l.length + 1) (fun gq v wq=>∃ j:Nat,v=.int .i64 j∧l.length<gq + j∧Hid (j≤l.length)∧Hid (EnMap wq gm (i * 1000000 + j) (fun x=>F x + ((l.map enOf).take j).count x))∧Hid (Below w.heap.size w wq))
    case atStart=>exact ⟨0,rfl,by omega,Lib.hid (by omega),Lib.hid (by rw [Nat.add_zero];exact HM.out.congr (fun x=>by simp)),HB⟩
    case round =>
     clear HM HB
     obtain ⟨j,rfl,hgj,HJ,HM,HB⟩:=hrel
     by_cases hj:j<l.length
     ·cases gk with
      | zero=>omega
      | succ g2 =>
       obtain ⟨ae,rfl,hat⟩:=e_at HK1.out j hj
       have HAT:=Lib.hid (hat.below HB.out)
       have HEO:=Lib.hid (HOI.out _ (List.getElem_mem hj))
       have hs2:=count_step l j hj
       have hcl:∀ x,((l.map enOf).take j).count x≤1000000:=fun x=>Nat.le_trans List.count_le_length (by rw [List.length_take];have:=HXI.out;simp;omega)
       obtain ⟨e,hee⟩:∃ e,e=enOf l[j]:=⟨_,rfl⟩
       rw [← hee] at HAT HEO hs2
       have HJJ:Hid (j + 1≤l.length):=Lib.hid hj
       have HS2:=Lib.hid hs2
       have HCL:=Lib.hid hcl
       clear hat hs2 hcl hee
       have HBMW:Hid (gm<wr.heap.size):=Lib.hid HM.out.lt
       go_upto_region 10 with (first|((with_reducible refine gate_dst (N:=31) rfl ?_);refine wpList_load_agg rfl 32 _ rfl _ rfl (eCells e) _ HAT.out h49 rfl rfl ?_)|((with_reducible refine gate_dst (N:=7) rfl ?_);refine box_event rfl (N:=7) rfl (cs:=enZero) (t:=32) ?hr ?_;(case hr=>first|(go_simp;done)|(go_simp;rfl));intro g7 hg w5 hb2 hbl2;have HGE_g7:Hid (wr.heap.size≤g7):=Lib.hid (by rw [hg];exact Nat.le_refl _);have HB_g7:=Lib.hid hb2;have HBL_g7:=Lib.hid hbl2;have HGB:Hid (wr.heap.size≤g7):=Lib.hid (by rw [hg];exact Nat.le_refl _);clear hg hb2 hbl2)|((with_reducible refine gate_store (t:=32) (p:=7) rfl ?_);refine wpList_store_agg rfl rfl 32 _ _ rfl g7 (eCells e).toArray rfl rfl 32 enZero HB_g7.out rfl rfl (eCells_all _) ?_;intro w6 hb3 hg3;have HC_g7:=Lib.hid hb3;have HBW_g7:Hid (Below wr.heap.size wr w6):=Lib.hid (HBL_g7.out.grown hg3 HBL_g7.out.size (fun j hj=>by cases hj;exact HGE_g7.out));clear hb3 hg3 HB_g7 HBL_g7 HGE_g7))
       have HM6:=Lib.hid (HM.out.ext HBW_g7.out)
       have HB6:=Lib.hid (YtjghikkboekonaaGreatDoor.below_then HB.out HBW_g7.out)
       clear HM HAT
       obtain ⟨m0,hm0⟩:∃ m,m=F e + ((l.map enOf).take j).count e:=⟨_,rfl⟩
       have hmb:m0≤101 * 1000000:=by have h1:=HBD.out e;have h2:=HCL.out e;omega
       have HLK:Hid ((Instr.lookup 69 (.map (some gm)) (enVal e) false).run Tryz.prog w6.drew=.ok (.int .i64 m0) w6.drew):=Lib.hid (by rw [hm0];exact HM6.out.drew.look HEO.out)
       obtain ⟨v0,st,w7,hent,hm7,hg7,w8,hsto,hm8,hg8⟩:=HM6.out.drew.entry (by have:=HXI.out;omega) HEO.out (by show F e + ((l.map enOf).take j).count e≤_;omega)
       have HLK7:Hid ((Instr.lookup 69 (.map (some gm)) (enVal e) false).run Tryz.prog w7=.ok (.int .i64 m0) w7):=Lib.hid (by rw [hm0];exact hm7.look HEO.out)
       have HC7:Hid (w7.heap[g7]?=some (.cells (eCells e).toArray 32 (0,0))):=Lib.hid ((hg7.block g7 (Go.Proofs.Zw.PrintWords.blk_lt HC_g7.out) (fun h=>by cases h;have h1:=HGB.out;have h2:=HBMW.out;omega)).trans HC_g7.out)
       have HAG:Hid (∀ w',(w'=w6.drew∨w'=w7)→LiesAt w' ⟨g7,0,none⟩ (eCells e)):=Lib.hid (fun w' hb=>hb.elim (fun h=>by rw [h];exact lies_of (w:=w6.drew) HC_g7.out) (fun h=>by rw [h];exact lies_of HC7.out))
       have hm0':F e + ((l.map enOf).take j).count e=m0:=hm0.symm
       rw [hm0'] at hsto
       rw [show ((m0 + 1:Nat):Int)=(m0:Int) + 1 from by omega] at hsto
       have hw1:Go.RowKit.wrap64 ((m0:Int) + 1)=((m0 + 1:Nat):Int):=by rw [wrap_in (by omega) (by omega)];omega
       have HENT:=Lib.hid hent
       have HSTO:=Lib.hid hsto
       have HM8:Hid (EnMap w8 gm (i * 1000000 + (j + 1)) (fun x=>F x + ((l.map enOf).take (j + 1)).count x)):=Lib.hid (by rw [← Nat.add_assoc];exact hm8.congr (fun x=>by
        rw [HS2.out x]
        show _=if x=e then F e + ((l.map enOf).take j).count e + 1 else F x + ((l.map enOf).take j).count x
        by_cases hxe:x=e
        ·subst hxe;rw [if_pos rfl,if_pos rfl];omega
        ·rw [if_neg hxe,if_neg hxe];omega))
       have HB8:Hid (Below w.heap.size w w8):=Lib.hid (HB6.out.drew.grown hg8 HB6.out.size (fun k hk=>by cases hk;exact HBM.out))
       clear hent hsto hm8 hg8 hm0' hm0 HM6 HB6 HB
       refine start_ (n:=7) (S:=fun w'=>w'=w6.drew∨w'=w7) (ds:=[6]) (ms 7 0) (by kernel_rfl) rfl rfl (.inl rfl) (fun hHeld=>?_)
       (refine pU 0 32 ?_ (ms 7 1) rfl rfl (by kernel_rfl) (fun _ _ _=>id) (by rfl) ?_ ?_ ?_ ?_;rotate_left;(intro w';go_simp;with_reducible rfl);rotate_left;(simp only [aP,i64_w,i32_w];rfl))
       refine take_ (i:=1) (N:=some 33) (v:=.agg (eCells e).toArray) (a':=?_) (ms 7 2) rfl rfl (by kernel_rfl) (fun _ _ _ h=>h) (yi_agg (by rfl) 32 _ rfl _ rfl _ _ HAG.out h49 rfl rfl) hHeld ?_ ?_
       rotate_left
       ·(simp only [aP,i64_w,i32_w];rfl)
       refine two_ (i:=2) (j:=4) (Ni:=some 34) (Nj:=some 36) (ms 7 3) (bm 7 19) rfl rfl rfl rfl (by kernel_rfl) (by decide) (by decide) (fun K hK=>?_) (fun K hK=>?_)
       ·refine value_ (v:=.int .i64 m0) (w1:=w6.drew) (by rfl) rfl (by have hlk:=HLK.out;go_simp) ?_
        refine hK.out _ _ (.inl rfl) (fun hHeld=>?_)
        clear hK K
        refine norm_ (a':=?_) ?_ ?_
        rotate_left
        ·show Act.put _ (some 34) _=_
         (simp only [aP,i64_w,i32_w];rfl)
        (refine pU 3 35 ?_ (ms 7 4) rfl rfl (by kernel_rfl) (fun _ _ _=>id) (by rfl) ?_ ?_ ?_ ?_;rotate_left;(intro w';go_simp;with_reducible rfl);rotate_left;(simp only [aP,i64_w,i32_w];rfl))
        refine one_ (i:=4) (N:=some 36) (ms 7 5) rfl rfl (by kernel_rfl) (by decide) (fun K hK=>?_)
        refine value_ (v:=.tuple #[v0,.int .i64 st]) (w1:=w7) (by rfl) rfl (by have hent:=HENT.out;go_simp) ?_
        refine hK.out _ _ (.inr rfl) (fun hHeld=>?_)
        clear hK K
        refine norm_ (a':=?_) ?_ ?_
        rotate_left
        ·show Act.put _ (some 36) _=_
         (simp only [aP,i64_w,i32_w];rfl)
        (refine pU 5 37 ?_ (ms 7 6) rfl rfl (by kernel_rfl) (fun _ _ _=>id) (by rfl) ?_ ?_ ?_ ?_;rotate_left;(intro w';go_simp;with_reducible rfl);rotate_left;(simp only [aP,i64_w,i32_w];rfl))
        refine last_ (i:=6) (N:=none) (ms 7 7) rfl rfl (by kernel_rfl) (by decide) (fun K hK=>?_)
        refine skip_ (w1:=w8) (by rfl) rfl (by have hsto:=HSTO.out;go_simp) ?_
        refine hK.out _ _ ?_
        clear hK K
        refine done_ (by kernel_rfl) ?_
        go_wp2_with fail
        go_roundg g2
        case measure=>omega
        case rel=>exact ⟨j + 1,by go_num,by omega,HJJ,HM8,HB8⟩
       ·refine value_ (v:=.tuple #[v0,.int .i64 st]) (w1:=w7) (by rfl) rfl (by have hent:=HENT.out;go_simp) ?_
        refine hK.out _ _ (.inr rfl) (fun hHeld=>?_)
        clear hK K
        refine norm_ (a':=?_) ?_ ?_
        rotate_left
        ·show Act.put _ (some 36) _=_
         (simp only [aP,i64_w,i32_w];rfl)
        (refine pU 5 37 ?_ (bm 7 51) rfl rfl (by kernel_rfl) (fun _ _ _=>id) (by rfl) ?_ ?_ ?_ ?_;rotate_left;(intro w';go_simp;with_reducible rfl);rotate_left;(simp only [aP,i64_w,i32_w];rfl))
        refine one_ (i:=2) (N:=some 34) (bm 7 55) rfl rfl (by kernel_rfl) (by decide) (fun K hK=>?_)
        refine value_ (v:=.int .i64 m0) (w1:=w7) (by rfl) rfl (by have hlk:=HLK7.out;go_simp) ?_
        refine hK.out _ _ (.inr rfl) (fun hHeld=>?_)
        clear hK K
        refine norm_ (a':=?_) ?_ ?_
        rotate_left
        ·show Act.put _ (some 34) _=_
         (simp only [aP,i64_w,i32_w];rfl)
        (refine pU 3 35 ?_ (ms 7 6) rfl rfl (by kernel_rfl) (fun _ _ _=>id) (by rfl) ?_ ?_ ?_ ?_;rotate_left;(intro w';go_simp;with_reducible rfl);rotate_left;(simp only [aP,i64_w,i32_w];rfl))
        refine last_ (i:=6) (N:=none) (ms 7 7) rfl rfl (by kernel_rfl) (by decide) (fun K hK=>?_)
        refine skip_ (w1:=w8) (by rfl) rfl (by have hsto:=HSTO.out;go_simp) ?_
        refine hK.out _ _ ?_
        clear hK K
        refine done_ (by kernel_rfl) ?_
        go_wp2_with fail
        go_roundg g2
        case measure=>omega
        case rel=>exact ⟨j + 1,by go_num,by omega,HJJ,HM8,HB8⟩
     ·have he:j=l.length:=by have:=HJ.out;omega
      subst he
      have HMN:Hid (EnMap wr gm ((i + 1) * 1000000) (cntT ((xs.map (List.map enOf)).take (i + 1)))):=Lib.hid (by
       rw [← HF'.out]
       refine (HM.out.mono (by have:=HXI.out;omega)).congr (fun x=>?_)
       rw [HST.out x,List.take_of_length_le (by simp)])
      clear HM
      go_wp2_with fail
      go_roundg g1
      case measure=>omega
      case rel=>exact ⟨i + 1,by go_num,by omega,HII,HMN,HB⟩
  ·have he:i=xs.length:=by have:=HI.out;omega
   subst he
   have HMC:Hid (EnMap wr gm (xs.length * 1000000) (cntT (xs.map (List.map enOf)))):=Lib.hid (by have:=HM.out;rwa [List.take_of_length_le (by simp)] at this)
   have HBMW:Hid (gm<wr.heap.size):=Lib.hid HM.out.lt
   clear HM HI hgi hi
   obtain ⟨ad,A1,c1,rfl,hc,hl1,hk1⟩:=es_at HS.out 0 hlen0
   have ht0:xs[0]=t0:=by simp [HXS.out]
   rw [ht0] at hc hl1 hk1
   have HC0:=Lib.hid hc
   have HK1:=Lib.hid hk1
   clear hc hl1 hk1 ht0
   have hnn:=HN.out
   obtain ⟨bk,hbk⟩:∃ bk,bk=wr.heap.size:=⟨_,rfl⟩
   have hmm:=@run_makeMap Tryz.prog
   go_wp2_with (first|(refine wpList_cnt_in rfl rfl _ _ _ rfl wr.heap.size 0 _ rfl (CntMap.made wr) (by omega) [] 1 rfl rfl (by simp) (by omega) _ kept_nil ?_))
   intro w3 hm3 hg3
   rw [← hbk] at hm3 hg3 ⊢
   have HKP:Hid (CntMap w3 bk 1 (keptF [])):=Lib.hid hm3
   have HB3:Hid (Below w.heap.size w w3):=Lib.hid ((HB.out.alloc HB.out.size _).grown hg3 (by have:=HB.out.size;simp;omega) (fun j hj=>by cases hj;rw [hbk];exact HB.out.size))
   have HM3:Hid (EnMap w3 gm (xs.length * 1000000) (cntT (xs.map (List.map enOf)))):=Lib.hid ((HMC.out.ext (YtjghikkboekonaaGreatDoor.below_new wr _)).grown hg3 (fun h=>by cases h;have:=HBMW.out;omega))
   have HBK3:Hid (bk<w3.heap.size):=Lib.hid hm3.lt
   have HBM3:Hid (gm<w3.heap.size):=Lib.hid HM3.out.lt
   have HBKW:Hid (w.heap.size≤bk):=Lib.hid (by rw [hbk];exact HB.out.size)
   have HBNE:Hid (gm≠bk):=Lib.hid (by rw [hbk];exact Nat.ne_of_lt HBMW.out)
   clear hm3 hg3 hbk HMC HB HBMW
   have q0:=pw_cell_below HB3.out HC0.out
   have h0a:ad.add 0=ad:=by cases ad;rfl
   rw [h0a] at q0
   go_wp2_with fail
   clear q0 h0a
   obtain ⟨T,hT⟩:∃ T,T=t0.map enOf:=⟨_,rfl⟩
   rw [← hT] at HE
   have HT:=Lib.hid hT
   have HTL:Hid (T.length=t0.length):=Lib.hid (by rw [hT,List.length_map])
   have hmem:t0 ∈ xs:=by rw [HXS.out];simp
   have HTB:Hid (t0.length≤1000000):=Lib.hid (HRL.out _ hmem)
   have HTO:=Lib.hid (HOK.out _ hmem)
   have HTF:=Lib.hid (HF.out _ hmem).1
   clear hT hmem
   have htb:=HTB.out
   go_loopg [8,46] (t0.length + 1) (fun gq v u wr=>∃ (i:Nat) (out:List (Str×Nd)),u=.int .i64 i∧t0.length<gq + i∧Hid (i≤t0.length)∧Hid (out.length≤i)∧Hid (res=bothL PS (allM (xs.map (List.map enOf))) out (T.drop i))∧Hid (YtjghikkboekonaaGreatDoor.Owr eCells 32 11 w3.heap.size wr v out) ∧
    Hid (EnMap wr gm (xs.length * 1000000) (cntT (xs.map (List.map enOf))))∧Hid (CntMap wr bk (i + 1) (keptF out))∧Hid (Below w.heap.size w wr)∧Hid (w3.heap.size≤wr.heap.size))
   case atStart=>exact ⟨0,[],rfl,by omega,Lib.hid (by omega),Lib.hid (by simp),Lib.hid (by rw [List.drop_zero];exact HE.out),Lib.hid (Owr.nil _ _ _ _ _),HM3,HKP,HB3,Lib.hid (Nat.le_refl _)⟩
   case round =>
    clear HM3 HKP HB3 HE
    obtain ⟨i,out,rfl,hgi,HI,HOL,HE,HO,HM,HKP,HB,HSZ⟩:=hrel
    by_cases hi:i<t0.length
    ·cases gk with
     | zero=>omega
     | succ g1 =>
      obtain ⟨ae,rfl,hat⟩:=e_at HK1.out i hi
      have HAT:=Lib.hid (hat.below HB.out)
      have HEO:=Lib.hid (HTO.out _ (List.getElem_mem hi))
      have HEF:=Lib.hid (fits_get HTF.out (List.mem_map_of_mem (f:=enOf) (List.getElem_mem hi)))
      have hdr:=ens_drop t0 i hi
      obtain ⟨e,hee⟩:∃ e,e=enOf t0[i]:=⟨_,rfl⟩
      rw [← hee] at HAT HEO HEF hdr
      rw [← HT.out] at hdr
      have hE2:=HE.out
      rw [hdr] at hE2
      have HE2:Hid (res=bothL PS (allM (xs.map (List.map enOf))) (if allM (xs.map (List.map enOf)) e && (decide (parM e.1=[]) || (getL out (parM e.1)).isSome) then out ++ [e] else out) (T.drop (i + 1))):=Lib.hid hE2
      have HII:Hid (i + 1≤t0.length):=Lib.hid hi
      clear hat hee hdr hE2 HE
      have hcq:=cnt_all (xs.map (List.map enOf)) HRT.out e
      rw [List.length_map] at hcq
      obtain ⟨CF,hCF⟩:∃ CF,CF=cntT (xs.map (List.map enOf)):=⟨_,rfl⟩
      rw [← hCF] at HM hcq
      obtain ⟨ab,hab⟩:∃ b,b=allM (xs.map (List.map enOf)) e:=⟨_,rfl⟩
      rw [← hab] at hcq HE2
      have hkq:=kept_pos out (parM e.1)
      obtain ⟨kb,hkb⟩:∃ b,b=(decide (parM e.1=[]) || (getL out (parM e.1)).isSome):=⟨_,rfl⟩
      rw [← hkb] at hkq HE2
      have HKQ:=Lib.hid hkq
      have HCF:=Lib.hid hCF
      clear hCF hab hkb hkq
      have HGLT:Hid (gm<wr.heap.size∧bk<wr.heap.size):=Lib.hid ⟨HM.out.lt,HKP.out.lt⟩
      go_upto_region 18 with (first|((with_reducible refine gate_dst (N:=49) rfl ?_);refine wpList_load_agg rfl 32 _ rfl _ rfl (eCells e) _ HAT.out h49 rfl rfl ?_)|((with_reducible refine gate_dst (N:=11) rfl ?_);refine box_event rfl (N:=11) rfl (cs:=enZero) (t:=32) ?hr ?_;(case hr=>first|(go_simp;done)|(go_simp;rfl));intro g11 hg w5 hb2 hbl2;have HGE_g11:Hid (wr.heap.size≤g11):=Lib.hid (by rw [hg];exact Nat.le_refl _);have HB_g11:=Lib.hid hb2;have HBL_g11:=Lib.hid hbl2;have HGB:Hid (wr.heap.size≤g11):=Lib.hid (by rw [hg];exact Nat.le_refl _);clear hg hb2 hbl2)|((with_reducible refine gate_store (t:=32) (p:=11) rfl ?_);refine wpList_store_agg rfl rfl 32 _ _ rfl g11 (eCells e).toArray rfl rfl 32 enZero HB_g11.out rfl rfl (eCells_all _) ?_;intro w6 hb3 hg3;have HC_g11:=Lib.hid hb3;have HBW_g11:Hid (Below wr.heap.size wr w6):=Lib.hid (HBL_g11.out.grown hg3 HBL_g11.out.size (fun j hj=>by cases hj;exact HGE_g11.out));clear hb3 hg3 HB_g11 HBL_g11 HGE_g11))
      have hlk:=(HM.out.ext HBW_g11.out).look HEO.out
      have HB6:=Lib.hid (YtjghikkboekonaaGreatDoor.below_then HB.out HBW_g11.out)
      have q6:=(lies_of HC_g11.out) 0 _ rfl
      simp only [Addr.add_mid,Nat.zero_add] at q6
      cases ab with
      | false =>
       go_wp2_with ((with_reducible refine gate_dst (N:=51) rfl ?_);refine wpList_load_agg rfl 32 _ rfl _ rfl (eCells e) _ (lies_of HC_g11.out) h49 rfl rfl ?_)
       go_roundg g1
       case measure=>omega
       case rel=>exact ⟨i + 1,out,by go_num,by omega,HII,Lib.hid (by have:=HOL.out;omega),Lib.hid (by rw [HE2.out];rfl),Lib.hid (HO.out.ext HBW_g11.out),Lib.hid (by rw [← HCF.out];exact HM.out.ext HBW_g11.out),Lib.hid (cnt_more (HKP.out.ext HBW_g11.out)),HB6,Lib.hid (Nat.le_trans HSZ.out HBW_g11.out.size)⟩
      | true =>
       go_wp2_with ((with_reducible refine gate_dst (N:=51) rfl ?_);refine wpList_load_agg rfl 32 _ rfl _ rfl (eCells e) _ (lies_of HC_g11.out) h49 rfl rfl ?_)
       refine (par_c w6 e.1 HEF.out.1).mono ?_
       rintro x w7 ⟨rfl,hb7⟩
       have HBW7:Hid (Below wr.heap.size wr w7):=Lib.hid (YtjghikkboekonaaGreatDoor.below_then HBW_g11.out hb7)
       have HB7:=Lib.hid (YtjghikkboekonaaGreatDoor.below_then HB6.out hb7)
       have HC7:=Lib.hid (blk_below HC_g11.out hb7)
       clear hb7 hlk q6 HBW_g11 HC_g11 HB6 HB
       have hlk:=(HKP.out.ext HBW7.out).look (s:=parM e.1) (by have:=(part_len e.1).1;have:=HEF.out.1;omega)
       have hkq:decide (0<keptF out (parM e.1))=kb:=by rw [← HKQ.out];exact decide_eq_decide.2 (by omega)
       cases kb with
       | false =>
        go_wp2_with fail
        go_roundg g1
        case measure=>omega
        case rel=>exact ⟨i + 1,out,by go_num,by omega,HII,Lib.hid (by have:=HOL.out;omega),Lib.hid (by rw [HE2.out];rfl),Lib.hid (HO.out.ext HBW7.out),Lib.hid (by rw [← HCF.out];exact HM.out.ext HBW7.out),Lib.hid (cnt_more (HKP.out.ext HBW7.out)),HB7,Lib.hid (Nat.le_trans HSZ.out HBW7.out.size)⟩
       | true =>
        have HO7:=Lib.hid (HO.out.ext HBW7.out)
        have HM7:=Lib.hid (HM.out.ext HBW7.out)
        have HKP7:=Lib.hid (HKP.out.ext HBW7.out)
        have HOL2:=HOL.out
        go_wp2_with (first|((with_reducible refine gate_dst (N:=65) rfl ?_);refine wpList_load_agg rfl 32 _ rfl _ rfl (eCells e) _ (lies_of HC7.out) h49 rfl rfl ?_)|((with_reducible refine gate_dst (N:=66) rfl ?_);refine row_event rfl (N:=66) rfl (cs:=(eCells e).toArray) (t:=32) (n:=1) (by kernel_rfl) ?_;intro gr hg wq hb hbl;have HBR:=Lib.hid hb;have HBLR:=Lib.hid hbl;clear hg hb hbl)|(at_builtin;refine wpList_append_one rfl _ _ 22 rfl w3.heap.size 32 11 120 i0 (.agg enZero) Tryz.underlying22 HI0.out HZ0.out HZ1.out HZ2.out rfl (by decide) eCells_len eCells_one _ out rfl (HO7.out.ext HBLR.out) e gr 1 rfl ?c1 ?c2 ?c3 ?c4 ?_))
        case c1=>intro j u hu;rw [YtjghikkboekonaaGreatDoor.blk_cell HBR.out j];simpa using hu
        case c2=>unfold maxLen;omega
        case c3=>omega
        case c4=>exact Nat.le_trans (Nat.le_trans HSZ.out HBW7.out.size) HBLR.out.size
        intro v' w9 ho' hg'
        have hown:∀ j,_:=fun j hj=>World.ownsRow.lt (HO7.out.ext HBLR.out) j hj
        have HB9:Hid (Below w.heap.size w w9):=Lib.hid ((YtjghikkboekonaaGreatDoor.below_then HB7.out HBLR.out).grown hg' (YtjghikkboekonaaGreatDoor.below_then HB7.out HBLR.out).size (fun j hj=>by have:=(hown j hj).1;have:=HBK3.out;have:=HBKW.out;omega))
        have HM9:Hid (EnMap w9 gm (xs.length * 1000000) CF):=Lib.hid ((HM7.out.ext HBLR.out).grown hg' (fun h=>by have:=(hown gm h.symm).1;have:=HBM3.out;omega))
        have HKP9:Hid (CntMap w9 bk (i + 1) (keptF out)):=Lib.hid (cntMap_grown (HKP7.out.ext HBLR.out) hg' (fun h=>by have:=(hown bk h.symm).1;have:=HBK3.out;omega))
        have HSZ9:Hid (w3.heap.size≤w9.heap.size):=Lib.hid (Nat.le_trans (Nat.le_trans (Nat.le_trans HSZ.out HBW7.out.size) HBLR.out.size) hg'.size)
        have HC9:Hid (w9.heap[g11]?=some (.cells (eCells e).toArray 32 (0,0))):=Lib.hid ((hg'.block g11 (Go.Proofs.Zw.PrintWords.blk_lt (blk_below HC7.out HBLR.out)) (fun h=>by have h1:=(World.ownsRow.lt HO.out g11 h.symm).2;have h2:=HGB.out;omega)).trans (blk_below HC7.out HBLR.out))
        have HO9:=Lib.hid ho'
        have q9:=(lies_of HC9.out) 0 _ rfl
        simp only [Addr.add_mid,Nat.zero_add] at q9
        clear ho' hg' hown hlk
        go_wp2_with (first|(at_mapUpdate;refine wpList_cnt_up rfl rfl _ _ _ rfl bk (i + 1) _ rfl HKP9.out (by omega) e.1 1 rfl rfl (by have:=HEF.out.1;omega) (by omega) _ (kept_snoc out e) ?_;intro w10 hm10 hg10;have HKP10:=Lib.hid hm10;have HG10:=Lib.hid hg10;clear hm10 hg10))
        go_roundg g1
        case measure=>omega
        case rel=>exact ⟨i + 1,out ++ [e],by go_num,by omega,HII,Lib.hid (by rw [List.length_append];simp;omega),Lib.hid (by rw [HE2.out];rfl),Lib.hid (HO9.out.kept HG10.out (.inr (fun h=>by have:=(World.ownsRow.lt HO9.out bk h).1;have:=HBK3.out;omega))),Lib.hid (by rw [← HCF.out];exact HM9.out.grown HG10.out (fun h=>by cases h;exact HBNE.out rfl)),HKP10,Lib.hid (HB9.out.grown HG10.out HB9.out.size (fun j hj=>by cases hj;exact HBKW.out)),Lib.hid (Nat.le_trans HSZ9.out HG10.out.size)⟩
    ·have he:i=t0.length:=by have:=HI.out;omega
     subst he
     have HEE:Hid (res=out):=Lib.hid (by rw [HE.out,List.drop_eq_nil_of_le (by rw [HTL.out];exact Nat.le_refl _)];rfl)
     go_wp2_with fail
     go_ret
     refine ⟨_,rfl,?_,HB.out⟩
     rw [HEE.out]
     exact own_eweaken HO.out (by have h1:=HBK3.out;have h2:=HBKW.out;omega)
end Go.Proofs.Zq
end
section
namespace Go.Proofs.Zq
open Go.RowKit Go.WideMaps Go.Maps Go.Proofs.YtjghikkboekonaaGreatDoor Go.Proofs.Zw.PrintWords Go.Proofs.Zw.PrintLast Go.Proofs.Zw.PrintMore
attribute [local go_sem high] eqEg
theorem ens_step (l:List S32) (i:Nat) (hi:i<l.length):(l.map enOf).take (i + 1)=(l.map enOf).take i ++ [enOf l[i]]:=by
 rw [List.take_succ_eq_append_getElem (by simpa using hi),List.getElem_map]
theorem ens_at {l0 l1:List S32} (h:l0.map enOf=l1.map enOf) (i:Nat) (h0:i<l0.length) (h1:i<l1.length):enOf l0[i]=enOf l1[i]:=by
 have h2:=congrArg (fun x=>x[i]?) h
 rw [List.getElem?_eq_getElem (by simpa using h0),List.getElem?_eq_getElem (by simpa using h1),List.getElem_map,List.getElem_map] at h2
 exact Option.some.inj h2
set_option maxRecDepth 100000 in
set_option maxHeartbeats 4000000 in
theorem eqlE_calls (w:World) (A0:Option Addr) (c0:Nat) (l0:List S32) (hr0:Kd.C k32 w A0 l0.length l0) (A1:Option Addr) (c1:Nat) (l1:List S32) (hr1:Kd.C k32 w A1 l1.length l1) (hl:l0.length≤1000000) (hl1:l1.length≤1000000)
  (d:Bool) (hd:d=true↔l0.map enOf=l1.map enOf) :
  Calls Tryz.prog 40 #[.slice A0 l0.length c0,.slice A1 l1.length c1] w fun e w'=>e=.returned (.bool d)∧Below w.heap.size w w':=by
 have HR0:=Lib.hid hr0
 have HR1:=Lib.hid hr1
 have HD:=Lib.hid hd
 clear hr0 hr1 hd
 have h49:=Tryz.underlying32
 go_enter Tryz.func40,Tryz.ntmps40
 by_cases hn:l0.length=l1.length
 ·have hq:((l0.length:Int) != (l1.length:Int))=false:=by rw [hn];simp
  have HN:=Lib.hid hn
  clear hn
  go_wp2_with fail
  clear hq
  go_loopg [13] (l0.length + 1) (fun gq v wr=>∃ i:Nat,v=.int .i64 i∧l0.length<gq + i∧Hid (i≤l0.length)∧Hid ((l0.map enOf).take i=(l1.map enOf).take i)∧Hid (Below w.heap.size w wr))
  case atStart=>exact ⟨0,rfl,by omega,Lib.hid (by omega),Lib.hid (by simp),Lib.hid (Below.refl _ _)⟩
  case round =>
   obtain ⟨i,rfl,hgi,HI,HT,HB⟩:=hrel
   by_cases hi:i<l0.length
   ·cases gk with
    | zero=>omega
    | succ g1 =>
     have hi1:i<l1.length:=by rw [← HN.out];exact hi
     obtain ⟨ad0,rfl,hat0⟩:=e_at HR0.out i hi
     obtain ⟨ad1,rfl,hat1⟩:=e_at HR1.out i hi1
     have HA0:=Lib.hid (hat0.below HB.out)
     have HA1:=Lib.hid (hat1.below HB.out)
     have hs0:=ens_step l0 i hi
     have hs1:=ens_step l1 i hi1
     have hdf:d=true→enOf l0[i]=enOf l1[i]:=fun h=>ens_at (HD.out.1 h) i hi hi1
     obtain ⟨e0,he0⟩:∃ e,e=enOf l0[i]:=⟨_,rfl⟩
     obtain ⟨e1,he1⟩:∃ e,e=enOf l1[i]:=⟨_,rfl⟩
     rw [← he0] at HA0 hs0 hdf
     rw [← he1] at HA1 hs1 hdf
     have HS:Hid (e0=e1→(l0.map enOf).take (i + 1)=(l1.map enOf).take (i + 1)):=Lib.hid (fun h=>by rw [hs0,hs1,HT.out,h])
     have HDF:=Lib.hid hdf
     clear hs0 hs1 hdf he0 he1 hat0 hat1
     have HII:Hid (i + 1≤l0.length):=Lib.hid hi
     have hk0:(0:Int)≤(i:Int):=by omega
     have hk1:(i:Int)<(l0.length:Int):=by omega
     have hk2:(i:Int)<(l1.length:Int):=by omega
     go_upto_region 6 with (fail)
     obtain ⟨nb,hnb⟩:∃ nb,nb=!decide (e0=e1):=⟨_,rfl⟩
     have HNB:=Lib.hid hnb
     clear hnb
     go_cut [24] (fun v wc=>v=.bool nb∧Hid (Below wr.heap.size wr wc))
     case first =>
      refine start_ (n:=9) (S:=fun w'=>Below wr.heap.size wr w') (ds:=[]) (ms 9 0) (by kernel_rfl) rfl rfl (Below.refl _ _).drew (fun hHeld=>?_)
      (refine pU 0 16 ?_ (ms 9 1) rfl rfl (by kernel_rfl) (fun _ _ _=>id) (by rfl) ?_ ?_ ?_ ?_;rotate_left;(intro w';go_simp;with_reducible rfl);rotate_left;(simp only [aP,i64_w,i32_w];rfl))
      (refine pU 1 17 ?_ (ms 9 2) rfl rfl (by kernel_rfl) (fun _ _ _=>id) (by rfl) ?_ ?_ ?_ ?_;rotate_left;(intro w';go_simp;with_reducible rfl);rotate_left;(simp only [aP,i64_w,i32_w];rfl))
      (refine pU 2 18 ?_ (ms 9 3) rfl rfl (by kernel_rfl) (fun _ _ _=>id) (by rfl) ?_ ?_ ?_ ?_;rotate_left;(intro w';go_simp;with_reducible rfl);rotate_left;(simp only [aP,i64_w,i32_w];rfl))
      refine take_ (i:=3) (N:=some 19) (v:=.agg (eCells e0).toArray) (a':=?_) (ms 9 4) rfl rfl (by kernel_rfl) (fun _ _ _ h=>h) (yi_agg (by rfl) 32 _ rfl _ rfl _ _ (fun w' hb=>HA0.out.below hb) h49 rfl rfl) hHeld ?_ ?_
      rotate_left
      ·(simp only [aP,i64_w,i32_w];rfl)
      (refine pU 4 20 ?_ (ms 9 5) rfl rfl (by kernel_rfl) (fun _ _ _=>id) (by rfl) ?_ ?_ ?_ ?_;rotate_left;(intro w';go_simp;with_reducible rfl);rotate_left;(simp only [aP,i64_w,i32_w];rfl))
      (refine pU 5 21 ?_ (ms 9 6) rfl rfl (by kernel_rfl) (fun _ _ _=>id) (by rfl) ?_ ?_ ?_ ?_;rotate_left;(intro w';go_simp;with_reducible rfl);rotate_left;(simp only [aP,i64_w,i32_w];rfl))
      (refine pU 6 22 ?_ (ms 9 7) rfl rfl (by kernel_rfl) (fun _ _ _=>id) (by rfl) ?_ ?_ ?_ ?_;rotate_left;(intro w';go_simp;with_reducible rfl);rotate_left;(simp only [aP,i64_w,i32_w];rfl))
      refine take_ (i:=7) (N:=some 23) (v:=.agg (eCells e1).toArray) (a':=?_) (ms 9 8) rfl rfl (by kernel_rfl) (fun _ _ _ h=>h) (yi_agg (by rfl) 32 _ rfl _ rfl _ _ (fun w' hb=>HA1.out.below hb) h49 rfl rfl) hHeld ?_ ?_
      rotate_left
      ·(simp only [aP,i64_w,i32_w];rfl)
      (refine pU 8 24 ?_ (ms 9 9) rfl rfl (by kernel_rfl) (fun _ _ _=>id) (by rfl) ?_ ?_ ?_ ?_;rotate_left;(intro w';go_simp;with_reducible rfl);rotate_left;(simp only [aP,i64_w,i32_w];rfl))
      refine done_ (by kernel_rfl) ?_
      go_wp2_with fail
      go_meet
      exact ⟨by rw [HNB.out],Lib.hid hHeld⟩
     case rest =>
     obtain ⟨rfl,HBC⟩:=hcut
     have HB2:=Lib.hid (YtjghikkboekonaaGreatDoor.below_then HB.out HBC.out)
     clear HBC HA0 HA1 HB
     cases nb with
     | false =>
      have HT2:=Lib.hid (HS.out (by simpa using HNB.out))
      clear HNB
      go_wp2_with fail
      go_roundg g1
      case measure=>omega
      case rel=>exact ⟨i + 1,by go_num,by omega,HII,HT2,HB2⟩
     | true =>
      have hee:¬ e0=e1:=by simpa using HNB.out
      have HDD:Hid (d=false):=Lib.hid (by cases hdd:d with|false=>rfl|true=>exact absurd (HDF.out hdd) hee)
      clear hee HNB
      go_wp2_with fail
      go_ret
      exact ⟨by rw [HDD.out];rfl,HB2.out⟩
   ·have he:i=l0.length:=by have:=HI.out;omega
    subst he
    have HDD:Hid (d=true):=Lib.hid (HD.out.2 (by
     have:=HT.out
     rwa [List.take_of_length_le (by simp),List.take_of_length_le (by simp [HN.out])] at this))
    go_wp2_with fail
    go_ret
    exact ⟨by rw [HDD.out];rfl,HB.out⟩
 ·have hq:((l0.length:Int) != (l1.length:Int))=true:=by simp;omega
  have HDD:Hid (d=false):=Lib.hid (by
   cases hdd:d with
   | false=>rfl
   | true=>exact absurd (by have:=congrArg List.length (HD.out.1 hdd);simpa using this) hn)
  clear hn
  go_wp2_with fail
  go_ret
  exact ⟨by rw [HDD.out];rfl,Below.refl _ _⟩
theorem dsame_calls (w:World) (A0:Option Addr) (c0:Nat) (l0:List S32) (hr0:Kd.C k32 w A0 l0.length l0) (A1:Option Addr) (c1:Nat) (l1:List S32) (hr1:Kd.C k32 w A1 l1.length l1) (hl:l0.length≤1000000) (hl1:l1.length≤1000000)
  (d:Bool) (hd:d=true↔l0.map enOf=l1.map enOf) :
  Calls Tryz.prog 17 #[.slice A0 l0.length c0,.slice A1 l1.length c1] w fun e w'=>e=.returned (.bool d)∧Below w.heap.size w w':=by
 have HC:=Lib.hid (eqlE_calls w A0 c0 l0 hr0 A1 c1 l1 hr1 hl hl1 d hd)
 clear hr0 hr1 hl hl1 hd
 go_enter Tryz.func17,Tryz.ntmps17
 go_wp2_with fail
 refine HC.out.mono ?_
 rintro e w1 ⟨rfl,hb⟩
 have HB:=Lib.hid hb
 clear hb
 go_wp2_with fail
 go_ret
 exact ⟨rfl,HB.out⟩
end Go.Proofs.Zq
end
section
namespace Go.Proofs.Zq
open Go.RowKit Go.Proofs.YtjghikkboekonaaGreatDoor
variable {F:Fence} {n:Nat} {P:Program}
abbrev Rec (fn:FuncId) (tmps:Array Value) (ps:Array Tmp) (assign body:Code) (D:Nat) (st:LoopState) (pe:Option Code):Loop:={ state:=st,pending:=pe,fn,tmps,params:=ps,assign,body,defers:=D }
def RecAt (L D:Nat) (r:Loop) (W:World):Prop:=W.heap[L]?=some (.loop r)∧W.heap[D]?=some (.deferred (some []))
theorem range_mem {g:Operand} {ps:Array Tmp} {assign body:Code} {Q:Exit→Act→World→Prop} {a:Act} {w:World}
  (hro:F.round=none) (h1:1≤n) {gf:Nat} {lb:Array Value} (hg:a.eval g=.func (.func gf) #[] lb) (hFg:F.fn gf) (eg:∀ args w,(callFunc gf args).run P w=.ok (.enter gf args) w)
  (Out:Option Code→World→Prop)
  (hit:∀ fn,F.fn fn→∀ W1,W1=(w.alloc (.deferred (some []))).alloc (.loop (Rec fn a.tmps ps assign body w.heap.size .ready none))→RecAt (w.heap.size + 1) w.heap.size (Rec fn a.tmps ps assign body w.heap.size .ready none) W1 →
   CallsIn F (n - 1) P gf (#[.func (.yield (w.heap.size + 1)) #[] #[]] ++ lb) W1 fun e W'=>(∃ v,e=.returned v)∧∃ st pe,st≠.busy∧RecAt (w.heap.size + 1) w.heap.size (Rec fn a.tmps ps assign body w.heap.size st pe) W'∧Out pe W')
  (hdone:∀ W o,Out none W→W.heap[w.heap.size + 1]?=some (.loop o)→∀ o',W.heap[w.heap.size]?=some (.deferred (some []))→Q .normal { a with defers:={ target:=.collected w.heap.size,args:=#[] } :: a.defers } (W.putObj (w.heap.size + 1) (.loop o')))
  (hstop:∀ c W o,Out (some c) W→W.heap[w.heap.size + 1]?=some (.loop o)→∀ o',W.heap[w.heap.size]?=some (.deferred (some []))→c.wpIn F n P Q { a with defers:={ target:=.collected w.heap.size,args:=#[] } :: a.defers } (W.putObj (w.heap.size + 1) (.loop o'))) :
  (Code.rangeFunc g ps assign body).wpIn F n P Q a w:=by
 refine wpIn_rangeFunc fun fn hfn=>?_
 rw [hro]
 obtain ⟨W1,hW1⟩:∃ W1,W1=(w.alloc (.deferred (some []))).alloc (.loop (Rec fn a.tmps ps assign body w.heap.size .ready none)):=⟨_,rfl⟩
 have hL:W1.heap[w.heap.size + 1]?=some (.loop (Rec fn a.tmps ps assign body w.heap.size .ready none)):=by
  rw [hW1];have h:=World.alloc_heap_new (w.alloc (.deferred (some []))) (.loop (Rec fn a.tmps ps assign body w.heap.size .ready none));rwa [World.size_alloc] at h
 have hD:W1.heap[w.heap.size]?=some (.deferred (some [])):=by
  rw [hW1];exact (Below.heap_alloc _ _ _ (by simp)).trans (World.alloc_heap_new w _)
 refine ⟨w.heap.size + 1,[{ target:=.collected w.heap.size,args:=#[] }],W1,{ target:=.fn (.func gf) lb,args:=#[.func (.yield (w.heap.size + 1)) #[] #[]] },W1,gf,
  #[.func (.yield (w.heap.size + 1)) #[] #[]] ++ lb,W1,?_,?_,?_,?_,fun _=>h1,?_⟩
 ·rw [hW1];exact run_enterLoop_outer _ _ _ _ _
 ·simp only [resolve,hg]
  simp [go_sem]
 ·intro f' hf';simp [Target.leads] at hf';subst hf';exact hFg
 ·simp [invoke,go_sem,eg]
 ·refine (hit fn hfn W1 hW1 ⟨hL,hD⟩).mono ?_
  rintro e W2 ⟨⟨v,rfl⟩,st,pe,hst,⟨hl,hd⟩,ho⟩
  refine ⟨pe,_,run_endLoop (P:=P) hl hst,?_⟩
  cases pe with
  | none=>exact hdone _ _ ho hl _ hd
  | some c=>exact hstop c _ _ ho hl _ hd
def roundOut (L D:Nat) (r:Loop) (G:World→Prop) (X:Code→World→Prop):Exit→Act→World→Prop
 | .normal,_,W=>RecAt L D r W∧G W
 | .ret,_,W=>RecAt L D r W∧X .ret W
 | .exit id,_,W=>RecAt L D r W∧X (.exit id) W
 | .goto t,_,W=>RecAt L D r W∧X (.goto t) W
 | .panic _,_,_=>False
 | .outgrown,_,_=>False
theorem yield_mem {fn:FuncId} {tmps:Array Value} {ps:Array Tmp} {assign body:Code} {L D:Nat} {args:Array Value} {W:World} {m:Nat} (hLD:L≠D) (hF:F.fn fn)
  (hr:RecAt L D (Rec fn tmps ps assign body D .ready none) W) (hps:args.size=ps.size) (G:World→Prop) (X:Code→World→Prop)
  (hround:assign.wpIn (F.inRound L) m P (Exit.then (fun a₁ W₁=>RecAt L D (Rec fn tmps ps assign body D .ready none) W₁∧∀ W2,Hid (W2=W₁.putObj L (.loop (Rec fn tmps ps assign body D .busy none)))→Hid (RecAt L D (Rec fn tmps ps assign body D .busy none) W2) →
   body.wpIn (F.inRound L) m P (roundOut L D (Rec fn tmps ps assign body D .busy none) G X) a₁ W2) (fun _ _ _=>False)) { tmps:=(ps.zip args).foldl (fun t (p,v)=>t.setIfInBounds p v) tmps,defers:=[] } W) :
  YieldAt F m P L args W fun e W' =>
   (e=.returned (.bool true)∧RecAt L D (Rec fn tmps ps assign body D .ready none) W'∧∃ W3,W'=W3.putObj L (.loop (Rec fn tmps ps assign body D .ready none))∧RecAt L D (Rec fn tmps ps assign body D .busy none) W3∧G W3) ∨
   (e=.returned (.bool false)∧∃ c,RecAt L D (Rec fn tmps ps assign body D .done (some c)) W'∧∃ W3,W'=W3.putObj L (.loop (Rec fn tmps ps assign body D .done (some c)))∧RecAt L D (Rec fn tmps ps assign body D .busy none) W3∧X c W3):=by
 obtain ⟨hl,hd⟩:=hr
 have put:∀ {V:World} {r:Loop},RecAt L D r V→∀ r',RecAt L D r' (V.putObj L (.loop r')):=fun h r' =>
  ⟨World.putObj_heap_same (Array.getElem?_eq_some_iff.1 h.1).1,(World.putObj_heap_other (Ne.symm hLD)).trans h.2⟩
 refine ⟨fn,_,assign,body,run_yield (P:=P) (args:=args) hl hps,roundIn_of_wpIn hF (wpIn_mono hround ?_)⟩
 rintro e a₁ W₁ hp
 cases e with
 | normal =>
  obtain ⟨hr1,hb⟩:=hp
  refine ⟨_,run_beginRound hr1.1 rfl,wpIn_mono (hb _ (Lib.hid rfl) (Lib.hid (put hr1 _))) ?_⟩
  rintro e a3 W3 hp
  cases e with
  | normal=>exact ⟨_,_,run_endRound (P:=P) none hp.1.1,.inl ⟨rfl,put hp.1 _,W3,rfl,hp.1,hp.2⟩⟩
  | ret=>exact ⟨_,_,run_endRound (P:=P) (some .ret) hp.1.1,.inr ⟨rfl,.ret,put hp.1 _,W3,rfl,hp.1,hp.2⟩⟩
  | exit id=>exact ⟨_,_,run_endRound (P:=P) (some (.exit id)) hp.1.1,.inr ⟨rfl,.exit id,put hp.1 _,W3,rfl,hp.1,hp.2⟩⟩
  | goto t=>exact ⟨_,_,run_endRound (P:=P) (some (.goto t)) hp.1.1,.inr ⟨rfl,.goto t,put hp.1 _,W3,rfl,hp.1,hp.2⟩⟩
  | panic ch=>exact hp.elim
  | outgrown=>exact hp.elim
 | ret=>exact hp.elim
 | exit id=>exact hp.elim
 | goto t=>exact hp.elim
 | panic ch=>exact hp.elim
 | outgrown=>exact hp.elim
end Go.Proofs.Zq
end
section
namespace Go.Proofs.Zq
open Go.RowKit Go.WideMaps Go.Maps Go.Proofs.YtjghikkboekonaaGreatDoor Go.Proofs.Zw.PrintWords Go.Proofs.Zw.PrintLast Go.Proofs.Zw.PrintMore
theorem wpList_append_lies {α:Type} {P:Program} {enc:α→List Value} {w:World} {ops:Array Oper} {rest:List Oper} {o:Oper} {a:Act} {Q:Exit→Act→World→Prop} (hw:Region.wanted o (yielded ops a.tmps)=true) (s x:Operand) (t:TypeId)
  (ho:o.op=.call { callee:=.builtin .append,args:=#[s,x],argTypes:=#[t,t] })
  (base T k bytes:Nat) (i:TypeInfo) (z:Value) (ht:P.underlying t=some (.slice T)) (hi:P.info? T=some i) (hz:i.zero=some z)
  (hsize:i.size=k) (hby:i.bytes=bytes) (hzs:z.cells.size=k) (hsz:0<k) (hk:∀ x,(enc x).length=k) (h1:∀ x,∀ u ∈ enc x,u.oneCell'=true)
  (v:Value) (l:List α) (hs:a.eval s=v) (hown:Owr enc T k base w v l) (ad:Addr) (n c:Nat) (m:List α) (hx:a.eval x=.slice (some ad) n c) (hnm:n=m.length) (hr:LiesAt w ad (flat enc m))
  (h63:l.length + m.length≤maxLen) (hbytes:(l.length + m.length) * bytes≤140737488355328) (hbase:base≤w.heap.size)
  (h:∀ v' w',Owr enc T k base w' v' (l ++ m)→w.grownBy w' v.ownBlock→wpList P ops Q rest (a.put o.dst v') w'):wpList P ops Q (o :: rest) a w:=by
 subst hnm
 obtain ⟨v',w',hrun,h2,h3,_⟩:=run_append_own (P:=P) w base t o.type T i z k bytes ht hi hz hsize hby hzs hsz v l.length (flat enc l) hown ad m.length c (flat enc m) (flat_length hk m) hr (fun u hu=>by
  obtain ⟨x,_,hx⟩:=List.mem_flatMap.1 hu
  exact h1 x u hx) h63 hbytes hbase
 unfold wpList
 rw [if_pos hw]
 refine Or.inl ?_
 unfold Oper.wp execOp
 simp only [ho,resolve,invoke,builtin,Sem.run_bind,Sem.run_pure,Result.andThen_ok,List.map_toArray,List.map_cons,List.map_nil,hs,hx,hrun]
 refine h v' w' ?_ h3
 unfold Owr
 rw [flat_append,List.length_append]
 exact h2
theorem en_flat {w:World} {ad:Addr} {l:List S32} (h:Kd.C k32 w (some ad) l.length l):LiesAt w ad (flat eCells (l.map enOf)):=fun j u hu=>by
 obtain ⟨i,jj,x,h1,h2,rfl⟩:=flat_get eCells_len _ j u hu
 rw [List.getElem?_map] at h1
 have hi:i<l.length:=by
  apply Classical.byContradiction
  intro hn
  rw [List.getElem?_eq_none (by omega)] at h1
  simp at h1
 rw [List.getElem?_eq_getElem hi] at h1
 obtain rfl:=Option.some.inj h1
 obtain ⟨ad',h3,h4⟩:=e_at h i hi
 obtain rfl:=Option.some.inj h3
 have:=h4 jj u h2
 rwa [Addr.add_add] at this
set_option maxRecDepth 100000 in
theorem clone_en_calls (w:World) (A:Option Addr) (c:Nat) (l:List S32) (hr:Kd.C k32 w A l.length l) (hl:l.length≤1000000) :
  Calls Tryz.prog 46 #[.slice A l.length c] w fun e w'=>∃ v,e=.returned v∧Owr eCells 32 11 w.heap.size w' v (l.map enOf)∧Below w.heap.size w w':=by
 have HR:=Lib.hid hr
 have HL:=Lib.hid hl
 have hu:=Tryz.underlying22
 obtain ⟨i0,hi,hz0,hz1,hz2⟩:=info_parts info_en
 have HI:=Lib.hid hi
 have HZ0:=Lib.hid hz0
 have HZ1:=Lib.hid hz1
 have HZ2:=Lib.hid hz2
 clear hr hl hi hz0 hz1 hz2
 cases A with
 | none =>
  have hnil:l=[]:=by
   cases l with
   | nil=>rfl
   | cons x r=>obtain ⟨ad,h,_⟩:=e_at HR.out 0 (by simp);cases h
  subst hnil
  go_enter Tryz.func46,Tryz.ntmps46
  have q:=fun (w:World) (a:Option Addr) (n c n' c':Nat)=>Go.Lib.run_eql_slice_nil (P:=Tryz.prog) w 22 _ a n c n' c' hu
  go_wp2_with fail
  go_ret
  exact ⟨_,rfl,Owr.nil _ _ _ _ _,Below.refl _ _⟩
 | some ad =>
  have HFL:=Lib.hid (en_flat HR.out)
  go_enter Tryz.func46,Tryz.ntmps46
  have q:=fun (w:World) (a:Option Addr) (n c n' c':Nat)=>Go.Lib.run_eql_slice_nil (P:=Tryz.prog) w 22 _ a n c n' c' hu
  go_wp2_with (at_builtin;refine wpList_append_lies (by rfl) _ _ 22 rfl w.heap.size 32 11 120 i0 (.agg enZero) hu HI.out HZ0.out HZ1.out HZ2.out rfl (by decide) eCells_len eCells_one _ [] rfl (own_empty eCells 11 w.heap.size w (Nat.le_refl _)) ad l.length c (l.map enOf) rfl (by simp) (HFL.out.below (YtjghikkboekonaaGreatDoor.below_new _ _)) ?c1 ?c2 ?c3 ?_)
  case c1=>have:=HL.out;unfold maxLen;simp;omega
  case c2=>have:=HL.out;simp;omega
  case c3=>simp
  intro v' w' ho hg
  have HO:=Lib.hid ho
  have HB:Hid (Below w.heap.size w w'):=Lib.hid (((Below.refl w.heap.size w).alloc (Nat.le_refl _) _).grown hg (by simp) (fun j hj=>by simp [Value.ownBlock] at hj;omega))
  clear ho hg
  go_wp2
  go_ret
  exact ⟨_,rfl,by simpa using HO.out,HB.out⟩
end Go.Proofs.Zq
end
section
namespace Go.Proofs.Zq
open Go.RowKit Go.Shelf Go.Proofs.YtjghikkboekonaaGreatDoor Go.Proofs.Zw.PrintWords Go.Proofs.Zw.PrintLast Go.Proofs.Zw.PrintMore
open Go.Proofs.Zt (applyM ontoGo ontoM Ch)
theorem s_at {w:World} {A:Option Addr} {xs:List (List S57)} (h:Kd.C (Kd.slice 57 k57) w A xs.length xs) (i:Nat) (hi:i<xs.length) :
  ∃ ad A0 c0,A=some ad∧w.cell? (ad.add i)=some (.slice A0 xs[i].length c0)∧xs[i].length≤c0∧Kd.C k57 w A0 xs[i].length xs[i]:=by
 obtain ⟨ad,c,e,_,hK,hc0⟩:=Kd.C_get h ([]:List S57) (i:Int) (by omega) (by omega)
 have hc:∀ j u,c[j]?=some u→w.cell? (ad.add (i * 1 + j))=some u:=hc0
 have hd:xs.getD ((i:Nat):Int).toNat []=xs[i]:=by
  rw [show ((i:Nat):Int).toNat=i from rfl,List.getD_eq_getElem?_getD,List.getElem?_eq_getElem hi];rfl
 rw [hd] at hK
 obtain ⟨A0,c0,rfl,l0,g0⟩:=hK
 exact ⟨ad,A0,c0,e,by have hq:=hc 0 _ rfl;rwa [Nat.mul_one,Nat.add_zero] at hq,l0,g0⟩
theorem own_C {W:World} {nb:Nat} {v:Value} {l:List (Str×Nd)} (h:YtjghikkboekonaaGreatDoor.Owr eCells 32 11 nb W v l):∃ A c,v=.slice A (l.map ofEn).length c∧(l.map ofEn).length≤c∧Kd.C k32 W A (l.map ofEn).length (l.map ofEn):=by
 have hr:=en_R h
 obtain ⟨A,c,rfl⟩:=Kd.R_slice hr
 exact ⟨A,c,rfl,(Kd.R_reads' hr).2.1,(Kd.R_reads' hr).2.2⟩
theorem own_block {W:World} {nb b:Nat} {v:Value} {l:List (Str×Nd)} (h:YtjghikkboekonaaGreatDoor.Owr eCells 32 11 nb W v l) (hb:b<nb):v.ownBlock=none∨v.ownBlock≠some b:=by
 rcases h.2 with ⟨hv,_⟩|⟨g,cap,cur,hv,hg,_⟩
 ·subst hv;exact .inl rfl
 ·subst hv
  refine .inr fun h=>?_
  have:g=b:=Option.some.inj h
  omega
theorem own_low {W:World} {nb b:Nat} {v:Value} {l:List (Str×Nd)} (h:YtjghikkboekonaaGreatDoor.Owr eCells 32 11 nb W v l) (hb:b≤nb):YtjghikkboekonaaGreatDoor.Owr eCells 32 11 b W v l:=by
 refine ⟨h.1,?_⟩
 rcases h.2 with h0|⟨g,cap,cur,hv,hg,rest⟩
 ·exact .inl h0
 ·exact .inr ⟨g,cap,cur,hv,Nat.le_trans hb hg,rest⟩
def TreeIn (i:Nat) (w:World) (nb:Nat) (W:World) (v:Value) (t:List (Str×Nd)):Prop :=
 (i=0∧∃ (A:Option Addr) (c:Nat) (l:List S32),v=.slice A l.length c∧l.length≤c∧Kd.C k32 w A l.length l∧t=l.map enOf)∨YtjghikkboekonaaGreatDoor.Owr eCells 32 11 nb W v t
theorem TreeIn.C {i:Nat} {w W:World} {nb:Nat} {v:Value} {t:List (Str×Nd)} (h:TreeIn i w nb W v t) (hb:Below w.heap.size w W) :
  ∃ A c,v=.slice A (t.map ofEn).length c∧(t.map ofEn).length≤c∧Kd.C k32 W A (t.map ofEn).length (t.map ofEn):=by
 rcases h with ⟨_,A,c,l,rfl,hc,hr,rfl⟩|h
 ·rw [ens_forth]
  exact ⟨A,c,rfl,hc,Kd.C_below hr hb⟩
 ·exact own_C h
theorem TreeIn.kept {i:Nat} {w W W':World} {nb b:Nat} {v:Value} {t:List (Str×Nd)} (h:TreeIn i w nb W v t) (hg:W.grownBy W' (some b)) (hb:b<nb):TreeIn i w nb W' v t:=by
 rcases h with h|h
 ·exact .inl h
 ·exact .inr (h.kept hg (own_block h hb))
theorem TreeIn.ext {i:Nat} {w W W':World} {nb:Nat} {v:Value} {t:List (Str×Nd)} (h:TreeIn i w nb W v t) (hb:Below W.heap.size W W'):TreeIn i w nb W' v t:=by
 rcases h with h|h
 ·exact .inl h
 ·exact .inr (h.ext hb)
attribute [local go_sem] Oper.semAt_some
set_option maxRecDepth 100000 in
set_option maxHeartbeats 4000000 in
theorem steps1_in (m:Nat) (w:World) (hG:GL w) (A1:Option Addr) (c1:Nat) (s:List (List S57)) (hS:Kd.C (Kd.slice 57 k57) w A1 s.length s) (hs:s.length≤1000000) (hf:∀ l ∈ s,lyrFits' l)
    (sb tb nb L:Nat) (htb:w.heap.size≤tb) (hsn:sb<nb) (htn:tb<nb) (hne:sb≠tb)
    (X:Nat→List (Str×Nd)→Value→World→Prop) (Xe:Nat→Int→World→Prop)
    (hX:∀ i t v W u,X i t v W→nb≤W.heap.size→X i t v (W.setCell ⟨tb,0,none⟩ u))
    (hY : ∀ (i:Nat) (t:List (Str×Nd)) (v:Value) (W W1:World) (x:Value) (rows:List (Str×Nd)) (err:Int) (hi:i<s.length),applyM Y t (s[i].map chOf)=(rows,err)→X i t v W→nb≤W.heap.size→Below w.heap.size w W1→Below W.heap.size W W1→YtjghikkboekonaaGreatDoor.Owr eCells 32 11 nb W1 x rows →
      YieldAt Fence.wide m Tryz.prog L #[.int .i64 i,.agg #[x,.int .i64 err]] W1 fun e W' =>
        (W'.cell? ⟨sb,0,none⟩=W1.cell? ⟨sb,0,none⟩∧W'.heap[tb]?=W1.heap[tb]?∧YtjghikkboekonaaGreatDoor.Owr eCells 32 11 nb W' x rows∧Below w.heap.size w W'∧nb≤W'.heap.size) ∧
        ((e=.returned (.bool true)∧(err=0→X (i + 1) rows x W')∧(err≠0→Xe i err W'))∨(e=.returned (.bool false)∧err≠0∧Xe i err W')))
    (W:World) (t0:List (Str×Nd)) (v0:Value) (h0:X 0 t0 v0 W) (hv0:TreeIn 0 w nb W v0 t0) (hft0:rowFits t0=true) (hlt0:t0.length≤1000000) (hWsb:W.cell? ⟨sb,0,none⟩=some (.slice A1 s.length c1))
    (hWtb:W.heap[tb]?=some (.cells #[v0] 22 (0,0))) (hWn:nb≤W.heap.size) (hWb:Below w.heap.size w W) :
    CallsIn Fence.wide (m + 1) Tryz.prog 78 #[.func (.yield L) #[] #[],.pointer (some ⟨sb,0,none⟩),.pointer (some ⟨tb,0,none⟩)] W fun e W'=>(∃ v,e=.returned v)∧Below w.heap.size w W' ∧
      ((∃ x t,ontoGo Y 0 t0 (s.map (List.map chOf))=(t,s.length,0)∧TreeIn s.length w nb W' x t∧rowFits t=true∧X s.length t x W') ∨
       (∃ i err,err≠0∧ontoGo Y 0 t0 (s.map (List.map chOf))=([],i,err)∧Xe i err W')):=by
  have HS:=Lib.hid hS
  have HL:=Lib.hid hs
  have HF:=Lib.hid hf
  have HX:=Lib.hid hX
  have HY:=Lib.hid hY
  have HNE:=Lib.hid hne
  have HTB:=Lib.hid htb
  have HSN:=Lib.hid hsn
  have HTN:=Lib.hid htn
  have HI0:Hid (X 0 t0 v0 W∧TreeIn 0 w nb W v0 t0∧rowFits t0=true∧t0.length≤1000000∧W.cell? ⟨sb,0,none⟩=some (.slice A1 s.length c1)∧W.heap[tb]?=some (.cells #[v0] 22 (0,0))∧nb≤W.heap.size∧Below w.heap.size w W):=Lib.hid ⟨h0,hv0,hft0,hlt0,hWsb,hWtb,hWn,hWb⟩
  clear hS hs hf hX hY hne htb hsn htn h0 hv0 hft0 hlt0 hWtb hWn hWb
  refine callsIn_of_wp Tryz.func78 rfl trivial ?_ rfl
  simp only [Tryz.ntmps78,List.size_toArray,List.length_cons,List.length_nil,Nat.reduceAdd,Nat.reduceSub,Array.replicate_succ,Array.replicate_zero,List.push_toArray,List.append_toArray,List.nil_append,List.cons_append]
  gi_wp2
  gi_loopw [10] (fun p wr=>∃ (i:Nat) (t:List (Str×Nd)) (v:Value),p=.int .i64 i∧Hid (i≤s.length)∧Hid (ontoGo Y 0 t0 (s.map (List.map chOf))=ontoGo Y i t ((s.drop i).map (List.map chOf)))∧Hid (X i t v wr∧TreeIn i w nb wr v t∧rowFits t=true∧t.length≤1000000∧wr.cell? ⟨sb,0,none⟩=some (.slice A1 s.length c1)∧wr.heap[tb]?=some (.cells #[v] 22 (0,0))∧nb≤wr.heap.size∧Below w.heap.size w wr))
    (fun p _=>s.length - (intOf p).toNat)
  case atStart=>exact ⟨0,t0,v0,rfl,Lib.hid (Nat.zero_le _),Lib.hid (by rw [List.drop_zero]),HI0⟩
  case round =>
    clear HI0 hWsb
    obtain ⟨i,t,v,rfl,HII,HO,HI⟩:=hrel
    by_cases hi:i<s.length
    · obtain ⟨h1,h2,h3,h4,h5,h6,h7,h8⟩:=HI.out
      obtain ⟨ads,As,cs,rfl,hsc,hlc,hcc⟩:=s_at HS.out i hi
      obtain ⟨At,ct,hv,hct,hcr⟩:=h2.C h8
      have q0:wr.cell? ⟨tb,0,none⟩=some (.slice At t.length ct):=by rw [YtjghikkboekonaaGreatDoor.blk_cell h6,← List.length_map (f:=ofEn),← hv];rfl
      have q1:wr.cell? (ads.add i)=some (.slice As s[i].length cs):=pw_cell_below h8 hsc
      have hff:=HF.out _ (List.getElem_mem hi)
      obtain ⟨rows,err,hae⟩:∃ rows err,applyM Y t (s[i].map chOf)=(rows,err):=⟨_,_,rfl⟩
      have hcall:=tapply_calls wr (hG.ext h8) At ct (t.map ofEn) hcr hct (by rw [ens_back];exact h3) (by rw [List.length_map];exact h4) As cs s[i] (Kd.C_below hcc h8) hlc hff.1 hff.2
      rw [ens_back,hae,List.length_map] at hcall
      have HCALL:=Lib.hid hcall
      have HAE:=Lib.hid hae
      have hdr:ontoGo Y i t ((s.drop i).map (List.map chOf))=ontoGo Y i t (s[i].map chOf :: (s.drop (i + 1)).map (List.map chOf)):=by rw [List.drop_eq_getElem_cons hi];rfl
      have HDR:=Lib.hid hdr
      have HLF:=Lib.hid hff.1
      have hln:=HL.out
      clear hae hcall hdr hff hsc hcc h2 h3 h4 h6 hct hcr
      clear hv
      gi_wp2_with fail
      refine ⟨trivial,(callsIn_wide.2 HCALL.out).mono ?_⟩
      rintro e w1 ⟨x,rfl,ho,hb⟩
      have hb1:=YtjghikkboekonaaGreatDoor.below_then h8 hb
      obtain ⟨ax,capx,rfl,_,_⟩:=YtjghikkboekonaaGreatDoor.Owr.val ho
      obtain ⟨fn,tmps,assign,body,hy,hR⟩:=HY.out i t v wr w1 _ rows err hi HAE.out h1 h7 hb1 hb (own_low ho h7)
      have HT1:Hid (w1.heap[tb]?=some (.cells #[v] 22 (0,0))):=Lib.hid (blk_below (by obtain ⟨_,_,_,_,_,h,_⟩:=HI.out;exact h) hb)
      have HS1:Hid (w1.cell? ⟨sb,0,none⟩=some (.slice (some ads) s.length c1)):=Lib.hid (pw_cell_below hb (by obtain ⟨_,_,_,_,h,_⟩:=HI.out;exact h))
      clear h1 h5 h7 h8 ho hb hb1 q0 q1 HCALL
      gi_wp2_with fail
      refine hR.mono ?_
      clear hR hy
      rintro e W3 ⟨⟨k1,k2,k3,k4,k5⟩,hend⟩
      have HK:=Lib.hid (And.intro k1 (And.intro k2 (And.intro k3 (And.intro k4 k5))))
      have q2:W3.cell? ⟨tb,0,none⟩=some v:=by rw [YtjghikkboekonaaGreatDoor.blk_cell (k2.trans HT1.out)];rfl
      have d2:W3.frozen? ⟨tb,0,none⟩=false:=YtjghikkboekonaaGreatDoor.blk_free (k2.trans HT1.out) 0
      clear k1 k2 k3 k4 k5
      rcases hend with ⟨rfl,hx0,hxe⟩|⟨rfl,hne0,hxe⟩
      · by_cases herr:err=0
        · subst herr
          have HXN:=Lib.hid (hx0 rfl)
          clear hx0 hxe
          gi_wp2_with fail
          go_roundw
          case rel =>
            obtain ⟨k1,k2,k3,k4,k5⟩:=HK.out
            obtain ⟨g1,g2,g3,g4,g5,g6,g7,g8⟩:=HI.out
            refine ⟨i + 1,rows,_,by go_num,Lib.hid hi,Lib.hid ?_,Lib.hid ⟨HX.out _ _ _ _ _ HXN.out k5,.inr (k3.kept (grownBy_setCell' _ _ _) (own_block k3 HTN.out)),fit_apply HAE.out g3 HLF.out,by have:=fit_len HAE.out;omega,?_,YtjghikkboekonaaGreatDoor.heap_set (k2.trans HT1.out) 0 _,by rw [World.size_setCell];exact k5,k4.setCell (p:=⟨tb,0,none⟩) HTB.out _⟩⟩
            · rw [HO.out,HDR.out,Zt.onto_ok (by rw [HAE.out]),HAE.out]
            · exact (World.cell?_setCell_far W3 ⟨tb,0,none⟩ ⟨sb,0,none⟩ _ (fun h=>HNE.out h.symm)).trans (k1.trans HS1.out)
          case measure=>simp [intOf];omega
        · have HXE:=Lib.hid (hxe herr)
          have he1:(err != 0)=true:=by simpa using herr
          have HER:=Lib.hid herr
          clear hx0 hxe herr
          gi_wp2_with fail
          refine bodyPost_ret (results_none rfl _ _ _) rfl ?_
          exact ⟨⟨_,rfl⟩,HK.out.2.2.2.1,.inr ⟨i,err,HER.out,by rw [HO.out,HDR.out,Zt.onto_no (by rw [HAE.out];exact HER.out),HAE.out],HXE.out⟩⟩
      · have HXE:=Lib.hid hxe
        have HER:=Lib.hid hne0
        clear hxe hne0
        gi_wp2_with fail
        refine bodyPost_ret (results_none rfl _ _ _) rfl ?_
        exact ⟨⟨_,rfl⟩,HK.out.2.2.2.1,.inr ⟨i,err,HER.out,by rw [HO.out,HDR.out,Zt.onto_no (by rw [HAE.out];exact HER.out),HAE.out],HXE.out⟩⟩
    · have he:i=s.length:=by have:=HII.out;omega
      subst he
      gi_wp2
      go_end0
      obtain ⟨h1,h2,h3,h4,h5,h6,h7,h8⟩:=HI.out
      refine ⟨⟨_,rfl⟩,h8,.inl ⟨v,t,?_,h2,h3,h1⟩⟩
      rw [HO.out,List.drop_eq_nil_of_le (Nat.le_refl _)]
      rfl
end Go.Proofs.Zq
end
section
namespace Go.Proofs.Zq
open Go.RowKit Go.Shelf Go.Proofs.YtjghikkboekonaaGreatDoor Go.Proofs.Zw.PrintWords Go.Proofs.Zw.PrintLast Go.Proofs.Zw.PrintMore
open Go.Proofs.Zt (applyM ontoGo ontoM rightT Ch)
theorem steps_calls (w:World) (v0 v1:Value) (A0:Option Addr) (n0 c0:Nat) (A1:Option Addr) (n1 c1:Nat) (e0:v0=.slice A0 n0 c0) (e1:v1=.slice A1 n1 c1):Calls Tryz.prog 47 #[v0,v1] w fun e w' =>
  e=.returned (.func (.func 78) #[] #[.pointer (some ⟨w.heap.size + 1,0,none⟩),.pointer (some ⟨w.heap.size,0,none⟩)])∧w'=(w.alloc (.cells #[v0] 22 (0,0))).alloc (.cells #[v1] 41 (0,0)):=by
 subst e0
 subst e1
 go_enter Tryz.func47,Tryz.ntmps47
 go_wp2
 go_ret
 exact ⟨rfl,rfl⟩
theorem set_far (W:World) (a b:Nat) (u:Value) (h:a≠b):(W.setCell ⟨a,0,none⟩ u).heap[b]?=W.heap[b]?:=by
 simp only [World.setCell,Array.getElem?_modify]
 rw [if_neg h]
theorem own_lt {W:World} {nb b:Nat} {v:Value} {l:List (Str×Nd)} (h:YtjghikkboekonaaGreatDoor.Owr eCells 32 11 nb W v l) (hb:W.heap.size≤b):v.ownBlock=none∨v.ownBlock≠some b:=by
 rcases h.2 with ⟨hv,_⟩|⟨g,cap,cur,hv,_,hg,_⟩
 ·subst hv;exact .inl rfl
 ·subst hv
  refine .inr fun h=>?_
  have h1:g=b:=Option.some.inj h
  have h2:=(Array.getElem?_eq_some_iff.1 hg).1
  omega
structure Box3 (W:World) (n:Nat) (u4 u5 u6:Value):Prop where
 b4:W.heap[n]?=some (.cells #[u4] 22 (0,0))
 b5:W.heap[n + 1]?=some (.cells #[u5] 3 (0,0))
 b6:W.heap[n + 1 + 1]?=some (.cells #[u6] 38 (0,0))
theorem Box3.ext {W W':World} {n:Nat} {u4 u5 u6:Value} (h:Box3 W n u4 u5 u6) (hb:Below W.heap.size W W'):Box3 W' n u4 u5 u6:=⟨blk_below h.b4 hb,blk_below h.b5 hb,blk_below h.b6 hb⟩
theorem three_new (w:World) (o1 o2 o3:Obj):(((w.alloc o1).alloc o2).alloc o3).heap[w.heap.size]?=some o1∧(((w.alloc o1).alloc o2).alloc o3).heap[w.heap.size + 1]?=some o2∧(((w.alloc o1).alloc o2).alloc o3).heap[w.heap.size + 1 + 1]?=some o3:=by
 have h4:=World.alloc_heap_new w o1
 have h5:=World.alloc_heap_new (w.alloc o1) o2
 have h6:=World.alloc_heap_new ((w.alloc o1).alloc o2) o3
 simp only [World.size_alloc] at h5 h6
 exact ⟨(Below.heap_alloc _ _ _ (by simp;omega)).trans ((Below.heap_alloc _ _ _ (by simp)).trans h4),(Below.heap_alloc _ _ _ (by simp)).trans h5,h6⟩
theorem box3_new (w:World) (u4 u5 u6:Value):Box3 (((w.alloc (.cells #[u4] 22 (0,0))).alloc (.cells #[u5] 3 (0,0))).alloc (.cells #[u6] 38 (0,0))) w.heap.size u4 u5 u6 :=
 ⟨(three_new w _ _ _).1,(three_new w _ _ _).2.1,(three_new w _ _ _).2.2⟩
theorem Box3.put {w W:World} {n:Nat} {u4 u5 u6:Value} (h:Box3 W n u4 u5 u6) (hn:w.heap.size≤n) (hb:Below w.heap.size w W) (x y z:Value) :
  Box3 (((W.setCell ⟨n,0,none⟩ x).setCell ⟨n + 1,0,none⟩ y).setCell ⟨n + 1 + 1,0,none⟩ z) n x y z∧Below w.heap.size w (((W.setCell ⟨n,0,none⟩ x).setCell ⟨n + 1,0,none⟩ y).setCell ⟨n + 1 + 1,0,none⟩ z):=by
 have o:∀ (V:World) (a b:Nat) (u:Value),a≠b→(V.setCell ⟨a,0,none⟩ u).heap[b]?=V.heap[b]?:=set_far
 have h5:(W.setCell ⟨n,0,none⟩ x).heap[n + 1]?=some (.cells #[u5] 3 (0,0)):=(o _ _ _ _ (by omega)).trans h.b5
 have h6:((W.setCell ⟨n,0,none⟩ x).setCell ⟨n + 1,0,none⟩ y).heap[n + 1 + 1]?=some (.cells #[u6] 38 (0,0)):=((o _ _ _ _ (by omega)).trans (o _ _ _ _ (by omega))).trans h.b6
 refine ⟨⟨((o _ _ _ _ (by omega)).trans (o _ _ _ _ (by omega))).trans (YtjghikkboekonaaGreatDoor.heap_set h.b4 0 x),(o _ _ _ _ (by omega)).trans (YtjghikkboekonaaGreatDoor.heap_set h5 0 y),YtjghikkboekonaaGreatDoor.heap_set h6 0 z⟩,?_⟩
 exact ((hb.setCell (p:=⟨n,0,none⟩) hn x).setCell (p:=⟨n + 1,0,none⟩) (by show _≤n + 1;omega) y).setCell (p:=⟨n + 1 + 1,0,none⟩) (by show _≤n + 1 + 1;omega) z
theorem res3 {W:World} {n:Nat} {x y z:Value} (h:Box3 W n x y z) (tmps:Array Value) (h4:tmps[4]?.getD undef=.pointer (some ⟨n,0,none⟩)) (h5:tmps[5]?.getD undef=.pointer (some ⟨n + 1,0,none⟩)) (h6:tmps[6]?.getD undef=.pointer (some ⟨n + 1 + 1,0,none⟩)) :
  (results Tryz.f21 tmps).run Tryz.prog W=.ok (.tuple #[x,y,z]) W:=by
 have q4:W.cell? ⟨n,0,none⟩=some x:=YtjghikkboekonaaGreatDoor.blk_cell h.b4 0
 have q5:W.cell? ⟨n + 1,0,none⟩=some y:=YtjghikkboekonaaGreatDoor.blk_cell h.b5 0
 have q6:W.cell? ⟨n + 1 + 1,0,none⟩=some z:=YtjghikkboekonaaGreatDoor.blk_cell h.b6 0
 have hu4:=Tryz.underlying22
 have hu5:=Tryz.underlying3
 have hu6:=Tryz.underlying38
 simp [results,Tryz.f21,go_sem,q4,q5,q6,h4,h5,h6,hu4,hu5,hu6]
theorem RecAt.ext {L D:Nat} {r:Loop} {W W':World} (h:RecAt L D r W) (hb:Below W.heap.size W W'):RecAt L D r W' :=
 ⟨(hb.block _ (Array.getElem?_eq_some_iff.1 h.1).1).trans h.1,(hb.block _ (Array.getElem?_eq_some_iff.1 h.2).1).trans h.2⟩
theorem RecAt.set {L D b:Nat} {r:Loop} {W:World} (h:RecAt L D r W) (u:Value) (hL:b≠L) (hD:b≠D):RecAt L D r (W.setCell ⟨b,0,none⟩ u):=⟨(set_far W b L u hL).trans h.1,(set_far W b D u hD).trans h.2⟩
theorem Box3.set {W:World} {n b:Nat} {u4 u5 u6:Value} (h:Box3 W n u4 u5 u6) (u:Value) (h4:b≠n) (h5:b≠n + 1) (h6:b≠n + 1 + 1):Box3 (W.setCell ⟨b,0,none⟩ u) n u4 u5 u6:=⟨(set_far W b n u h4).trans h.b4,(set_far W b (n + 1) u h5).trans h.b5,(set_far W b (n + 1 + 1) u h6).trans h.b6⟩
theorem put_cell (W:World) (L b j:Nat) (o:Obj) (h:b≠L):(W.putObj L o).cell? ⟨b,j,none⟩=W.cell? ⟨b,j,none⟩:=by
 unfold World.cell?
 rw [World.putObj_heap_other h]
theorem Box3.far {W:World} {n L:Nat} {u4 u5 u6:Value} (h:Box3 W n u4 u5 u6) (o:Obj) (hL:n + 1 + 1<L):Box3 (W.putObj L o) n u4 u5 u6:=⟨(World.putObj_heap_other (by omega)).trans h.b4,(World.putObj_heap_other (by omega)).trans h.b5,(World.putObj_heap_other (by omega)).trans h.b6⟩
theorem box_end {w W2:World} {n L D sb tb nb:Nat} {u4 u5 u6 q:Value} {c:Option Value} {k:Option Obj} {r:Loop} {l:List (Str×Nd)} (hn:w.heap.size≤n) (h3:Box3 W2 n u4 u5 u6) (hb:Below w.heap.size w W2) (hr:RecAt L D r W2) (ho:YtjghikkboekonaaGreatDoor.Owr eCells 32 11 nb W2 q l)
  (hs:W2.cell? ⟨sb,0,none⟩=c) (ht:W2.heap[tb]?=k) (hz:nb≤W2.heap.size) (h1:n + 1 + 1<sb) (h2:n + 1 + 1<tb) (h4:n + 1 + 1<D) (h5:n + 1 + 1<L) (h6:n + 1 + 1<nb) {x y z:Value} :
  ∀ V,V=(((W2.setCell ⟨n,0,none⟩ x).setCell ⟨n + 1,0,none⟩ y).setCell ⟨n + 1 + 1,0,none⟩ z).drew →
  RecAt L D r V∧(V.cell? ⟨sb,0,none⟩=c∧V.heap[tb]?=k∧YtjghikkboekonaaGreatDoor.Owr eCells 32 11 nb V q l∧Below w.heap.size w V∧nb≤V.heap.size)∧Box3 V n x y z:=by
 rintro V rfl
 obtain ⟨p1,p2⟩:=h3.put (w:=w) hn hb x y z
 have hr3:=((hr.set (b:=n) x (by omega) (by omega)).set (b:=n + 1) y (by omega) (by omega)).set (b:=n + 1 + 1) z (by omega) (by omega)
 refine ⟨⟨hr3.1,hr3.2⟩,⟨?_,?_,?_,p2.drew,?_⟩,⟨p1.b4,p1.b5,p1.b6⟩⟩
 ·refine Eq.trans ?_ hs
  exact (((World.cell?_setCell_far _ ⟨n + 1 + 1,0,none⟩ ⟨sb,0,none⟩ z (by show n + 1 + 1≠sb;omega)).trans (World.cell?_setCell_far _ ⟨n + 1,0,none⟩ ⟨sb,0,none⟩ y (by show n + 1≠sb;omega))).trans (World.cell?_setCell_far _ ⟨n,0,none⟩ ⟨sb,0,none⟩ x (by show n≠sb;omega)))
 ·exact (((set_far _ _ _ _ (by omega)).trans (set_far _ _ _ _ (by omega))).trans (set_far _ _ _ _ (by omega))).trans ht
 ·exact ((((ho.kept (grownBy_setCell' _ n x) (own_block ho (by omega))).kept (grownBy_setCell' _ (n + 1) y) (own_block ho (by omega))).kept (grownBy_setCell' _ (n + 1 + 1) z) (own_block ho (by omega)))).ext (Below.refl _ _).drew
 ·simp;exact hz
attribute [local go_sem] Oper.semAt_some
set_option maxRecDepth 100000 in
set_option maxHeartbeats 4000000 in
theorem onto_calls (w:World) (hG:GL w) (A0:Option Addr) (c0:Nat) (l0:List S32) (hr0:Kd.C k32 w A0 l0.length l0) (hc0:l0.length≤c0) (hf0:rowFits' l0)
  (A1:Option Addr) (c1:Nat) (s:List (List S57)) (hS:Kd.C (Kd.slice 57 k57) w A1 s.length s) (hs:s.length≤1000000) (hf:∀ l ∈ s,lyrFits' l) :
  Calls Tryz.prog 21 #[.slice A0 l0.length c0,.slice A1 s.length c1] w fun e w'=>∃ v:Value,e=.returned (.tuple #[v,.int .i64 ((ontoM Y (l0.map enOf) (s.map (List.map chOf))).2.1:Int),.int .i64 (ontoM Y (l0.map enOf) (s.map (List.map chOf))).2.2]) ∧
   YtjghikkboekonaaGreatDoor.Owr eCells 32 11 w.heap.size w' v (ontoM Y (l0.map enOf) (s.map (List.map chOf))).1∧Below w.heap.size w w':=by
 have HR0:=Lib.hid hr0
 have HC0:=Lib.hid hc0
 have HF0:=Lib.hid hf0
 have HS:=Lib.hid hS
 have HL:=Lib.hid hs
 have HF:=Lib.hid hf
 clear hr0 hc0 hf0 hS hs hf
 refine (callsIn_wide (n:=6)).1 ?_
 refine callsIn_of_wp_marks Tryz.func21 rfl trivial ?_ rfl
 simp only [Tryz.ntmps21,List.size_toArray,List.length_cons,List.length_nil,Nat.reduceAdd,Nat.reduceSub,Array.replicate_succ,Array.replicate_zero,List.push_toArray,List.append_toArray,List.nil_append,List.cons_append]
 gi_wp2_with fail
 have hbx:=box3_new w (.slice none 0 0) (.int .i64 0) (.int .i64 0)
 have hbw:Below w.heap.size w (((w.alloc (.cells #[.slice none 0 0] 22 (0,0))).alloc (.cells #[.int .i64 0] 3 (0,0))).alloc (.cells #[.int .i64 0] 38 (0,0))):=(((Below.refl _ w).alloc (Nat.le_refl _) _).alloc (by simp) _).alloc (by simp;omega) _
 have hsz:(((w.alloc (.cells #[.slice none 0 0] 22 (0,0))).alloc (.cells #[.int .i64 0] 3 (0,0))).alloc (.cells #[.int .i64 0] 38 (0,0))).heap.size=w.heap.size + 1 + 1 + 1:=by simp
 generalize ((w.alloc (.cells #[.slice none 0 0] 22 (0,0))).alloc (.cells #[.int .i64 0] 3 (0,0))).alloc (.cells #[.int .i64 0] 38 (0,0))=wa at hbx hbw hsz ⊢
 have HRT:=tright_calls wa (hG.ext hbw) A0 c0 l0 (Kd.C_below HR0.out hbw) HC0.out HF0.out.1 HF0.out.2
 refine ⟨trivial,(callsIn_wide.2 HRT).mono ?_⟩
 clear HRT
 rintro e w1 ⟨rfl,hb⟩
 have HBX:=Lib.hid (hbx.ext hb)
 have HW1:=Lib.hid (YtjghikkboekonaaGreatDoor.below_then hbw hb)
 have HZ1:Hid (w.heap.size + 1 + 1 + 1≤w1.heap.size):=Lib.hid (by have:=hb.size;omega)
 clear hbx hbw hsz hb
 have q4:w1.cell? ⟨w.heap.size,0,none⟩=some (.slice none 0 0):=YtjghikkboekonaaGreatDoor.blk_cell HBX.out.b4 0
 have q5:w1.cell? ⟨w.heap.size + 1,0,none⟩=some (.int .i64 0):=YtjghikkboekonaaGreatDoor.blk_cell HBX.out.b5 0
 have q6:w1.cell? ⟨w.heap.size + 1 + 1,0,none⟩=some (.int .i64 0):=YtjghikkboekonaaGreatDoor.blk_cell HBX.out.b6 0
 have d4:=YtjghikkboekonaaGreatDoor.blk_free HBX.out.b4 0
 have d5:=YtjghikkboekonaaGreatDoor.blk_free HBX.out.b5 0
 have d6:=YtjghikkboekonaaGreatDoor.blk_free HBX.out.b6 0
 cases hrt:rightT Y (l0.map enOf) with
 | false =>
  have HM:Hid (ontoM Y (l0.map enOf) (s.map (List.map chOf))=([],0,1)):=Lib.hid (by unfold ontoM;rw [hrt];rfl)
  have HP:=HBX.out.put (w:=w) (Nat.le_refl _) HW1.out (.slice none 0 0) (.int .i64 0) (.int .i64 1)
  gi_wp2_with fail
  refine ⟨_,res3 HP.1 _ rfl rfl rfl,?_⟩
  exact ⟨_,by rw [HM.out];rfl,by rw [HM.out];exact YtjghikkboekonaaGreatDoor.Owr.nil _ _ _ _ _,HP.2⟩
 | true =>
 have HM:Hid (ontoM Y (l0.map enOf) (s.map (List.map chOf))=ontoGo Y 0 (l0.map enOf) (s.map (List.map chOf))):=Lib.hid (by unfold ontoM;rw [hrt];rfl)
 clear hrt q4 q5 q6 d4 d5 d6
 gi_wp2_with fail
 refine ⟨trivial,(callsIn_wide.2 (clone_en_calls w1 A0 c0 l0 (Kd.C_below HR0.out HW1.out) HF0.out.2)).mono ?_⟩
 rintro e w2 ⟨cl,rfl,ho,hb⟩
 obtain ⟨acl,ccl,rfl,_,_⟩:=YtjghikkboekonaaGreatDoor.Owr.val ho
 simp only [List.length_map] at ho
 have HCL:=Lib.hid ho
 have HBX2:=Lib.hid (HBX.out.ext hb)
 have HW2:=Lib.hid (YtjghikkboekonaaGreatDoor.below_then HW1.out hb)
 have HZ2:Hid (w.heap.size + 1 + 1 + 1≤w2.heap.size):=Lib.hid (by have:=hb.size;have:=HZ1.out;omega)
 have HZZ:=Lib.hid hb.size
 clear ho hb HBX HW1
 gi_wp2_with fail
 refine ⟨trivial,(callsIn_wide.2 (steps_calls _ _ _ A0 l0.length c0 A1 s.length c1 rfl rfl)).mono ?_⟩
 rintro e w5 ⟨rfl,hw5⟩
 simp only [World.size_alloc] at hw5 ⊢
 have HN:Hid (w5.heap.size=w2.heap.size + 1 + 1 + 1):=Lib.hid (by rw [hw5];simp)
 have hb5:Below w2.heap.size w2 w5:=by rw [hw5];exact (((Below.refl _ w2).alloc (Nat.le_refl _) _).alloc (by simp) _).alloc (by simp;omega) _
 obtain ⟨k7,kt,ks⟩:w5.heap[w2.heap.size]?=some (.cells #[.slice acl l0.length ccl] 22 (0,0))∧w5.heap[w2.heap.size + 1]?=some (.cells #[.slice A0 l0.length c0] 22 (0,0))∧w5.heap[w2.heap.size + 1 + 1]?=some (.cells #[.slice A1 s.length c1] 41 (0,0)):=by rw [hw5];simpa using three_new w2 _ _ _
 have HO7:=Lib.hid k7
 have HTB:=Lib.hid kt
 have HSB:=Lib.hid ks
 have HCL5:=Lib.hid (YtjghikkboekonaaGreatDoor.Owr.ext HCL.out hb5)
 have HBX5:=Lib.hid (HBX2.out.ext hb5)
 have HW5:=Lib.hid (YtjghikkboekonaaGreatDoor.below_then HW2.out hb5)
 have HCB:Hid (∀ b,b<w.heap.size + 1 + 1 + 1∨w2.heap.size≤b→(Value.slice acl l0.length ccl).ownBlock=none∨(Value.slice acl l0.length ccl).ownBlock≠some b):=Lib.hid fun b hb=>hb.elim (fun h=>own_block HCL.out (by have:=HZ1.out;omega)) (fun h=>own_lt HCL.out h)
 clear k7 kt ks hw5 hb5 HCL HBX2 HW2
 gi_wp2_with fail
 have hw2:=HZ2.out
 have hn5:=HN.out
 refine range_mem rfl (by omega) (gf:=78) (lb:=#[.pointer (some ⟨w2.heap.size + 1 + 1,0,none⟩),.pointer (some ⟨w2.heap.size + 1,0,none⟩)]) rfl trivial (enters_of Tryz.func78 (by kernel_rfl) rfl)
  (fun pe W=>Below w.heap.size w W∧((pe=none∧∃ t u,ontoGo Y 0 (l0.map enOf) (s.map (List.map chOf))=(t,s.length,0)∧W.heap[w2.heap.size]?=some (.cells #[u] 22 (0,0))∧YtjghikkboekonaaGreatDoor.Owr eCells 32 11 w.heap.size W u t∧(∀ b,b<w.heap.size + 1 + 1 + 1∨w2.heap.size≤b∧b<w5.heap.size + 1 + 1→u.ownBlock=none∨u.ownBlock≠some b)∧Box3 W w.heap.size (.slice none 0 0) (.int .i64 0) (.int .i64 0)) ∨
   (pe=some .ret∧∃ (i:Nat) (err:Int),ontoGo Y 0 (l0.map enOf) (s.map (List.map chOf))=([],i,err)∧Box3 W w.heap.size (.slice none 0 0) (.int .i64 i) (.int .i64 err)))) ?hit ?hdone ?hstop
 case hit =>
  intro fn hfn W1 hW1 hrec
  generalize hrd:(Rec fn _ _ _ _ w5.heap.size)=rd at hrec ⊢
  have hb1:Below w5.heap.size w5 W1:=by rw [hW1];exact ((Below.refl _ w5).alloc (Nat.le_refl _) _).alloc (by simp) _
  have hs1:W1.heap.size=w5.heap.size + 1 + 1:=by rw [hW1];simp
  clear hW1
  refine (steps1_in 4 w hG A1 c1 s HS.out HL.out HF.out (w2.heap.size + 1 + 1) (w2.heap.size + 1) (w5.heap.size + 1 + 1) (w5.heap.size + 1) (by omega) (by omega) (by omega) (by omega)
   (fun i _ v W=>RecAt (w5.heap.size + 1) w5.heap.size (rd .ready none) W∧Box3 W w.heap.size (.slice none 0 0) (.int .i64 0) (.int .i64 0)∧(∃ u,W.heap[w2.heap.size]?=some (.cells #[u] 22 (0,0))∧(i=0→u=.slice acl l0.length ccl)∧(i≠0→u=v))∧(i=0→YtjghikkboekonaaGreatDoor.Owr eCells 32 11 w1.heap.size W (.slice acl l0.length ccl) (l0.map enOf)))
   (fun i err W=>RecAt (w5.heap.size + 1) w5.heap.size (rd .done (some .ret)) W∧Box3 W w.heap.size (.slice none 0 0) (.int .i64 i) (.int .i64 err))
   ?hX ?hY W1 (l0.map enOf) (.slice A0 l0.length c0) ?h0 (.inl ⟨rfl,A0,c0,l0,rfl,HC0.out,HR0.out,rfl⟩) HF0.out.1 (by rw [List.length_map];exact HF0.out.2)
   (YtjghikkboekonaaGreatDoor.blk_cell (blk_below HSB.out hb1) 0) (blk_below HTB.out hb1) (by omega) (YtjghikkboekonaaGreatDoor.below_then HW5.out hb1)).mono ?_
  case h0 =>
   exact ⟨hrec,HBX5.out.ext hb1,⟨_,blk_below HO7.out hb1,fun _=>rfl,fun h=>absurd rfl h⟩,fun _=>YtjghikkboekonaaGreatDoor.Owr.ext HCL5.out hb1⟩
  case hX =>
   rintro i t v W u ⟨x1,x2,⟨z,x3,x4,x5⟩,x6⟩ hn
   exact ⟨x1.set u (by omega) (by omega),x2.set u (by omega) (by omega) (by omega),⟨z,(set_far _ _ _ u (by omega)).trans x3,x4,x5⟩,fun h=>(x6 h).kept (grownBy_setCell' _ _ _) (HCB.out _ (.inr (by omega)))⟩
  case hY =>
   rintro i t v W V x rows err hi _ ⟨x1,x2,⟨z,x3,_,_⟩,_⟩ hn hbV hbW ho
   obtain ⟨ax,cx,rfl,_,_⟩:=YtjghikkboekonaaGreatDoor.Owr.val ho
   have r1:=x1.ext hbW
   have r2:=x2.ext hbW
   have r3:=blk_below x3 hbW
   have hnV:w5.heap.size + 1 + 1≤V.heap.size:=Nat.le_trans hn hbW.size
   subst hrd
   refine (yield_mem (by omega) hfn r1 rfl (fun W'=>(W'.cell? ⟨w2.heap.size + 1 + 1,0,none⟩=V.cell? ⟨w2.heap.size + 1 + 1,0,none⟩∧W'.heap[w2.heap.size + 1]?=V.heap[w2.heap.size + 1]?∧YtjghikkboekonaaGreatDoor.Owr eCells 32 11 (w5.heap.size + 1 + 1) W' (.slice ax rows.length cx) rows∧Below w.heap.size w W'∧w5.heap.size + 1 + 1≤W'.heap.size)∧err=0∧Box3 W' w.heap.size (.slice none 0 0) (.int .i64 0) (.int .i64 0)∧W'.heap[w2.heap.size]?=some (.cells #[.slice ax rows.length cx] 22 (0,0)))
    (fun c W'=>(W'.cell? ⟨w2.heap.size + 1 + 1,0,none⟩=V.cell? ⟨w2.heap.size + 1 + 1,0,none⟩∧W'.heap[w2.heap.size + 1]?=V.heap[w2.heap.size + 1]?∧YtjghikkboekonaaGreatDoor.Owr eCells 32 11 (w5.heap.size + 1 + 1) W' (.slice ax rows.length cx) rows∧Below w.heap.size w W'∧w5.heap.size + 1 + 1≤W'.heap.size)∧c=.ret∧err≠0∧Box3 W' w.heap.size (.slice none 0 0) (.int .i64 i) (.int .i64 err)) ?_).mono ?_
   ·clear hn5
    gi_wp2_with fail
    refine ⟨r1.ext (YtjghikkboekonaaGreatDoor.below_new _ _),?_⟩
    intro W2 hW2 hr2
    replace hW2:=hW2.out
    replace hr2:=hr2.out
    have hn5:=HN.out
    have hV1:=YtjghikkboekonaaGreatDoor.below_new V (.cells #[.slice ax rows.length cx,.int .i64 err] 82 (0,0))
    have k9:W2.heap[V.heap.size]?=some (.cells #[.slice ax rows.length cx,.int .i64 err] 82 (0,0)):=by rw [hW2];exact (World.putObj_heap_other (by omega)).trans (World.alloc_heap_new V _)
    have k3:Box3 W2 w.heap.size (.slice none 0 0) (.int .i64 0) (.int .i64 0):=by rw [hW2];exact (r2.ext hV1).far _ (by omega)
    have k7:W2.heap[w2.heap.size]?=some (.cells #[z] 22 (0,0)):=by rw [hW2];exact (World.putObj_heap_other (by omega)).trans (blk_below r3 hV1)
    have ks:W2.cell? ⟨w2.heap.size + 1 + 1,0,none⟩=V.cell? ⟨w2.heap.size + 1 + 1,0,none⟩:=by rw [hW2];exact (put_cell _ _ _ _ _ (by omega)).trans (hV1.cell (by show w2.heap.size + 1 + 1<V.heap.size;omega))
    have kt:W2.heap[w2.heap.size + 1]?=V.heap[w2.heap.size + 1]?:=by rw [hW2];exact (World.putObj_heap_other (by omega)).trans (hV1.block (w2.heap.size + 1) (by have:=hnV;have:=hn5;omega))
    have ko:YtjghikkboekonaaGreatDoor.Owr eCells 32 11 (w5.heap.size + 1 + 1) W2 (.slice ax rows.length cx) rows:=by rw [hW2];exact (YtjghikkboekonaaGreatDoor.Owr.ext ho hV1).kept (grownBy_putObj' _ _ _) (own_block ho (by omega))
    have kb:Below w.heap.size w W2:=by
     have h1:=YtjghikkboekonaaGreatDoor.below_then hbV hV1
     rw [hW2]
     exact h1.trans (belowK_b (w:=w) (Nat.le_refl _) _ (w5.heap.size + 1) _ _ (by omega) (r1.ext hV1).1 rfl rfl)
    have kz:w5.heap.size + 1 + 1≤W2.heap.size:=by rw [hW2];simp;omega
    have K3:=Lib.hid k3
    have K7:=Lib.hid k7
    have KS:=Lib.hid ks
    have KT:=Lib.hid kt
    have KO:=Lib.hid ko
    have KB:=Lib.hid kb
    have KZ:=Lib.hid kz
    have KR:=Lib.hid hr2
    have q9:W2.cell? ⟨V.heap.size,0,none⟩=some (.slice ax rows.length cx):=YtjghikkboekonaaGreatDoor.blk_cell k9 0
    have q8:W2.cell? ⟨V.heap.size,1,none⟩=some (.int .i64 err):=YtjghikkboekonaaGreatDoor.blk_cell k9 1
    have q7:W2.cell? ⟨w2.heap.size,0,none⟩=some z:=YtjghikkboekonaaGreatDoor.blk_cell k7 0
    have d7:=YtjghikkboekonaaGreatDoor.blk_free k7 0
    have q4:W2.cell? ⟨w.heap.size,0,none⟩=some (.slice none 0 0):=YtjghikkboekonaaGreatDoor.blk_cell k3.b4 0
    have q5:W2.cell? ⟨w.heap.size + 1,0,none⟩=some (.int .i64 0):=YtjghikkboekonaaGreatDoor.blk_cell k3.b5 0
    have q6:W2.cell? ⟨w.heap.size + 1 + 1,0,none⟩=some (.int .i64 0):=YtjghikkboekonaaGreatDoor.blk_cell k3.b6 0
    have d4:=YtjghikkboekonaaGreatDoor.blk_free k3.b4 0
    have d5:=YtjghikkboekonaaGreatDoor.blk_free k3.b5 0
    have d6:=YtjghikkboekonaaGreatDoor.blk_free k3.b6 0
    clear hn5 hW2 hr2 k9 k3 k7 ks kt ko kb kz hV1 x1 x2 x3 r1 r2 r3 ho hbV hbW
    by_cases herr:err=0
    ·subst herr
     gi_wp2_with fail
     have hn5:=HN.out
     exact ⟨KR.out.set _ (by omega) (by omega),⟨(World.cell?_setCell_far W2 ⟨w2.heap.size,0,none⟩ ⟨w2.heap.size + 1 + 1,0,none⟩ _ (by show w2.heap.size≠w2.heap.size + 1 + 1;omega)).trans KS.out,(set_far _ _ _ _ (by omega)).trans KT.out,KO.out.kept (grownBy_setCell' _ _ _) (own_block KO.out (by omega)),KB.out.setCell (p:=⟨w2.heap.size,0,none⟩) (by show w.heap.size≤w2.heap.size;omega) _,by rw [World.size_setCell];exact KZ.out⟩,K3.out.set _ (by omega) (by omega) (by omega),YtjghikkboekonaaGreatDoor.heap_set K7.out 0 _⟩
    ·have he1:(err != 0)=true:=by simpa using herr
     have HER:=Lib.hid herr
     clear herr
     gi_wp2_with fail
     gi_region
     all_goals gi_wp2
     all_goals (have hn5:=HN.out)
     all_goals (have hfin:=box_end (x:=.slice none 0 0) (y:=.int .i64 i) (z:=.int .i64 err) (Nat.le_refl _) K3.out KB.out KR.out KO.out KS.out KT.out KZ.out (by omega) (by omega) (by omega) (by omega) (by omega) _ rfl)
     all_goals exact ⟨hfin.1,hfin.2.1,rfl,HER.out,hfin.2.2⟩
   ·rintro e W' (⟨rfl,hr,V3,rfl,hr3,⟨k1,k2,k3,k4,k5⟩,h0,hbx,h7⟩|⟨rfl,c,hr,V3,rfl,hr3,⟨k1,k2,k3,k4,k5⟩,rfl,hne,hbx⟩)
    ·exact ⟨⟨(put_cell _ _ _ _ _ (by omega)).trans k1,(World.putObj_heap_other (by omega)).trans k2,k3.kept (grownBy_putObj' _ _ _) (own_block k3 (by omega)),k4.trans (belowK_b (w:=w) (Nat.le_refl _) _ (w5.heap.size + 1) _ _ (by omega) hr3.1 rfl rfl),by simp;exact k5⟩,
      .inl ⟨rfl,fun _=>⟨hr,hbx.far _ (by omega),⟨_,(World.putObj_heap_other (by omega)).trans h7,fun h=>absurd h (Nat.succ_ne_zero _),fun _=>rfl⟩,fun h=>absurd h (Nat.succ_ne_zero _)⟩,fun h=>absurd h0 h⟩⟩
    ·exact ⟨⟨(put_cell _ _ _ _ _ (by omega)).trans k1,(World.putObj_heap_other (by omega)).trans k2,k3.kept (grownBy_putObj' _ _ _) (own_block k3 (by omega)),k4.trans (belowK_b (w:=w) (Nat.le_refl _) _ (w5.heap.size + 1) _ _ (by omega) hr3.1 rfl rfl),by simp;exact k5⟩,
      .inr ⟨rfl,hne,hr,hbx.far _ (by omega)⟩⟩
  rintro e W' ⟨he,hb,(⟨x,t,h1,h2,h3,⟨x1,x2,⟨u,x3,x4,x5⟩,x6⟩⟩|⟨i,err,h1,h2,⟨x1,x2⟩⟩)⟩
  ·have hboth:YtjghikkboekonaaGreatDoor.Owr eCells 32 11 w.heap.size W' u t∧∀ b,b<w.heap.size + 1 + 1 + 1∨w2.heap.size≤b∧b<w5.heap.size + 1 + 1→u.ownBlock=none∨u.ownBlock≠some b:=by
    by_cases hl:s.length=0
    ·obtain rfl:=List.eq_nil_of_length_eq_zero hl
     obtain rfl:l0.map enOf=t:=congrArg Prod.fst h1
     rw [x4 rfl]
     exact ⟨own_low (x6 rfl) (by have:=HZ1.out;omega),fun b hb=>HCB.out b (hb.imp id And.left)⟩
    ·rw [x5 hl]
     rcases h2 with ⟨h,_⟩|h
     ·exact absurd h hl
     ·exact ⟨own_low h (by omega),fun b hb=>own_block h (by omega)⟩
   exact ⟨he,.ready,none,(fun h=>by cases h),x1,hb,.inl ⟨rfl,t,u,h1,x3,hboth.1,hboth.2,x2⟩⟩
  ·exact ⟨he,.done,some .ret,(fun h=>by cases h),x1,hb,.inr ⟨rfl,i,err,h2,x2⟩⟩
 case hdone =>
  rintro W o ⟨hb,(⟨_,t,u,h1,h2,h3,h4,h5⟩|⟨h,_⟩)⟩ hl o' hd
  ·obtain ⟨au,cu,rfl,_,_⟩:=YtjghikkboekonaaGreatDoor.Owr.val h3
   have HM2:Hid (ontoM Y (l0.map enOf) (s.map (List.map chOf))=(t,s.length,0)):=Lib.hid (HM.out.trans h1)
   have k1:=h3.kept (grownBy_putObj' W (w5.heap.size + 1) (.loop o')) (h4 _ (.inr ⟨by omega,by omega⟩))
   have k2:(W.putObj (w5.heap.size + 1) (.loop o')).heap[w2.heap.size]?=some (.cells #[.slice au t.length cu] 22 (0,0)):=(World.putObj_heap_other (by omega)).trans h2
   have k3:=h5.far (.loop o') (L:=w5.heap.size + 1) (by omega)
   have k4:(W.putObj (w5.heap.size + 1) (.loop o')).heap[w5.heap.size]?=some (.deferred (some [])):=(World.putObj_heap_other (by omega)).trans hd
   have k5:Below w.heap.size w (W.putObj (w5.heap.size + 1) (.loop o')):=hb.trans (belowK_b (w:=w) (Nat.le_refl _) W (w5.heap.size + 1) _ _ (by omega) hl rfl rfl)
   generalize W.putObj (w5.heap.size + 1) (.loop o')=V at k1 k2 k3 k4 k5 ⊢
   have q7:V.cell? ⟨w2.heap.size,0,none⟩=some (.slice au t.length cu):=YtjghikkboekonaaGreatDoor.blk_cell k2 0
   have q4:V.cell? ⟨w.heap.size,0,none⟩=some (.slice none 0 0):=YtjghikkboekonaaGreatDoor.blk_cell k3.b4 0
   have q5:V.cell? ⟨w.heap.size + 1,0,none⟩=some (.int .i64 0):=YtjghikkboekonaaGreatDoor.blk_cell k3.b5 0
   have q6:V.cell? ⟨w.heap.size + 1 + 1,0,none⟩=some (.int .i64 0):=YtjghikkboekonaaGreatDoor.blk_cell k3.b6 0
   have d4:=YtjghikkboekonaaGreatDoor.blk_free k3.b4 0
   have d5:=YtjghikkboekonaaGreatDoor.blk_free k3.b5 0
   have d6:=YtjghikkboekonaaGreatDoor.blk_free k3.b6 0
   have HK1:=Lib.hid k1
   have HK3:=Lib.hid k3
   have HK4:=Lib.hid k4
   have HK5:=Lib.hid k5
   have HH4:=Lib.hid h4
   clear k1 k2 k3 k4 k5 h1 h2 h3 h4 h5 hb hl hd
   have HP:=HK3.out.put (w:=w) (Nat.le_refl _) HK5.out (.slice au t.length cu) (.int .i64 s.length) (.int .i64 0)
   have hD:(((V.setCell ⟨w.heap.size,0,none⟩ (.slice au t.length cu)).setCell ⟨w.heap.size + 1,0,none⟩ (.int .i64 s.length)).setCell ⟨w.heap.size + 1 + 1,0,none⟩ (.int .i64 0)).heap[w5.heap.size]?=some (.deferred (some [])):=(((set_far _ _ _ _ (by omega)).trans (set_far _ _ _ _ (by omega))).trans (set_far _ _ _ _ (by omega))).trans HK4.out
   have hO:=((HK1.out.kept (grownBy_setCell' V w.heap.size (.slice au t.length cu)) (HH4.out _ (.inl (by omega)))).kept (grownBy_setCell' _ (w.heap.size + 1) (.int .i64 s.length)) (HH4.out _ (.inl (by omega)))).kept (grownBy_setCell' _ (w.heap.size + 1 + 1) (.int .i64 0)) (HH4.out _ (.inl (by omega)))
   have HD:=Lib.hid hD
   have HO:=Lib.hid (hO.kept (grownBy_putObj' _ w5.heap.size (.deferred none)) (HH4.out _ (.inr ⟨by omega,by omega⟩)))
   have HPB:=Lib.hid (HP.2.trans (belowK_b (w:=w) (Nat.le_refl _) _ w5.heap.size _ (.deferred none) (by omega) hD rfl rfl))
   have HPX:=Lib.hid (HP.1.far (.deferred none) (L:=w5.heap.size) (by omega))
   clear HP hD hO
   gi_wp2_with fail
   rw [← hn5]
   refine ⟨by simp,.inl ⟨_,_,rfl,run_takeDeferred HD.out,?_⟩⟩
   exact ⟨_,res3 HPX.out _ rfl rfl rfl,⟨_,by rw [HM2.out],by rw [HM2.out];exact HO.out,HPB.out⟩⟩
  ·cases h
 case hstop =>
  rintro c W o ⟨hb,(⟨h,_⟩|⟨h,i,err,h1,h2⟩)⟩ hl o' hd
  ·cases h
  ·obtain rfl:=Option.some.inj h
   have HM2:Hid (ontoM Y (l0.map enOf) (s.map (List.map chOf))=([],i,err)):=Lib.hid (HM.out.trans h1)
   have k3:=h2.far (.loop o') (L:=w5.heap.size + 1) (by omega)
   have k4:(W.putObj (w5.heap.size + 1) (.loop o')).heap[w5.heap.size]?=some (.deferred (some [])):=(World.putObj_heap_other (by omega)).trans hd
   have k5:Below w.heap.size w (W.putObj (w5.heap.size + 1) (.loop o')):=hb.trans (belowK_b (w:=w) (Nat.le_refl _) W (w5.heap.size + 1) _ _ (by omega) hl rfl rfl)
   generalize W.putObj (w5.heap.size + 1) (.loop o')=V at k3 k4 k5 ⊢
   have HD:=Lib.hid k4
   have HPB:=Lib.hid (k5.trans (belowK_b (w:=w) (Nat.le_refl _) _ w5.heap.size _ (.deferred none) (by omega) k4 rfl rfl))
   have HPX:=Lib.hid (k3.far (.deferred none) (L:=w5.heap.size) (by omega))
   clear k3 k4 k5 h1 h2 hb hl hd
   gi_wp2_with fail
   rw [← hn5]
   refine ⟨by simp,.inl ⟨_,_,rfl,run_takeDeferred HD.out,?_⟩⟩
   exact ⟨_,res3 HPX.out _ rfl rfl rfl,⟨_,by rw [HM2.out],by rw [HM2.out];exact YtjghikkboekonaaGreatDoor.Owr.nil _ _ _ _ _,HPB.out⟩⟩
end Go.Proofs.Zq
end
section
namespace Go.Proofs.Zq
open Go.RowKit Go.WideMaps Go.Maps Go.Proofs.YtjghikkboekonaaGreatDoor Go.Proofs.Zw.PrintWords Go.Proofs.Zw.PrintLast Go.Proofs.Zw.PrintMore
open Go.Proofs.Zt (applyM ontoGo ontoM treesGo Ch)
theorem stk_block {w:World} {g:Nat} {T:TypeId} {vs:List Value} {xs:List (List S57)} (h:w.heap[g]?=some (.cells vs.toArray T (0,0))) (hm:xs.length≤9223372036854775807)
  (hx:∀ (j:Nat) (p:List S57),xs[j]?=some p→∃ A c,vs[j]?=some (.slice A p.length c)∧p.length≤c∧Kd.C k57 w A p.length p) :
  Kd.C (Kd.slice 57 k57) w (some ⟨g,0,none⟩) xs.length xs:=by
 refine ⟨rfl,hm,fun _=>⟨_,rfl,fun j p hp=>?_⟩⟩
 obtain ⟨A,c,hv,hc,hk⟩:=hx j p hp
 refine ⟨[.slice A p.length c],rfl,⟨A,c,rfl,hc,hk⟩,fun i u hu=>?_⟩
 have e0:i=0:=by
  apply Classical.byContradiction
  intro hne
  rw [List.getElem?_eq_none (by simp;omega)] at hu
  cases hu
 subst e0
 obtain rfl:=Option.some.inj hu
 show w.cell? ((⟨g,0,none⟩:Addr).add (j * 1 + 0))=_
 rw [YtjghikkboekonaaGreatDoor.add_at,Nat.zero_add,Nat.mul_one,Nat.add_zero,YtjghikkboekonaaGreatDoor.blk_cell h]
 simpa using hv
theorem ens_C {w:World} {g:Nat} {l:List (Str×Nd)} (h:w.heap[g]?=some (.cells (flat eCells l).toArray 32 (0,0))) (hl:l.length≤1000000):Kd.C k32 w (some ⟨g,0,none⟩) (l.map ofEn).length (l.map ofEn) :=
 en_C (by rw [ens_back];exact row_of_block eCells_len (by unfold maxLen;omega) h) (by rw [List.length_map];omega)
section
variable {P:Program} {ops:Array Oper} {Q:Exit→Act→World→Prop}
end
end Go.Proofs.Zq
end
section
namespace Go.Proofs.Zq
open Go.RowKit Go.Proofs.Zw.PrintWords Go.Proofs.Zw.PrintLast Go.Proofs.Zw.PrintMore
open Go.Proofs.YtjghikkboekonaaGreatDoor (GL)
attribute [local go_sem] max2_int min2_int max_two min_two max_three min_three max_four min_four
theorem eqA57 (d:Nat) (w:World) (x0 y0:ByteArray) (x1 y1:Int) (x2 y2:Int) (x3 y3:Int) (x4 y4:Int) (x5 y5:Int) (x6 y6:Int) (x7 y7:ByteArray) (x8 y8:ByteArray) (x9 y9:Int) (x10 y10:Int) (x11 y11:ByteArray) :
  (Op.equalIn (d + 3) 57 (.agg #[.string x0,.int .i64 x1,.int .i64 x2,.int .i64 x3,.int .i64 x4,.int .i64 x5,.int .i64 x6,.string x7,.string x8,.int .i64 x9,.int .i64 x10,.string x11]) (.agg #[.string y0,.int .i64 y1,.int .i64 y2,.int .i64 y3,.int .i64 y4,.int .i64 y5,.int .i64 y6,.string y7,.string y8,.int .i64 y9,.int .i64 y10,.string y11])).run Tryz.prog w=.ok (x0.toList == y0.toList && (x1 == y1 && ((x2 == y2 && (x3 == y3 && (x4 == y4 && (x5 == y5 && (x6 == y6 && (x7.toList == y7.toList && (x8.toList == y8.toList && (x9 == y9 && (x10 == y10 && (x11.toList == y11.toList))))))))))))) w:=by
 refine eqA_of Tryz.underlying57 (by kernel_rfl) ?_
 refine eqf_cons (by rfl) (by go_simp;rfl) (by go_simp;rfl) (by go_simp) ?_
 refine eqf_cons (by rfl) (by go_simp;rfl) (by go_simp;rfl) (by go_simp) ?_
 exact eqf_last (by rfl) (by go_simp) (by go_simp) (eqA28 (d + 0) w _ _ _ _ _ _ _ _ _ _ _ _ _ _ _ _ _ _ _ _)
end Go.Proofs.Zq
end
