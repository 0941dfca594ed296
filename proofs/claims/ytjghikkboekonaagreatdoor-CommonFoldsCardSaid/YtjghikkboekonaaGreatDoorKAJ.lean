/- A part of a proof of statements of this seat: what its walks and its laws lean on; joined by a program of this repo (wip/pack.py) out of the texts XApp2, XTree, XSm17a, XSm17b, XArgs, XHd, QOnionskinlaw09Few, QOnionskinlaw16Few, QEq32, QOnionskinref08Same, XEnt, XArgs2, XRng, XCloneE, XStep, XArgs3, XEnM, XArgs4, XFold, XFold2, XLw, XFew18, XArgs5. -/
import Derived.Below
import Derived.Carry
import Derived.ChangeSame
import Derived.Deep.DeepHandedRow
import Derived.Deep.DeepWitnessRowRef
import Derived.Deep.Slices
import Derived.DeepKeys5
import Derived.Lib.LaidTab
import Derived.LoopIn
import Derived.LoopNIn
import Derived.OpenShut
import Derived.OwnWalkIn
import Derived.ProofKit
import Derived.RangeFuncBound
import Derived.RangeFuncBox
import Derived.RangeFuncCalls
import Derived.RangeFuncLeaves
import Derived.RangeFuncNested
import Derived.Shelf.Abstract
import Derived.Shelf.Vars
import Derived.SizedLaws
import Derived.Stop.LaidErr
import Derived.TacticsInMore
import Derived.Test.YtjghikkboekonaaGreatDoorCards
import Derived.Test.YtjghikkboekonaaGreatDoorTie
import Derived.WalkKit
import Derived.WideKeyEntry
import Derived.Test.YtjghikkboekonaaGreatDoorKAA
import Derived.Test.YtjghikkboekonaaGreatDoorKAB
import Derived.Test.YtjghikkboekonaaGreatDoorKAE
import Derived.Test.YtjghikkboekonaaGreatDoorKAH
import Derived.Test.YtjghikkboekonaaGreatDoorKAI
set_option linter.unusedSimpArgs false
set_option linter.unusedVariables false
section
namespace Go.Proofs.Zq
open Go.RowKit Go.WideMaps Go.Maps Go.Proofs.YtjghikkboekonaaGreatDoor Go.Proofs.Zw.PrintWords Go.Proofs.Zw.PrintLast Go.Proofs.Zw.PrintMore
open Go.Proofs.Zt (rightT rightC applyM applyL parM lessM cmpM getL Ch puts Puts tkL PS Srt isM RightT RightL underM)
theorem getL_step {t:List (Str×Nd)} (hs:t.Pairwise fun a b=>a.1≠b.1) (i:Nat) (hi:i<t.length) (key:Str):getL (t.take (i + 1)) key=if key=t[i].1 then some t[i].2 else getL (t.take i) key:=by
 rw [List.take_succ_eq_append_getElem hi,Zt.getL_append]
 by_cases hk:key=t[i].1
 ·subst hk
  rw [if_pos rfl,if_pos rfl]
  have:getL (t.take i) t[i].1=none:=by
   cases h:getL (t.take i) t[i].1 with
   | none=>rfl
   | some n =>
    have hm:=Zt.pz27 h
    obtain ⟨j,hj,he⟩:=List.getElem_of_mem hm
    have hj':j<i:=by simp at hj;omega
    have:=List.pairwise_iff_getElem.1 hs j i (by omega) hi hj'
    rw [List.getElem_take] at he
    rw [he] at this
    exact absurd rfl this
  rw [this];rfl
 ·rw [if_neg hk,if_neg (fun h=>hk h.symm)]
  cases getL (t.take i) key <;> rfl
theorem lyr_get {t:List (Ch Str Nd)} (h:lyrFits t=true) {e:Ch Str Nd} (he:e ∈ t):e.path.length≤1000000∧ndFits e.node=true:=by
 have:=List.all_eq_true.1 h e he
 simpa using this
theorem foldl_take (q:Str):∀ (l:List (Ch Str Nd)) (f:Str→Option Nd),l.foldl takeF f q=if tkL PS l q=true then none else f q
 | [],f=>by simp [tkL]
 | c :: r,f=>by
  rw [List.foldl_cons,foldl_take q r]
  have ht:tkL PS (c :: r) q=(Zt.Takes PS c q || tkL PS r q):=by simp [tkL]
  rw [ht]
  by_cases hr:tkL PS r q=true
  ·rw [if_pos hr,hr,Bool.or_true,if_pos rfl]
  ·have hr':tkL PS r q=false:=by simpa using hr
   rw [if_neg hr,hr',Bool.or_false]
   have hu:∀ a b,PS.under a b=underM a b:=fun _ _=>rfl
   unfold takeF Zt.Takes clearF
   simp only [hu]
   by_cases h1:c.op=1
   ·rw [if_pos h1]
    by_cases h2:underM c.path q=true
    ·simp [h1,h2]
    ·by_cases h3:q=c.path
     ·simp [h1,h2,h3]
     ·simp [h1,h2,h3]
   ·rw [if_neg h1]
    by_cases h2:c.op=2
    ·rw [if_pos h2]
     by_cases h3:underM c.path q=true <;> simp [h2,h3]
    ·rw [if_neg h2]
     simp [h1,h2]
theorem folderF_iff (g:Str→Option Nd) (p:Str):folderF g p=true↔Zt.Fold PS Y.dir g p:=by
 unfold folderF Zt.Fold
 rw [Bool.or_eq_true,decide_eq_true_eq]
 refine or_congr Iff.rfl ?_
 cases g p with
 | none=>simp
 | some n =>
  show decide (n.kind=1)=true↔∃ m,some n=some m∧Y.dir m=true
  constructor
  ·intro h;exact ⟨n,rfl,h⟩
  ·rintro ⟨m,hm,h⟩;cases hm;exact h
theorem putF_eq (g:Str→Option Nd) (c:Ch Str Nd):Zt.putF PS Y.dir c.path c.node g=putF g c:=by
 funext q
 unfold putF Zt.putF clearF
 have hd:Y.dir c.node=decide (c.node.kind=1):=rfl
 by_cases hq:q=c.path
 ·rw [if_pos hq,if_pos hq]
 ·rw [if_neg hq,if_neg hq]
  have hc:(Y.dir c.node=false∨¬ Zt.Fold PS Y.dir g c.path)↔(!decide (c.node.kind=1) || !folderF g c.path)=true:=by
   rw [← folderF_iff,hd]
   cases decide (c.node.kind=1) <;> cases folderF g c.path <;> simp
  by_cases h1:(!decide (c.node.kind=1) || !folderF g c.path)=true
  ·rw [if_pos h1]
   by_cases h2:underM c.path q=true
   ·rw [if_pos ⟨h2,hc.2 h1⟩,if_pos h2]
   ·rw [if_neg (fun h=>h2 h.1),if_neg h2]
  ·rw [if_neg h1,if_neg (fun h=>h1 (hc.1 h.2))]
theorem putF_V {g:Str→Option Nd} (hg:∀ x,(g x).isSome=true→PS.V x) {c:Ch Str Nd} (hv:PS.V c.path):∀ x,(putF g c x).isSome=true→PS.V x:=by
 intro x hx
 unfold putF at hx
 split at hx
 ·rename_i h;rw [h];exact hv
 ·split at hx
  ·unfold clearF at hx
   split at hx
   ·cases hx
   ·exact hg x hx
  ·exact hg x hx
theorem nd_size {w:World} {b n:Nat} {D:DataW Nd} {f:Str→Option Nd} (hown:w.ownsMap Tryz.prog 9 Rn b n D) (hat:∀ (key:Str) (z:DataW Nd),D.atKey (.string key) z=(match f key with|some v=>.held v|none=>z))
  (ks:List Str) (hnd:ks.Nodup) (hm:∀ x,x ∈ ks↔(f x).isSome=true):ks.length=Maps.size D:=by
 obtain ⟨es,rfl,hap,_⟩:=hown.entries strLaw
 have hks:∀ p ∈ es,∃ x,p.1=.string x:=by
  obtain ⟨es',e,h⟩:=hown.keysOf
  cases e
  intro p hp
  obtain ⟨v,hv⟩:=h p hp
  obtain ⟨x,_,h2,_⟩:=Maps.keyOf_str Tryz.underlying9 hv
  exact ⟨x,h2⟩
 have hp:ks.Perm (strKeys (.map es)):=(List.perm_ext_iff_of_nodup hnd (nodup_strKeys hap hks)).2 fun x=>by rw [hm,mem_strKeys hks,NdMap.has hat]
 rw [hp.length_eq]
 show (es.map _).length=es.length
 rw [List.length_map]
theorem keys_nodup {t:List (Str×Nd)} (h:Srt PS t):(t.map (·.1)).Nodup:=by
 refine List.pairwise_map.2 (h.s.imp fun {a b} hl e=>?_)
 have hl:cmpM a.1 b.1<0:=hl
 rw [e,Zt.cmpM_refl] at hl;omega
theorem keys_mem {t:List (Str×Nd)} (h:Srt PS t) {g:Str→Option Nd} (hq:∀ q,PS.V q→g q=getL t q) (hv:∀ x,(g x).isSome=true→PS.V x) (x:Str):x ∈ t.map (·.1)↔(g x).isSome=true:=by
 rw [List.mem_map]
 constructor
 ·rintro ⟨⟨p,n⟩,hm,rfl⟩
  rw [hq _ (h.v _ hm),h.get hm];rfl
 ·intro hx
  have:=hv x hx
  rw [hq x this] at hx
  obtain ⟨n,hn⟩:=Option.isSome_iff_exists.1 hx
  exact ⟨(x,n),Zt.pz27 hn,rfl⟩
theorem getL_keys (g:Str→Option Nd) (ks:List Str) (hm:∀ x,x ∈ ks↔(g x).isSome=true) (q:Str):getL (ks.map fun k=>(k,(g k).getD zeroN)) q=g q:=by
 have h:∀ ks:List Str,getL (ks.map fun k=>(k,(g k).getD zeroN)) q=if q ∈ ks then some ((g q).getD zeroN) else none:=by
  intro ks
  induction ks with
  | nil=>rfl
  | cons k r ih =>
   show (if k=q then some ((g k).getD zeroN) else getL (r.map _) q)=_
   rw [ih]
   by_cases e:k=q
   ·subst e;simp
   ·have:¬ q=k:=fun h=>e h.symm
    simp [e,this]
 rw [h]
 cases hg:g q with
 | none=>rw [if_neg];rw [hm,hg];simp
 | some n=>rw [if_pos ((hm q).2 (by rw [hg];rfl))];rfl
theorem isM_short {x:Str} (h:PS.V x):x.length≤1000000:=by
 have hi:=Zt.isM_iff.1 (show isM x=true from h)
 have:=hi.all
 revert this
 split <;> omega
theorem info_en:(Tryz.prog.info? 32).map (fun i=>(i.zero,i.size,i.bytes))=some (some (.agg enZero),11,120):=by kernel_rfl
def chZero:Array Value:=#[.string (⟨#[]⟩:ByteArray),.int .i64 0,.int .i64 0,.int .i64 0,.int .i64 0,.int .i64 0,.int .i64 0,.string (⟨#[]⟩:ByteArray),.string (⟨#[]⟩:ByteArray),.int .i64 0,.int .i64 0,.string (⟨#[]⟩:ByteArray)]
set_option maxRecDepth 100000 in
set_option maxHeartbeats 4000000 in
theorem tapply_calls (w:World) (hG:GL w) (A:Option Addr) (c:Nat) (l:List S32) (hr:Kd.C k32 w A l.length l) (hc:l.length≤c) (hfit:rowFits (l.map enOf)=true) (hl:l.length≤1000000)
  (A2:Option Addr) (c2:Nat) (ls:List S57) (hr2:Kd.C k57 w A2 ls.length ls) (hc2:ls.length≤c2) (hfit2:lyrFits (ls.map chOf)=true) (hl2:ls.length≤1000000) :
  Calls Tryz.prog 24 #[.slice A l.length c,.slice A2 ls.length c2] w fun e w'=>∃ v:Value,e=.returned (.tuple #[v,.int .i64 (applyM Y (l.map enOf) (ls.map chOf)).2]) ∧
   Owr eCells 32 11 w.heap.size w' v (applyM Y (l.map enOf) (ls.map chOf)).1∧Below w.heap.size w w':=by
 have HR:=pH hr
 have HF:=pH hfit
 have HL:=pH hl
 have HR2:=pH hr2
 have HF2:=pH hfit2
 have HL2:=pH hl2
 have HCC:=pH hc
 have HCC2:=pH hc2
 clear hr hfit hl hr2 hfit2 hl2 hc hc2
 have hmm:=@run_makeMap Tryz.prog
 obtain ⟨res,hres⟩:∃ res,res=applyM Y (l.map enOf) (ls.map chOf):=⟨_,rfl⟩
 have HRES:=pH hres
 rw [← hres]
 clear hres
 go_enter Tryz.func24,Tryz.ntmps24
 go_wp2_with fail
 refine (tright_calls w hG A c l HR.out HCC.out HF.out HL.out).mono ?_
 rintro e w1 ⟨rfl,hb1⟩
 have HB1:=pH hb1
 clear hb1
 cases ht:rightT Y (l.map enOf) with
 | false =>
  have HE:Hid (res=([],1)):=pH (by rw [HRES.out];unfold applyM;rw [ht];rfl)
  go_wp2_with fail
  all_goals
   go_ret2
   exact ⟨_,by rw [HE.out];rfl,by rw [HE.out];exact Owr.nil _ _ _ _ _,HB1.out⟩
 | true =>
  go_wp2_with fail
  refine (cright_calls w1 (hG.ext HB1.out) A2 c2 ls (Kd.C_below HR2.out HB1.out) HCC2.out HF2.out HL2.out).mono ?_
  rintro e w2 ⟨rfl,hb2⟩
  have HB2:=pH (pbt HB1.out hb2)
  clear hb2
  cases hcr:rightC Y (ls.map chOf) with
  | false =>
   have HE:Hid (res=([],1)):=pH (by rw [HRES.out];unfold applyM;rw [ht,hcr];rfl)
   go_wp2_with fail
   all_goals
    go_ret2
    exact ⟨_,by rw [HE.out];rfl,by rw [HE.out];exact Owr.nil _ _ _ _ _,HB2.out⟩
  | true =>
   have HT:=pH ((Zt.pz39 Y).1 ht)
   have HCR:=pH ((Zt.rightC_iff Y).1 hcr)
   have HE:Hid (res=(match applyL PS Y.dir lessM (l.map enOf) (ls.map chOf) with|none=>([],10)|some t'=>if t'.length≤5000 then (t',0) else ([],2))):=pH (by
    rw [HRES.out];unfold applyM;rw [ht,hcr];simp only [Bool.and_self,if_true];cases applyL PS Y.dir lessM (l.map enOf) (ls.map chOf) <;> rfl)
   clear ht hcr
   have HM2:Hid (NdMap (w2.alloc (.map #[] 0)) w2.heap.size 0 (fun _=>none)):=pH (NdMap.made w2)
   have HB3:Hid (Below w.heap.size w (w2.alloc (.map #[] 0))):=pH (HB2.out.alloc HB2.out.size _)
   obtain ⟨bm,hbm⟩:∃ bm,bm=w2.heap.size:=⟨_,rfl⟩
   have HBM:Hid (w.heap.size≤bm):=pH (by rw [hbm];exact HB2.out.size)
   rw [← hbm] at HM2
   go_wp2
   rw [← hbm]
   clear hbm
   generalize w2.alloc (.map #[] 0)=w3 at HM2 HB3 ⊢
   clear hmm
   have HD:Hid ((l.map enOf).Pairwise fun a b=>a.1≠b.1):=pH (HT.out.srt.s.imp fun {a b} h e=>by
    have h:cmpM a.1 b.1<0:=h
    rw [e,Zt.cmpM_refl] at h;omega)
   have h49:=Tryz.underlying32
   have h31:=Tryz.underlying28
   have h33:=Tryz.underlying57
   go_loopg [27] (l.length + 1) (fun g v wr=>∃ i:Nat,v=.int .i64 i∧l.length<g + i∧Hid (i≤l.length)∧Hid (NdMap wr bm i (getL ((l.map enOf).take i)))∧Hid (Below w.heap.size w wr))
   case atStart=>exact ⟨0,rfl,by omega,pH (by omega),pH (by rw [List.take_zero];exact HM2.out),HB3⟩
   case round =>
    obtain ⟨i,rfl,hgi,HI,HM,HB⟩:=hrel
    by_cases hi:i<l.length
    ·cases gk with
     | zero=>omega
     | succ g1 =>
      obtain ⟨ad,rfl,hat⟩:=e_at HR.out i hi
      have HAT:=pH (hat.below HB.out)
      clear hat
      have HEF:=pH (fits_get HF.out (List.mem_map_of_mem (f:=enOf) (List.getElem_mem hi)))
      have hst:=getL_step HD.out i (by simpa using hi)
      rw [List.getElem_map] at hst
      obtain ⟨e,hee⟩:∃ e,e=enOf l[i]:=⟨_,rfl⟩
      rw [← hee] at HAT HEF hst
      have HST:=pH hst
      clear hst hee
      have HLL:=HL.out
      go_wp2_with (first|((with_reducible refine pz10 (N:=30) rfl ?_);refine pz12 rfl 32 _ rfl _ rfl (eCells e) _ HAT.out h49 rfl rfl ?_)|((with_reducible refine pz10 (N:=8) rfl ?_);refine pz24 rfl (N:=8) rfl (cs:=enZero) (t:=32) ?hr ?_;(case hr=>first|(go_simp;done)|(go_simp;rfl));intro g hg w4 hb2 hbl2;have HGE:Hid (w.heap.size≤g):=pH (by rw [hg];exact HB.out.size);have HGW:Hid (wr.heap.size≤g):=pH (by rw [hg];exact Nat.le_refl _);have HB4:=pH hb2;have HBL4:=pH hbl2;clear hg hb2 hbl2)|((with_reducible refine pz28 (t:=32) (p:=8) rfl ?_);refine pz22 rfl rfl 32 _ _ rfl g (eCells e).toArray rfl rfl 32 enZero HB4.out rfl rfl (eCells_all _) ?_;intro w5 hb3 hg3;have q0:=(pz26 hb3) 0 _ rfl;simp only [Addr.add_mid,Nat.zero_add] at q0;have HN5:Hid (LiesAt w5 ⟨g,1,none⟩ (pz18 e.2)):=pH (fun j v hv=>(by have:=(pz26 hb3) (1 + j) v (by rw [Nat.add_comm];exact hv);rw [Addr.add_mid,Nat.zero_add] at this;rw [Addr.add_mid];exact this));have HBW5:Hid (Below wr.heap.size wr w5):=pH (HBL4.out.grown hg3 HBL4.out.size (fun j hj=>by cases hj;exact HGW.out));have HB5:Hid (Below w.heap.size w w5):=pH (pbt HB.out HBW5.out);clear hb3 hg3)|((with_reducible refine pz10 (N:=35) rfl ?_);refine pz12 rfl 28 _ rfl _ rfl (pz18 e.2) _ HN5.out h31 rfl rfl ?_)|(at_mapUpdate;refine wpList_nd_up rfl rfl _ _ _ rfl bm i _ rfl (HM.out.ext HBW5.out) (by have:=HL.out;omega) e.1 e.2 rfl rfl (by have:=HEF.out.1;omega) _ HST.out ?_;intro w6 hm6 hg6;have HM6:=pH hm6;have HB6:Hid (Below w.heap.size w w6):=pH (HB5.out.grown hg6 HB5.out.size (fun j hj=>by cases hj;exact HBM.out));clear hm6 hg6 q0))
      have HII:Hid (i + 1≤l.length):=pH hi
      go_roundg g1
      case measure=>omega
      case rel=>exact ⟨i + 1,by go_num,by omega,HII,HM6,HB6⟩
    ·have he : i=l.length:=by have:=HI.out;omega
     subst he
     have HMM:Hid (NdMap wr bm l.length (getL (l.map enOf))):=pH (by have:=HM.out;rwa [List.take_of_length_le (by simp)] at this)
     clear HM HB3 HM2 HI hgi hi
     go_wp2_with fail
     obtain ⟨f0,hf0⟩:∃ f0,f0=getL (l.map enOf):=⟨_,rfl⟩
     rw [← hf0] at HMM
     have HF0:=pH hf0
     clear hf0
     have HLN:=HL.out
     go_loopg [39] (ls.length + 1) (fun g v wr=>∃ i:Nat,v=.int .i64 i∧ls.length<g + i∧Hid (i≤ls.length)∧Hid (NdMap wr bm l.length (((ls.map chOf).take i).foldl takeF f0))∧Hid (Below w.heap.size w wr))
     case atStart=>exact ⟨0,rfl,by omega,pH (by omega),pH (by rw [List.take_zero];exact HMM.out),HB⟩
     case round =>
      obtain ⟨i,rfl,hgi,HI,HM,HB⟩:=hrel
      by_cases hi:i<ls.length
      ·cases gk with
       | zero=>omega
       | succ g1 =>
        obtain ⟨ad,rfl,hat⟩:=c_at HR2.out i hi
        have HAT:=pH (hat.below HB.out)
        clear hat
        have HEF:=pH (lyr_get HF2.out (List.mem_map_of_mem (f:=chOf) (List.getElem_mem hi)))
        have hst:((ls.map chOf).take (i + 1)).foldl takeF f0=takeF (((ls.map chOf).take i).foldl takeF f0) (chOf ls[i]):=by
         rw [List.take_succ_eq_append_getElem (by simpa using hi),List.foldl_append,List.getElem_map];rfl
        obtain ⟨e,hee⟩:∃ e,e=chOf ls[i]:=⟨_,rfl⟩
        rw [← hee] at HAT HEF hst
        have HST:=pH hst
        clear hst hee
        have HLL:=HL2.out
        go_wp2_with (first|((with_reducible refine pz10 (N:=42) rfl ?_);refine pz12 rfl 57 _ rfl _ rfl (pz13 e) _ HAT.out h33 rfl rfl ?_)|((with_reducible refine pz10 (N:=10) rfl ?_);refine pz24 rfl (N:=10) rfl (cs:=chZero) (t:=57) ?hr ?_;(case hr=>first|(go_simp;done)|(go_simp;rfl));intro g hg w4 hb2 hbl2;have HGE:Hid (w.heap.size≤g):=pH (by rw [hg];exact HB.out.size);have HGW:Hid (wr.heap.size≤g):=pH (by rw [hg];exact Nat.le_refl _);have HB4:=pH hb2;have HBL4:=pH hbl2;clear hg hb2 hbl2)|((with_reducible refine pz28 (t:=57) (p:=10) rfl ?_);refine pz22 rfl rfl 57 _ _ rfl g (pz13 e).toArray rfl rfl 57 chZero HB4.out rfl rfl (chCells_all _) ?_;intro w5 hb3 hg3;have HB6:=pH hb3;have q1:=(pz26 hb3) 1 _ rfl;simp only [Addr.add_mid,Nat.zero_add] at q1;have HBW5:Hid (Below wr.heap.size wr w5):=pH (HBL4.out.grown hg3 HBL4.out.size (fun j hj=>by cases hj;exact HGW.out));have HB5:Hid (Below w.heap.size w w5):=pH (pbt HB.out HBW5.out);clear hb3 hg3)|((with_reducible refine pz10 (N:=44) rfl ?_);refine pz12 rfl 57 _ rfl _ rfl (pz13 e) _ (pz26 HB6.out) h33 rfl rfl ?_))
        refine (take_calls w5 bm l.length _ (HM.out.ext HBW5.out) e (by have:=HEF.out.1;omega)).mono ?_
        rintro x w6 ⟨rfl,hm6,hg6⟩
        have HM6:Hid (NdMap w6 bm l.length (((ls.map chOf).take (i + 1)).foldl takeF f0)):=pH (by rw [HST.out];exact hm6)
        have HB7:Hid (Below w.heap.size w w6):=pH (HB5.out.grown hg6 HB5.out.size (fun j hj=>by cases hj;exact HBM.out))
        clear hm6 hg6
        have HII:Hid (i + 1≤ls.length):=pH hi
        go_wp2_with fail
        go_roundg g1
        case measure=>omega
        case rel=>exact ⟨i + 1,by go_num,by omega,HII,HM6,HB7⟩
      ·have he:i=ls.length:=by have:=HI.out;omega
       subst he
       have HMT:Hid (NdMap wr bm l.length ((ls.map chOf).foldl takeF f0)):=pH (by have:=HM.out;rwa [List.take_of_length_le (by simp)] at this)
       clear HM HMM HI hgi hi
       go_wp2_with fail
       obtain ⟨G0,hg0⟩:∃ G0,G0=(ls.map chOf).foldl takeF f0:=⟨_,rfl⟩
       rw [← hg0] at HMT
       have HG0:Hid (∀ q,PS.V q→G0 q=if tkL PS (ls.map chOf) q=true then none else getL (l.map enOf) q):=pH (fun q _=>by rw [hg0,foldl_take,HF0.out])
       have HGV:Hid (∀ x,(G0 x).isSome=true→PS.V x):=pH (fun x hx=>by
        rw [hg0,foldl_take,HF0.out] at hx
        split at hx
        ·cases hx
        ·obtain ⟨n,hn⟩:=Option.isSome_iff_exists.1 hx
         exact HT.out.srt.v _ (Zt.pz27 hn))
       have HUN:=fun {o} hp=>Zt.applyL_unique (dir:=Y.dir) Zt.lessM_iff HCR.out.layR HT.out.srt HT.out.wf HG0.out (o:=o) hp
       have HUN:=pH (fun o=>HUN (o:=o))
       clear hg0
       have HLM:=HL2.out
       go_loopg [49] (ls.length + 1) (fun gg v wr=>∃ (i:Nat) (g:Str→Option Nd),v=.int .i64 i∧ls.length<gg + i∧Hid (i≤ls.length)∧Hid (NdMap wr bm (l.length + i) g) ∧
        Hid (∀ o,Puts PS Y.dir (puts ((ls.map chOf).drop i)) g o→Puts PS Y.dir (puts (ls.map chOf)) G0 o)∧Hid (∀ x,(g x).isSome=true→PS.V x)∧Hid (Below w.heap.size w wr))
       case atStart=>exact ⟨0,G0,rfl,by omega,pH (by omega),HMT,pH (fun o h=>h),HGV,HB⟩
       case round =>
        obtain ⟨i,gf,rfl,hgi,HI,HM,HPT,HV,HB⟩:=hrel
        by_cases hi:i<ls.length
        ·cases gk with
         | zero=>omega
         | succ g1 =>
          obtain ⟨ad,rfl,hat⟩:=c_at HR2.out i hi
          have HAT:=pH (hat.below HB.out)
          clear hat
          have HEF:=pH (lyr_get HF2.out (List.mem_map_of_mem (f:=chOf) (List.getElem_mem hi)))
          have hdr:(ls.map chOf).drop i=chOf ls[i] :: (ls.map chOf).drop (i + 1):=by rw [List.drop_eq_getElem_cons (by simpa using hi)];simp
          have hmem:chOf ls[i] ∈ ls.map chOf:=List.mem_map_of_mem (f:=chOf) (List.getElem_mem hi)
          obtain ⟨e,hee⟩:∃ e,e=chOf ls[i]:=⟨_,rfl⟩
          rw [← hee] at HAT HEF hdr hmem
          have HDR:=pH hdr
          have HMEM:=pH hmem
          clear hdr hee hmem
          have HLL:=HL2.out
          have HII:Hid (i + 1≤ls.length):=pH hi
          cases hop:(e.op == 0) with
          | false =>
           have hop1:¬ e.op=0:=by simpa using hop
           have HPT2:Hid (∀ o,Puts PS Y.dir (puts ((ls.map chOf).drop (i + 1))) gf o→Puts PS Y.dir (puts (ls.map chOf)) G0 o):=pH (fun o h=>HPT.out o (by rw [HDR.out];unfold puts;rw [if_neg hop1];exact h))
           go_wp2_with (first|((with_reducible refine pz10 (N:=52) rfl ?_);refine pz12 rfl 57 _ rfl _ rfl (pz13 e) _ HAT.out h33 rfl rfl ?_)|((with_reducible refine pz10 (N:=12) rfl ?_);refine pz24 rfl (N:=12) rfl (cs:=chZero) (t:=57) ?hr ?_;(case hr=>first|(go_simp;done)|(go_simp;rfl));intro g hg w4 hb2 hbl2;have HGE:Hid (w.heap.size≤g):=pH (by rw [hg];exact HB.out.size);have HGW:Hid (wr.heap.size≤g):=pH (by rw [hg];exact Nat.le_refl _);have HB4:=pH hb2;have HBL4:=pH hbl2;clear hg hb2 hbl2)|((with_reducible refine pz28 (t:=57) (p:=12) rfl ?_);refine pz22 rfl rfl 57 _ _ rfl g (pz13 e).toArray rfl rfl 57 chZero HB4.out rfl rfl (chCells_all _) ?_;intro w5 hb3 hg3;have HB6:=pH hb3;have q1:=(pz26 hb3) 1 _ rfl;simp only [Addr.add_mid,Nat.zero_add] at q1;have HBW5:Hid (Below wr.heap.size wr w5):=pH (HBL4.out.grown hg3 HBL4.out.size (fun j hj=>by cases hj;exact HGW.out));have HB5:Hid (Below w.heap.size w w5):=pH (pbt HB.out HBW5.out);clear hb3 hg3)|((with_reducible refine pz10 (N:=58) rfl ?_);refine pz12 rfl 57 _ rfl _ rfl (pz13 e) _ (pz26 HB6.out) h33 rfl rfl ?_))
           go_roundg g1
           case measure=>omega
           case rel=>exact ⟨i + 1,gf,by go_num,by omega,HII,pH ((HM.out.ext HBW5.out).mono (by omega)),HPT2,HV,HB5⟩
          | true =>
           have hop1:e.op=0:=by simpa using hop
           go_wp2_with (first|((with_reducible refine pz10 (N:=52) rfl ?_);refine pz12 rfl 57 _ rfl _ rfl (pz13 e) _ HAT.out h33 rfl rfl ?_)|((with_reducible refine pz10 (N:=12) rfl ?_);refine pz24 rfl (N:=12) rfl (cs:=chZero) (t:=57) ?hr ?_;(case hr=>first|(go_simp;done)|(go_simp;rfl));intro g hg w4 hb2 hbl2;have HGE:Hid (w.heap.size≤g):=pH (by rw [hg];exact HB.out.size);have HGW:Hid (wr.heap.size≤g):=pH (by rw [hg];exact Nat.le_refl _);have HB4:=pH hb2;have HBL4:=pH hbl2;clear hg hb2 hbl2)|((with_reducible refine pz28 (t:=57) (p:=12) rfl ?_);refine pz22 rfl rfl 57 _ _ rfl g (pz13 e).toArray rfl rfl 57 chZero HB4.out rfl rfl (chCells_all _) ?_;intro w5 hb3 hg3;have HB6:=pH hb3;have q1:=(pz26 hb3) 1 _ rfl;simp only [Addr.add_mid,Nat.zero_add] at q1;have HBW5:Hid (Below wr.heap.size wr w5):=pH (HBL4.out.grown hg3 HBL4.out.size (fun j hj=>by cases hj;exact HGW.out));have HB5:Hid (Below w.heap.size w w5):=pH (pbt HB.out HBW5.out);clear hb3 hg3)|((with_reducible refine pz10 (N:=58) rfl ?_);refine pz12 rfl 57 _ rfl _ rfl (pz13 e) _ (pz26 HB6.out) h33 rfl rfl ?_))
           refine (put_calls w5 bm (l.length + i) gf (HM.out.ext HBW5.out) (by have:=HL.out;omega) e (by have:=HEF.out.1;omega)).mono ?_
           rintro x w6 ⟨rfl,hm6,hg6⟩
           have HB7:Hid (Below w.heap.size w w6):=pH (HB5.out.grown hg6 HB5.out.size (fun j hj=>by cases hj;exact HBM.out))
           cases hfo:folderF gf (parM e.path) with
           | false =>
            have hp:=HPT.out none (by rw [HDR.out];unfold puts;rw [if_pos hop1];exact Puts.no (fun h=>by have:=(folderF_iff gf _).2 h;rw [show PS.par e.path=parM e.path from rfl,hfo] at this;cases this))
            have HE2:Hid (res=([],10)):=pH (by
             rcases HUN.out none hp with ⟨_,ha⟩|⟨_,_,h,_⟩
             ·rw [HE.out,ha]
             ·cases h)
            clear hm6 hg6 hp
            go_wp2_with fail
            all_goals
             go_ret2
             exact ⟨_,by rw [HE2.out];rfl,by rw [HE2.out];exact Owr.nil _ _ _ _ _,HB7.out⟩
           | true =>
            have HM6:Hid (NdMap w6 bm (l.length + (i + 1)) (putF gf e)):=pH (by rw [hfo,if_pos rfl] at hm6;exact hm6)
            have HPT2:Hid (∀ o,Puts PS Y.dir (puts ((ls.map chOf).drop (i + 1))) (putF gf e) o→Puts PS Y.dir (puts (ls.map chOf)) G0 o):=pH (fun o h=>HPT.out o (by
             rw [HDR.out];unfold puts;rw [if_pos hop1]
             exact Puts.step ((folderF_iff gf _).1 hfo) (by rw [putF_eq];exact h)))
            have HV2:=pH (putF_V HV.out (HCR.out.layR.put e HMEM.out hop1).1)
            clear hm6 hg6
            go_wp2_with fail
            go_roundg g1
            case measure=>omega
            case rel=>exact ⟨i + 1,putF gf e,by go_num,by omega,HII,HM6,HPT2,HV2,HB7⟩
        ·have he:i=ls.length:=by have:=HI.out;omega
         subst he
         have hp:=HPT.out (some gf) (by rw [List.drop_eq_nil_of_le (by simp)];exact Puts.nil gf)
         obtain ⟨t',HAP,HSR,HQ,HUQ⟩:∃ t',Hid (applyL PS Y.dir lessM (l.map enOf) (ls.map chOf)=some t')∧Hid (Srt PS t')∧Hid (∀ q,PS.V q→gf q=getL t' q)∧Hid (∀ out,Srt PS out→(∀ q,PS.V q→getL out q=gf q)→out=t'):=by
          rcases HUN.out _ hp with ⟨h,_⟩|⟨g',t',hg',h1,h2,h3,h4⟩
          ·cases h
          ·cases hg';exact ⟨t',h1,h2,h3,h4⟩
         have HE2:Hid (res=if t'.length≤5000 then (t',0) else ([],2)):=pH (by rw [HE.out,HAP.out])
         clear hp HPT HUN HG0
         obtain ⟨D,hown,hat⟩:=HM.out
         have hsz:=nd_size hown hat (t'.map (·.1)) (keys_nodup HSR.out) (fun x=>keys_mem HSR.out HQ.out HV.out x)
         rw [List.length_map] at hsz
         have HOWN:=pH hown
         clear hown hat
         by_cases h5:t'.length≤5000
         ·have hd5:(5000:Int)<(Maps.size D:Int)↔False:=by constructor <;> intro h <;> first|omega|cases h
          have HE3:Hid (res=(t',0)):=pH (by rw [HE2.out,if_pos h5])
          have hd6:decide ((5000:Int)<(Maps.size D:Int))=false:=by simp;omega
          go_wp2_with (first|(at_len;refine wpList_len_own _ rfl _ 83 rfl 9 28 Tryz.underlying83 Rn bm _ D rfl HOWN.out ?_))
          refine (keys_fn_calls wr bm).mono ?_
          rintro x w4 ⟨rfl,hw4⟩
          have HB4:Hid (Below wr.heap.size wr w4):=pH (by rw [hw4];exact pbn _ _)
          have HC4:Hid (w4.cell? ⟨wr.heap.size,0,none⟩=some (.map (some bm))):=pH (by rw [hw4];exact YtjghikkboekonaaGreatDoor.cell_new _ _ _ _ rfl)
          have HBW4:Hid (Below w.heap.size w w4):=pH (pbt HB.out HB4.out)
          clear hw4
          go_wp2_with fail
          refine (sorted_calls w4 (hG.ext HBW4.out) bm _ gf (HM.out.ext HB4.out) (by have:=HL.out;have:=HL2.out;omega) (fun x hx=>isM_short (HV.out x hx)) wr.heap.size HC4.out).mono ?_
          rintro x w5 ⟨v,ks,rfl,htx,hmem,hpw,hlen,hb5⟩
          have HTX:=pH htx
          have HMEM:=pH hmem
          have HPW:=pH hpw
          have HLEN:=pH hlen
          have HB5:Hid (Below w.heap.size w w5):=pH (pbt HBW4.out hb5)
          have HM5:Hid (NdMap w5 bm (l.length + ls.length) gf):=pH ((HM.out.ext HB4.out).ext hb5)
          clear htx hmem hpw hlen hb5 hd5 hd6
          obtain ⟨A9,c9,rfl,hcell⟩:=HTX.out
          have HCELL:=pH hcell
          clear hcell HTX
          obtain ⟨outs,houts⟩:∃ outs:List (Str×Nd),outs=ks.map fun k=>(k,(gf k).getD zeroN):=⟨_,rfl⟩
          have HOUT:Hid (outs=t'):=pH (by
           refine HUQ.out outs ⟨?_,?_⟩ ?_
           ·intro x hx
            rw [houts,List.mem_map] at hx
            obtain ⟨k,hk,rfl⟩:=hx
            exact HV.out k ((HMEM.out k).1 hk)
           ·rw [houts];exact List.pairwise_map.2 HPW.out
           ·intro q _
            rw [houts]
            exact getL_keys gf ks HMEM.out q)
          have HOL:Hid (outs.length=ks.length):=pH (by rw [houts];simp)
          have HOG:Hid (∀ i (h:i<ks.length),outs.take (i + 1)=outs.take i ++ [(ks[i],(gf ks[i]).getD zeroN)]):=pH (fun i h=>by
           rw [List.take_succ_eq_append_getElem (by rw [houts];simpa using h)]
           simp [houts])
          clear houts
          have HKL:Hid (ks.length≤2000000):=pH (by have:=HLEN.out;have:=HL.out;have:=HL2.out;omega)
          go_wp2_with fail
          obtain ⟨i0,hi,hz0,hz1,hz2⟩:=info_parts info_en
          have HI0:=pH hi
          have HZ0:=pH hz0
          have HZ1:=pH hz1
          have HZ2:=pH hz2
          clear hi hz0 hz1 hz2
          have hkl:=HKL.out
          go_loopg [13,70] (ks.length + 1) (fun gg v13 v70 wr=>∃ i:Nat,v70=.int .i64 i∧ks.length<gg + i∧Hid (i≤ks.length)∧Hid (Owr eCells 32 11 w5.heap.size wr v13 (outs.take i))∧Hid (Below w5.heap.size w5 wr))
          case atStart=>exact ⟨0,rfl,by omega,pH (by omega),pH (by rw [List.take_zero];exact Owr.nil _ _ _ _ _),pH (Below.refl _ _)⟩
          case round =>
           obtain ⟨i,rfl,hgi,HI,HO,HBr⟩:=hrel
           by_cases hi:i<ks.length
           ·cases gk with
            | zero=>omega
            | succ g1 =>
             obtain ⟨gb,rfl,hkc⟩:=HCELL.out i hi
             have hkc':=pz25 HBr.out hkc
             have hmk:(gf ks[i]).isSome=true:=(HMEM.out _).1 (List.getElem_mem hi)
             have hks:=isM_short (HV.out _ hmk)
             have hlk:=(HM5.out.ext HBr.out).look (s:=ks[i]) (by omega)
             have hog:=HOG.out i hi
             generalize ks[i]=k at hkc' hks hlk hog
             generalize (gf k).getD zeroN=m at hlk hog
             clear hkc hmk
             have HOGI:=pH hog
             clear hog
             simp only [ndVal,pz18] at hlk
             have hil:(outs.take i).length≤2000000:=by rw [List.length_take];omega
             have HIL:=pH hil
             clear hil
             go_wp2_with (at_builtin;refine pz33 rfl _ _ 22 rfl w5.heap.size 32 11 120 i0 (.agg enZero) Tryz.underlying22 HI0.out HZ0.out HZ1.out HZ2.out rfl (by decide) eCells_len eCells_one _ (outs.take i) rfl (HO.out.alloc _) (k,m) _ 1 rfl ?c1 ?c2 ?c3 ?c4 ?_)
             case c1=>intro j u hu;exact YtjghikkboekonaaGreatDoor.cell_new_at (cs:=eCells (k,m)) rfl hu
             case c2=>have:=HIL.out;unfold maxLen;omega
             case c3=>have:=HIL.out;omega
             case c4=>have:=HBr.out.size;simp;omega
             intro v' w7 ho' hg'
             have HO7:Hid (Owr eCells 32 11 w5.heap.size w7 v' (outs.take (i + 1))):=pH (by rw [HOGI.out];exact ho')
             have HB7:Hid (Below w5.heap.size w5 w7):=pH ((HBr.out.alloc HBr.out.size _).grown hg' (by have:=HBr.out.size;simp;omega) (fun j hj=>(World.ownsRow.lt HO.out j hj).1))
             have HII:Hid (i + 1≤ks.length):=pH hi
             clear ho' hg'
             go_wp2_with fail
             go_roundg g1
             case measure=>omega
             case rel=>exact ⟨i + 1,by go_num,by omega,HII,HO7,HB7⟩
           ·have he:i=ks.length:=by have:=HI.out;omega
            subst he
            go_wp2_with fail
            go_ret2
            refine ⟨_,by rw [HE3.out];rfl,?_,pbt HB5.out HBr.out⟩
            rw [HE3.out,← HOUT.out]
            have:=HO.out
            rw [List.take_of_length_le (by rw [HOL.out];exact Nat.le_refl _)] at this
            exact own_weaken this HB5.out.size
         ·have HE3:Hid (res=([],2)):=pH (by rw [HE2.out,if_neg h5])
          have hd6:decide ((5000:Int)<(Maps.size D:Int))=true:=by simp;omega
          go_wp2_with (first|(at_len;refine wpList_len_own _ rfl _ 83 rfl 9 28 Tryz.underlying83 Rn bm _ D rfl HOWN.out ?_))
          all_goals
           go_ret2
           exact ⟨_,by rw [HE3.out];rfl,by rw [HE3.out];exact Owr.nil _ _ _ _ _,HB.out⟩
end Go.Proofs.Zq
end
section
namespace Go.Proofs.Zq
open Go.RowKit Go.WideMaps Go.Maps Go.Proofs.YtjghikkboekonaaGreatDoor Go.Proofs.Zw.PrintWords Go.Proofs.Zw.PrintLast Go.Proofs.Zw.PrintMore
open Go.Proofs.Zt (applyM)
theorem en_R {w:World} {base:Nat} {v:Value} {l:List (Str×Nd)} (h:Owr eCells 32 11 base w v l):Kd.R k32 32 w base (fun _=>True) v (l.map ofEn) :=
 R_of_own (d:=k32) (f:=enOf) (fun w base ok x=>by rw [← eCells_en];exact k32_mkM w base ok x) eCells_len (by rw [ens_back];exact h)
def lyrFits' (l:List S57):Prop:=lyrFits (l.map chOf)=true∧l.length≤1000000
instance (l:List S57):Decidable (lyrFits' l):=by unfold lyrFits';infer_instance
end Go.Proofs.Zq
end
section
namespace Go.Proofs.Zq
open Go.RowKit Go.Proofs.YtjghikkboekonaaGreatDoor
open Go.Proofs.Zt (applyM rightT Ch)
def dN:Nd:={ zeroN with kind:=1 }
end Go.Proofs.Zq
end
section
namespace Go.Proofs.Zq
open Go.RowKit Go.WideMaps Go.Maps Go.Proofs.YtjghikkboekonaaGreatDoor Go.Proofs.Zw.PrintWords Go.Proofs.Zw.PrintLast Go.Proofs.Zw.PrintMore
open Go.Proofs.Zt (applyM rightT Ch)
theorem chCells_of (x:S57):pz13 (chOf x)=[.string x.f0,.int .i64 x.f1,.int .i64 x.f2.f0,.int .i64 x.f2.f1,.int .i64 x.f2.f2,.int .i64 x.f2.f3,.int .i64 x.f2.f4,.string x.f2.f5,.string x.f2.f6,.int .i64 x.f2.f7,.int .i64 x.f2.f8,.string x.f2.f9]:=by
 obtain ⟨p,o,x⟩:=x
 obtain ⟨a1,a2,a3,a4,a5,a6,a7,a8,a9,a10⟩:=x
 simp [pz13,pz18,chOf,ndOf,B_L]
theorem chCells_len (e:Ch Str Nd):(pz13 e).length=12:=rfl
theorem ch_C {w:World} {A:Option Addr} {xs:List S57} (h:RowAt pz13 12 w A (xs.map chOf)) (hn:xs.length≤9223372036854775807):Kd.C k57 w A xs.length xs :=
 C_of_row (d:=k57) (fun w x=>by rw [chCells_of];exact k57_mk w x) h hn
theorem row_of_block {α:Type} {enc:α→List Value} {k:Nat} (hk:∀ x,(enc x).length=k) {w:World} {g:Nat} {T:TypeId} {l:List α} (hl:l.length≤maxLen) (h:w.heap[g]?=some (.cells (flat enc l).toArray T (0,0))):RowAt enc k w (some ⟨g,0,none⟩) l:=by
 have hf:(flat enc l).length=l.length * k:=flat_length hk l
 have:Owr enc T k 0 w (.slice (some ⟨g,0,none⟩) l.length l.length) l:=⟨hf,.inr ⟨g,l.length,_,rfl,Nat.zero_le _,h,Nat.le_refl _,hl,by simpa using hf,by rw [List.toList_toArray,← hf,List.take_length]⟩⟩
 exact this.row hk
section
variable {P:Program} {ops:Array Oper} {rest:List Oper} {o:Oper} {a:Act} {Q:Exit→Act→World→Prop} {W:World}
theorem pz34 (hgd:o.guard=none) {N:Tmp} (_hd:o.dst=some N) {cs:Array Value} {t:TypeId} {n:Nat}
  (hrun:(execOp a.eval o).run P W=.ok (.value (.slice (some ⟨W.heap.size,0,none⟩) n n)) (W.alloc (.cells cs t (0,0))))
  (h:∀ g,g=W.heap.size→∀ w1,w1.heap[g]?=some (.cells cs t (0,0))→Below W.heap.size W w1→wpList P ops Q rest (a.put o.dst (.slice (some ⟨g,0,none⟩) n n)) w1):wpList P ops Q (o :: rest) a W :=
 Kd.event_run hgd hrun (h _ rfl _ (Go.Proofs.Zw.PrintWords.blk_new W _) (Go.Proofs.Zw.PrintWords.pz3 (Below.refl _ _) _))
theorem build_event (hgd:o.guard=none) {N:Tmp} (_hd:o.dst=some N) (t:TypeId) (parts:Array (Nat×Operand)) (ho:o.op=.build t parts) (cs:Array Value) (hb:P.built t (parts.map fun (i,x)=>(i,a.eval x)).toList=some cs)
  (h:wpList P ops Q rest (a.put o.dst (.agg cs)) W):wpList P ops Q (o :: rest) a W :=
 wpList_build hgd t parts ho (by rw [hb];rfl) (by rw [hb];exact h)
end
section
variable {P:Program} {ops:Array Oper} {rest:List Oper} {o:Oper} {a:Act} {Q:Exit→Act→World→Prop} {W:World}
end
def m17 (k m:Int):Nd:={ zeroN with kind:=k,mode:=m }
end Go.Proofs.Zq
end
section
namespace Go.Proofs.Zq
open Go.ChangeShapes Go.WideShapes Go.ChangeAt Go.RowKit Go.WideElems Go.Proofs.YtjghikkboekonaaGreatDoor Go.Proofs.Zw.PrintWords
section
variable {H:Type} {enc:TypeId×Value→H}
theorem w_all {P:Program} {e:TypeId}:∀ {l:List (DataW H)} {d:DataW H},d ∈ l→∀ n ∈ d.weights P e,n ∈ DataW.weightsAll P e l
 | x :: r,d,hd,n,hn=>by
  simp only [DataW.weightsAll,List.mem_append]
  rcases List.mem_cons.1 hd with h|h
  ·rw [← h];exact .inl hn
  ·exact .inr (w_all h n hn)
theorem w_slice {P:Program} {t e:TypeId} {elems spare:List (DataW H)} (hu:P.underlying t=some (.slice e)) {d:DataW H} (hd:d ∈ elems) {n:Nat} (hn:n ∈ d.weights P e):n ∈ (DataW.slice elems spare).weights P t:=by
 simp only [DataW.weights,hu]
 exact List.mem_cons_of_mem _ (List.mem_append_left _ (w_all hd n hn))
theorem w_len {P:Program} {t e:TypeId} {elems spare:List (DataW H)} (hu:P.underlying t=some (.slice e)):(elems.length + spare.length) * P.bytesOf e ∈ (DataW.slice elems spare).weights P t:=by
 simp [DataW.weights,hu]
theorem w_field {P:Program} {t:TypeId} {fs:Array Field} {parts:List (DataW H)} (hu:P.underlying t=some (.struct fs)) {j:Nat} {f:Field} (hf:fs[j]?=some f) {d:DataW H} (hd:parts[j]?=some d) {n:Nat} (hn:n ∈ d.weights P f.type):n ∈ (DataW.agg parts).weights P t:=by
 simp only [DataW.weights,hu]
 refine DataW.weights_mem_each (t:=f.type) (j:=j) ?_ hd n hn
 rw [List.getElem?_map,Array.getElem?_toList,hf];rfl
theorem w_str {P:Program} {t:TypeId} (l:List UInt8):l.length ∈ (DataW.lit (.string l):DataW H).weights P t:=by simp [DataW.weights]
variable {W:World} {base:Nat} {spare:Nat→Bool} {held:Bool}
theorem str_open {fuel:Nat} {cs:List Value} {y:DataW H×List MemPlace} (h:DataW.trod enc Tryz.prog W base spare held fuel 9 cs=some y):∃ s:ByteArray,cs=[.string s]∧y.1=.lit (.string s.data.toList):=by
 obtain ⟨s,h1,h2,_⟩:=DataW.trod_string Tryz.underlying9 h
 exact ⟨s,h1,by rw [h2]⟩
theorem int_open {fuel:Nat} {cs:List Value} {y:DataW H×List MemPlace} (h:DataW.trod enc Tryz.prog W base spare held fuel 3 cs=some y):∃ n:Int,cs=[.int .i64 n]:=by
 obtain ⟨n,h1,_⟩:=DataW.trod_int Tryz.underlying3 h
 exact ⟨n,h1⟩
theorem b_len (s:ByteArray):s.data.toList.length=s.size:=by rw [Array.length_toList];rfl
set_option maxRecDepth 100000 in
theorem nd_open {fuel:Nat} {cs:List Value} {y:DataW H×List MemPlace} (h:DataW.trod enc Tryz.prog W base spare held fuel 28 cs=some y) :
  ∃ n:S28,cs=pz18 (ndOf n)∧∀ x,(x=n.f5.size∨x=n.f6.size∨x=n.f9.size)→x ∈ y.1.weights Tryz.prog 28:=by
 obtain ⟨xs,m,_,hx,hl,hlen,hf⟩:=DataW.trod_struct Tryz.underlying28 h
 have hC:cs.length=10:=hl.trans (by kernel_rfl)
 have hI:Tryz.prog.cellsOf 3=1:=by kernel_rfl
 have hS:Tryz.prog.cellsOf 9=1:=by kernel_rfl
 have hxs:xs.length=10:=hlen
 match cs,hC with
 | [c0,c1,c2,c3,c4,c5,c6,c7,c8,c9],_ =>
  match xs,hxs with
  | [y0,y1,y2,y3,y4,y5,y6,y7,y8,y9],_ =>
   have f0:DataW.trod enc Tryz.prog W base spare held m 3 ((List.drop 0 [c0,c1,c2,c3,c4,c5,c6,c7,c8,c9]).take (Tryz.prog.cellsOf 3))=some y0:=hf 0 _ rfl
   have f1:DataW.trod enc Tryz.prog W base spare held m 3 ((List.drop 1 [c0,c1,c2,c3,c4,c5,c6,c7,c8,c9]).take (Tryz.prog.cellsOf 3))=some y1:=hf 1 _ rfl
   have f2:DataW.trod enc Tryz.prog W base spare held m 3 ((List.drop 2 [c0,c1,c2,c3,c4,c5,c6,c7,c8,c9]).take (Tryz.prog.cellsOf 3))=some y2:=hf 2 _ rfl
   have f3:DataW.trod enc Tryz.prog W base spare held m 3 ((List.drop 3 [c0,c1,c2,c3,c4,c5,c6,c7,c8,c9]).take (Tryz.prog.cellsOf 3))=some y3:=hf 3 _ rfl
   have f4:DataW.trod enc Tryz.prog W base spare held m 3 ((List.drop 4 [c0,c1,c2,c3,c4,c5,c6,c7,c8,c9]).take (Tryz.prog.cellsOf 3))=some y4:=hf 4 _ rfl
   have f5:DataW.trod enc Tryz.prog W base spare held m 9 ((List.drop 5 [c0,c1,c2,c3,c4,c5,c6,c7,c8,c9]).take (Tryz.prog.cellsOf 9))=some y5:=hf 5 _ rfl
   have f6:DataW.trod enc Tryz.prog W base spare held m 9 ((List.drop 6 [c0,c1,c2,c3,c4,c5,c6,c7,c8,c9]).take (Tryz.prog.cellsOf 9))=some y6:=hf 6 _ rfl
   have f7:DataW.trod enc Tryz.prog W base spare held m 3 ((List.drop 7 [c0,c1,c2,c3,c4,c5,c6,c7,c8,c9]).take (Tryz.prog.cellsOf 3))=some y7:=hf 7 _ rfl
   have f8:DataW.trod enc Tryz.prog W base spare held m 3 ((List.drop 8 [c0,c1,c2,c3,c4,c5,c6,c7,c8,c9]).take (Tryz.prog.cellsOf 3))=some y8:=hf 8 _ rfl
   have f9:DataW.trod enc Tryz.prog W base spare held m 9 ((List.drop 9 [c0,c1,c2,c3,c4,c5,c6,c7,c8,c9]).take (Tryz.prog.cellsOf 9))=some y9:=hf 9 _ rfl
   rw [hI] at f0 f1 f2 f3 f4 f7 f8
   rw [hS] at f5 f6 f9
   obtain ⟨n0,e0⟩:=int_open f0
   obtain ⟨n1,e1⟩:=int_open f1
   obtain ⟨n2,e2⟩:=int_open f2
   obtain ⟨n3,e3⟩:=int_open f3
   obtain ⟨n4,e4⟩:=int_open f4
   obtain ⟨s5,e5,d5⟩:=str_open f5
   obtain ⟨s6,e6,d6⟩:=str_open f6
   obtain ⟨n7,e7⟩:=int_open f7
   obtain ⟨n8,e8⟩:=int_open f8
   obtain ⟨s9,e9,d9⟩:=str_open f9
   simp only [List.drop_zero,List.drop_succ_cons,List.take_succ_cons,List.take_zero,List.cons.injEq,and_true] at e0 e1 e2 e3 e4 e5 e6 e7 e8 e9
   refine ⟨⟨n0,n1,n2,n3,n4,s5,s6,n7,n8,s9⟩,?_,?_⟩
   ·rw [e0,e1,e2,e3,e4,e5,e6,e7,e8,e9]
    simp [pz18,ndOf,B_L]
   ·rw [hx]
    intro x hx'
    rcases hx' with rfl|rfl|rfl
    ·exact w_field (j:=5) (d:=y5.1) Tryz.underlying28 rfl rfl (by rw [d5,← b_len];exact w_str _)
    ·exact w_field (j:=6) (d:=y6.1) Tryz.underlying28 rfl rfl (by rw [d6,← b_len];exact w_str _)
    ·exact w_field (j:=9) (d:=y9.1) Tryz.underlying28 rfl rfl (by rw [d9,← b_len];exact w_str _)
def chSz (e:S57) (x:Nat):Prop:=x=e.f0.size∨x=e.f2.f5.size∨x=e.f2.f6.size∨x=e.f2.f9.size
set_option maxRecDepth 100000 in
theorem ch_open {fuel:Nat} {cs:List Value} {y:DataW H×List MemPlace} (h:DataW.trod enc Tryz.prog W base spare held fuel 57 cs=some y) :
  ∃ e:S57,cs=pz13 (chOf e)∧∀ x,chSz e x→x ∈ y.1.weights Tryz.prog 57:=by
 obtain ⟨xs,m,_,hx,hl,hlen,hf⟩:=DataW.trod_struct Tryz.underlying57 h
 have hC:cs.length=12:=hl.trans (by kernel_rfl)
 have hN:Tryz.prog.cellsOf 28=10:=by kernel_rfl
 have hI:Tryz.prog.cellsOf 3=1:=by kernel_rfl
 have hS:Tryz.prog.cellsOf 9=1:=by kernel_rfl
 have hxs:xs.length=3:=hlen
 match cs,hC with
 | c0 :: c1 :: r,hr =>
  match xs,hxs with
  | [y0,y1,y2],_ =>
   have f0:DataW.trod enc Tryz.prog W base spare held m 9 ((List.drop 0 (c0 :: c1 :: r)).take (Tryz.prog.cellsOf 9))=some y0:=hf 0 _ rfl
   have f1:DataW.trod enc Tryz.prog W base spare held m 3 ((List.drop 1 (c0 :: c1 :: r)).take (Tryz.prog.cellsOf 3))=some y1:=hf 1 _ rfl
   have f2:DataW.trod enc Tryz.prog W base spare held m 28 ((List.drop 2 (c0 :: c1 :: r)).take (Tryz.prog.cellsOf 28))=some y2:=hf 2 _ rfl
   rw [hS] at f0
   rw [hI] at f1
   rw [hN] at f2
   obtain ⟨s0,e0,d0⟩:=str_open f0
   obtain ⟨i1,e1⟩:=int_open f1
   obtain ⟨n2,e2,d2⟩:=nd_open f2
   have hrl:r.length=10:=by simpa using hr
   have er:(List.drop 2 (c0 :: c1 :: r)).take 10=r:=by
    show r.take 10=r
    rw [List.take_of_length_le (by omega)]
   have e2':r=pz18 (ndOf n2):=er.symm.trans e2
   simp only [List.drop_zero,List.drop_succ_cons,List.take_succ_cons,List.take_zero,List.cons.injEq,and_true] at e0 e1
   refine ⟨⟨s0,i1,n2⟩,?_,?_⟩
   ·rw [e0,e1,e2']
    simp [pz13,chOf,B_L]
   ·rw [hx]
    intro x hx'
    rcases hx' with rfl|hx'
    ·exact w_field (j:=0) (d:=y0.1) Tryz.underlying57 rfl rfl (by rw [d0,← b_len];exact w_str _)
    ·exact w_field (j:=2) (d:=y2.1) Tryz.underlying57 rfl rfl (d2 x hx')
theorem row_open {α:Type} [Inhabited α] {t e k:Nat} {cells:α→List Value} {sz:α→Nat→Prop} (hu:Tryz.prog.underlying t=some (.slice e)) (hk:Tryz.prog.cellsOf e=k) (hk0:0<k) (hkl:∀ x,(cells x).length=k)
  (hel:∀ {fuel:Nat} {cs:List Value} {y:DataW H×List MemPlace},DataW.trod enc Tryz.prog W base spare held fuel e cs=some y→∃ x:α,cs=cells x∧∀ n,sz x n→n ∈ y.1.weights Tryz.prog e)
  {fuel:Nat} {cs:List Value} {y:DataW H×List MemPlace} (h:DataW.trod enc Tryz.prog W base spare held fuel t cs=some y) :
  ∃ (a:Option Addr) (l:List α) (cap:Nat),cs=[.slice a l.length cap]∧RowAt cells k W a l∧l.length≤cap∧cap≤maxLen∧(∀ x ∈ l,∀ n,sz x n→n ∈ y.1.weights Tryz.prog t)∧(l≠[]→∃ n ∈ y.1.weights Tryz.prog t,l.length * Tryz.prog.bytesOf e≤n):=by
 rcases Deep.open_slice hu h with ⟨h0,hy⟩|⟨a,len,cap,m,n,D,Pl,hcs,_,hl,hm,hmm,hx,hcell⟩
 ·exact ⟨none,[],0,h0,RowAt.nil _ _ _ _,Nat.le_refl _,Nat.zero_le _,fun x hx=>(List.not_mem_nil hx).elim,fun h=>absurd rfl h⟩
 ·have hlm:len≤m:=by rw [hmm];split <;> omega
  have hch:∃ F:Nat→α,∀ i,i<len→∃ cs',W.cells? base (a.add (i * k)) k=some cs'∧cs'=cells (F i)∧∀ n,sz (F i) n→n ∈ (D i).weights Tryz.prog e:=by
   refine Deep.choose_lt (p:=fun i x=>∃ cs',W.cells? base (a.add (i * k)) k=some cs'∧cs'=cells x∧∀ n,sz x n→n ∈ (D i).weights Tryz.prog e) fun i hi=>?_
   obtain ⟨cs',h1,h2⟩:=hcell i (by omega)
   rw [hk] at h1
   obtain ⟨x,h3,h4⟩:=hel h2
   exact ⟨x,cs',h1,h3,h4⟩
  obtain ⟨F,hF⟩:=hch
  have hlen:((List.range len).map F).length=len:=by simp
  refine ⟨some a,(List.range len).map F,cap,by rw [hlen];exact hcs,?_,by rw [hlen];exact hl,hm,?_,?_⟩
  ·intro i x hx'
   have hi:i<len:=by
    have:=(List.getElem?_eq_some_iff.1 hx').1
    rwa [hlen] at this
   have hxi:x=F i:=by
    rw [List.getElem?_map,List.getElem?_range hi] at hx'
    exact (Option.some.inj hx').symm
   subst hxi
   obtain ⟨cs0,c1,c2,_⟩:=hF 0 (by omega)
   obtain ⟨csi,d1,d2,_⟩:=hF i hi
   obtain ⟨_,g1,g2⟩:=World.cells?_some c1
   obtain ⟨_,g3,g4⟩:=World.cells?_some d1
   have z0:=g2 0 hk0
   rw [Nat.zero_mul,Deep.add_add,Nat.add_zero,c2] at z0
   have hz0:(cells (F 0))[0]?=some ((cells (F 0))[0]'(by rw [hkl];exact hk0)):=List.getElem?_eq_getElem _
   rw [hz0] at z0
   obtain ⟨b,o,sp⟩:=a
   obtain rfl:sp=none:=by simpa [Addr.add] using World.cell?_spot z0
   refine ⟨b,o,rfl,fun j u hu'=>?_⟩
   have hj:j<k:=by
    have:=(List.getElem?_eq_some_iff.1 hu').1
    rwa [hkl] at this
   have:=g4 j hj
   rw [Deep.add_add,Addr.add_mid,d2,hu'] at this
   rw [Nat.add_assoc];exact this
  ·intro x hx' n hn
   obtain ⟨i,hi,rfl⟩:=List.mem_map.1 hx'
   have hi:=List.mem_range.1 hi
   obtain ⟨_,_,_,h4⟩:=hF i hi
   rw [hx]
   exact w_slice hu (List.mem_map.2 ⟨i,List.mem_range.2 hi,rfl⟩) (h4 n hn)
  ·intro _
   rw [hx]
   refine ⟨_,w_len hu,?_⟩
   rw [List.length_map,List.length_map,List.length_range]
   exact Nat.mul_le_mul_right _ (by simp)
end
end Go.Proofs.Zq
end
section
namespace Go.Proofs.YtjghikkboekonaaGreatDoor
open Go.ChangeShapes Go.WideShapes Go.ChangeAt Go.RowKit Go.WideElems
theorem own:ownKnob Tryz.prog.godebug=none:=by kernel_rfl
theorem laidOut:laidOutB Tryz.prog=true:=by kernel_rfl
theorem star : "*" ++ "errors.errorString" = "*errors.errorString" := by decide
theorem rowErr (u : TypeId) (h : Tryz.prog.typeName? 3 u = some "*errors.errorString") : u = 236 :=
 typeName_ptr_named (nm := "errors.errorString") (by rw [star]; kernel_rfl) (by kernel_rfl) (by decide) u (by rw [star]; exact h)
theorem gl_of {W : World} (hL : laidMet Tryz.prog [("math/bits.deBruijn32tab", Rows.laid_math_bits_deBruijn32tab), ("math/bits.deBruijn64tab", Rows.laid_math_bits_deBruijn64tab), ("internal/strconv.uint64pow10", Rows.laid_internal_strconv_uint64pow10), ("unicode/utf8.acceptRanges", Rows.laid_unicode_utf8_acceptRanges), ("strconv.ErrRange", Rows.laid_strconv_ErrRange), ("strconv.ErrSyntax", Rows.laid_strconv_ErrSyntax), ("unicode/utf8.first", Rows.laid_unicode_utf8_first)] W) (hsh : W.ShapedOpen Tryz.prog) : GL W := by
 have h0 : laidMet Tryz.prog (("math/bits.deBruijn32tab", Rows.laid_math_bits_deBruijn32tab) :: ("math/bits.deBruijn64tab", Rows.laid_math_bits_deBruijn64tab) :: ("internal/strconv.uint64pow10", Lib.tabData .u64 Lib.pow10Tab) :: ("unicode/utf8.acceptRanges", Rows.laid_unicode_utf8_acceptRanges) :: ("strconv.ErrRange", Rows.laid_strconv_ErrRange) :: ("strconv.ErrSyntax", Rows.laid_strconv_ErrSyntax) :: ("unicode/utf8.first", Rows.laid_unicode_utf8_first) :: []) W := hL
 have h2:=h0.tail.tail
 have h3:=h2.tail.tail
 have h4:=h3.tail
 obtain ⟨a1,s1,hv1,_⟩:=laid_sentinel h3 (g:=2) (ti:=195) (tp:=236) (te:=238) (by kernel_rfl) (by kernel_rfl) Tryz.underlying195 rowErr Tryz.underlying236 Tryz.underlying238 rfl rfl Tryz.underlying9 (by kernel_rfl) (by kernel_rfl)
 obtain ⟨a2,s2,hv2,_⟩:=laid_sentinel h4 (g:=1) (ti:=195) (tp:=236) (te:=238) (by kernel_rfl) (by kernel_rfl) Tryz.underlying195 rowErr Tryz.underlying236 Tryz.underlying238 rfl rfl Tryz.underlying9 (by kernel_rfl) (by kernel_rfl)
 exact {
  max:=cell_of_shapedOpen_int (t:=3) (zero:=#[.int .i64 0]) hsh (of_decide_eq_true (by kernel_rfl)) (by kernel_rfl) rfl (by kernel_rfl) (by kernel_rfl) Tryz.underlying3
  pow:=Lib.tabIs_of_head (g:=5) (by kernel_rfl) (by kernel_rfl) Tryz.underlying240 Tryz.underlying140 (by kernel_rfl) (by kernel_rfl) h2
  syn:=⟨_,_,hv2⟩
  rng:=⟨_,_,hv1⟩ }
section
variable {H:Type} {enc:TypeId×Value→H}
theorem again_all {W W':World} (hb:Below W.heap.size W W') {sp:Nat→Bool}:∀ {ts:List TypeId} {vs:List Value} {ds:List (DataW H)} {ps:List MemPlace},(∀ t ∈ ts,Tryz.prog.readableRec t=true∧t<Tryz.prog.types.size) →
  DataW.TrodAll enc Tryz.prog W 0 (fun _=>true) true ts vs ds ps→(∀ x ∈ ps,x.block<W.heap.size)→(∀ x ∈ ps,sp x.block=true)→DataW.TrodAll enc Tryz.prog W' 0 sp true ts vs ds ps
 | [],[],[],_,_,h,_,_=>h
 | [],_ :: _,_,_,_,h,_,_=>h.elim
 | [],[],_ :: _,_,_,h,_,_=>h.elim
 | _ :: _,[],_,_,_,h,_,_=>h.elim
 | _ :: _,_ :: _,[],_,_,h,_,_=>h.elim
 | t :: ts,v :: vs,d :: ds,ps,ht,h,hlt,hsp=>by
  obtain ⟨p,q,h1,h2,rfl⟩:=h
  have hr:=ht t (List.mem_cons_self ..)
  exact ⟨p,q,Trod_stays laidOut hr.1 hr.2 h1 (fun x hx=>hb.same (hlt x (List.mem_append_left _ hx))) (fun x hx=>hsp x (List.mem_append_left _ hx)),
   again_all hb (fun t h=>ht t (List.mem_cons_of_mem _ h)) h2 (fun x hx=>hlt x (List.mem_append_right _ hx)) (fun x hx=>hsp x (List.mem_append_right _ hx)),rfl⟩
set_option maxRecDepth 100000 in
theorem law_post {f:Func} {s:ChangeSpec} {apart fresh handsOn again:Bool} {W W':World} {args:Array Value} {ds gs:List (DataW H)} {before:List MemPlace} (hs:s.vars=[]) (hf:f.resultTypes=#[4])
  (hfn:s.fn H ds={ results:=[.lit (.bool true)],args:=ds }) (ht:∀ t ∈ f.params.toList,Tryz.prog.readableRec t=true∧t<Tryz.prog.types.size)
  (hW:DataW.Whole enc Tryz.prog f.params.toList s.vars apart W args.toList ds gs before) (hb:Below W.heap.size W W') :
  s.post enc Tryz.prog f apart fresh handsOn again W args (.bool true) W':=by
 obtain ⟨p,q,hA,hV,rfl,hz,hn⟩:=id hW
 have hlt:∀ x ∈ p ++ q,x.block<W.heap.size:=fun x hx=>hW.lt x hx
 rw [hs] at hV
 obtain ⟨rfl,rfl⟩:=trodVars_none hV
 have hA':DataW.TrodAll enc Tryz.prog W 0 (fun _=>true) true f.params.toList args.toList ds p:=hA
 have hold:∀ x ∈ p ++ [],(fun b=>decide (b<W.heap.size)) x.block=true:=fun x hx=>by simpa using hlt x hx
 have hargs:∀ sp:Nat→Bool,(∀ x ∈ p ++ [],sp x.block=true)→DataW.TrodAll enc Tryz.prog W' 0 sp true f.params.toList args.toList (s.fn H (ds ++ [])).args p:=fun sp hsp=>by
  rw [List.append_nil,hfn]
  exact again_all hb ht hA' (fun x hx=>hlt x (List.mem_append_left _ hx)) (fun x hx=>hsp x (List.mem_append_left _ hx))
 have hres:∀ (b:Nat) (sp:Nat→Bool) (hd:Bool),DataW.TrodAll enc Tryz.prog W' b sp hd f.resultTypes.toList ((Value.bool true).resultList f.resultTypes.size) (s.fn H (ds ++ [])).results []:=fun b sp hd=>by
  rw [List.append_nil,hfn,hf]
  exact trodAll_mk1 (shut_bool Tryz.underlying4 _)
 have hvars:∀ sp:Nat→Bool,DataW.TrodVars enc Tryz.prog W' sp s.vars (s.fn H (ds ++ [])).vars []:=fun sp=>by
  rw [List.append_nil,hfn,hs];rfl
 refine ⟨ds,[],p ++ [],[],p,[],hW,hres _ _ _,hargs _ hold,hvars _,World.keptBut_mono (fun x hx=>⟨hx,?_⟩) (hb.frame (· ∈ p ++ [])),fun _=>?_⟩
 ·exact Or.inr (by simpa using hx)
 ·refine ⟨?_,_,_,([] ++ p) ++ [],⟨[] ++ p,[],trodAll_append (hargs _ (fun _ _=>rfl)) (hres _ _ _),hvars _,rfl,?_,?_⟩,?_⟩
  ·exact ok_one hf rfl (okWide_bool_mk Tryz.underlying4 _)
  ·intro b off hp
   have hin:MemPlace.cell b off ∈ p ++ []:=by simpa using hp
   rw [hb.frozen (hlt _ hin)]
   exact hz b off hin
  ·intro ha
   simpa using hn ha
  ·intro x hx _
   simpa using hx
end
def litCell:DataW Unit→Value
 | .lit (.int k z)=>Value.int k z
 | _=>Value.int .u8 0
def tabCells:DataW Unit→Array Value
 | .agg l=>(l.flatMap fun d=>match d with|.agg m=>m.map litCell|d=>[litCell d]).toArray
 | _=>#[]
abbrev synS:ByteArray:={ data:=#[105,110,118,97,108,105,100,32,115,121,110,116,97,120] }
abbrev rngS:ByteArray:={ data:=#[118,97,108,117,101,32,111,117,116,32,111,102,32,114,97,110,103,101] }
noncomputable def low:Nat:=(World.holding Tryz.prog default ⟨#[],#[],[]⟩).heap.size
def putVar (cs:Array Value):Obj→Obj
 | .cells _ t frozen=>.cells cs t frozen
 | o=>o
noncomputable def laidWorld (os:Os):World :=
 let w0:=World.holding Tryz.prog os ⟨#[.cells #[.string rngS] 238,.cells #[.string synS] 238],#[],[]⟩
 { w0 with heap:=((((((w0.heap.modify 6 (putVar (tabCells Rows.laid_math_bits_deBruijn32tab))).modify 7 (putVar (tabCells Rows.laid_math_bits_deBruijn64tab))).modify 5 (putVar (tabCells Rows.laid_internal_strconv_uint64pow10))).modify 4 (putVar (tabCells Rows.laid_unicode_utf8_acceptRanges))).modify 3 (putVar (tabCells Rows.laid_unicode_utf8_first))).modify 2
   (putVar #[.iface 236 (.pointer (some ⟨low,0,none⟩))])).modify 1 (putVar #[.iface 236 (.pointer (some ⟨low + 1,0,none⟩))]) }
theorem laid_met (os : Os) (args : Array Value) : laidMet Tryz.prog [("math/bits.deBruijn32tab", Rows.laid_math_bits_deBruijn32tab), ("math/bits.deBruijn64tab", Rows.laid_math_bits_deBruijn64tab), ("internal/strconv.uint64pow10", Rows.laid_internal_strconv_uint64pow10), ("unicode/utf8.acceptRanges", Rows.laid_unicode_utf8_acceptRanges), ("strconv.ErrRange", Rows.laid_strconv_ErrRange), ("strconv.ErrSyntax", Rows.laid_strconv_ErrSyntax), ("unicode/utf8.first", Rows.laid_unicode_utf8_first)] ((laidWorld os).forCall (fun _ _ => 0) ⟨#[], args, []⟩).memory :=
 laidMet_of_run' 8 (by kernel_rfl) (by kernel_rfl)
end Go.Proofs.YtjghikkboekonaaGreatDoor
end
section
namespace Go.Proofs.Zq
open Go.RowKit Go.Proofs.Zw.PrintWords Go.Proofs.Zw.PrintLast Go.Proofs.Zw.PrintMore
open Go.Proofs.YtjghikkboekonaaGreatDoor (GL)
attribute [local go_sem] max2_int min2_int max_two min_two pz35 pz36 max_four min_four

def onionskinlaw16_Few.l0:Nat→List (S57)→Int→Int→Option (Bool)
 | 0,_,_,_=>none
 | k + 1,x0,x3,x4=>if x4<(x0.length:Int) then (if 0≤x4 then (onionskinlaw16_Few.l0 k x0 (wrap64 ((wrap64 ((wrap64 ((wrap64 (x3 + (((rd_T57 x0 x4).f0).size:Int))) + (((rd_T57 x0 x4).f2.f5).size:Int))) + (((rd_T57 x0 x4).f2.f6).size:Int))) + (((rd_T57 x0 x4).f2.f9).size:Int))) (wrap64 (x4 + 1))) else (none)) else (if (x0.length:Int)≤30 then (some (decide (x3≤6000))) else (some false))
def onionskinlaw16_Few.f (k:Nat) (l0:List (S57)):Option (Bool):=onionskinlaw16_Few.l0 k l0 0 0
set_option maxHeartbeats 8000000 in
set_option maxRecDepth 100000 in
theorem onionskinlaw16_Few.calls (k:Nat) (A0:Option Addr) (c0:Nat) (l0:List (S57)) (r:Bool) (w:World) (hr0:Kd.C k57 w A0 l0.length l0) (hc0:l0.length≤c0) (h:onionskinlaw16_Few.f k l0=some r) :
  Calls Tryz.prog 23 #[.slice A0 l0.length c0] w fun e w'=>e=.returned (.bool r)∧pz17 w w':=by
 have HR0:=pz4.mk hr0
 have HC0:=pz4.mk hc0
 clear hr0 hc0
 have H:(onionskinlaw16_Few.l0 k l0 0 0)=some r:=h
 clear h
 have H':=pz4.mk H
 clear H
 go_enter Tryz.func23,Tryz.ntmps23
 go_wp2
 repeat (go_quiet (fail);try go_wp2)
 go_loopg [3,4] k (fun kq v3 v4 w'=>∃ (x3_1:Int) (x4_1:Int),v3=.int .i64 x3_1∧v4=.int .i64 x4_1∧pz4 (onionskinlaw16_Few.l0 kq l0 x3_1 x4_1=some r)∧pz4 (kq≤k)∧pz17 w w')
 case atStart=>exact ⟨(0),(0),(by first|rfl|(simp;done)|(simp [*];done)),(by first|rfl|(simp;done)|(simp [*];done)),H',⟨Nat.le_refl _⟩,by repeat (first|exact pz17.refl _|apply pz17.step)⟩
 case round =>
  clear H'
  obtain ⟨x3_1,x4_1,rfl,rfl,HA,HK1,⟨m1,rfl⟩⟩:=hrel
  cases gk with
  | zero=>exact absurd HA.out (by simp [onionskinlaw16_Few.l0])
  | succ k1 =>
   have H:=HA.out
   clear HA
   simp only [onionskinlaw16_Few.l0] at H
   by_cases c2:x4_1<(l0.length:Int)
   ·rw [if_pos c2] at H
    have c2b0:decide (x4_1<(l0.length:Int))=true:=decide_eq_true c2
    clear c2
    by_cases c3:0≤x4_1
    ·rw [if_pos c3] at H
     have c3b0:decide (0≤x4_1)=true:=decide_eq_true c3
     clear c3
     have H':=pz4.mk H
     clear H
     have p493:0≤(x4_1:Int):=of_decide_eq_true (by first|(with_reducible assumption)|assumption)
     have q493:x4_1<(l0.length:Int):=of_decide_eq_true (by first|(with_reducible assumption)|assumption)
     obtain ⟨ad493,e493,hx493_0,hx493_1,hx493_2,hx493_3,hx493_4,hx493_5,hx493_6,hx493_7,hx493_8,hx493_9,hx493_10,hx493_11⟩:=at_T57 HR0.out x4_1 p493 q493
     cases e493
     replace p493:=eq_true p493
     replace q493:=eq_true q493
     have p494:0≤(x4_1:Int):=of_decide_eq_true (by first|(with_reducible assumption)|assumption)
     have q494:x4_1<(l0.length:Int):=of_decide_eq_true (by first|(with_reducible assumption)|assumption)
     obtain ⟨ad494,e494,hx494_0,hx494_1,hx494_2,hx494_3,hx494_4,hx494_5,hx494_6,hx494_7,hx494_8,hx494_9,hx494_10,hx494_11⟩:=at_T57 HR0.out x4_1 p494 q494
     obtain rfl:ad493=ad494:=(by injection e494)
     replace p494:=eq_true p494
     replace q494:=eq_true q494
     have p495:0≤(x4_1:Int):=of_decide_eq_true (by first|(with_reducible assumption)|assumption)
     have q495:x4_1<(l0.length:Int):=of_decide_eq_true (by first|(with_reducible assumption)|assumption)
     obtain ⟨ad495,e495,hx495_0,hx495_1,hx495_2,hx495_3,hx495_4,hx495_5,hx495_6,hx495_7,hx495_8,hx495_9,hx495_10,hx495_11⟩:=at_T57 HR0.out x4_1 p495 q495
     obtain rfl:ad493=ad495:=(by injection e495)
     replace p495:=eq_true p495
     replace q495:=eq_true q495
     have p496:0≤(x4_1:Int):=of_decide_eq_true (by first|(with_reducible assumption)|assumption)
     have q496:x4_1<(l0.length:Int):=of_decide_eq_true (by first|(with_reducible assumption)|assumption)
     obtain ⟨ad496,e496,hx496_0,hx496_1,hx496_2,hx496_3,hx496_4,hx496_5,hx496_6,hx496_7,hx496_8,hx496_9,hx496_10,hx496_11⟩:=at_T57 HR0.out x4_1 p496 q496
     obtain rfl:ad493=ad496:=(by injection e496)
     replace p496:=eq_true p496
     replace q496:=eq_true q496
     go_wp2
     repeat (go_quiet (fail);try go_wp2)
     go_roundg k1
     case measure=>have:=HK1.out;omega
     case rel=>exact ⟨(wrap64 ((wrap64 ((wrap64 ((wrap64 (x3_1 + (((rd_T57 l0 x4_1).f0).size:Int))) + (((rd_T57 l0 x4_1).f2.f5).size:Int))) + (((rd_T57 l0 x4_1).f2.f6).size:Int))) + (((rd_T57 l0 x4_1).f2.f9).size:Int))),(wrap64 (x4_1 + 1)),(by first|rfl|(simp;done)|(simp [*];done)),(by first|rfl|(simp;done)|(simp [*];done)),H',⟨by have:=HK1.out;omega⟩,by repeat (first|exact pz17.refl _|apply pz17.step)⟩
    ·rw [if_neg c3] at H
     exact absurd H (by simp)
   ·rw [if_neg c2] at H
    have c2b0:decide (x4_1<(l0.length:Int))=false:=decide_eq_false c2
    clear c2
    by_cases c4:(l0.length:Int)≤30
    ·rw [if_pos c4] at H
     have c4b0:decide ((l0.length:Int)≤30)=true:=decide_eq_true c4
     have c4b1:decide (l0.length≤30)=true:=decide_eq_true (by omega)
     clear c4
     obtain rfl:=Option.some.inj H
     go_wp2
     repeat (go_quiet (fail);try go_wp2)
     go_ret
     exact ⟨by first|rfl|(simp;done)|(simp [*];done),by repeat (first|exact pz17.refl _|apply pz17.step)⟩
    ·rw [if_neg c4] at H
     have c4b0:decide ((l0.length:Int)≤30)=false:=decide_eq_false c4
     have c4b1:decide (l0.length≤30)=false:=decide_eq_false (by omega)
     clear c4
     obtain rfl:=Option.some.inj H
     go_wp2
     repeat (go_quiet (fail);try go_wp2)
     go_ret
     exact ⟨by first|rfl|(simp;done)|(simp [*];done),by repeat (first|exact pz17.refl _|apply pz17.step)⟩
theorem eqA32 (d:Nat) (w:World) (x0 y0:ByteArray) (x1 y1:Int) (x2 y2:Int) (x3 y3:Int) (x4 y4:Int) (x5 y5:Int) (x6 y6:ByteArray) (x7 y7:ByteArray) (x8 y8:Int) (x9 y9:Int) (x10 y10:ByteArray) :
  (Op.equalIn (d + 3) 32 (.agg #[.string x0,.int .i64 x1,.int .i64 x2,.int .i64 x3,.int .i64 x4,.int .i64 x5,.string x6,.string x7,.int .i64 x8,.int .i64 x9,.string x10]) (.agg #[.string y0,.int .i64 y1,.int .i64 y2,.int .i64 y3,.int .i64 y4,.int .i64 y5,.string y6,.string y7,.int .i64 y8,.int .i64 y9,.string y10])).run Tryz.prog w=.ok (x0.toList == y0.toList && ((x1 == y1 && (x2 == y2 && (x3 == y3 && (x4 == y4 && (x5 == y5 && (x6.toList == y6.toList && (x7.toList == y7.toList && (x8 == y8 && (x9 == y9 && (x10.toList == y10.toList)))))))))))) w:=by
 refine eqA_of Tryz.underlying32 (by kernel_rfl) ?_
 refine eqf_cons (by rfl) (by go_simp;rfl) (by go_simp;rfl) (by go_simp) ?_
 exact eqf_last (by rfl) (by go_simp) (by go_simp) (eqA28 (d + 0) w _ _ _ _ _ _ _ _ _ _ _ _ _ _ _ _ _ _ _ _)
end Go.Proofs.Zq
end
section
namespace Go.Proofs.Zq
open Go.RowKit Go.Proofs.Zw.PrintWords Go.Proofs.Zw.PrintLast Go.Proofs.Zw.PrintMore
open Go.Proofs.YtjghikkboekonaaGreatDoor (GL)
attribute [local go_sem] max2_int min2_int max_two min_two pz35 pz36 max_four min_four
attribute [local go_sem high] eqA32

end Go.Proofs.Zq
end
section
namespace Go.Proofs.Zq
open Go.RowKit Go.Proofs.YtjghikkboekonaaGreatDoor Go.Proofs.Zw.PrintWords Go.Proofs.Zw.PrintLast Go.Proofs.Zw.PrintMore
open Go.Proofs.Zt (applyM rightT rightC Ch getL)
theorem w64 {x:Int} (h0 : -9223372036854775808≤x) (h1:x≤9223372036854775807):wrap64 x=x:=wrap_in h0 h1
theorem rdC {l:List S57} {i:Nat} (h:i<l.length):rd_T57 l (i:Int)=l[i]:=by
 unfold rd_T57
 rw [show ((i:Nat):Int).toNat=i from rfl,List.getD_eq_getElem?_getD,List.getElem?_eq_getElem h];rfl
def chTot (x:S57):Nat:=x.f0.size + x.f2.f5.size + x.f2.f6.size + x.f2.f9.size
def SzC (l:List S57):Prop:=∀ x ∈ l,chTot x≤562949953404928
def totC (l:List S57):Nat:=(l.map chTot).sum
theorem totC_snoc (l:List S57) (x:S57):totC (l ++ [x])=totC l + chTot x:=by simp [totC]
theorem totC_mem:∀ (l:List S57) {x:S57},x ∈ l→chTot x≤totC l
 | y :: r,x,h=>by
  have e:totC (y :: r)=chTot y + totC r:=by simp [totC]
  rcases List.mem_cons.1 h with h|h
  ·rw [e,h];omega
  ·have:=totC_mem r h;omega
theorem few16_l (l:List S57) (hs:SzC l) (hn:l.length≤1000000000000000):∀ d i (z:Int),i + d=l.length→(i≤30→∃ s:Nat,z=(s:Int)∧s=totC (l.take i)∧s≤i * 562949953404928) →
  ∃ b,Ev (fun k=>onionskinlaw16_Few.l0 k l z i) b∧(b=true→l.length≤30∧totC l≤6000):=by
 intro d
 induction d with
 | zero =>
  intro i z hi hz
  refine ⟨decide (l.length≤30∧z≤6000),Ev.step (f:=fun _=>some (decide (l.length≤30∧z≤6000))) (fun k=>?_) (Ev.now _),fun hb=>?_⟩
  ·simp only [onionskinlaw16_Few.l0]
   rw [if_neg (by omega)]
   by_cases h:l.length≤30
   ·rw [if_pos (by omega)];simp [h]
   ·rw [if_neg (by omega)];simp [h]
  ·have hb:=of_decide_eq_true hb
   obtain ⟨s,h1,h2,_⟩:=hz (by omega)
   rw [List.take_of_length_le (by omega)] at h2
   exact ⟨hb.1,by omega⟩
 | succ d ih =>
  intro i z hi hz
  have hlt:i<l.length:=by omega
  obtain ⟨z',hz'⟩:∃ z',z'=(wrap64 ((wrap64 ((wrap64 ((wrap64 (z + (((rd_T57 l i).f0).size:Int))) + (((rd_T57 l i).f2.f5).size:Int))) + (((rd_T57 l i).f2.f6).size:Int))) + (((rd_T57 l i).f2.f9).size:Int))):=⟨_,rfl⟩
  obtain ⟨b,e,hb⟩:=ih (i + 1) z' (by omega) (fun h30=>by
   obtain ⟨s,h1,h2,h3⟩:=hz (by omega)
   have hx:=hs _ (List.getElem_mem hlt)
   refine ⟨s + chTot l[i],?_,?_,by omega⟩
   ·rw [hz',rdC hlt]
    unfold chTot at hx ⊢
    rw [w64 (x:=z + (l[i].f0.size:Int)) (by omega) (by omega),w64 (x:=z + (l[i].f0.size:Int) + (l[i].f2.f5.size:Int)) (by omega) (by omega),w64 (x:=z + (l[i].f0.size:Int) + (l[i].f2.f5.size:Int) + (l[i].f2.f6.size:Int)) (by omega) (by omega),w64 (by omega) (by omega)]
    omega
   ·rw [List.take_succ_eq_append_getElem hlt,totC_snoc,h2])
  refine ⟨b,Ev.step (fun k=>?_) e,hb⟩
  simp only [onionskinlaw16_Few.l0]
  rw [if_pos (by omega),if_pos (by omega),← hz',w64 (by omega) (by omega)]
  rfl
theorem few16_ev (l:List S57) (hs:SzC l) (hn:l.length≤1000000000000000):∃ b,Ev (fun k=>onionskinlaw16_Few.f k l) b∧(b=true→l.length≤30∧totC l≤6000) :=
 few16_l l hs hn l.length 0 0 (by omega) (fun _=>⟨0,rfl,by simp [totC],by omega⟩)
theorem fitsC_of {l:List S57} (h:l.length≤30∧totC l≤6000):lyrFits' l:=by
 refine ⟨?_,by omega⟩
 unfold lyrFits
 rw [List.all_eq_true]
 intro x hx
 obtain ⟨y,hy,rfl⟩:=List.mem_map.1 hx
 have:=totC_mem l hy
 unfold chTot at this
 have e1:(chOf y).path.length=y.f0.size:=by show y.f0.data.toList.length=_;rw [Array.length_toList];rfl
 have e2:(chOf y).node.attrs.length=y.f2.f9.size:=by show y.f2.f9.data.toList.length=_;rw [Array.length_toList];rfl
 unfold ndFits
 rw [e1,e2]
 simp;omega
theorem fit_len {a:List (Str×Nd)} {t:List (Str×Nd)} {l:List (Ch Str Nd)} (h:applyM Y t l=(a,0)):a.length≤5000:=by
 obtain ⟨_,_,ha,_⟩:=Zt.applyM_ok Y h
 exact ha.len
theorem fit_apply {t:List (Str×Nd)} {l:List (Ch Str Nd)} {a:List (Str×Nd)} (h:applyM Y t l=(a,0)) (ht:rowFits t=true) (hl:lyrFits l=true):rowFits a=true:=by
 obtain ⟨_,_,ha,_⟩:=Zt.applyM_ok Y h
 unfold rowFits
 rw [List.all_eq_true]
 intro x hx
 have hg:=ha.srt.get (n:=x.2) hx
 have hv:=ha.srt.v x hx
 have hp:=isM_short hv
 have hn:ndFits x.2=true:=by
  by_cases hc:∃ c ∈ l,c.op=0∧c.path=x.1
  ·obtain ⟨c,hc,h0,hcp⟩:=hc
   have:=Zt.stays_put h hc h0
   rw [hcp,hg] at this
   rw [Option.some.inj this]
   exact (lyr_get hl hc).2
  ·have:=Zt.stays_had h hg (fun c hc' h=>hc ⟨c,hc',h⟩)
   have hm:=Zt.pz27 this
   have:=List.all_eq_true.1 ht _ hm
   simp at this
   exact this.2
 simp [hn];exact hp
end Go.Proofs.Zq
end
section
namespace Go.Proofs.Zq
open Go.ChangeShapes Go.WideShapes Go.ChangeAt Go.RowKit Go.WideElems Go.Proofs.YtjghikkboekonaaGreatDoor Go.Proofs.Zw.PrintWords
section
variable {H:Type} {enc:TypeId×Value→H} {W:World} {base:Nat}
theorem weighs {ts:List TypeId} {ds:List (DataW H)} (h:(DataW.weightsEach Tryz.prog ts ds).all (·≤reachBytes)=true) (j:Nat) {t:TypeId} {d:DataW H} (ht:ts[j]?=some t) (hd:ds[j]?=some d):∀ n ∈ d.weights Tryz.prog t,n≤reachBytes:=fun n hn=>by
 have:=List.all_eq_true.1 h n (DataW.weights_mem_each ht hd n hn)
 simpa using this
theorem rowAt_map {α β:Type} {cells:β→List Value} {f:α→β} {k:Nat} {w:World} {a:Option Addr} {l:List α} (h:RowAt (fun x=>cells (f x)) k w a l):RowAt cells k w a (l.map f):=by
 intro i y hy
 rw [List.getElem?_map] at hy
 cases hx:l[i]? with
 | none=>rw [hx] at hy;cases hy
 | some x =>
  rw [hx] at hy
  cases hy
  exact h i x hx
instance:Inhabited S32:=⟨z32⟩
instance:Inhabited S57:=⟨z57⟩
theorem reach_is:reachBytes=140737488351232:=by decide
end
end Go.Proofs.Zq
end
section
namespace Go.Proofs.Zq
open Go.RowKit Go.Proofs.YtjghikkboekonaaGreatDoor
variable {F:Fence} {n:Nat} {P:Program}
abbrev Rec (fn:FuncId) (tmps:Array Value) (ps:Array Tmp) (assign body:Code) (D:Nat) (st:LoopState) (pe:Option Code):Loop:={ state:=st,pending:=pe,fn,tmps,params:=ps,assign,body,defers:=D }
def RecAt (L D:Nat) (r:Loop) (W:World):Prop:=W.heap[L]?=some (.loop r)∧W.heap[D]?=some (.deferred (some []))
theorem range_mem {g:Operand} {ps:Array Tmp} {assign body:Code} {Q:Exit→Act→World→Prop} {a:Act} {w:World}
  (hro:F.round=none) (h1:1≤n) {gf:Nat} {lb:Array Value} (hg:a.eval g=.func (.func gf) #[] lb) (hFg:F.fn gf) (eg:∀ args w,(callFunc gf args).run P w=.ok (.enter gf args) w)
  (Out:Option Code→World→Prop)
  (hit:∀ fn,F.fn fn→∀ W1,W1=(w.alloc (.deferred (some []))).alloc (.loop (Rec fn a.tmps ps assign body w.heap.size .ready none))→RecAt (w.heap.size + 1) w.heap.size (Rec fn a.tmps ps assign body w.heap.size .ready none) W1 →
   CallsIn F (n - 1) P gf (#[.func (.yield (w.heap.size + 1)) #[] #[]] ++ lb) W1 fun e W'=>(∃ v,e=.returned v)∧∃ st pe,st≠.busy∧RecAt (w.heap.size + 1) w.heap.size (Rec fn a.tmps ps assign body w.heap.size st pe) W'∧Out pe W')
  (hdone:∀ W o,Out none W→W.heap[w.heap.size + 1]?=some (.loop o)→∀ o',W.heap[w.heap.size]?=some (.deferred (some []))→Q .normal { a with defers:={ target:=.collected w.heap.size,args:=#[] } :: a.defers } (W.putObj (w.heap.size + 1) (.loop o')))
  (hstop:∀ c W o,Out (some c) W→W.heap[w.heap.size + 1]?=some (.loop o)→∀ o',W.heap[w.heap.size]?=some (.deferred (some []))→c.wpIn F n P Q { a with defers:={ target:=.collected w.heap.size,args:=#[] } :: a.defers } (W.putObj (w.heap.size + 1) (.loop o'))) :
  (Code.rangeFunc g ps assign body).wpIn F n P Q a w:=by
 refine wpIn_rangeFunc fun fn hfn=>?_
 rw [hro]
 obtain ⟨W1,hW1⟩:∃ W1,W1=(w.alloc (.deferred (some []))).alloc (.loop (Rec fn a.tmps ps assign body w.heap.size .ready none)):=⟨_,rfl⟩
 have hL:W1.heap[w.heap.size + 1]?=some (.loop (Rec fn a.tmps ps assign body w.heap.size .ready none)):=by
  rw [hW1];have h:=World.alloc_heap_new (w.alloc (.deferred (some []))) (.loop (Rec fn a.tmps ps assign body w.heap.size .ready none));rwa [World.size_alloc] at h
 have hD:W1.heap[w.heap.size]?=some (.deferred (some [])):=by
  rw [hW1];exact (Below.heap_alloc _ _ _ (by simp)).trans (World.alloc_heap_new w _)
 refine ⟨w.heap.size + 1,[{ target:=.collected w.heap.size,args:=#[] }],W1,{ target:=.fn (.func gf) lb,args:=#[.func (.yield (w.heap.size + 1)) #[] #[]] },W1,gf,
  #[.func (.yield (w.heap.size + 1)) #[] #[]] ++ lb,W1,?_,?_,?_,?_,fun _=>h1,?_⟩
 ·rw [hW1];exact run_enterLoop_outer _ _ _ _ _
 ·simp only [resolve,hg]
  simp [go_sem]
 ·intro f' hf';simp [Target.leads] at hf';subst hf';exact hFg
 ·simp [invoke,go_sem,eg]
 ·refine (hit fn hfn W1 hW1 ⟨hL,hD⟩).mono ?_
  rintro e W2 ⟨⟨v,rfl⟩,st,pe,hst,⟨hl,hd⟩,ho⟩
  refine ⟨pe,_,run_endLoop (P:=P) hl hst,?_⟩
  cases pe with
  | none=>exact hdone _ _ ho hl _ hd
  | some c=>exact hstop c _ _ ho hl _ hd
def roundOut (L D:Nat) (r:Loop) (G:World→Prop) (X:Code→World→Prop):Exit→Act→World→Prop
 | .normal,_,W=>RecAt L D r W∧G W
 | .ret,_,W=>RecAt L D r W∧X .ret W
 | .exit id,_,W=>RecAt L D r W∧X (.exit id) W
 | .goto t,_,W=>RecAt L D r W∧X (.goto t) W
 | .panic _,_,_=>False
 | .outgrown,_,_=>False
theorem yield_mem {fn:FuncId} {tmps:Array Value} {ps:Array Tmp} {assign body:Code} {L D:Nat} {args:Array Value} {W:World} {m:Nat} (hLD:L≠D) (hF:F.fn fn)
  (hr:RecAt L D (Rec fn tmps ps assign body D .ready none) W) (hps:args.size=ps.size) (G:World→Prop) (X:Code→World→Prop)
  (hround:assign.wpIn (F.inRound L) m P (Exit.then (fun a₁ W₁=>RecAt L D (Rec fn tmps ps assign body D .ready none) W₁∧∀ W2,Hid (W2=W₁.putObj L (.loop (Rec fn tmps ps assign body D .busy none)))→Hid (RecAt L D (Rec fn tmps ps assign body D .busy none) W2) →
   body.wpIn (F.inRound L) m P (roundOut L D (Rec fn tmps ps assign body D .busy none) G X) a₁ W2) (fun _ _ _=>False)) { tmps:=(ps.zip args).foldl (fun t (p,v)=>t.setIfInBounds p v) tmps,defers:=[] } W) :
  YieldAt F m P L args W fun e W' =>
   (e=.returned (.bool true)∧RecAt L D (Rec fn tmps ps assign body D .ready none) W'∧∃ W3,W'=W3.putObj L (.loop (Rec fn tmps ps assign body D .ready none))∧RecAt L D (Rec fn tmps ps assign body D .busy none) W3∧G W3) ∨
   (e=.returned (.bool false)∧∃ c,RecAt L D (Rec fn tmps ps assign body D .done (some c)) W'∧∃ W3,W'=W3.putObj L (.loop (Rec fn tmps ps assign body D .done (some c)))∧RecAt L D (Rec fn tmps ps assign body D .busy none) W3∧X c W3):=by
 obtain ⟨hl,hd⟩:=hr
 have put:∀ {V:World} {r:Loop},RecAt L D r V→∀ r',RecAt L D r' (V.putObj L (.loop r')):=fun h r' =>
  ⟨World.putObj_heap_same (Array.getElem?_eq_some_iff.1 h.1).1,(World.putObj_heap_other (Ne.symm hLD)).trans h.2⟩
 refine ⟨fn,_,assign,body,run_yield (P:=P) (args:=args) hl hps,roundIn_of_wpIn hF (wpIn_mono hround ?_)⟩
 rintro e a₁ W₁ hp
 cases e with
 | normal =>
  obtain ⟨hr1,hb⟩:=hp
  refine ⟨_,run_beginRound hr1.1 rfl,wpIn_mono (hb _ (Lib.hid rfl) (Lib.hid (put hr1 _))) ?_⟩
  rintro e a3 W3 hp
  cases e with
  | normal=>exact ⟨_,_,run_endRound (P:=P) none hp.1.1,.inl ⟨rfl,put hp.1 _,W3,rfl,hp.1,hp.2⟩⟩
  | ret=>exact ⟨_,_,run_endRound (P:=P) (some .ret) hp.1.1,.inr ⟨rfl,.ret,put hp.1 _,W3,rfl,hp.1,hp.2⟩⟩
  | exit id=>exact ⟨_,_,run_endRound (P:=P) (some (.exit id)) hp.1.1,.inr ⟨rfl,.exit id,put hp.1 _,W3,rfl,hp.1,hp.2⟩⟩
  | goto t=>exact ⟨_,_,run_endRound (P:=P) (some (.goto t)) hp.1.1,.inr ⟨rfl,.goto t,put hp.1 _,W3,rfl,hp.1,hp.2⟩⟩
  | panic ch=>exact hp.elim
  | outgrown=>exact hp.elim
 | ret=>exact hp.elim
 | exit id=>exact hp.elim
 | goto t=>exact hp.elim
 | panic ch=>exact hp.elim
 | outgrown=>exact hp.elim
end Go.Proofs.Zq
end
section
namespace Go.Proofs.Zq
open Go.RowKit Go.WideMaps Go.Maps Go.Proofs.YtjghikkboekonaaGreatDoor Go.Proofs.Zw.PrintWords Go.Proofs.Zw.PrintLast Go.Proofs.Zw.PrintMore
theorem wpList_append_lies {α:Type} {P:Program} {enc:α→List Value} {w:World} {ops:Array Oper} {rest:List Oper} {o:Oper} {a:Act} {Q:Exit→Act→World→Prop} (hw:Region.wanted o (yielded ops a.tmps)=true) (s x:Operand) (t:TypeId)
  (ho:o.op=.call { callee:=.builtin .append,args:=#[s,x],argTypes:=#[t,t] })
  (base T k bytes:Nat) (i:TypeInfo) (z:Value) (ht:P.underlying t=some (.slice T)) (hi:P.info? T=some i) (hz:i.zero=some z)
  (hsize:i.size=k) (hby:i.bytes=bytes) (hzs:z.cells.size=k) (hsz:0<k) (hk:∀ x,(enc x).length=k) (h1:∀ x,∀ u ∈ enc x,u.oneCell'=true)
  (v:Value) (l:List α) (hs:a.eval s=v) (hown:Owr enc T k base w v l) (ad:Addr) (n c:Nat) (m:List α) (hx:a.eval x=.slice (some ad) n c) (hnm:n=m.length) (hr:LiesAt w ad (flat enc m))
  (h63:l.length + m.length≤maxLen) (hbytes:(l.length + m.length) * bytes≤140737488355328) (hbase:base≤w.heap.size)
  (h:∀ v' w',Owr enc T k base w' v' (l ++ m)→w.grownBy w' v.ownBlock→wpList P ops Q rest (a.put o.dst v') w'):wpList P ops Q (o :: rest) a w:=by
 subst hnm
 obtain ⟨v',w',hrun,h2,h3,_⟩:=run_append_own (P:=P) w base t o.type T i z k bytes ht hi hz hsize hby hzs hsz v l.length (flat enc l) hown ad m.length c (flat enc m) (flat_length hk m) hr (fun u hu=>by
  obtain ⟨x,_,hx⟩:=List.mem_flatMap.1 hu
  exact h1 x u hx) h63 hbytes hbase
 unfold wpList
 rw [if_pos hw]
 refine Or.inl ?_
 unfold Oper.wp execOp
 simp only [ho,resolve,invoke,builtin,Sem.run_bind,Sem.run_pure,Result.andThen_ok,List.map_toArray,List.map_cons,List.map_nil,hs,hx,hrun]
 refine h v' w' ?_ h3
 unfold Owr
 rw [flat_append,List.length_append]
 exact h2
theorem en_flat {w:World} {ad:Addr} {l:List S32} (h:Kd.C k32 w (some ad) l.length l):LiesAt w ad (flat eCells (l.map enOf)):=fun j u hu=>by
 obtain ⟨i,jj,x,h1,h2,rfl⟩:=flat_get eCells_len _ j u hu
 rw [List.getElem?_map] at h1
 have hi:i<l.length:=by
  apply Classical.byContradiction
  intro hn
  rw [List.getElem?_eq_none (by omega)] at h1
  simp at h1
 rw [List.getElem?_eq_getElem hi] at h1
 obtain rfl:=Option.some.inj h1
 obtain ⟨ad',h3,h4⟩:=e_at h i hi
 obtain rfl:=Option.some.inj h3
 have:=h4 jj u h2
 rwa [Addr.add_add] at this
set_option maxRecDepth 100000 in
theorem clone_en_calls (w:World) (A:Option Addr) (c:Nat) (l:List S32) (hr:Kd.C k32 w A l.length l) (hl:l.length≤1000000) :
  Calls Tryz.prog 46 #[.slice A l.length c] w fun e w'=>∃ v,e=.returned v∧Owr eCells 32 11 w.heap.size w' v (l.map enOf)∧Below w.heap.size w w':=by
 have HR:=pH hr
 have HL:=pH hl
 have hu:=Tryz.underlying22
 obtain ⟨i0,hi,hz0,hz1,hz2⟩:=info_parts info_en
 have HI:=pH hi
 have HZ0:=pH hz0
 have HZ1:=pH hz1
 have HZ2:=pH hz2
 clear hr hl hi hz0 hz1 hz2
 cases A with
 | none =>
  have hnil:l=[]:=by
   cases l with
   | nil=>rfl
   | cons x r=>obtain ⟨ad,h,_⟩:=e_at HR.out 0 (by simp);cases h
  subst hnil
  go_enter Tryz.func46,Tryz.ntmps46
  have q:=fun (w:World) (a:Option Addr) (n c n' c':Nat)=>Go.Lib.run_eql_slice_nil (P:=Tryz.prog) w 22 _ a n c n' c' hu
  go_wp2_with fail
  go_ret
  exact ⟨_,rfl,Owr.nil _ _ _ _ _,Below.refl _ _⟩
 | some ad =>
  have HFL:=pH (en_flat HR.out)
  go_enter Tryz.func46,Tryz.ntmps46
  have q:=fun (w:World) (a:Option Addr) (n c n' c':Nat)=>Go.Lib.run_eql_slice_nil (P:=Tryz.prog) w 22 _ a n c n' c' hu
  go_wp2_with (at_builtin;refine wpList_append_lies (by rfl) _ _ 22 rfl w.heap.size 32 11 120 i0 (.agg enZero) hu HI.out HZ0.out HZ1.out HZ2.out rfl (by decide) eCells_len eCells_one _ [] rfl (own_empty eCells 11 w.heap.size w (Nat.le_refl _)) ad l.length c (l.map enOf) rfl (by simp) (HFL.out.below (pbn _ _)) ?c1 ?c2 ?c3 ?_)
  case c1=>have:=HL.out;unfold maxLen;simp;omega
  case c2=>have:=HL.out;simp;omega
  case c3=>simp
  intro v' w' ho hg
  have HO:=pH ho
  have HB:Hid (Below w.heap.size w w'):=pH (((Below.refl w.heap.size w).alloc (Nat.le_refl _) _).grown hg (by simp) (fun j hj=>by simp [Value.ownBlock] at hj;omega))
  clear ho hg
  go_wp2
  go_ret
  exact ⟨_,rfl,by simpa using HO.out,HB.out⟩
end Go.Proofs.Zq
end
section
namespace Go.Proofs.Zq
open Go.RowKit Go.Shelf Go.Proofs.YtjghikkboekonaaGreatDoor Go.Proofs.Zw.PrintWords Go.Proofs.Zw.PrintLast Go.Proofs.Zw.PrintMore
open Go.Proofs.Zt (applyM ontoGo ontoM Ch)
theorem s_at {w:World} {A:Option Addr} {xs:List (List S57)} (h:Kd.C (Kd.slice 57 k57) w A xs.length xs) (i:Nat) (hi:i<xs.length) :
  ∃ ad A0 c0,A=some ad∧w.cell? (ad.add i)=some (.slice A0 xs[i].length c0)∧xs[i].length≤c0∧Kd.C k57 w A0 xs[i].length xs[i]:=by
 obtain ⟨ad,c,e,_,hK,hc0⟩:=Kd.C_get h ([]:List S57) (i:Int) (by omega) (by omega)
 have hc:∀ j u,c[j]?=some u→w.cell? (ad.add (i * 1 + j))=some u:=hc0
 have hd:xs.getD ((i:Nat):Int).toNat []=xs[i]:=by
  rw [show ((i:Nat):Int).toNat=i from rfl,List.getD_eq_getElem?_getD,List.getElem?_eq_getElem hi];rfl
 rw [hd] at hK
 obtain ⟨A0,c0,rfl,l0,g0⟩:=hK
 exact ⟨ad,A0,c0,e,by have hq:=hc 0 _ rfl;rwa [Nat.mul_one,Nat.add_zero] at hq,l0,g0⟩
theorem own_C {W:World} {nb:Nat} {v:Value} {l:List (Str×Nd)} (h:Owr eCells 32 11 nb W v l):∃ A c,v=.slice A (l.map ofEn).length c∧(l.map ofEn).length≤c∧Kd.C k32 W A (l.map ofEn).length (l.map ofEn):=by
 have hr:=en_R h
 obtain ⟨A,c,rfl⟩:=Kd.R_slice hr
 exact ⟨A,c,rfl,(Kd.R_reads' hr).2.1,(Kd.R_reads' hr).2.2⟩
theorem pz40 {W:World} {nb b:Nat} {v:Value} {l:List (Str×Nd)} (h:Owr eCells 32 11 nb W v l) (hb:b<nb):v.ownBlock=none∨v.ownBlock≠some b:=by
 rcases h.2 with ⟨hv,_⟩|⟨g,cap,cur,hv,hg,_⟩
 ·subst hv;exact .inl rfl
 ·subst hv
  refine .inr fun h=>?_
  have:g=b:=Option.some.inj h
  omega
theorem own_low {W:World} {nb b:Nat} {v:Value} {l:List (Str×Nd)} (h:Owr eCells 32 11 nb W v l) (hb:b≤nb):Owr eCells 32 11 b W v l:=by
 refine ⟨h.1,?_⟩
 rcases h.2 with h0|⟨g,cap,cur,hv,hg,rest⟩
 ·exact .inl h0
 ·exact .inr ⟨g,cap,cur,hv,Nat.le_trans hb hg,rest⟩
def TreeIn (i:Nat) (w:World) (nb:Nat) (W:World) (v:Value) (t:List (Str×Nd)):Prop :=
 (i=0∧∃ (A:Option Addr) (c:Nat) (l:List S32),v=.slice A l.length c∧l.length≤c∧Kd.C k32 w A l.length l∧t=l.map enOf)∨Owr eCells 32 11 nb W v t
theorem TreeIn.C {i:Nat} {w W:World} {nb:Nat} {v:Value} {t:List (Str×Nd)} (h:TreeIn i w nb W v t) (hb:Below w.heap.size w W) :
  ∃ A c,v=.slice A (t.map ofEn).length c∧(t.map ofEn).length≤c∧Kd.C k32 W A (t.map ofEn).length (t.map ofEn):=by
 rcases h with ⟨_,A,c,l,rfl,hc,hr,rfl⟩|h
 ·rw [ens_forth]
  exact ⟨A,c,rfl,hc,Kd.C_below hr hb⟩
 ·exact own_C h
theorem TreeIn.kept {i:Nat} {w W W':World} {nb b:Nat} {v:Value} {t:List (Str×Nd)} (h:TreeIn i w nb W v t) (hg:W.grownBy W' (some b)) (hb:b<nb):TreeIn i w nb W' v t:=by
 rcases h with h|h
 ·exact .inl h
 ·exact .inr (h.kept hg (pz40 h hb))
theorem TreeIn.ext {i:Nat} {w W W':World} {nb:Nat} {v:Value} {t:List (Str×Nd)} (h:TreeIn i w nb W v t) (hb:Below W.heap.size W W'):TreeIn i w nb W' v t:=by
 rcases h with h|h
 ·exact .inl h
 ·exact .inr (h.ext hb)
attribute [local go_sem] Oper.semAt_some
set_option maxRecDepth 100000 in
set_option maxHeartbeats 4000000 in
theorem steps1_in (m:Nat) (w:World) (hG:GL w) (A1:Option Addr) (c1:Nat) (s:List (List S57)) (hS:Kd.C (Kd.slice 57 k57) w A1 s.length s) (hs:s.length≤1000000) (hf:∀ l ∈ s,lyrFits' l)
    (sb tb nb L:Nat) (htb:w.heap.size≤tb) (hsn:sb<nb) (htn:tb<nb) (hne:sb≠tb)
    (X:Nat→List (Str×Nd)→Value→World→Prop) (Xe:Nat→Int→World→Prop)
    (hX:∀ i t v W u,X i t v W→nb≤W.heap.size→X i t v (W.setCell ⟨tb,0,none⟩ u))
    (hY : ∀ (i:Nat) (t:List (Str×Nd)) (v:Value) (W W1:World) (x:Value) (rows:List (Str×Nd)) (err:Int) (hi:i<s.length),applyM Y t (s[i].map chOf)=(rows,err)→X i t v W→nb≤W.heap.size→Below w.heap.size w W1→Below W.heap.size W W1→Owr eCells 32 11 nb W1 x rows →
      YieldAt Fence.wide m Tryz.prog L #[.int .i64 i,.agg #[x,.int .i64 err]] W1 fun e W' =>
        (W'.cell? ⟨sb,0,none⟩=W1.cell? ⟨sb,0,none⟩∧W'.heap[tb]?=W1.heap[tb]?∧Owr eCells 32 11 nb W' x rows∧Below w.heap.size w W'∧nb≤W'.heap.size) ∧
        ((e=.returned (.bool true)∧(err=0→X (i + 1) rows x W')∧(err≠0→Xe i err W'))∨(e=.returned (.bool false)∧err≠0∧Xe i err W')))
    (W:World) (t0:List (Str×Nd)) (v0:Value) (h0:X 0 t0 v0 W) (hv0:TreeIn 0 w nb W v0 t0) (hft0:rowFits t0=true) (hlt0:t0.length≤1000000) (hWsb:W.cell? ⟨sb,0,none⟩=some (.slice A1 s.length c1))
    (hWtb:W.heap[tb]?=some (.cells #[v0] 22 (0,0))) (hWn:nb≤W.heap.size) (hWb:Below w.heap.size w W) :
    CallsIn Fence.wide (m + 1) Tryz.prog 78 #[.func (.yield L) #[] #[],.pointer (some ⟨sb,0,none⟩),.pointer (some ⟨tb,0,none⟩)] W fun e W'=>(∃ v,e=.returned v)∧Below w.heap.size w W' ∧
      ((∃ x t,ontoGo Y 0 t0 (s.map (List.map chOf))=(t,s.length,0)∧TreeIn s.length w nb W' x t∧rowFits t=true∧X s.length t x W') ∨
       (∃ i err,err≠0∧ontoGo Y 0 t0 (s.map (List.map chOf))=([],i,err)∧Xe i err W')):=by
  have HS:=pH hS
  have HL:=pH hs
  have HF:=pH hf
  have HX:=pH hX
  have HY:=pH hY
  have HNE:=pH hne
  have HTB:=pH htb
  have HSN:=pH hsn
  have HTN:=pH htn
  have HI0:Hid (X 0 t0 v0 W∧TreeIn 0 w nb W v0 t0∧rowFits t0=true∧t0.length≤1000000∧W.cell? ⟨sb,0,none⟩=some (.slice A1 s.length c1)∧W.heap[tb]?=some (.cells #[v0] 22 (0,0))∧nb≤W.heap.size∧Below w.heap.size w W):=pH ⟨h0,hv0,hft0,hlt0,hWsb,hWtb,hWn,hWb⟩
  clear hS hs hf hX hY hne htb hsn htn h0 hv0 hft0 hlt0 hWtb hWn hWb
  refine callsIn_of_wp Tryz.func78 rfl trivial ?_ rfl
  simp only [Tryz.ntmps78,List.size_toArray,List.length_cons,List.length_nil,Nat.reduceAdd,Nat.reduceSub,Array.replicate_succ,Array.replicate_zero,List.push_toArray,List.append_toArray,List.nil_append,List.cons_append]
  gi_wp2
  gi_loopw [10] (fun p wr=>∃ (i:Nat) (t:List (Str×Nd)) (v:Value),p=.int .i64 i∧Hid (i≤s.length)∧Hid (ontoGo Y 0 t0 (s.map (List.map chOf))=ontoGo Y i t ((s.drop i).map (List.map chOf)))∧Hid (X i t v wr∧TreeIn i w nb wr v t∧rowFits t=true∧t.length≤1000000∧wr.cell? ⟨sb,0,none⟩=some (.slice A1 s.length c1)∧wr.heap[tb]?=some (.cells #[v] 22 (0,0))∧nb≤wr.heap.size∧Below w.heap.size w wr))
    (fun p _=>s.length - (intOf p).toNat)
  case atStart=>exact ⟨0,t0,v0,rfl,pH (Nat.zero_le _),pH (by rw [List.drop_zero]),HI0⟩
  case round =>
    clear HI0 hWsb
    obtain ⟨i,t,v,rfl,HII,HO,HI⟩:=hrel
    by_cases hi:i<s.length
    · obtain ⟨h1,h2,h3,h4,h5,h6,h7,h8⟩:=HI.out
      obtain ⟨ads,As,cs,rfl,hsc,hlc,hcc⟩:=s_at HS.out i hi
      obtain ⟨At,ct,hv,hct,hcr⟩:=h2.C h8
      have q0:wr.cell? ⟨tb,0,none⟩=some (.slice At t.length ct):=by rw [pbc h6,← List.length_map (f:=ofEn),← hv];rfl
      have q1:wr.cell? (ads.add i)=some (.slice As s[i].length cs):=pz25 h8 hsc
      have hff:=HF.out _ (List.getElem_mem hi)
      obtain ⟨rows,err,hae⟩:∃ rows err,applyM Y t (s[i].map chOf)=(rows,err):=⟨_,_,rfl⟩
      have hcall:=tapply_calls wr (hG.ext h8) At ct (t.map ofEn) hcr hct (by rw [ens_back];exact h3) (by rw [List.length_map];exact h4) As cs s[i] (Kd.C_below hcc h8) hlc hff.1 hff.2
      rw [ens_back,hae,List.length_map] at hcall
      have HCALL:=pH hcall
      have HAE:=pH hae
      have hdr:ontoGo Y i t ((s.drop i).map (List.map chOf))=ontoGo Y i t (s[i].map chOf :: (s.drop (i + 1)).map (List.map chOf)):=by rw [List.drop_eq_getElem_cons hi];rfl
      have HDR:=pH hdr
      have HLF:=pH hff.1
      have hln:=HL.out
      clear hae hcall hdr hff hsc hcc h2 h3 h4 h6 hct hcr
      clear hv
      gi_wp2_with fail
      refine ⟨trivial,(callsIn_wide.2 HCALL.out).mono ?_⟩
      rintro e w1 ⟨x,rfl,ho,hb⟩
      have hb1:=pbt h8 hb
      obtain ⟨ax,capx,rfl,_,_⟩:=Owr.val ho
      obtain ⟨fn,tmps,assign,body,hy,hR⟩:=HY.out i t v wr w1 _ rows err hi HAE.out h1 h7 hb1 hb (own_low ho h7)
      have HT1:Hid (w1.heap[tb]?=some (.cells #[v] 22 (0,0))):=pH (pz11 (by obtain ⟨_,_,_,_,_,h,_⟩:=HI.out;exact h) hb)
      have HS1:Hid (w1.cell? ⟨sb,0,none⟩=some (.slice (some ads) s.length c1)):=pH (pz25 hb (by obtain ⟨_,_,_,_,h,_⟩:=HI.out;exact h))
      clear h1 h5 h7 h8 ho hb hb1 q0 q1 HCALL
      gi_wp2_with fail
      refine hR.mono ?_
      clear hR hy
      rintro e W3 ⟨⟨k1,k2,k3,k4,k5⟩,hend⟩
      have HK:=pH (And.intro k1 (And.intro k2 (And.intro k3 (And.intro k4 k5))))
      have q2:W3.cell? ⟨tb,0,none⟩=some v:=by rw [pbc (k2.trans HT1.out)];rfl
      have d2:W3.frozen? ⟨tb,0,none⟩=false:=pbf (k2.trans HT1.out) 0
      clear k1 k2 k3 k4 k5
      rcases hend with ⟨rfl,hx0,hxe⟩|⟨rfl,hne0,hxe⟩
      · by_cases herr:err=0
        · subst herr
          have HXN:=pH (hx0 rfl)
          clear hx0 hxe
          gi_wp2_with fail
          go_roundw
          case rel =>
            obtain ⟨k1,k2,k3,k4,k5⟩:=HK.out
            obtain ⟨g1,g2,g3,g4,g5,g6,g7,g8⟩:=HI.out
            refine ⟨i + 1,rows,_,by go_num,pH hi,pH ?_,pH ⟨HX.out _ _ _ _ _ HXN.out k5,.inr (k3.kept (grownBy_setCell' _ _ _) (pz40 k3 HTN.out)),fit_apply HAE.out g3 HLF.out,by have:=fit_len HAE.out;omega,?_,YtjghikkboekonaaGreatDoor.heap_set (k2.trans HT1.out) 0 _,by rw [World.size_setCell];exact k5,k4.setCell (p:=⟨tb,0,none⟩) HTB.out _⟩⟩
            · rw [HO.out,HDR.out,Zt.onto_ok (by rw [HAE.out]),HAE.out]
            · exact (World.cell?_setCell_far W3 ⟨tb,0,none⟩ ⟨sb,0,none⟩ _ (fun h=>HNE.out h.symm)).trans (k1.trans HS1.out)
          case measure=>simp [intOf];omega
        · have HXE:=pH (hxe herr)
          have he1:(err != 0)=true:=by simpa using herr
          have HER:=pH herr
          clear hx0 hxe herr
          gi_wp2_with fail
          refine bodyPost_ret (results_none rfl _ _ _) rfl ?_
          exact ⟨⟨_,rfl⟩,HK.out.2.2.2.1,.inr ⟨i,err,HER.out,by rw [HO.out,HDR.out,Zt.onto_no (by rw [HAE.out];exact HER.out),HAE.out],HXE.out⟩⟩
      · have HXE:=pH hxe
        have HER:=pH hne0
        clear hxe hne0
        gi_wp2_with fail
        refine bodyPost_ret (results_none rfl _ _ _) rfl ?_
        exact ⟨⟨_,rfl⟩,HK.out.2.2.2.1,.inr ⟨i,err,HER.out,by rw [HO.out,HDR.out,Zt.onto_no (by rw [HAE.out];exact HER.out),HAE.out],HXE.out⟩⟩
    · have he:i=s.length:=by have:=HII.out;omega
      subst he
      gi_wp2
      go_end0
      obtain ⟨h1,h2,h3,h4,h5,h6,h7,h8⟩:=HI.out
      refine ⟨⟨_,rfl⟩,h8,.inl ⟨v,t,?_,h2,h3,h1⟩⟩
      rw [HO.out,List.drop_eq_nil_of_le (Nat.le_refl _)]
      rfl
end Go.Proofs.Zq
end
section
namespace Go.Proofs.Zq
open Go.ChangeShapes Go.WideShapes Go.ChangeAt Go.RowKit Go.WideElems Go.Proofs.YtjghikkboekonaaGreatDoor Go.Proofs.Zw.PrintWords
section
variable {H:Type} {enc:TypeId×Value→H} {W:World} {base:Nat}
structure Ly (W:World) where
 a:Option Addr
 l:List S57
 cap:Nat
 b:Nat
 row:Kd.C k57 W a l.length l
 le:l.length≤cap
 bd:l.length * 128≤b
instance:Inhabited (Ly W):=⟨⟨none,[],0,0,Kd.C_nil _ _,Nat.le_refl _,Nat.le_refl _⟩⟩
end
end Go.Proofs.Zq
end
section
namespace Go.Proofs.Zq
open Go.RowKit Go.WideMaps Go.Maps Go.Proofs.YtjghikkboekonaaGreatDoor Go.Proofs.Zw.PrintWords Go.Proofs.Zw.PrintLast Go.Proofs.Zw.PrintMore
abbrev enVal (e:Str×Nd):Value:=.agg (eCells e).toArray
theorem laid_out:laidOutB Tryz.prog=true:=by kernel_rfl
theorem enLaw:KeyLaw Tryz.prog 32:=deep_law_laid laid_out (m:=3) (by omega) (of_decide_eq_true (by kernel_rfl)) (by kernel_rfl) (by rw [Tryz.underlying32])
def NdWf (n:Nd):Prop:=(Lit.int .i64 n.kind).wf=true∧(Lit.int .i64 n.mode).wf=true∧(Lit.int .i64 n.uid).wf=true∧(Lit.int .i64 n.gid).wf=true∧(Lit.int .i64 n.mtime).wf=true∧(Lit.int .i64 n.major).wf=true∧(Lit.int .i64 n.minor).wf=true
def EnOk (e:Str×Nd):Prop:=∃ kl,keyOf Tryz.prog 32 (enVal e)=some kl
theorem lits_str (d:Nat) (s:Str) (h:s.length≤1000000000):Tryz.prog.keyLits (d + 1) 9 [.string (B s)]=some [.string s]:=by
 unfold Program.keyLits
 rw [Tryz.underlying9]
 have:(B s).size≤maxLen:=by show s.toArray.size≤maxLen;unfold maxLen;simp;omega
 simp [this,B]
theorem lits_int (d:Nat) (x:Int) (h:(Lit.int .i64 x).wf=true):Tryz.prog.keyLits (d + 1) 3 [.int .i64 x]=some [.int .i64 x]:=by
 unfold Program.keyLits
 rw [Tryz.underlying3]
 simp [h]
theorem lits_nd (d:Nat) (n:Nd) (h:NdWf n) (h1:n.link.length≤1000000000) (h2:n.data.length≤1000000000) (h3:n.attrs.length≤1000000000) :
  ∃ ls,Tryz.prog.keyLits (d + 2) 28 (pz18 n)=some ls:=by
 obtain ⟨w0,w1,w2,w3,w4,w7,w8⟩:=h
 have hI:Tryz.prog.cellsOf 3=1:=by kernel_rfl
 have hS:Tryz.prog.cellsOf 9=1:=by kernel_rfl
 have hN:Tryz.prog.cellsOf 28=10:=by kernel_rfl
 refine ⟨[.int .i64 n.kind,.int .i64 n.mode,.int .i64 n.uid,.int .i64 n.gid,.int .i64 n.mtime,.string n.link,.string n.data,.int .i64 n.major,.int .i64 n.minor,.string n.attrs],?_⟩
 unfold Program.keyLits
 rw [Tryz.underlying28]
 simp only [hN,pz18]
 simp [hI,hS,lits_int _ _ w0,lits_int _ _ w1,lits_int _ _ w2,lits_int _ _ w3,lits_int _ _ w4,lits_int _ _ w7,lits_int _ _ w8,lits_str _ _ h1,lits_str _ _ h2,lits_str _ _ h3]
theorem enOk_of {e:Str×Nd} (h:e.1.length≤1000000000) (hw:NdWf e.2) (h1:e.2.link.length≤1000000000) (h2:e.2.data.length≤1000000000) (h3:e.2.attrs.length≤1000000000):EnOk e:=by
 have hN:Tryz.prog.cellsOf 28=10:=by kernel_rfl
 have hS:Tryz.prog.cellsOf 9=1:=by kernel_rfl
 have hE:Tryz.prog.cellsOf 32=11:=by kernel_rfl
 have hkt:Tryz.prog.keyType 32=true:=by kernel_rfl
 have hsz:∃ d,Tryz.prog.types.size=d + 3:=⟨Tryz.prog.types.size - 3,by have:3≤Tryz.prog.types.size:=of_decide_eq_true (by kernel_rfl);omega⟩
 obtain ⟨d,hd⟩:=hsz
 obtain ⟨ls,hls⟩:=lits_nd (d + 1) e.2 hw h1 h2 h3
 refine ⟨.string (keyBytes (.string e.1 :: ls)),?_⟩
 unfold keyOf
 rw [Tryz.underlying32]
 have hf:(enVal e).formed Tryz.prog 32=true:=by
  simp only [Value.formed,Tryz.underlying32,hE]
  rfl
 simp only [hkt,hf,Bool.and_self,if_true,hd]
 have:Tryz.prog.keyLits (d + 3 + 1) 32 (enVal e).cells.toList=some (.string e.1 :: ls):=by
  unfold Program.keyLits
  rw [Tryz.underlying32]
  simp only [hE,Value.cells,eCells]
  simp [hN,hS,lits_str _ _ h]
  refine ⟨by simp [pz18],?_⟩
  have e1:(pz18 e.2).take 10=pz18 e.2:=List.take_of_length_le (by simp [pz18])
  have e2:Tryz.prog.keyLits (d + 3) 28 (pz18 e.2)=some ls:=hls
  rw [e1,e2]
  simp
 rw [this]
 rfl
def EnMap (w:World) (b n:Nat) (f:Str×Nd→Nat):Prop :=
 ∃ D:DataW Unit,w.ownsMap Tryz.prog 32 (plainElem Tryz.prog 3) b n D∧IsMap D∧∀ (e:Str×Nd) (kl:Lit),keyOf Tryz.prog 32 (enVal e)=some kl→D.atKey kl (.lit (.int .i64 0))=.lit (.int .i64 (f e))
theorem EnMap.made (w:World):EnMap (w.alloc (.map #[] 0)) w.heap.size 0 (fun _=>0) :=
 ⟨.map [],World.ownsMap_made _ _ _ _,isMap_empty,fun _ _ _=>rfl⟩
theorem EnMap.lt {w:World} {b n:Nat} {f:Str×Nd→Nat} (h:EnMap w b n f):b<w.heap.size:=let ⟨_,h1,_⟩:=h;h1.lt
theorem EnMap.ext {w w':World} {b n:Nat} {f:Str×Nd→Nat} (h:EnMap w b n f) (hb:Below w.heap.size w w'):EnMap w' b n f :=
 let ⟨D,h1,h2,h3⟩:=h;⟨D,h1.kept (row:=none) ⟨hb.os,hb.tape,hb.output,hb.size,fun k hk _=>hb.block k hk⟩ (by simp),h2,h3⟩
theorem EnMap.drew {w:World} {b n:Nat} {f:Str×Nd→Nat} (h:EnMap w b n f):EnMap w.drew b n f:=h
theorem EnMap.look {w:World} {b n:Nat} {f:Str×Nd→Nat} (h:EnMap w b n f) {e:Str×Nd} (he:EnOk e) :
  (Instr.lookup 69 (.map (some b)) (enVal e) false).run Tryz.prog w=.ok (.int .i64 (f e)) w:=by
 obtain ⟨D,h1,h2,h3⟩:=h
 obtain ⟨kl,hkl⟩:=he
 obtain ⟨c,hrun,hat,_⟩:=h1.lookup_int (Keyed.of_law enLaw) Tryz.underlying69 Tryz.underlying3 (zeroInt _) hkl
 rw [hrun]
 rw [h3 e kl hkl] at hat
 simp only [DataW.lit.injEq,Lit.int.injEq,true_and] at hat
 rw [hat]
theorem enVal_inj {a b:Str×Nd} (h:enVal a=enVal b):a=b:=by
 obtain ⟨a1,a2⟩:=a
 obtain ⟨b1,b2⟩:=b
 have h':eCells (a1,a2)=eCells (b1,b2):=by
  have:=congrArg (fun v=>match v with|.agg cs=>cs.toList|_=>[]) h
  simpa using this
 have e1:B a1=B b1:=by
  have:=congrArg (fun l=>l[0]?) h'
  simpa [eCells] using this
 have e2:pz18 a2=pz18 b2:=by
  have:=congrArg (fun l=>l.drop 1) h'
  simpa [eCells] using this
 have e3:a1=b1:=by
  have:=congrArg (fun s:ByteArray=>s.data.toList) e1
  simpa [B] using this
 have e4:a2=b2:=ndVal_inj (by unfold ndVal;rw [e2])
 rw [e3,e4]
theorem setBlock_self {w:World} {b:Nat} {o:Obj} (h:w.heap[b]?=some o):Go.ChangeMaps.setBlock w b o=w:=by
 unfold Go.ChangeMaps.setBlock
 have:w.heap.setIfInBounds b o=w.heap:=by
  apply Array.ext_getElem?
  intro i
  rw [Array.getElem?_setIfInBounds]
  split
  ·rename_i e;subst e;split <;> simp_all
  ·rfl
 rw [this]
theorem EnMap.mono {w:World} {b n m:Nat} {f:Str×Nd→Nat} (h:EnMap w b n f) (hn:n≤m):EnMap w b m f:=let ⟨D,h1,h2,h3⟩:=h;⟨D,h1.mono hn,h2,h3⟩
theorem EnMap.entry {w:World} {b n:Nat} {f:Str×Nd→Nat} (h:EnMap w b n f) (hn:n≤1000000000) {e:Str×Nd} (he:EnOk e) (hf:f e≤1000000000) :
  ∃ (v0:Value) (st:Nat) (w1:World),(Instr.mapEntry 69 (.map (some b)) (enVal e)).run Tryz.prog w=.ok (.tuple #[v0,.int .i64 st]) w1∧EnMap w1 b (n + 1) f∧w.grownBy w1 (some b) ∧
   ∃ w2,(Instr.entryStore 69 (.map (some b)) (.int .i64 st) (.int .i64 ((f e + 1:Nat):Int))).run Tryz.prog w1=.ok () w2∧EnMap w2 b (n + 1) (fun x=>if x=e then f e + 1 else f x)∧w.grownBy w2 (some b):=by
 have hE:=h
 obtain ⟨D,h1,h2,h3⟩:=h
 obtain ⟨kl,hkl⟩:=he
 have hup:=fun (c:Nat) (hc:c≤9223372036854775807)=>h1.update (Keyed.of_law enLaw) Tryz.underlying69 (by unfold maxLen;omega) hkl (plainElem_int (H:=Unit) Tryz.underlying3 (wf_nat hc))
 obtain ⟨w2,hrun,hown,hg⟩:=hup (f e + 1) (by omega)
 obtain ⟨es,clock,hb,F,hs,hD⟩:=h1
 obtain ⟨v0,st,es1,clock1,hent,_,hst⟩:=Go.WideElems.entry_then_store enLaw Tryz.underlying69 (fun u=>zeroInt u) hb F hkl
 have hbl:b<w.heap.size:=(Array.getElem?_eq_some_iff.1 hb).1
 obtain ⟨es',clock',hs1,hs2⟩:=hst (Go.ChangeMaps.setBlock w b (.map es1 clock1)) (.int .i64 ((f e + 1:Nat):Int)) (by
  show (w.heap.setIfInBounds b _)[b]?=_
  rw [Array.getElem?_setIfInBounds_self_of_lt hbl])
 rw [hs2] at hrun
 injection hrun with _ hrun
 have e1:Go.ChangeMaps.setBlock (Go.ChangeMaps.setBlock w b (.map es1 clock1)) b (.map es' clock')=w2:=by
  rw [← hrun]
  unfold Go.ChangeMaps.setBlock
  simp
 have key:EnMap (Go.ChangeMaps.setBlock w b (.map es1 clock1)) b (n + 1) f∧w.grownBy (Go.ChangeMaps.setBlock w b (.map es1 clock1)) (some b):=by
  rcases enLaw.find w hkl es.toList F.keys with ⟨q1,q2⟩|⟨j,e0,q1,q2,q3⟩
  ·have hz:(Instr.mapEntry 69 (.map (some b)) (enVal e)).run Tryz.prog w=.ok (.tuple #[.int .i64 0,goInt clock]) (Go.ChangeMaps.setBlock w b (.map (es.push ⟨enVal e,.int .i64 0,clock⟩) (clock + 1))):=by
    simp [Instr.mapEntry,run_underlying Tryz.underlying69,MapKept.run_getObj_map hb,enLaw.check w false hkl,q1,zeroInt,MapKept.run_setObj_map _ hb,Result.andThen,Go.ChangeMaps.setBlock]
   have hm:(Instr.mapUpdate 69 (.map (some b)) (enVal e) (.int .i64 ((0:Nat):Int))).run Tryz.prog w=.ok () (Go.ChangeMaps.setBlock w b (.map (es.push ⟨enVal e,.int .i64 0,clock⟩) (clock + 1))):=by
    simp [Instr.mapUpdate,run_underlying Tryz.underlying69,MapKept.run_getObj_map hb,enLaw.check w false hkl,q1,MapKept.run_setObj_map _ hb,Result.andThen,Go.ChangeMaps.setBlock]
   rw [hent] at hz
   injection hz with _ hz
   obtain ⟨w3,r3,o3,g3⟩:=hup 0 (by omega)
   rw [hm] at r3
   injection r3 with _ r3
   have hf0:f e=0:=by
    rcases Maps.fit_look false (Keyed.of_law enLaw) Tryz.underlying69 (zeroInt w) hb F hkl with ⟨_,_,hat⟩|⟨x0,y,hm0,k3,_⟩
    ·have:=h3 e kl hkl
     rw [hD,hat] at this
     simpa using this.symm
    ·exact absurd k3 (q2 x0 hm0)
   rw [hz,r3]
   refine ⟨⟨_,o3,h2.put _ _,fun x kx hx=>?_⟩,g3⟩
   by_cases hxe:x=e
   ·subst hxe
    rw [hkl] at hx
    obtain rfl:=Option.some.inj hx
    rw [atKey_put_same h2 ((Keyed.of_law enLaw).key hkl),hf0]
   ·have hne:kx≠kl:=fun hk=>hxe (enVal_inj (enLaw.inj (l:=kl) (by rw [hx,hk]) hkl))
    rw [atKey_put_other hne,h3 x kx hx]
  ·have hj:es[j]?=some e0:=by simpa using q2
   have hsame:es.modify j (fun y=>{ y with key:=enVal e })=es:=by
    apply Array.ext'
    rw [Array.toList_modify,Go.ChangeMaps.modify_eq_set _ _ _ _ q2]
    have:({ e0 with key:=enVal e }:MapEntry)=e0:=by rw [← q3]
    rw [this]
    exact Go.WideElems.set_self _ _ _ q2
   have hz:(Instr.mapEntry 69 (.map (some b)) (enVal e)).run Tryz.prog w=.ok (.tuple #[e0.val,goInt e0.born]) (Go.ChangeMaps.setBlock w b (.map es clock)):=by
    simp [Instr.mapEntry,run_underlying Tryz.underlying69,MapKept.run_getObj_map hb,enLaw.check w false hkl,q1,hj,q3,enLaw.stays w hkl,hsame,MapKept.run_setObj_map _ hb,Result.andThen,Go.ChangeMaps.setBlock]
   rw [hent] at hz
   injection hz with _ hz
   rw [hz,setBlock_self hb]
   exact ⟨hE.mono (Nat.le_succ n),⟨rfl,rfl,rfl,Nat.le_refl _,fun _ _ _=>rfl⟩⟩
 refine ⟨v0,st,_,hent,key.1,key.2,_,hs1,?_⟩
 rw [e1]
 refine ⟨⟨_,hown,h2.put _ _,fun x kx hx=>?_⟩,hg⟩
 by_cases hxe:x=e
 ·subst hxe
  rw [hkl] at hx
  obtain rfl:=Option.some.inj hx
  show _=DataW.lit (Lit.int IntKind.i64 ((if x=x then f x + 1 else f x:Nat):Int))
  rw [if_pos rfl,atKey_put_same h2 ((Keyed.of_law enLaw).key hkl)]
 ·show _=DataW.lit (Lit.int IntKind.i64 ((if x=e then f e + 1 else f x:Nat):Int))
  have hne:kx≠kl:=fun hk=>hxe (enVal_inj (enLaw.inj (l:=kl) (by rw [hx,hk]) hkl))
  rw [if_neg hxe,atKey_put_other hne,h3 x kx hx]
end Go.Proofs.Zq
end
section
namespace Go.Proofs.Zq
open Go.ChangeShapes Go.WideShapes Go.ChangeAt Go.RowKit Go.WideElems Go.Proofs.YtjghikkboekonaaGreatDoor Go.Proofs.Zw.PrintWords
section
variable {H:Type} {enc:TypeId×Value→H} {W:World} {base:Nat} {spare:Nat→Bool} {held:Bool}
theorem wf_of {fuel:Nat} {z:Int} {y:DataW H×List MemPlace} (h:DataW.trod enc Tryz.prog W base spare held fuel 3 [.int .i64 z]=some y):(Lit.int .i64 z).wf=true:=by
 obtain ⟨n,h1,_,h2⟩:=DataW.trod_int Tryz.underlying3 h
 cases h1
 exact h2
set_option maxRecDepth 100000 in
theorem nd_wf {fuel:Nat} {n:Nd} {y:DataW H×List MemPlace} (h:DataW.trod enc Tryz.prog W base spare held fuel 28 (pz18 n)=some y):NdWf n:=by
 obtain ⟨xs,m,_,_,_,hlen,hf⟩:=DataW.trod_struct Tryz.underlying28 h
 have hI:Tryz.prog.cellsOf 3=1:=by kernel_rfl
 have hxs:xs.length=10:=hlen
 match xs,hxs with
 | [y0,y1,y2,y3,y4,y5,y6,y7,y8,y9],_ =>
  have f0:DataW.trod enc Tryz.prog W base spare held m 3 ((List.drop 0 (pz18 n)).take (Tryz.prog.cellsOf 3))=some y0:=hf 0 _ rfl
  have f1:DataW.trod enc Tryz.prog W base spare held m 3 ((List.drop 1 (pz18 n)).take (Tryz.prog.cellsOf 3))=some y1:=hf 1 _ rfl
  have f2:DataW.trod enc Tryz.prog W base spare held m 3 ((List.drop 2 (pz18 n)).take (Tryz.prog.cellsOf 3))=some y2:=hf 2 _ rfl
  have f3:DataW.trod enc Tryz.prog W base spare held m 3 ((List.drop 3 (pz18 n)).take (Tryz.prog.cellsOf 3))=some y3:=hf 3 _ rfl
  have f4:DataW.trod enc Tryz.prog W base spare held m 3 ((List.drop 4 (pz18 n)).take (Tryz.prog.cellsOf 3))=some y4:=hf 4 _ rfl
  have f7:DataW.trod enc Tryz.prog W base spare held m 3 ((List.drop 7 (pz18 n)).take (Tryz.prog.cellsOf 3))=some y7:=hf 7 _ rfl
  have f8:DataW.trod enc Tryz.prog W base spare held m 3 ((List.drop 8 (pz18 n)).take (Tryz.prog.cellsOf 3))=some y8:=hf 8 _ rfl
  rw [hI] at f0 f1 f2 f3 f4 f7 f8
  exact ⟨wf_of f0,wf_of f1,wf_of f2,wf_of f3,wf_of f4,wf_of f7,wf_of f8⟩
theorem zwf:NdWf (enOf z32).2:=⟨rfl,rfl,rfl,rfl,rfl,rfl,rfl⟩
instance:Inhabited {e:S32 // NdWf (enOf e).2}:=⟨⟨z32,zwf⟩⟩
end
end Go.Proofs.Zq
end
section
namespace Go.Proofs.Zq
open Go.RowKit Go.Shelf Go.Proofs.YtjghikkboekonaaGreatDoor Go.Proofs.Zw.PrintWords Go.Proofs.Zw.PrintLast Go.Proofs.Zw.PrintMore
open Go.Proofs.Zt (applyM ontoGo ontoM rightT Ch)
theorem steps_calls (w:World) (v0 v1:Value) (A0:Option Addr) (n0 c0:Nat) (A1:Option Addr) (n1 c1:Nat) (e0:v0=.slice A0 n0 c0) (e1:v1=.slice A1 n1 c1):Calls Tryz.prog 47 #[v0,v1] w fun e w' =>
  e=.returned (.func (.func 78) #[] #[.pointer (some ⟨w.heap.size + 1,0,none⟩),.pointer (some ⟨w.heap.size,0,none⟩)])∧w'=(w.alloc (.cells #[v0] 22 (0,0))).alloc (.cells #[v1] 41 (0,0)):=by
 subst e0
 subst e1
 go_enter Tryz.func47,Tryz.ntmps47
 go_wp2
 go_ret
 exact ⟨rfl,rfl⟩
theorem set_far (W:World) (a b:Nat) (u:Value) (h:a≠b):(W.setCell ⟨a,0,none⟩ u).heap[b]?=W.heap[b]?:=by
 simp only [World.setCell,Array.getElem?_modify]
 rw [if_neg h]
theorem own_lt {W:World} {nb b:Nat} {v:Value} {l:List (Str×Nd)} (h:Owr eCells 32 11 nb W v l) (hb:W.heap.size≤b):v.ownBlock=none∨v.ownBlock≠some b:=by
 rcases h.2 with ⟨hv,_⟩|⟨g,cap,cur,hv,_,hg,_⟩
 ·subst hv;exact .inl rfl
 ·subst hv
  refine .inr fun h=>?_
  have h1:g=b:=Option.some.inj h
  have h2:=(Array.getElem?_eq_some_iff.1 hg).1
  omega
structure Box3 (W:World) (n:Nat) (u4 u5 u6:Value):Prop where
 b4:W.heap[n]?=some (.cells #[u4] 22 (0,0))
 b5:W.heap[n + 1]?=some (.cells #[u5] 3 (0,0))
 b6:W.heap[n + 1 + 1]?=some (.cells #[u6] 38 (0,0))
theorem Box3.ext {W W':World} {n:Nat} {u4 u5 u6:Value} (h:Box3 W n u4 u5 u6) (hb:Below W.heap.size W W'):Box3 W' n u4 u5 u6:=⟨pz11 h.b4 hb,pz11 h.b5 hb,pz11 h.b6 hb⟩
theorem three_new (w:World) (o1 o2 o3:Obj):(((w.alloc o1).alloc o2).alloc o3).heap[w.heap.size]?=some o1∧(((w.alloc o1).alloc o2).alloc o3).heap[w.heap.size + 1]?=some o2∧(((w.alloc o1).alloc o2).alloc o3).heap[w.heap.size + 1 + 1]?=some o3:=by
 have h4:=World.alloc_heap_new w o1
 have h5:=World.alloc_heap_new (w.alloc o1) o2
 have h6:=World.alloc_heap_new ((w.alloc o1).alloc o2) o3
 simp only [World.size_alloc] at h5 h6
 exact ⟨(Below.heap_alloc _ _ _ (by simp;omega)).trans ((Below.heap_alloc _ _ _ (by simp)).trans h4),(Below.heap_alloc _ _ _ (by simp)).trans h5,h6⟩
theorem box3_new (w:World) (u4 u5 u6:Value):Box3 (((w.alloc (.cells #[u4] 22 (0,0))).alloc (.cells #[u5] 3 (0,0))).alloc (.cells #[u6] 38 (0,0))) w.heap.size u4 u5 u6 :=
 ⟨(three_new w _ _ _).1,(three_new w _ _ _).2.1,(three_new w _ _ _).2.2⟩
theorem Box3.put {w W:World} {n:Nat} {u4 u5 u6:Value} (h:Box3 W n u4 u5 u6) (hn:w.heap.size≤n) (hb:Below w.heap.size w W) (x y z:Value) :
  Box3 (((W.setCell ⟨n,0,none⟩ x).setCell ⟨n + 1,0,none⟩ y).setCell ⟨n + 1 + 1,0,none⟩ z) n x y z∧Below w.heap.size w (((W.setCell ⟨n,0,none⟩ x).setCell ⟨n + 1,0,none⟩ y).setCell ⟨n + 1 + 1,0,none⟩ z):=by
 have o:∀ (V:World) (a b:Nat) (u:Value),a≠b→(V.setCell ⟨a,0,none⟩ u).heap[b]?=V.heap[b]?:=set_far
 have h5:(W.setCell ⟨n,0,none⟩ x).heap[n + 1]?=some (.cells #[u5] 3 (0,0)):=(o _ _ _ _ (by omega)).trans h.b5
 have h6:((W.setCell ⟨n,0,none⟩ x).setCell ⟨n + 1,0,none⟩ y).heap[n + 1 + 1]?=some (.cells #[u6] 38 (0,0)):=((o _ _ _ _ (by omega)).trans (o _ _ _ _ (by omega))).trans h.b6
 refine ⟨⟨((o _ _ _ _ (by omega)).trans (o _ _ _ _ (by omega))).trans (YtjghikkboekonaaGreatDoor.heap_set h.b4 0 x),(o _ _ _ _ (by omega)).trans (YtjghikkboekonaaGreatDoor.heap_set h5 0 y),YtjghikkboekonaaGreatDoor.heap_set h6 0 z⟩,?_⟩
 exact ((hb.setCell (p:=⟨n,0,none⟩) hn x).setCell (p:=⟨n + 1,0,none⟩) (by show _≤n + 1;omega) y).setCell (p:=⟨n + 1 + 1,0,none⟩) (by show _≤n + 1 + 1;omega) z
theorem res3 {W:World} {n:Nat} {x y z:Value} (h:Box3 W n x y z) (tmps:Array Value) (h4:tmps[4]?.getD undef=.pointer (some ⟨n,0,none⟩)) (h5:tmps[5]?.getD undef=.pointer (some ⟨n + 1,0,none⟩)) (h6:tmps[6]?.getD undef=.pointer (some ⟨n + 1 + 1,0,none⟩)) :
  (results Tryz.f21 tmps).run Tryz.prog W=.ok (.tuple #[x,y,z]) W:=by
 have q4:W.cell? ⟨n,0,none⟩=some x:=pbc h.b4 0
 have q5:W.cell? ⟨n + 1,0,none⟩=some y:=pbc h.b5 0
 have q6:W.cell? ⟨n + 1 + 1,0,none⟩=some z:=pbc h.b6 0
 have hu4:=Tryz.underlying22
 have hu5:=Tryz.underlying3
 have hu6:=Tryz.underlying38
 simp [results,Tryz.f21,go_sem,q4,q5,q6,h4,h5,h6,hu4,hu5,hu6]
theorem RecAt.ext {L D:Nat} {r:Loop} {W W':World} (h:RecAt L D r W) (hb:Below W.heap.size W W'):RecAt L D r W' :=
 ⟨(hb.block _ (Array.getElem?_eq_some_iff.1 h.1).1).trans h.1,(hb.block _ (Array.getElem?_eq_some_iff.1 h.2).1).trans h.2⟩
theorem RecAt.set {L D b:Nat} {r:Loop} {W:World} (h:RecAt L D r W) (u:Value) (hL:b≠L) (hD:b≠D):RecAt L D r (W.setCell ⟨b,0,none⟩ u):=⟨(set_far W b L u hL).trans h.1,(set_far W b D u hD).trans h.2⟩
theorem Box3.set {W:World} {n b:Nat} {u4 u5 u6:Value} (h:Box3 W n u4 u5 u6) (u:Value) (h4:b≠n) (h5:b≠n + 1) (h6:b≠n + 1 + 1):Box3 (W.setCell ⟨b,0,none⟩ u) n u4 u5 u6:=⟨(set_far W b n u h4).trans h.b4,(set_far W b (n + 1) u h5).trans h.b5,(set_far W b (n + 1 + 1) u h6).trans h.b6⟩
theorem put_cell (W:World) (L b j:Nat) (o:Obj) (h:b≠L):(W.putObj L o).cell? ⟨b,j,none⟩=W.cell? ⟨b,j,none⟩:=by
 unfold World.cell?
 rw [World.putObj_heap_other h]
theorem Box3.far {W:World} {n L:Nat} {u4 u5 u6:Value} (h:Box3 W n u4 u5 u6) (o:Obj) (hL:n + 1 + 1<L):Box3 (W.putObj L o) n u4 u5 u6:=⟨(World.putObj_heap_other (by omega)).trans h.b4,(World.putObj_heap_other (by omega)).trans h.b5,(World.putObj_heap_other (by omega)).trans h.b6⟩
theorem box_end {w W2:World} {n L D sb tb nb:Nat} {u4 u5 u6 q:Value} {c:Option Value} {k:Option Obj} {r:Loop} {l:List (Str×Nd)} (hn:w.heap.size≤n) (h3:Box3 W2 n u4 u5 u6) (hb:Below w.heap.size w W2) (hr:RecAt L D r W2) (ho:Owr eCells 32 11 nb W2 q l)
  (hs:W2.cell? ⟨sb,0,none⟩=c) (ht:W2.heap[tb]?=k) (hz:nb≤W2.heap.size) (h1:n + 1 + 1<sb) (h2:n + 1 + 1<tb) (h4:n + 1 + 1<D) (h5:n + 1 + 1<L) (h6:n + 1 + 1<nb) {x y z:Value} :
  ∀ V,V=(((W2.setCell ⟨n,0,none⟩ x).setCell ⟨n + 1,0,none⟩ y).setCell ⟨n + 1 + 1,0,none⟩ z).drew →
  RecAt L D r V∧(V.cell? ⟨sb,0,none⟩=c∧V.heap[tb]?=k∧Owr eCells 32 11 nb V q l∧Below w.heap.size w V∧nb≤V.heap.size)∧Box3 V n x y z:=by
 rintro V rfl
 obtain ⟨p1,p2⟩:=h3.put (w:=w) hn hb x y z
 have hr3:=((hr.set (b:=n) x (by omega) (by omega)).set (b:=n + 1) y (by omega) (by omega)).set (b:=n + 1 + 1) z (by omega) (by omega)
 refine ⟨⟨hr3.1,hr3.2⟩,⟨?_,?_,?_,p2.drew,?_⟩,⟨p1.b4,p1.b5,p1.b6⟩⟩
 ·refine Eq.trans ?_ hs
  exact (((World.cell?_setCell_far _ ⟨n + 1 + 1,0,none⟩ ⟨sb,0,none⟩ z (by show n + 1 + 1≠sb;omega)).trans (World.cell?_setCell_far _ ⟨n + 1,0,none⟩ ⟨sb,0,none⟩ y (by show n + 1≠sb;omega))).trans (World.cell?_setCell_far _ ⟨n,0,none⟩ ⟨sb,0,none⟩ x (by show n≠sb;omega)))
 ·exact (((set_far _ _ _ _ (by omega)).trans (set_far _ _ _ _ (by omega))).trans (set_far _ _ _ _ (by omega))).trans ht
 ·exact ((((ho.kept (grownBy_setCell' _ n x) (pz40 ho (by omega))).kept (grownBy_setCell' _ (n + 1) y) (pz40 ho (by omega))).kept (grownBy_setCell' _ (n + 1 + 1) z) (pz40 ho (by omega)))).ext (Below.refl _ _).drew
 ·simp;exact hz
attribute [local go_sem] Oper.semAt_some
set_option maxRecDepth 100000 in
set_option maxHeartbeats 4000000 in
theorem onto_calls (w:World) (hG:GL w) (A0:Option Addr) (c0:Nat) (l0:List S32) (hr0:Kd.C k32 w A0 l0.length l0) (hc0:l0.length≤c0) (hf0:rowFits' l0)
  (A1:Option Addr) (c1:Nat) (s:List (List S57)) (hS:Kd.C (Kd.slice 57 k57) w A1 s.length s) (hs:s.length≤1000000) (hf:∀ l ∈ s,lyrFits' l) :
  Calls Tryz.prog 21 #[.slice A0 l0.length c0,.slice A1 s.length c1] w fun e w'=>∃ v:Value,e=.returned (.tuple #[v,.int .i64 ((ontoM Y (l0.map enOf) (s.map (List.map chOf))).2.1:Int),.int .i64 (ontoM Y (l0.map enOf) (s.map (List.map chOf))).2.2]) ∧
   Owr eCells 32 11 w.heap.size w' v (ontoM Y (l0.map enOf) (s.map (List.map chOf))).1∧Below w.heap.size w w':=by
 have HR0:=pH hr0
 have HC0:=pH hc0
 have HF0:=pH hf0
 have HS:=pH hS
 have HL:=pH hs
 have HF:=pH hf
 clear hr0 hc0 hf0 hS hs hf
 refine (callsIn_wide (n:=6)).1 ?_
 refine callsIn_of_wp_marks Tryz.func21 rfl trivial ?_ rfl
 simp only [Tryz.ntmps21,List.size_toArray,List.length_cons,List.length_nil,Nat.reduceAdd,Nat.reduceSub,Array.replicate_succ,Array.replicate_zero,List.push_toArray,List.append_toArray,List.nil_append,List.cons_append]
 gi_wp2_with fail
 have hbx:=box3_new w (.slice none 0 0) (.int .i64 0) (.int .i64 0)
 have hbw:Below w.heap.size w (((w.alloc (.cells #[.slice none 0 0] 22 (0,0))).alloc (.cells #[.int .i64 0] 3 (0,0))).alloc (.cells #[.int .i64 0] 38 (0,0))):=(((Below.refl _ w).alloc (Nat.le_refl _) _).alloc (by simp) _).alloc (by simp;omega) _
 have hsz:(((w.alloc (.cells #[.slice none 0 0] 22 (0,0))).alloc (.cells #[.int .i64 0] 3 (0,0))).alloc (.cells #[.int .i64 0] 38 (0,0))).heap.size=w.heap.size + 1 + 1 + 1:=by simp
 generalize ((w.alloc (.cells #[.slice none 0 0] 22 (0,0))).alloc (.cells #[.int .i64 0] 3 (0,0))).alloc (.cells #[.int .i64 0] 38 (0,0))=wa at hbx hbw hsz ⊢
 have HRT:=tright_calls wa (hG.ext hbw) A0 c0 l0 (Kd.C_below HR0.out hbw) HC0.out HF0.out.1 HF0.out.2
 refine ⟨trivial,(callsIn_wide.2 HRT).mono ?_⟩
 clear HRT
 rintro e w1 ⟨rfl,hb⟩
 have HBX:=pH (hbx.ext hb)
 have HW1:=pH (pbt hbw hb)
 have HZ1:Hid (w.heap.size + 1 + 1 + 1≤w1.heap.size):=pH (by have:=hb.size;omega)
 clear hbx hbw hsz hb
 have q4:w1.cell? ⟨w.heap.size,0,none⟩=some (.slice none 0 0):=pbc HBX.out.b4 0
 have q5:w1.cell? ⟨w.heap.size + 1,0,none⟩=some (.int .i64 0):=pbc HBX.out.b5 0
 have q6:w1.cell? ⟨w.heap.size + 1 + 1,0,none⟩=some (.int .i64 0):=pbc HBX.out.b6 0
 have d4:=pbf HBX.out.b4 0
 have d5:=pbf HBX.out.b5 0
 have d6:=pbf HBX.out.b6 0
 cases hrt:rightT Y (l0.map enOf) with
 | false =>
  have HM:Hid (ontoM Y (l0.map enOf) (s.map (List.map chOf))=([],0,1)):=pH (by unfold ontoM;rw [hrt];rfl)
  have HP:=HBX.out.put (w:=w) (Nat.le_refl _) HW1.out (.slice none 0 0) (.int .i64 0) (.int .i64 1)
  gi_wp2_with fail
  refine ⟨_,res3 HP.1 _ rfl rfl rfl,?_⟩
  exact ⟨_,by rw [HM.out];rfl,by rw [HM.out];exact Owr.nil _ _ _ _ _,HP.2⟩
 | true =>
 have HM:Hid (ontoM Y (l0.map enOf) (s.map (List.map chOf))=ontoGo Y 0 (l0.map enOf) (s.map (List.map chOf))):=pH (by unfold ontoM;rw [hrt];rfl)
 clear hrt q4 q5 q6 d4 d5 d6
 gi_wp2_with fail
 refine ⟨trivial,(callsIn_wide.2 (clone_en_calls w1 A0 c0 l0 (Kd.C_below HR0.out HW1.out) HF0.out.2)).mono ?_⟩
 rintro e w2 ⟨cl,rfl,ho,hb⟩
 obtain ⟨acl,ccl,rfl,_,_⟩:=Owr.val ho
 simp only [List.length_map] at ho
 have HCL:=pH ho
 have HBX2:=pH (HBX.out.ext hb)
 have HW2:=pH (pbt HW1.out hb)
 have HZ2:Hid (w.heap.size + 1 + 1 + 1≤w2.heap.size):=pH (by have:=hb.size;have:=HZ1.out;omega)
 have HZZ:=pH hb.size
 clear ho hb HBX HW1
 gi_wp2_with fail
 refine ⟨trivial,(callsIn_wide.2 (steps_calls _ _ _ A0 l0.length c0 A1 s.length c1 rfl rfl)).mono ?_⟩
 rintro e w5 ⟨rfl,hw5⟩
 simp only [World.size_alloc] at hw5 ⊢
 have HN:Hid (w5.heap.size=w2.heap.size + 1 + 1 + 1):=pH (by rw [hw5];simp)
 have hb5:Below w2.heap.size w2 w5:=by rw [hw5];exact (((Below.refl _ w2).alloc (Nat.le_refl _) _).alloc (by simp) _).alloc (by simp;omega) _
 obtain ⟨k7,kt,ks⟩:w5.heap[w2.heap.size]?=some (.cells #[.slice acl l0.length ccl] 22 (0,0))∧w5.heap[w2.heap.size + 1]?=some (.cells #[.slice A0 l0.length c0] 22 (0,0))∧w5.heap[w2.heap.size + 1 + 1]?=some (.cells #[.slice A1 s.length c1] 41 (0,0)):=by rw [hw5];simpa using three_new w2 _ _ _
 have HO7:=pH k7
 have HTB:=pH kt
 have HSB:=pH ks
 have HCL5:=pH (Owr.ext HCL.out hb5)
 have HBX5:=pH (HBX2.out.ext hb5)
 have HW5:=pH (pbt HW2.out hb5)
 have HCB:Hid (∀ b,b<w.heap.size + 1 + 1 + 1∨w2.heap.size≤b→(Value.slice acl l0.length ccl).ownBlock=none∨(Value.slice acl l0.length ccl).ownBlock≠some b):=pH fun b hb=>hb.elim (fun h=>pz40 HCL.out (by have:=HZ1.out;omega)) (fun h=>own_lt HCL.out h)
 clear k7 kt ks hw5 hb5 HCL HBX2 HW2
 gi_wp2_with fail
 have hw2:=HZ2.out
 have hn5:=HN.out
 refine range_mem rfl (by omega) (gf:=78) (lb:=#[.pointer (some ⟨w2.heap.size + 1 + 1,0,none⟩),.pointer (some ⟨w2.heap.size + 1,0,none⟩)]) rfl trivial (enters_of Tryz.func78 (by kernel_rfl) rfl)
  (fun pe W=>Below w.heap.size w W∧((pe=none∧∃ t u,ontoGo Y 0 (l0.map enOf) (s.map (List.map chOf))=(t,s.length,0)∧W.heap[w2.heap.size]?=some (.cells #[u] 22 (0,0))∧Owr eCells 32 11 w.heap.size W u t∧(∀ b,b<w.heap.size + 1 + 1 + 1∨w2.heap.size≤b∧b<w5.heap.size + 1 + 1→u.ownBlock=none∨u.ownBlock≠some b)∧Box3 W w.heap.size (.slice none 0 0) (.int .i64 0) (.int .i64 0)) ∨
   (pe=some .ret∧∃ (i:Nat) (err:Int),ontoGo Y 0 (l0.map enOf) (s.map (List.map chOf))=([],i,err)∧Box3 W w.heap.size (.slice none 0 0) (.int .i64 i) (.int .i64 err)))) ?hit ?hdone ?hstop
 case hit =>
  intro fn hfn W1 hW1 hrec
  generalize hrd:(Rec fn _ _ _ _ w5.heap.size)=rd at hrec ⊢
  have hb1:Below w5.heap.size w5 W1:=by rw [hW1];exact ((Below.refl _ w5).alloc (Nat.le_refl _) _).alloc (by simp) _
  have hs1:W1.heap.size=w5.heap.size + 1 + 1:=by rw [hW1];simp
  clear hW1
  refine (steps1_in 4 w hG A1 c1 s HS.out HL.out HF.out (w2.heap.size + 1 + 1) (w2.heap.size + 1) (w5.heap.size + 1 + 1) (w5.heap.size + 1) (by omega) (by omega) (by omega) (by omega)
   (fun i _ v W=>RecAt (w5.heap.size + 1) w5.heap.size (rd .ready none) W∧Box3 W w.heap.size (.slice none 0 0) (.int .i64 0) (.int .i64 0)∧(∃ u,W.heap[w2.heap.size]?=some (.cells #[u] 22 (0,0))∧(i=0→u=.slice acl l0.length ccl)∧(i≠0→u=v))∧(i=0→Owr eCells 32 11 w1.heap.size W (.slice acl l0.length ccl) (l0.map enOf)))
   (fun i err W=>RecAt (w5.heap.size + 1) w5.heap.size (rd .done (some .ret)) W∧Box3 W w.heap.size (.slice none 0 0) (.int .i64 i) (.int .i64 err))
   ?hX ?hY W1 (l0.map enOf) (.slice A0 l0.length c0) ?h0 (.inl ⟨rfl,A0,c0,l0,rfl,HC0.out,HR0.out,rfl⟩) HF0.out.1 (by rw [List.length_map];exact HF0.out.2)
   (pbc (pz11 HSB.out hb1) 0) (pz11 HTB.out hb1) (by omega) (pbt HW5.out hb1)).mono ?_
  case h0 =>
   exact ⟨hrec,HBX5.out.ext hb1,⟨_,pz11 HO7.out hb1,fun _=>rfl,fun h=>absurd rfl h⟩,fun _=>Owr.ext HCL5.out hb1⟩
  case hX =>
   rintro i t v W u ⟨x1,x2,⟨z,x3,x4,x5⟩,x6⟩ hn
   exact ⟨x1.set u (by omega) (by omega),x2.set u (by omega) (by omega) (by omega),⟨z,(set_far _ _ _ u (by omega)).trans x3,x4,x5⟩,fun h=>(x6 h).kept (grownBy_setCell' _ _ _) (HCB.out _ (.inr (by omega)))⟩
  case hY =>
   rintro i t v W V x rows err hi _ ⟨x1,x2,⟨z,x3,_,_⟩,_⟩ hn hbV hbW ho
   obtain ⟨ax,cx,rfl,_,_⟩:=Owr.val ho
   have r1:=x1.ext hbW
   have r2:=x2.ext hbW
   have r3:=pz11 x3 hbW
   have hnV:w5.heap.size + 1 + 1≤V.heap.size:=Nat.le_trans hn hbW.size
   subst hrd
   refine (yield_mem (by omega) hfn r1 rfl (fun W'=>(W'.cell? ⟨w2.heap.size + 1 + 1,0,none⟩=V.cell? ⟨w2.heap.size + 1 + 1,0,none⟩∧W'.heap[w2.heap.size + 1]?=V.heap[w2.heap.size + 1]?∧Owr eCells 32 11 (w5.heap.size + 1 + 1) W' (.slice ax rows.length cx) rows∧Below w.heap.size w W'∧w5.heap.size + 1 + 1≤W'.heap.size)∧err=0∧Box3 W' w.heap.size (.slice none 0 0) (.int .i64 0) (.int .i64 0)∧W'.heap[w2.heap.size]?=some (.cells #[.slice ax rows.length cx] 22 (0,0)))
    (fun c W'=>(W'.cell? ⟨w2.heap.size + 1 + 1,0,none⟩=V.cell? ⟨w2.heap.size + 1 + 1,0,none⟩∧W'.heap[w2.heap.size + 1]?=V.heap[w2.heap.size + 1]?∧Owr eCells 32 11 (w5.heap.size + 1 + 1) W' (.slice ax rows.length cx) rows∧Below w.heap.size w W'∧w5.heap.size + 1 + 1≤W'.heap.size)∧c=.ret∧err≠0∧Box3 W' w.heap.size (.slice none 0 0) (.int .i64 i) (.int .i64 err)) ?_).mono ?_
   ·clear hn5
    gi_wp2_with fail
    refine ⟨r1.ext (pbn _ _),?_⟩
    intro W2 hW2 hr2
    replace hW2:=hW2.out
    replace hr2:=hr2.out
    have hn5:=HN.out
    have hV1:=pbn V (.cells #[.slice ax rows.length cx,.int .i64 err] 82 (0,0))
    have k9:W2.heap[V.heap.size]?=some (.cells #[.slice ax rows.length cx,.int .i64 err] 82 (0,0)):=by rw [hW2];exact (World.putObj_heap_other (by omega)).trans (World.alloc_heap_new V _)
    have k3:Box3 W2 w.heap.size (.slice none 0 0) (.int .i64 0) (.int .i64 0):=by rw [hW2];exact (r2.ext hV1).far _ (by omega)
    have k7:W2.heap[w2.heap.size]?=some (.cells #[z] 22 (0,0)):=by rw [hW2];exact (World.putObj_heap_other (by omega)).trans (pz11 r3 hV1)
    have ks:W2.cell? ⟨w2.heap.size + 1 + 1,0,none⟩=V.cell? ⟨w2.heap.size + 1 + 1,0,none⟩:=by rw [hW2];exact (put_cell _ _ _ _ _ (by omega)).trans (hV1.cell (by show w2.heap.size + 1 + 1<V.heap.size;omega))
    have kt:W2.heap[w2.heap.size + 1]?=V.heap[w2.heap.size + 1]?:=by rw [hW2];exact (World.putObj_heap_other (by omega)).trans (hV1.block (w2.heap.size + 1) (by have:=hnV;have:=hn5;omega))
    have ko:Owr eCells 32 11 (w5.heap.size + 1 + 1) W2 (.slice ax rows.length cx) rows:=by rw [hW2];exact (Owr.ext ho hV1).kept (grownBy_putObj' _ _ _) (pz40 ho (by omega))
    have kb:Below w.heap.size w W2:=by
     have h1:=pbt hbV hV1
     rw [hW2]
     exact h1.trans (belowK_b (w:=w) (Nat.le_refl _) _ (w5.heap.size + 1) _ _ (by omega) (r1.ext hV1).1 rfl rfl)
    have kz:w5.heap.size + 1 + 1≤W2.heap.size:=by rw [hW2];simp;omega
    have K3:=pH k3
    have K7:=pH k7
    have KS:=pH ks
    have KT:=pH kt
    have KO:=pH ko
    have KB:=pH kb
    have KZ:=pH kz
    have KR:=pH hr2
    have q9:W2.cell? ⟨V.heap.size,0,none⟩=some (.slice ax rows.length cx):=pbc k9 0
    have q8:W2.cell? ⟨V.heap.size,1,none⟩=some (.int .i64 err):=pbc k9 1
    have q7:W2.cell? ⟨w2.heap.size,0,none⟩=some z:=pbc k7 0
    have d7:=pbf k7 0
    have q4:W2.cell? ⟨w.heap.size,0,none⟩=some (.slice none 0 0):=pbc k3.b4 0
    have q5:W2.cell? ⟨w.heap.size + 1,0,none⟩=some (.int .i64 0):=pbc k3.b5 0
    have q6:W2.cell? ⟨w.heap.size + 1 + 1,0,none⟩=some (.int .i64 0):=pbc k3.b6 0
    have d4:=pbf k3.b4 0
    have d5:=pbf k3.b5 0
    have d6:=pbf k3.b6 0
    clear hn5 hW2 hr2 k9 k3 k7 ks kt ko kb kz hV1 x1 x2 x3 r1 r2 r3 ho hbV hbW
    by_cases herr:err=0
    ·subst herr
     gi_wp2_with fail
     have hn5:=HN.out
     exact ⟨KR.out.set _ (by omega) (by omega),⟨(World.cell?_setCell_far W2 ⟨w2.heap.size,0,none⟩ ⟨w2.heap.size + 1 + 1,0,none⟩ _ (by show w2.heap.size≠w2.heap.size + 1 + 1;omega)).trans KS.out,(set_far _ _ _ _ (by omega)).trans KT.out,KO.out.kept (grownBy_setCell' _ _ _) (pz40 KO.out (by omega)),KB.out.setCell (p:=⟨w2.heap.size,0,none⟩) (by show w.heap.size≤w2.heap.size;omega) _,by rw [World.size_setCell];exact KZ.out⟩,K3.out.set _ (by omega) (by omega) (by omega),YtjghikkboekonaaGreatDoor.heap_set K7.out 0 _⟩
    ·have he1:(err != 0)=true:=by simpa using herr
     have HER:=pH herr
     clear herr
     gi_wp2_with fail
     gi_region
     all_goals gi_wp2
     all_goals (have hn5:=HN.out)
     all_goals (have hfin:=box_end (x:=.slice none 0 0) (y:=.int .i64 i) (z:=.int .i64 err) (Nat.le_refl _) K3.out KB.out KR.out KO.out KS.out KT.out KZ.out (by omega) (by omega) (by omega) (by omega) (by omega) _ rfl)
     all_goals exact ⟨hfin.1,hfin.2.1,rfl,HER.out,hfin.2.2⟩
   ·rintro e W' (⟨rfl,hr,V3,rfl,hr3,⟨k1,k2,k3,k4,k5⟩,h0,hbx,h7⟩|⟨rfl,c,hr,V3,rfl,hr3,⟨k1,k2,k3,k4,k5⟩,rfl,hne,hbx⟩)
    ·exact ⟨⟨(put_cell _ _ _ _ _ (by omega)).trans k1,(World.putObj_heap_other (by omega)).trans k2,k3.kept (grownBy_putObj' _ _ _) (pz40 k3 (by omega)),k4.trans (belowK_b (w:=w) (Nat.le_refl _) _ (w5.heap.size + 1) _ _ (by omega) hr3.1 rfl rfl),by simp;exact k5⟩,
      .inl ⟨rfl,fun _=>⟨hr,hbx.far _ (by omega),⟨_,(World.putObj_heap_other (by omega)).trans h7,fun h=>absurd h (Nat.succ_ne_zero _),fun _=>rfl⟩,fun h=>absurd h (Nat.succ_ne_zero _)⟩,fun h=>absurd h0 h⟩⟩
    ·exact ⟨⟨(put_cell _ _ _ _ _ (by omega)).trans k1,(World.putObj_heap_other (by omega)).trans k2,k3.kept (grownBy_putObj' _ _ _) (pz40 k3 (by omega)),k4.trans (belowK_b (w:=w) (Nat.le_refl _) _ (w5.heap.size + 1) _ _ (by omega) hr3.1 rfl rfl),by simp;exact k5⟩,
      .inr ⟨rfl,hne,hr,hbx.far _ (by omega)⟩⟩
  rintro e W' ⟨he,hb,(⟨x,t,h1,h2,h3,⟨x1,x2,⟨u,x3,x4,x5⟩,x6⟩⟩|⟨i,err,h1,h2,⟨x1,x2⟩⟩)⟩
  ·have hboth:Owr eCells 32 11 w.heap.size W' u t∧∀ b,b<w.heap.size + 1 + 1 + 1∨w2.heap.size≤b∧b<w5.heap.size + 1 + 1→u.ownBlock=none∨u.ownBlock≠some b:=by
    by_cases hl:s.length=0
    ·obtain rfl:=List.eq_nil_of_length_eq_zero hl
     obtain rfl:l0.map enOf=t:=congrArg Prod.fst h1
     rw [x4 rfl]
     exact ⟨own_low (x6 rfl) (by have:=HZ1.out;omega),fun b hb=>HCB.out b (hb.imp id And.left)⟩
    ·rw [x5 hl]
     rcases h2 with ⟨h,_⟩|h
     ·exact absurd h hl
     ·exact ⟨own_low h (by omega),fun b hb=>pz40 h (by omega)⟩
   exact ⟨he,.ready,none,(fun h=>by cases h),x1,hb,.inl ⟨rfl,t,u,h1,x3,hboth.1,hboth.2,x2⟩⟩
  ·exact ⟨he,.done,some .ret,(fun h=>by cases h),x1,hb,.inr ⟨rfl,i,err,h2,x2⟩⟩
 case hdone =>
  rintro W o ⟨hb,(⟨_,t,u,h1,h2,h3,h4,h5⟩|⟨h,_⟩)⟩ hl o' hd
  ·obtain ⟨au,cu,rfl,_,_⟩:=Owr.val h3
   have HM2:Hid (ontoM Y (l0.map enOf) (s.map (List.map chOf))=(t,s.length,0)):=pH (HM.out.trans h1)
   have k1:=h3.kept (grownBy_putObj' W (w5.heap.size + 1) (.loop o')) (h4 _ (.inr ⟨by omega,by omega⟩))
   have k2:(W.putObj (w5.heap.size + 1) (.loop o')).heap[w2.heap.size]?=some (.cells #[.slice au t.length cu] 22 (0,0)):=(World.putObj_heap_other (by omega)).trans h2
   have k3:=h5.far (.loop o') (L:=w5.heap.size + 1) (by omega)
   have k4:(W.putObj (w5.heap.size + 1) (.loop o')).heap[w5.heap.size]?=some (.deferred (some [])):=(World.putObj_heap_other (by omega)).trans hd
   have k5:Below w.heap.size w (W.putObj (w5.heap.size + 1) (.loop o')):=hb.trans (belowK_b (w:=w) (Nat.le_refl _) W (w5.heap.size + 1) _ _ (by omega) hl rfl rfl)
   generalize W.putObj (w5.heap.size + 1) (.loop o')=V at k1 k2 k3 k4 k5 ⊢
   have q7:V.cell? ⟨w2.heap.size,0,none⟩=some (.slice au t.length cu):=pbc k2 0
   have q4:V.cell? ⟨w.heap.size,0,none⟩=some (.slice none 0 0):=pbc k3.b4 0
   have q5:V.cell? ⟨w.heap.size + 1,0,none⟩=some (.int .i64 0):=pbc k3.b5 0
   have q6:V.cell? ⟨w.heap.size + 1 + 1,0,none⟩=some (.int .i64 0):=pbc k3.b6 0
   have d4:=pbf k3.b4 0
   have d5:=pbf k3.b5 0
   have d6:=pbf k3.b6 0
   have HK1:=pH k1
   have HK3:=pH k3
   have HK4:=pH k4
   have HK5:=pH k5
   have HH4:=pH h4
   clear k1 k2 k3 k4 k5 h1 h2 h3 h4 h5 hb hl hd
   have HP:=HK3.out.put (w:=w) (Nat.le_refl _) HK5.out (.slice au t.length cu) (.int .i64 s.length) (.int .i64 0)
   have hD:(((V.setCell ⟨w.heap.size,0,none⟩ (.slice au t.length cu)).setCell ⟨w.heap.size + 1,0,none⟩ (.int .i64 s.length)).setCell ⟨w.heap.size + 1 + 1,0,none⟩ (.int .i64 0)).heap[w5.heap.size]?=some (.deferred (some [])):=(((set_far _ _ _ _ (by omega)).trans (set_far _ _ _ _ (by omega))).trans (set_far _ _ _ _ (by omega))).trans HK4.out
   have hO:=((HK1.out.kept (grownBy_setCell' V w.heap.size (.slice au t.length cu)) (HH4.out _ (.inl (by omega)))).kept (grownBy_setCell' _ (w.heap.size + 1) (.int .i64 s.length)) (HH4.out _ (.inl (by omega)))).kept (grownBy_setCell' _ (w.heap.size + 1 + 1) (.int .i64 0)) (HH4.out _ (.inl (by omega)))
   have HD:=pH hD
   have HO:=pH (hO.kept (grownBy_putObj' _ w5.heap.size (.deferred none)) (HH4.out _ (.inr ⟨by omega,by omega⟩)))
   have HPB:=pH (HP.2.trans (belowK_b (w:=w) (Nat.le_refl _) _ w5.heap.size _ (.deferred none) (by omega) hD rfl rfl))
   have HPX:=pH (HP.1.far (.deferred none) (L:=w5.heap.size) (by omega))
   clear HP hD hO
   gi_wp2_with fail
   rw [← hn5]
   refine ⟨by simp,.inl ⟨_,_,rfl,run_takeDeferred HD.out,?_⟩⟩
   exact ⟨_,res3 HPX.out _ rfl rfl rfl,⟨_,by rw [HM2.out],by rw [HM2.out];exact HO.out,HPB.out⟩⟩
  ·cases h
 case hstop =>
  rintro c W o ⟨hb,(⟨h,_⟩|⟨h,i,err,h1,h2⟩)⟩ hl o' hd
  ·cases h
  ·obtain rfl:=Option.some.inj h
   have HM2:Hid (ontoM Y (l0.map enOf) (s.map (List.map chOf))=([],i,err)):=pH (HM.out.trans h1)
   have k3:=h2.far (.loop o') (L:=w5.heap.size + 1) (by omega)
   have k4:(W.putObj (w5.heap.size + 1) (.loop o')).heap[w5.heap.size]?=some (.deferred (some [])):=(World.putObj_heap_other (by omega)).trans hd
   have k5:Below w.heap.size w (W.putObj (w5.heap.size + 1) (.loop o')):=hb.trans (belowK_b (w:=w) (Nat.le_refl _) W (w5.heap.size + 1) _ _ (by omega) hl rfl rfl)
   generalize W.putObj (w5.heap.size + 1) (.loop o')=V at k3 k4 k5 ⊢
   have HD:=pH k4
   have HPB:=pH (k5.trans (belowK_b (w:=w) (Nat.le_refl _) _ w5.heap.size _ (.deferred none) (by omega) k4 rfl rfl))
   have HPX:=pH (k3.far (.deferred none) (L:=w5.heap.size) (by omega))
   clear k3 k4 k5 h1 h2 hb hl hd
   gi_wp2_with fail
   rw [← hn5]
   refine ⟨by simp,.inl ⟨_,_,rfl,run_takeDeferred HD.out,?_⟩⟩
   exact ⟨_,res3 HPX.out _ rfl rfl rfl,⟨_,by rw [HM2.out],by rw [HM2.out];exact Owr.nil _ _ _ _ _,HPB.out⟩⟩
end Go.Proofs.Zq
end
section
namespace Go.Proofs.Zq
open Go.RowKit Go.Proofs.YtjghikkboekonaaGreatDoor Go.Proofs.Zw.PrintWords Go.Proofs.Zw.PrintLast Go.Proofs.Zw.PrintMore
open Go.Proofs.Zt (applyM ontoGo ontoM treesGo Ch)
theorem fold_calls (w:World) (hG:GL w) (A1:Option Addr) (c1:Nat) (s:List (List S57)) (hS:Kd.C (Kd.slice 57 k57) w A1 s.length s) (hs:s.length≤1000000) (hf:∀ l ∈ s,lyrFits' l) :
  Calls Tryz.prog 34 #[.slice A1 s.length c1] w fun e w'=>∃ v:Value,e=.returned (.tuple #[v,.int .i64 ((ontoM Y [] (s.map (List.map chOf))).2.1:Int),.int .i64 (ontoM Y [] (s.map (List.map chOf))).2.2]) ∧
   Owr eCells 32 11 w.heap.size w' v (ontoM Y [] (s.map (List.map chOf))).1∧Below w.heap.size w w':=by
 have HC:=pH (onto_calls w hG none 0 [] (Kd.C_nil _ _) (Nat.le_refl _) ⟨rfl,by simp⟩ A1 c1 s hS hs hf)
 clear hS hs hf
 go_enter Tryz.func34,Tryz.ntmps34
 go_wp2_with fail
 refine HC.out.mono ?_
 rintro e w1 ⟨v,rfl,ho,hb⟩
 have HO:=pH ho
 have HB:=pH hb
 clear ho hb HC
 obtain ⟨R,hR⟩:∃ R,R=ontoM Y ([]:List (Str×Nd)) (s.map (List.map chOf)):=⟨_,rfl⟩
 rw [show List.map enOf ([]:List S32)=[] from rfl,← hR] at HO ⊢
 have HR:=pH hR
 clear hR
 go_wp2_with fail
 refine bodyPost_ret (v:=.tuple #[v,.int .i64 R.2.1,.int .i64 R.2.2]) (by simp [results,Tryz.f34,go_sem]) rfl ?_
 rw [← HR.out]
 exact ⟨v,rfl,HO.out,HB.out⟩
end Go.Proofs.Zq
end
section
namespace Go.Proofs.Zq
open Go.RowKit Go.Proofs.YtjghikkboekonaaGreatDoor Go.Proofs.Zw.PrintWords Go.Proofs.Zw.PrintLast Go.Proofs.Zw.PrintMore
open Go.Proofs.Zt (applyM RightT getL parM underM Ch)
theorem par_c (w:World) (p:Str) (h:p.length≤1000000):Calls Tryz.prog 19 #[.string (B p)] w fun x w'=>x=.returned (.string (B (parM p)))∧Below w.heap.size w w' :=
 paths_Parent.calls (B p) (B (parM p)) w (parent_f _ (by omega))
end Go.Proofs.Zq
end
section
namespace Go.Proofs.Zq
open Go.RowKit Go.Proofs.YtjghikkboekonaaGreatDoor Go.Proofs.Zw.PrintWords Go.Proofs.Zw.PrintLast Go.Proofs.Zw.PrintMore
open Go.Proofs.Zt (applyM ontoGo ontoM rightT RightT Ch)
def FewC (l:List S57):Prop:=l.length≤30∧totC l≤6000
set_option maxRecDepth 100000 in
set_option maxHeartbeats 4000000 in
theorem few18x_calls (w:World) (A:Option Addr) (c:Nat) (s:List (List S57)) (hS:Kd.C (Kd.slice 57 k57) w A s.length s) (hz:∀ l ∈ s,SzC l∧l.length≤1000000000000000) (hn:s.length≤1000000000000000) :
  Calls Tryz.prog 32 #[.slice A s.length c] w fun e w'=>∃ b,e=.returned (.bool b)∧(b=true→s.length≤12∧∀ l ∈ s,FewC l)∧Below w.heap.size w w':=by
 have HS:=pH hS
 have HZ:=pH hz
 have HN:=pH hn
 clear hS hz hn
 go_enter Tryz.func32,Tryz.ntmps32
 go_wp2
 go_loopg [3,4] (s.length + 1) (fun gq v u wr=>∃ (z:Int) (i:Nat),v=.int .i64 z∧u=.int .i64 i∧s.length<gq + i∧Hid (i≤s.length)∧Hid (∀ l ∈ s.take i,FewC l)∧Hid (Below w.heap.size w wr))
 case atStart=>exact ⟨0,0,rfl,rfl,by omega,pH (by omega),pH (fun l h=>by simp at h),pH (Below.refl _ _)⟩
 case round =>
  obtain ⟨z,i,rfl,rfl,hgi,HI,HF,HB⟩:=hrel
  by_cases hi:i<s.length
  ·cases gk with
   | zero=>omega
   | succ g1 =>
    obtain ⟨ad,A1,c1,rfl,hc,hl1,hk1⟩:=s_at HS.out i hi
    have hm:=HZ.out _ (List.getElem_mem hi)
    obtain ⟨b,e0,q0⟩:=few16_ev s[i] hm.1 hm.2
    obtain ⟨k0,e0⟩:=e0.rounds
    have HQ:Hid (b=true→FewC s[i]):=pH q0
    have HC:=pH hc
    have HFW:=pH (onionskinlaw16_Few.calls k0 A1 c1 s[i] b wr (Kd.C_below hk1 HB.out) hl1 e0)
    have HII:Hid (i + 1≤s.length):=pH hi
    have q1:=pz25 HB.out hc
    have hnn:=HN.out
    clear hc hm e0 q0 hl1 hk1
    go_wp2_with fail
    refine HFW.out.mono ?_
    rintro x w2 ⟨rfl,hd⟩
    have HB2:=pH (pbt HB.out hd.below)
    clear hd q1 HFW
    cases b with
    | false =>
     go_wp2_with fail
     go_ret
     exact ⟨false,rfl,(fun h=>by cases h),HB2.out⟩
    | true =>
     have q2:=pz25 HB2.out HC.out
     have HF2:Hid (∀ l ∈ s.take (i + 1),FewC l):=pH (fun l hl=>by
      rw [List.take_succ_eq_append_getElem hi] at hl
      rcases List.mem_append.1 hl with h|h
      ·exact HF.out l h
      ·rw [List.mem_singleton.1 h];exact HQ.out rfl)
     go_wp2_with fail
     go_roundg g1
     case measure=>omega
     case rel=>exact ⟨_,i + 1,rfl,by go_num,by omega,HII,HF2,HB2⟩
  ·have he:i=s.length:=by have:=HI.out;omega
   subst he
   have HF2:Hid (∀ l ∈ s,FewC l):=pH (by have:=HF.out;rwa [List.take_of_length_le (Nat.le_refl _)] at this)
   by_cases h12:s.length≤12
   ·have h1:decide ((s.length:Int)≤12)=true:=by simp;omega
    go_wp2_with fail
    go_ret
    exact ⟨_,rfl,fun _=>⟨h12,HF2.out⟩,HB.out⟩
   ·have h1:decide ((s.length:Int)≤12)=false:=by simp;omega
    go_wp2_with fail
    go_ret
    exact ⟨false,rfl,(fun h=>by cases h),HB.out⟩
theorem onto_fits:∀ (S:List (List (Ch Str Nd))) (k:Nat) (t:List (Str×Nd)),rowFits t=true→t.length≤1000000→(∀ l ∈ S,lyrFits l=true)→rowFits (ontoGo Y k t S).1=true∧(ontoGo Y k t S).1.length≤1000000
 | [],k,t,h,hl,_=>⟨h,hl⟩
 | l :: r,k,t,h,hl,hf=>by
  unfold ontoGo
  obtain ⟨a,e,hae⟩:∃ a e,applyM Y t l=(a,e):=⟨_,_,rfl⟩
  rw [hae]
  dsimp only
  by_cases he:e=0
  ·subst he
   rw [if_pos rfl]
   exact onto_fits r _ a (fit_apply hae h (hf l (by simp))) (by have:=fit_len hae;omega) (fun x hx=>hf x (by simp [hx]))
  ·rw [if_neg he]
   exact ⟨rfl,by simp⟩
theorem ontoM_fits (S:List (List (Ch Str Nd))) (t:List (Str×Nd)) (h:rowFits t=true) (hl:t.length≤1000000) (hf:∀ l ∈ S,lyrFits l=true):rowFits (ontoM Y t S).1=true∧(ontoM Y t S).1.length≤1000000:=by
 unfold ontoM
 split
 ·exact onto_fits S 0 t h hl hf
 ·exact ⟨rfl,by simp⟩
theorem s_fits {s:List (List S57)} (h:∀ l ∈ s,lyrFits' l):∀ l ∈ s.map (List.map chOf),lyrFits l=true:=by
 intro l hl
 obtain ⟨m,hm,rfl⟩:=List.mem_map.1 hl
 exact (h m hm).1
end Go.Proofs.Zq
end
section
namespace Go.Proofs.Zq
open Go.ChangeShapes Go.WideShapes Go.ChangeAt Go.RowKit Go.WideElems Go.Proofs.YtjghikkboekonaaGreatDoor Go.Proofs.Zw.PrintWords
open Go.Proofs.Zt (Ch applyM ontoM ontoGo)
section
variable {H:Type} {enc:TypeId×Value→H} {W:World} {base:Nat}
abbrev ChW:={e:S57 // NdWf (chOf e).node}
set_option maxRecDepth 100000 in
theorem ch_open4 {spare:Nat→Bool} {held:Bool} {fuel:Nat} {cs:List Value} {y:DataW H×List MemPlace} (h:DataW.trod enc Tryz.prog W base spare held fuel 57 cs=some y) :
  ∃ e:ChW,cs=pz13 (chOf e.1)∧∀ x,chSz e.1 x→x ∈ y.1.weights Tryz.prog 57:=by
 obtain ⟨e,he,hs⟩:=ch_open h
 have hw:NdWf (chOf e).node:=by
  subst he
  obtain ⟨xs,m,_,_,_,hlen,hf⟩:=DataW.trod_struct Tryz.underlying57 h
  have hN:Tryz.prog.cellsOf 28=10:=by kernel_rfl
  have hxs:xs.length=3:=hlen
  match xs,hxs with
  | [y0,y1,y2],_ =>
   have f2:DataW.trod enc Tryz.prog W base spare held m 28 ((List.drop 2 (pz13 (chOf e))).take (Tryz.prog.cellsOf 28))=some y2:=hf 2 _ rfl
   rw [hN] at f2
   exact nd_wf (n:=(chOf e).node) f2
 exact ⟨⟨e,hw⟩,he,hs⟩
instance:Inhabited ChW:=⟨⟨z57,⟨rfl,rfl,rfl,rfl,rfl,rfl,rfl⟩⟩⟩
structure Ly5 (W:World) where
 a:Option Addr
 l:List S57
 cap:Nat
 b:Nat
 row:Kd.C k57 W a l.length l
 le:l.length≤cap
 bd:l.length * 128≤b
 wf:∀ x ∈ l,NdWf (chOf x).node
def lyCells5 {W:World} (x:Ly5 W):List Value:=[.slice x.a x.l.length x.cap]
def lySz5 {W:World} (x:Ly5 W) (n:Nat):Prop:=(∃ c ∈ x.l,chSz c n)∨(x.l≠[]∧n=x.b)
instance:Inhabited (Ly5 W):=⟨⟨none,[],0,0,Kd.C_nil _ _,Nat.le_refl _,Nat.le_refl _,(fun _ h=>by cases h)⟩⟩
set_option maxRecDepth 100000 in
theorem ly_open5 {spare:Nat→Bool} {held:Bool} {fuel:Nat} {cs:List Value} {y:DataW H×List MemPlace} (h:DataW.trod enc Tryz.prog W base spare held fuel 35 cs=some y) :
  ∃ x:Ly5 W,cs=lyCells5 x∧∀ n,lySz5 x n→n ∈ y.1.weights Tryz.prog 35:=by
 obtain ⟨a,L,cap,hcs,hrow,hlc,hcm,hsz,hlen⟩:=row_open (k:=12) (cells:=fun x:ChW=>pz13 (chOf x.1)) (sz:=fun x=>chSz x.1) Tryz.underlying35 (by kernel_rfl) (by decide) (fun _=>rfl) ch_open4 h
 have hb:Tryz.prog.bytesOf 57=128:=by kernel_rfl
 have hm:(L.map (fun x=>x.1)).length=L.length:=List.length_map ..
 have hrow2:RowAt pz13 12 W a ((L.map (fun x=>x.1)).map chOf):=by
  have:=rowAt_map (cells:=pz13) (f:=fun x:ChW=>chOf x.1) hrow
  rw [List.map_map]
  exact this
 have hC:Kd.C k57 W a (L.map (fun x=>x.1)).length (L.map (fun x=>x.1)):=ch_C hrow2 (by rw [hm];unfold maxLen at hcm;omega)
 have hwf:∀ x ∈ L.map (fun x=>x.1),NdWf (chOf x).node:=fun x hx=>by
  obtain ⟨z,_,rfl⟩:=List.mem_map.1 hx
  exact z.2
 by_cases h0:L=[]
 ·subst h0
  exact ⟨⟨a,[],cap,0,hC,hlc,Nat.le_refl _,hwf⟩,hcs,fun n hn=>by
   rcases hn with ⟨c,hc,_⟩|⟨h,_⟩
   ·cases hc
   ·exact absurd rfl h⟩
 ·obtain ⟨b,h1,h2⟩:=hlen h0
  rw [hb] at h2
  refine ⟨⟨a,L.map (fun x=>x.1),cap,b,hC,by rw [hm];exact hlc,by rw [hm];exact h2,hwf⟩,by rw [hcs];show _=[Value.slice a (L.map (fun x=>x.1)).length cap];rw [hm],fun n hn=>?_⟩
  rcases hn with ⟨c,hc,hcn⟩|⟨_,rfl⟩
  ·obtain ⟨z,hz,rfl⟩:=List.mem_map.1 hc
   exact hsz z hz n hcn
  ·exact h1
set_option maxRecDepth 100000 in
theorem stk_arg5 {v:Value} {d:DataW H} {p:List MemPlace} (hv:Value.okWide Tryz.prog W .any base 41 v) (h:DataW.Trod enc Tryz.prog W 0 (fun _=>true) true 41 v d p) (hw:∀ n ∈ d.weights Tryz.prog 41,n≤reachBytes) :
  ∃ (a:Option Addr) (s:List (List S57)) (cap:Nat),v=.slice a s.length cap∧Kd.C (Kd.slice 57 k57) W a s.length s∧s.length≤cap∧(∀ l ∈ s,SzC l∧l.length≤1000000000000000)∧s.length≤1000000000000000∧∀ l ∈ s,∀ x ∈ l,NdWf (chOf x).node:=by
 obtain ⟨a0,len0,cap0,rfl⟩:=okWide_slice Tryz.underlying41 hv
 obtain ⟨fuel,hf⟩:=h
 obtain ⟨a,L,cap,hcs,hrow,hlc,hcm,hsz,hlen⟩:=row_open (k:=1) (cells:=lyCells5 (W:=W)) (sz:=lySz5) Tryz.underlying41 (by kernel_rfl) (by decide) (fun _=>rfl) ly_open5 hf
 simp [Value.cells] at hcs
 obtain ⟨rfl,rfl,rfl⟩:=hcs
 have hb:Tryz.prog.bytesOf 35=24:=by kernel_rfl
 have hl:L.length≤1000000000000000:=by
  by_cases h0:L=[]
  ·rw [h0];simp
  ·obtain ⟨n,h1,h2⟩:=hlen h0
   have:=hw n h1
   rw [reach_is] at this
   rw [hb] at h2
   omega
 refine ⟨a0,L.map (·.l),cap0,by rw [List.length_map],⟨rfl,by rw [List.length_map];omega,fun h0=>?_⟩,by rw [List.length_map];exact hlc,fun l hl'=>?_,by rw [List.length_map];exact hl,fun l hl'=>?_⟩
 ·cases L with
  | nil=>simp at h0
  | cons x r =>
   obtain ⟨b,o,ha,_⟩:=hrow 0 x rfl
   refine ⟨⟨b,o,none⟩,ha,fun j q hq=>?_⟩
   rw [List.getElem?_map] at hq
   obtain ⟨z,hz,rfl⟩:=Option.map_eq_some_iff.1 hq
   refine ⟨lyCells5 z,rfl,⟨z.a,z.cap,rfl,z.le,z.row⟩,fun i u hu=>?_⟩
   obtain ⟨b',o',ha',hc⟩:=hrow j z hz
   rw [ha] at ha'
   cases ha'
   show W.cell? ((⟨b,o,none⟩:Addr).add (j * 1 + i))=_
   rw [YtjghikkboekonaaGreatDoor.add_at,← Nat.add_assoc]
   exact hc i u hu
 ·obtain ⟨z,hz,rfl⟩:=List.mem_map.1 hl'
  refine ⟨fun c hc=>?_,?_⟩
  ·have h1:=hw _ (hsz z hz _ (.inl ⟨c,hc,.inl rfl⟩))
   have h2:=hw _ (hsz z hz _ (.inl ⟨c,hc,.inr (.inl rfl)⟩))
   have h3:=hw _ (hsz z hz _ (.inl ⟨c,hc,.inr (.inr (.inl rfl))⟩))
   have h4:=hw _ (hsz z hz _ (.inl ⟨c,hc,.inr (.inr (.inr rfl))⟩))
   rw [reach_is] at h1 h2 h3 h4
   unfold chTot
   omega
  ·by_cases h0:z.l=[]
   ·rw [h0];simp
   ·have h1:=hw _ (hsz z hz _ (.inr ⟨h0,rfl⟩))
    have h2:=z.bd
    rw [reach_is] at h1
    omega
 ·obtain ⟨z,hz,rfl⟩:=List.mem_map.1 hl'
  exact z.wf
end
def NdKey (n:Nd):Prop:=NdWf n∧n.link.length≤1000000∧n.data.length≤1000000∧n.attrs.length≤1000000
theorem key_ok {e:Str×Nd} (h:e.1.length≤1000000) (hk:NdKey e.2):EnOk e:=enOk_of (by omega) hk.1 (by have:=hk.2.1;omega) (by have:=hk.2.2.1;omega) (by have:=hk.2.2.2;omega)
theorem keys_of {s:List (List S57)} (hf:∀ l ∈ s,FewC l) (hw:∀ l ∈ s,∀ x ∈ l,NdWf (chOf x).node):∀ l ∈ s.map (List.map chOf),∀ c ∈ l,NdKey c.node:=fun l hl c hc=>by
 obtain ⟨m,hm,rfl⟩:=List.mem_map.1 hl
 obtain ⟨x,hx,rfl⟩:=List.mem_map.1 hc
 have h:chTot x≤totC m:=totC_mem m hx
 have h2:=(hf m hm).2
 unfold chTot at h
 have e1:(chOf x).node.link.length=x.f2.f5.size:=by show x.f2.f5.data.toList.length=_;rw [Array.length_toList];rfl
 have e2:(chOf x).node.data.length=x.f2.f6.size:=by show x.f2.f6.data.toList.length=_;rw [Array.length_toList];rfl
 have e3:(chOf x).node.attrs.length=x.f2.f9.size:=by show x.f2.f9.data.toList.length=_;rw [Array.length_toList];rfl
 exact ⟨hw m hm x hx,by omega,by omega,by omega⟩
theorem key_apply {t:List (Str×Nd)} {l:List (Ch Str Nd)} {a:List (Str×Nd)} {e:Int} (h:applyM Y t l=(a,e)) (h0:∀ x ∈ t,NdKey x.2) (h1:∀ c ∈ l,NdKey c.node):∀ x ∈ a,NdKey x.2:=by
 by_cases he:e=0
 ·subst he
  intro x hx
  obtain ⟨ht,hl,ha,hk,hag⟩:=Zt.applyM_ok Y h
  have hg:Go.Proofs.Zt.getL a x.1=some x.2:=ha.srt.get hx
  by_cases hp:∃ c ∈ l,c.op=0∧c.path=x.1
  ·obtain ⟨c,hc,c0,cp⟩:=hp
   have:=Zt.stays_put h hc c0
   rw [cp,hg] at this
   rw [Option.some.inj this]
   exact h1 c hc
  ·have:=Zt.stays_had h hg (fun c hc hh=>hp ⟨c,hc,hh⟩)
   exact h0 _ (Zt.pz27 this)
 ·rw [Zt.applyM_err Y h he]
  intro x hx
  cases hx
theorem key_onto:∀ (S:List (List (Ch Str Nd))) (k:Nat) (t:List (Str×Nd)),(∀ x ∈ t,NdKey x.2)→(∀ l ∈ S,∀ c ∈ l,NdKey c.node)→∀ x ∈ (ontoGo Y k t S).1,NdKey x.2
 | [],k,t,h,_=>h
 | l :: r,k,t,h,hf=>by
  unfold ontoGo
  obtain ⟨a,e,hae⟩:∃ a e,applyM Y t l=(a,e):=⟨_,_,rfl⟩
  rw [hae]
  dsimp only
  by_cases he:e=0
  ·subst he
   rw [if_pos rfl]
   exact key_onto r _ a (key_apply hae h (hf l (by simp))) (fun x hx=>hf x (by simp [hx]))
  ·rw [if_neg he]
   intro x hx
   cases hx
theorem key_fold (S:List (List (Ch Str Nd))) (hf:∀ l ∈ S,∀ c ∈ l,NdKey c.node):∀ x ∈ (ontoM Y ([]:List (Str×Nd)) S).1,NdKey x.2:=by
 unfold ontoM
 split
 ·exact key_onto S 0 [] (fun x hx=>by cases hx) hf
 ·intro x hx
  cases hx
end Go.Proofs.Zq
end
