/- A part of a proof of TreeWhitesCardSaid of this seat: what its walks and its laws lean on; joined by a program of this repo (wip/pack.py) out of the texts Whites. -/
import Derived.Test.YtdkjinmkallhnaaGreatDoorKAH
import Derived.Test.YtdkjinmkallhnaaGreatDoorKAJ
set_option linter.unusedSimpArgs false
set_option linter.unusedVariables false
section
namespace Go.Proofs.YtdkjinmkallhnaaGreatDoorQ
open Go.RowKit Go.Proofs.YtdkjinmkallhnaaGreatDoor Go.Proofs.YtdkjinmkallhnaaGreatDoorW.PrintWords Go.Proofs.YtdkjinmkallhnaaGreatDoorW.PrintLast Go.Proofs.YtdkjinmkallhnaaGreatDoorW.PrintMore
open Go.Proofs.YtdkjinmkallhnaaGreatDoorT (applyM RightT RightL rightT rightC getL parM underM withoutL PS Ch)
def goneB (p:Str) (self:Bool) (q:Str):Bool:=underM p q || (self && decide (q=p))
theorem without_is (p:Str) (self:Bool) (t:List (Str×Nd)):withoutL PS t p self=t.filter fun e=>!goneB p self e.1:=by
  unfold withoutL goneB
  refine List.filter_congr fun e _=>?_
  show (!underM p e.1 && !(self && decide (e.1=p)))=_
  cases underM p e.1 <;> simp
theorem without_getN {t:List (Str×Nd)} (ht:RightT Y t) (p:Str) (self:Bool) {e:Str×Nd} (he:e ∈ t):(getN (withoutL PS t p self) e.1).2=!goneB p self e.1:=by
  have hg:=ht.srt.get (n:=e.2) he
  unfold getN
  rw [YtdkjinmkallhnaaGreatDoorT.withoutL_get ht.srt,hg]
  unfold goneB
  change (match (if underM p e.1=true∨(self=true∧e.1=p) then none else some e.2) with|some n=>(n,true)|none=>(zeroN,false)).2=_
  by_cases h1:underM p e.1=true
  · simp [h1]
  · by_cases h2:self=true∧e.1=p
    · simp [h1,h2]
    · rw [if_neg (fun h=>h.elim h1 h2)]
      have h3:(self && decide (e.1=p))=false:=by rw [Bool.eq_false_iff];intro h;exact h2 (by simpa using h)
      simp [h1,h3]
theorem without_step (p:Str) (self:Bool) (t:List (Str×Nd)) (i:Nat) (hi:i<t.length) :
    (withoutL PS (t.take (i + 1)) p self).length=(withoutL PS (t.take i) p self).length + if goneB p self t[i].1 then 0 else 1:=by
  rw [without_is,without_is,List.take_succ_eq_append_getElem hi,List.filter_append,List.length_append]
  congr 1
  cases h:goneB p self t[i].1 <;> simp [h]
set_option maxRecDepth 100000 in
set_option maxHeartbeats 4000000 in
theorem treeWhites_calls (w:World) (hG:GL w) (A0:Option Addr) (c0:Nat) (l0:List S40) (hr0:Kd.C k40 w A0 l0.length l0) (hc0:l0.length≤c0) (h0:SzE l0) (n0:l0.length≤1000000000000000)
    (a1:ByteArray) (hs1:a1.size≤140737488351232) (a2:Bool) :
    Calls Tryz.prog 7 #[.slice A0 l0.length c0,.string a1,.bool a2] w fun e w'=>e=.returned (.bool true)∧Below w.heap.size w w':=by
  obtain ⟨p,rfl⟩:=B_ex a1
  rw [B_size] at hs1
  obtain ⟨b0,e0,q0⟩:=few09_ev l0 h0 n0
  obtain ⟨k0,e0⟩:=e0.rounds
  have F0:Hid (b0=true→rowFits' l0):=Lib.hid fun h=>fitsE_of (q0 h)
  have E0:=Lib.hid e0
  have HR0:=Lib.hid hr0
  have HC0:=Lib.hid hc0
  clear hr0 hc0 e0 h0 n0 q0
  go_enter Tryz.func7,Tryz.ntmps7
  go_wp2_with fail
  refine (small17_calls w hG).mono ?_
  rintro x w2 ⟨rfl,hb⟩
  have HB2:=Lib.hid hb
  clear hb
  go_wp2_with fail
  refine (onionskinlaw09_Few.calls k0 A0 c0 l0 b0 w2 (Kd.C_below HR0.out HB2.out) HC0.out E0.out).mono ?_
  rintro x w3 ⟨rfl,hd⟩
  have HB3:=Lib.hid (Go.Proofs.YtdkjinmkallhnaaGreatDoor.below_then HB2.out hd.below)
  clear hd HB2
  cases b0 with
  | false =>
    go_wp2_with fail
    go_ret
    exact ⟨rfl,HB3.out⟩
  | true =>
  have HF0:=Lib.hid (F0.out rfl)
  obtain ⟨rb,hrb⟩:∃ rb,rb=rightT Y (l0.map enOf):=⟨_,rfl⟩
  have HRB:=Lib.hid hrb
  clear hrb F0 E0
  go_wp2_with fail
  refine (tree_Right.calls A0 c0 l0 rb w3 (hG.ext HB3.out) (Kd.C_below HR0.out HB3.out) HC0.out (by rw [right_f0 HF0.out,HRB.out])).mono ?_
  rintro x w4 ⟨rfl,hb⟩
  have HB4:=Lib.hid (Go.Proofs.YtdkjinmkallhnaaGreatDoor.below_then HB3.out hb)
  clear hb HB3
  cases rb with
  | false =>
    go_wp2_with fail
    go_ret
    exact ⟨rfl,HB4.out⟩
  | true =>
  have HT:=Lib.hid ((YtdkjinmkallhnaaGreatDoorT.rightT_iff Y).1 HRB.out.symm)
  clear HRB
  by_cases hp:500<p.length
  · have hp1:decide ((500:Int)<(p.length:Int))=true:=by simp;omega
    go_wp2_with fail
    go_ret
    exact ⟨rfl,HB4.out⟩
  have hp1:decide ((500:Int)<(p.length:Int))=false:=by simp;omega
  have HP:Hid (p.length≤500):=Lib.hid (by omega)
  clear hs1 hp
  obtain ⟨op,hop⟩:∃ op:Int,op=if a2 then 2 else 1:=⟨_,rfl⟩
  have HOP:=Lib.hid hop
  clear hop
  have HU:=Lib.hid Tryz.underlying38
  go_upto_if 37 with (first|((with_reducible refine gate_dst (N:=36) rfl ?_);refine build_event rfl (N:=36) rfl 38 _ rfl (chCells ⟨p,1,zeroN⟩).toArray (by kernel_rfl) ?_;go_frame)|((with_reducible refine gate_dst (N:=9) rfl ?_);refine box_event rfl (N:=9) rfl (cs:=chZero) (t:=38) ?hr ?_;(case hr=>first|(go_simp;done)|(go_simp;rfl));intro g hg w5 hb2 hbl2;have HGE:Hid (w.heap.size≤g):=Lib.hid (by rw [hg];exact HB4.out.size);have HB5:=Lib.hid hb2;have HBL5:=Lib.hid (Go.Proofs.YtdkjinmkallhnaaGreatDoor.below_then HB4.out hbl2);clear hg hb2 hbl2)|((with_reducible refine gate_store (t:=38) (p:=9) rfl ?_);refine wpList_store_agg rfl rfl 38 _ _ rfl g (chCells ⟨p,1,zeroN⟩).toArray rfl rfl 38 chZero HB5.out rfl rfl (chCells_all _) ?_;intro w6 hb3 hg3;have HB6:=Lib.hid hb3;have HBL6:Hid (Below w.heap.size w w6):=Lib.hid (HBL5.out.grown hg3 HBL5.out.size (fun j hj=>by cases hj;exact HGE.out));clear hb3 hg3))
  clear HB5 HBL5 hp1 HB4
  go_cut [] (fun wc=>Hid (wc.heap[g]?=some (.cells (chCells ⟨p,op,zeroN⟩).toArray 38 (0,0)))∧Hid (Below w.heap.size w wc))
  case first =>
    cases a2 with
    | true =>
      have q1:w6.cell? ⟨g,1,none⟩=some (.int .i64 1):=Go.Proofs.YtdkjinmkallhnaaGreatDoor.blk_cell HB6.out 1
      have d1:=Go.Proofs.YtdkjinmkallhnaaGreatDoor.blk_free HB6.out 1
      have HZ:Hid ((w6.setCell ⟨g,1,none⟩ (.int .i64 2)).heap[g]?=some (.cells (chCells ⟨p,op,zeroN⟩).toArray 38 (0,0))):=Lib.hid (by rw [Go.Proofs.YtdkjinmkallhnaaGreatDoor.heap_set HB6.out,HOP.out];rfl)
      have HZB:Hid (Below w.heap.size w (w6.setCell ⟨g,1,none⟩ (.int .i64 2))):=Lib.hid (HBL6.out.setCell (p:=⟨g,1,none⟩) HGE.out _)
      go_wp2_with fail
      go_meet
      exact ⟨HZ,HZB⟩
    | false =>
      go_wp2_with fail
      go_meet
      exact ⟨Lib.hid (by rw [HB6.out,HOP.out];rfl),HBL6⟩
  case rest =>
  clear HB6 HBL6
  obtain ⟨HB7,HBL7⟩:=hcut
  have HLC:=Lib.hid (lies_of HB7.out)
  go_wp2_with (first|((with_reducible refine gate_dst (N:=39) rfl ?_);refine wpList_load_agg rfl 38 _ rfl _ rfl (chCells ⟨p,op,zeroN⟩) _ HLC.out HU.out rfl rfl ?_;go_frame)|((with_reducible refine gate_dst (N:=40) rfl ?_);refine row_event rfl (N:=40) rfl (cs:=(flat chCells [⟨p,op,zeroN⟩]).toArray) (t:=38) (n:=1) (by kernel_rfl) ?_;intro g40 hg w8 hb hbl;have HB8:=Lib.hid hb;have HBL8:=Lib.hid hbl;clear hg hb hbl;go_frame))
  have HW8:=Lib.hid (Go.Proofs.YtdkjinmkallhnaaGreatDoor.below_then HBL7.out HBL8.out)
  obtain ⟨rc,hrc⟩:∃ rc,rc=rightC Y [(⟨p,op,zeroN⟩:Ch Str Nd)]:=⟨_,rfl⟩
  have HRC:=Lib.hid hrc
  have HF1:Hid (lyrFits' [ofCh ⟨p,op,zeroN⟩]):=Lib.hid (one_fits p op (by have:=HP.out;omega))
  clear hrc
  refine (change_Right.calls (some ⟨g40,0,none⟩) 1 [ofCh ⟨p,op,zeroN⟩] rc w8 (hG.ext HW8.out) (one_C HB8.out) (Nat.le_refl _) (by rw [cright_f0 HF1.out,HRC.out];rfl)).mono ?_
  rintro x w9 ⟨rfl,hb⟩
  have HB9:=Lib.hid (blk_below (blk_below HB7.out HBL8.out) hb)
  have HW9:=Lib.hid (Go.Proofs.YtdkjinmkallhnaaGreatDoor.below_then HW8.out hb)
  clear hb HB7 HBL7 HB8 HBL8 HW8 HLC
  cases rc with
  | false =>
    go_wp2_with fail
    go_ret
    exact ⟨rfl,HW9.out⟩
  | true =>
  have HRL:=Lib.hid ((YtdkjinmkallhnaaGreatDoorT.rightC_iff Y).1 HRC.out.symm)
  obtain ⟨self,hself⟩:∃ self,self=!a2:=⟨_,rfl⟩
  have HA:Hid (applyM Y (l0.map enOf) [⟨p,op,zeroN⟩]=(withoutL PS (l0.map enOf) p self,0)):=Lib.hid (by
    rw [YtdkjinmkallhnaaGreatDoorT.white_apply HT.out HRL.out (by show op≠0;rw [HOP.out];cases a2 <;> simp),hself,HOP.out]
    cases a2 <;> rfl)
  have HSF:=Lib.hid hself
  clear hself HRC HRL HOP
  have HLC:=Lib.hid (lies_of HB9.out)
  go_wp2_with (first|((with_reducible refine gate_dst (N:=46) rfl ?_);refine wpList_load_agg rfl 38 _ rfl _ rfl (chCells ⟨p,op,zeroN⟩) _ HLC.out HU.out rfl rfl ?_;go_frame)|((with_reducible refine gate_dst (N:=47) rfl ?_);refine row_event rfl (N:=47) rfl (cs:=(flat chCells [⟨p,op,zeroN⟩]).toArray) (t:=38) (n:=1) (by kernel_rfl) ?_;intro g47 hg w10 hb hbl;have HB10:=Lib.hid hb;have HBL10:=Lib.hid hbl;clear hg hb hbl;go_frame))
  have HW10:=Lib.hid (Go.Proofs.YtdkjinmkallhnaaGreatDoor.below_then HW9.out HBL10.out)
  obtain ⟨t,ht⟩:∃ t,t=(withoutL PS (l0.map enOf) p self).map ofEn:=⟨_,rfl⟩
  have HTE:Hid (t.map enOf=withoutL PS (l0.map enOf) p self):=Lib.hid (by rw [ht,ens_back])
  have HFT:Hid (rowFits' t):=Lib.hid (by rw [ht];exact fits_apply (l0:=l0) (l1:=[ofCh ⟨p,op,zeroN⟩]) HA.out HF0.out HF1.out)
  refine (tree_Apply.calls A0 c0 l0 (some ⟨g47,0,none⟩) 1 [ofCh ⟨p,op,zeroN⟩] t 0 w10 (hG.ext HW10.out) (Kd.C_below HR0.out HW10.out) HC0.out (one_C HB10.out) (Nat.le_refl _) (by rw [apply_f HF0.out HF1.out,ht];show some ((applyM Y (l0.map enOf) [⟨p,op,zeroN⟩]).1.map ofEn,(applyM Y (l0.map enOf) [⟨p,op,zeroN⟩]).2)=_;rw [HA.out])).mono ?_
  rintro x w11 ⟨v,rfl,ho,hb⟩
  obtain ⟨A2,c2,rfl⟩:=Kd.R_slice ho
  have HR2:=Lib.hid (Kd.R_reads' ho).2.2
  have HC2:Hid (t.length≤c2):=Lib.hid (Kd.R_reads' ho).2.1
  have HB11:=Lib.hid (blk_below (blk_below HB9.out HBL10.out) hb)
  have HW11:=Lib.hid (Go.Proofs.YtdkjinmkallhnaaGreatDoor.below_then HW10.out hb)
  clear hb ho ht HB9 HW9 HB10 HBL10 HW10 HLC
  go_wp2
  go_loopg [12,13] (l0.length + 1) (fun gq v u wr=>∃ (n i:Nat),v=.int .i64 n∧u=.int .i64 i∧l0.length<gq + i∧Hid (i≤l0.length)∧Hid (n=(withoutL PS ((l0.map enOf).take i) p self).length)∧Hid (wr.heap[g]?=some (.cells (chCells ⟨p,op,zeroN⟩).toArray 38 (0,0)))∧Hid (Kd.C k40 wr A2 t.length t)∧Hid (Below w.heap.size w wr))
  case atStart=>exact ⟨0,0,rfl,rfl,by omega,Lib.hid (by omega),Lib.hid (by simp [withoutL]),HB11,HR2,HW11⟩
  case round =>
    clear HB11 HR2 HW11
    obtain ⟨n,i,rfl,rfl,hgi,HI,HN,HZ,HR,HB⟩:=hrel
    by_cases hi:i<l0.length
    · cases gk with
      | zero=>omega
      | succ g1 =>
        obtain ⟨ad0,rfl,hat0⟩:=e_at HR0.out i hi
        have HAT:=Lib.hid (hat0.below HB.out)
        have hf:=fits_get HF0.out.1 (List.mem_map_of_mem (f:=enOf) (List.getElem_mem hi))
        have hm:enOf l0[i] ∈ l0.map enOf:=List.mem_map_of_mem (f:=enOf) (List.getElem_mem hi)
        have hst:=without_step p self (l0.map enOf) i (by simpa using hi)
        rw [List.getElem_map] at hst
        obtain ⟨e,hee⟩:∃ e,e=enOf l0[i]:=⟨_,rfl⟩
        rw [← hee] at HAT hf hm hst
        have HGT:Hid ((getN (t.map enOf) e.1).2=!goneB p self e.1):=Lib.hid (by rw [HTE.out];exact without_getN HT.out p self hm)
        have HST:Hid ((withoutL PS ((l0.map enOf).take (i + 1)) p self).length=n + if goneB p self e.1 then 0 else 1):=Lib.hid (by rw [hst,HN.out])
        have HEL:=Lib.hid hf.1
        have HII:Hid (i + 1≤l0.length):=Lib.hid hi
        obtain ⟨gn,hgn⟩:∃ gn,gn=goneB p self e.1:=⟨_,rfl⟩
        rw [← hgn] at HGT HST
        have HGN:=Lib.hid hgn
        clear hat0 hf hm hst hee hgn
        have hlt:=HFT.out.2
        have hl0:=HF0.out.2
        have q0:=HAT.out 0 _ rfl
        rw [Addr.add_zero'] at q0
        go_upto_region 17 with (fail)
        go_cut [14] (fun v wc=>v=.bool gn∧Hid (Below wr.heap.size wr wc))
        case first =>
          go_wp2_with fail
          refine (under_c wr p e.1 (by have:=HP.out;omega)).mono ?_
          rintro x w12 ⟨rfl,hb⟩
          have HBB:=Lib.hid hb
          have q1:=(HAT.out.below hb) 0 _ rfl
          rw [Addr.add_zero'] at q1
          obtain ⟨un,hun⟩:∃ un,un=underM p e.1:=⟨_,rfl⟩
          rw [← hun]
          have HUN:=Lib.hid hun
          clear hb hun
          cases un with
          | true =>
            have HV:Hid (gn=true):=Lib.hid (by rw [HGN.out];unfold goneB;rw [← HUN.out];rfl)
            go_wp2_with fail
            go_meet
            exact ⟨by rw [HV.out],HBB⟩
          | false =>
            cases a2 with
            | true =>
              have HV:Hid (gn=false):=Lib.hid (by rw [HGN.out,HSF.out];unfold goneB;rw [← HUN.out];rfl)
              go_wp2_with fail
              go_meet
              exact ⟨by rw [HV.out],HBB⟩
            | false =>
              have HV:Hid (gn=(e.1 == p)):=Lib.hid (by rw [HGN.out,HSF.out];unfold goneB;rw [← HUN.out,Bool.eq_iff_iff];simp)
              go_wp2_with fail
              go_meet
              exact ⟨by rw [HV.out],HBB⟩
        case rest =>
        obtain ⟨rfl,HBB⟩:=hcut
        have HW12:=Lib.hid (Go.Proofs.YtdkjinmkallhnaaGreatDoor.below_then HB.out HBB.out)
        have HR12:=Lib.hid (Kd.C_below HR.out HBB.out)
        have HZ12:=Lib.hid (blk_below HZ.out HBB.out)
        have q2:=(HAT.out.below HBB.out) 0 _ rfl
        rw [Addr.add_zero'] at q2
        clear q0 HBB HR HZ HB
        go_wp2_with fail
        refine (get_calls wc A2 c2 t HR12.out HFT.out.2 e.1).mono ?_
        rintro x w13 ⟨rfl,hb⟩
        obtain ⟨m,is,hmi⟩:∃ m is,getN (t.map enOf) e.1=(m,is):=⟨_,_,rfl⟩
        rw [hmi]
        have HIS:Hid (is=!gn):=Lib.hid (by rw [← HGT.out,hmi])
        have HW13:=Lib.hid (Go.Proofs.YtdkjinmkallhnaaGreatDoor.below_then HW12.out hb)
        have HR13:=Lib.hid (Kd.C_below HR12.out hb)
        have HZ13:=Lib.hid (blk_below HZ12.out hb)
        clear hb hmi HGT HW12 HR12 HZ12 q2
        go_upto_region 19 with (first|((with_reducible refine gate_dst (N:=15) rfl ?_);refine box_event rfl (N:=15) rfl (cs:=ndZero) (t:=26) ?hr ?_;(case hr=>first|(go_simp;done)|(go_simp;rfl));intro g8 hg w8 hb2 hbl2;have HGE8:Hid (w13.heap.size≤g8):=Lib.hid (by rw [hg];exact Nat.le_refl _);have HB2:=Lib.hid hb2;have HBL2:=Lib.hid hbl2;clear hg hb2 hbl2)|((with_reducible refine gate_store (t:=26) (p:=15) rfl ?_);refine wpList_store_agg rfl rfl 26 _ _ rfl g8 (ndCells m).toArray rfl rfl 26 ndZero HB2.out rfl rfl (ndCells_all _) ?_;intro w9 hb3 hg3;have HBL3:Hid (Below w13.heap.size w13 w9):=Lib.hid (HBL2.out.grown hg3 HBL2.out.size (fun j hj=>by cases hj;exact HGE8.out));clear hb3 hg3))
        have HW9:=Lib.hid (Go.Proofs.YtdkjinmkallhnaaGreatDoor.below_then HW13.out HBL3.out)
        have HR9:=Lib.hid (Kd.C_below HR13.out HBL3.out)
        have HZ9:=Lib.hid (blk_below HZ13.out HBL3.out)
        clear HB2 HBL2 HBL3 HGE8 HW13 HR13 HZ13
        obtain rfl:=HIS.out
        clear HIS HGN
        cases gn with
        | true =>
          have HNN:Hid (n=(withoutL PS ((l0.map enOf).take (i + 1)) p self).length):=Lib.hid (by rw [HST.out];rfl)
          go_wp2_with fail
          go_roundg g1
          case measure=>omega
          case rel=>exact ⟨n,i + 1,rfl,by go_num,by omega,HII,HNN,HZ9,HR9,HW9⟩
        | false =>
          have HNN:Hid (n + 1=(withoutL PS ((l0.map enOf).take (i + 1)) p self).length):=Lib.hid (by rw [HST.out];rfl)
          have hn1:n≤l0.length:=by have h1:=HN.out;have h2:(withoutL PS ((l0.map enOf).take i) p self).length≤((l0.map enOf).take i).length:=List.length_filter_le _ _;simp at h2;omega
          go_wp2_with fail
          go_roundg g1
          case measure=>omega
          case rel=>exact ⟨n + 1,i + 1,by go_num,by go_num,by omega,HII,HNN,HZ9,HR9,HW9⟩
    · have he:i=l0.length:=by have:=HI.out;omega
      subst he
      have hn:n=t.length:=by
        have h1:=HN.out
        rw [List.take_of_length_le (by simp),← HTE.out,List.length_map] at h1
        exact h1
      subst hn
      clear HN
      have HLC:=Lib.hid (lies_of HZ.out)
      have HA2:Hid (tree_Apply.f t [ofCh ⟨p,op,zeroN⟩]=some (t,0)):=Lib.hid (by
        rw [apply_f HFT.out HF1.out,HTE.out]
        show some ((applyM Y (withoutL PS (l0.map enOf) p self) [⟨p,op,zeroN⟩]).1.map ofEn,(applyM Y (withoutL PS (l0.map enOf) p self) [⟨p,op,zeroN⟩]).2)=_
        rw [YtdkjinmkallhnaaGreatDoorT.twice HA.out,← HTE.out,ens_forth])
      go_wp2_with (first|((with_reducible refine gate_dst (N:=97) rfl ?_);refine wpList_load_agg rfl 38 _ rfl _ rfl (chCells ⟨p,op,zeroN⟩) _ HLC.out HU.out rfl rfl ?_;go_frame)|((with_reducible refine gate_dst (N:=98) rfl ?_);refine row_event rfl (N:=98) rfl (cs:=(flat chCells [⟨p,op,zeroN⟩]).toArray) (t:=38) (n:=1) (by kernel_rfl) ?_;intro g98 hg w10 hb hbl;have HB10:=Lib.hid hb;have HBL10:=Lib.hid hbl;clear hg hb hbl;go_frame))
      have HW10:=Lib.hid (Go.Proofs.YtdkjinmkallhnaaGreatDoor.below_then HB.out HBL10.out)
      have HR10:=Lib.hid (Kd.C_below HR.out HBL10.out)
      refine (tree_Apply.calls A2 c2 t (some ⟨g98,0,none⟩) 1 [ofCh ⟨p,op,zeroN⟩] t 0 w10 (hG.ext HW10.out) HR10.out HC2.out (one_C HB10.out) (Nat.le_refl _) HA2.out).mono ?_
      rintro x w11 ⟨v,rfl,ho,hb⟩
      obtain ⟨A3,c3,rfl⟩:=Kd.R_slice ho
      have HR3:=Lib.hid (Kd.R_reads' ho).2.2
      have HC3:=Lib.hid (Kd.R_reads' ho).2.1
      have HR11:=Lib.hid (Kd.C_below HR10.out hb)
      have HW11:=Lib.hid (Go.Proofs.YtdkjinmkallhnaaGreatDoor.below_then HW10.out hb)
      clear hb ho HB10 HBL10 HW10 HR10 HLC HZ HR HB
      go_wp2_with fail
      refine (same_c w11 A2 c2 t HR11.out HC2.out (by have:=HFT.out.2;omega) A3 c3 t HR3.out HC3.out true (by simp)).mono ?_
      rintro x w12 ⟨rfl,hb⟩
      have HW12:=Lib.hid (Go.Proofs.YtdkjinmkallhnaaGreatDoor.below_then HW11.out hb)
      clear hb
      go_wp2_with fail
      go_ret
      exact ⟨rfl,HW12.out⟩
end Go.Proofs.YtdkjinmkallhnaaGreatDoorQ
end
