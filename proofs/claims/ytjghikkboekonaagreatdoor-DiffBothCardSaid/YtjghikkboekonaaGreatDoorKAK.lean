/- A part of a proof of DiffBothCardSaid of this seat: what its walks and its laws lean on; joined by a program of this repo (wip/pack.py) out of the texts XSm19, Bth. -/
import Derived.Test.YtjghikkboekonaaGreatDoorKAA
import Derived.Test.YtjghikkboekonaaGreatDoorKAI
import Derived.Test.YtjghikkboekonaaGreatDoorKAJ
set_option linter.unusedSimpArgs false
set_option linter.unusedVariables false
section
namespace Go.Proofs.Zq
open Go.RowKit Go.WideMaps Go.Maps Go.Proofs.YtjghikkboekonaaGreatDoor Go.Proofs.Zw.PrintWords Go.Proofs.Zw.PrintLast Go.Proofs.Zw.PrintMore
open Go.Proofs.Zt (diffM bothM Ch)
theorem eqCg (d:Nat) (w:World) (a b:Ch Str Nd):(Op.equalIn (d + 3) 57 (.agg (chCells a).toArray) (.agg (chCells b).toArray)).run Tryz.prog w=.ok (decide (a=b)) w:=by
 obtain ⟨p,o,n⟩:=a
 obtain ⟨q,u,m⟩:=b
 have h:=eqA57 d w (B p) (B q) o u n.kind m.kind n.mode m.mode n.uid m.uid n.gid m.gid n.mtime m.mtime (B n.link) (B m.link) (B n.data) (B m.data) n.major m.major n.minor m.minor (B n.attrs) (B m.attrs)
 have e:decide ((⟨p,o,n⟩:Ch Str Nd)=⟨q,u,m⟩)=(p == q && (o == u && decide (n=m))):=by rw [Bool.eq_iff_iff];simp
 rw [e,← nd_eq]
 simp only [toList_B] at h ⊢
 exact h
attribute [local go_sem high] eqCg
def mN:Nd:={ zeroN with mode:=1 }
def a19:List (Str×Nd):=[([97],dN),([97,47,98],zeroN),([99],zeroN)]
def b19:List (Str×Nd):=[([97],dN),([97,47,98],mN),([120],zeroN)]
def c19:List (Str×Nd):=[([97],zeroN)]
def e19:List (Str×Nd):=[([97,47,98],zeroN)]
theorem d19a:diffM Y a19 b19=([⟨[99],1,zeroN⟩,⟨[97,47,98],0,mN⟩,⟨[120],0,zeroN⟩],true):=by kernel_rfl
theorem d19b:diffM Y a19 a19=([],true):=by kernel_rfl
theorem d19c:diffM Y a19 c19=([⟨[99],1,zeroN⟩,⟨[97],0,zeroN⟩],true):=by kernel_rfl
theorem d19d:diffM Y e19 []=([],false):=by kernel_rfl
theorem d19e:bothM Y [a19,b19]=[([97],dN)]:=by kernel_rfl
theorem fa19:rowFits' (a19.map ofEn):=⟨by kernel_rfl,by decide⟩
theorem fb19:rowFits' (b19.map ofEn):=⟨by kernel_rfl,by decide⟩
theorem fc19:rowFits' (c19.map ofEn):=⟨by kernel_rfl,by decide⟩
theorem fe19:rowFits' (e19.map ofEn):=⟨by kernel_rfl,by decide⟩
theorem en_ok {e:Str×Nd} (h:e.1.length≤1000) (hk:NdWf e.2) (h1:e.2.link.length≤1000) (h2:e.2.data.length≤1000) (h3:e.2.attrs.length≤1000):EnOk e:=enOk_of (by omega) hk (by omega) (by omega) (by omega)
theorem oka:∀ x ∈ a19.map ofEn,EnOk (enOf x):=by
 intro x hx
 obtain ⟨e,he,rfl⟩:=List.mem_map.1 hx
 rw [enOf_ofEn]
 simp only [a19,List.mem_cons,List.not_mem_nil,or_false] at he
 rcases he with rfl|rfl|rfl <;> exact en_ok (by decide) ⟨rfl,rfl,rfl,rfl,rfl,rfl,rfl⟩ (by decide) (by decide) (by decide)
theorem okb:∀ x ∈ b19.map ofEn,EnOk (enOf x):=by
 intro x hx
 obtain ⟨e,he,rfl⟩:=List.mem_map.1 hx
 rw [enOf_ofEn]
 simp only [b19,List.mem_cons,List.not_mem_nil,or_false] at he
 rcases he with rfl|rfl|rfl <;> exact en_ok (by decide) ⟨rfl,rfl,rfl,rfl,rfl,rfl,rfl⟩ (by decide) (by decide) (by decide)
theorem es_block {w:World} {g:Nat} {T:TypeId} {vs:List Value} {xs:List (List S32)} (h:w.heap[g]?=some (.cells vs.toArray T (0,0))) (hm:xs.length≤9223372036854775807)
  (hx:∀ (j:Nat) (p:List S32),xs[j]?=some p→∃ A c,vs[j]?=some (.slice A p.length c)∧p.length≤c∧Kd.C k32 w A p.length p) :
  Kd.C (Kd.slice 32 k32) w (some ⟨g,0,none⟩) xs.length xs:=by
 refine ⟨rfl,hm,fun _=>⟨_,rfl,fun j p hp=>?_⟩⟩
 obtain ⟨A,c,hv,hc,hk⟩:=hx j p hp
 refine ⟨[.slice A p.length c],rfl,⟨A,c,rfl,hc,hk⟩,fun i u hu=>?_⟩
 have e0:i=0:=by
  apply Classical.byContradiction
  intro hne
  rw [List.getElem?_eq_none (by simp;omega)] at hu
  cases hu
 subst e0
 obtain rfl:=Option.some.inj hu
 show w.cell? ((⟨g,0,none⟩:Addr).add (j * 1 + 0))=_
 rw [YtjghikkboekonaaGreatDoor.add_at,Nat.zero_add,Nat.mul_one,Nat.add_zero,YtjghikkboekonaaGreatDoor.blk_cell h]
 simpa using hv
theorem es_nil {w:World} (A:Option Addr):Kd.C (Kd.slice 32 k32) w A ([]:List (List S32)).length []:=⟨rfl,by simp,fun h=>absurd h (Nat.lt_irrefl 0)⟩
theorem own_spot {α:Type} {enc:α→List Value} {T k base:Nat} {w:World} {v:Value} {l:List α} (h:YtjghikkboekonaaGreatDoor.Owr enc T k base w v l) (n:Nat) (hn:l.length=n) (hl:0<n):∃ g c,v=.slice (some ⟨g,0,none⟩) n c∧n≤c∧∀ i u,(flat enc l)[i]?=some u→w.cell? ⟨g,i,none⟩=some u:=by
 subst hn
 have hh:=h
 rcases h.2 with ⟨_,h0⟩|⟨g,cap,cur,hv,_,_,h1,_⟩
 ·omega
 ·subst hv
  exact ⟨g,cap,rfl,h1,fun i u hu=>by have q:=World.ownsRow.cells hh rfl i u hu;rw [Addr.add_mid,Nat.zero_add] at q;exact q⟩
theorem own_none {α:Type} {enc:α→List Value} {T k base:Nat} {w:World} {v:Value} (h:YtjghikkboekonaaGreatDoor.Owr enc T k base w v []):∃ A c,v=.slice A 0 c:=by
 obtain ⟨A,c,rfl,_,_⟩:=YtjghikkboekonaaGreatDoor.Owr.val h
 exact ⟨A,c,rfl⟩
theorem ab19:¬ (a19.map ofEn).map enOf=(b19.map ofEn).map enOf:=by
 rw [ens_back,ens_back]
 intro h
 have h2:((a19.map (fun e=>e.2.mode)).getD 1 0)=((b19.map (fun e=>e.2.mode)).getD 1 0):=by rw [h]
 exact absurd h2 (by decide)
set_option maxRecDepth 100000 in
set_option maxHeartbeats 16000000 in
theorem small19_calls (w:World) (hG:GL w):Calls Tryz.prog 13 #[] w fun e w'=>e=.returned (.bool true)∧Below w.heap.size w w':=by
 have h31:=Tryz.underlying28
 have h33:=Tryz.underlying57
 go_enter Tryz.func13,Tryz.ntmps13
 go_wp2_with (first|((with_reducible refine gate_dst (N:=1) rfl ?_);refine box_event rfl (N:=1) rfl (cs:=ndZero) (t:=28) ?hr ?_;(case hr=>first|(go_simp;done)|(go_simp;rfl));intro g1 hg w2 hb2 hbl2;have HB1:=Lib.hid hb2;have HBL1:=Lib.hid hbl2;have HGE1:Hid (w.heap.size≤g1):=Lib.hid (by rw [hg];exact Nat.le_refl _);clear hg hb2 hbl2;go_frame)|((with_reducible refine gate_store (t:=28) (p:=1) rfl ?_);refine wpList_store_agg rfl rfl 28 _ _ rfl g1 (ndCells dN).toArray rfl rfl 28 ndZero HB1.out rfl rfl (ndCells_all _) ?_;intro w3 hb3 hg3;have HB3:=Lib.hid hb3;have HBL3:Hid (Below w.heap.size w w3):=Lib.hid (HBL1.out.grown hg3 HBL1.out.size (fun j hj=>by cases hj;exact HGE1.out));clear hb3 hg3)|((with_reducible refine gate_dst (N:=13) rfl ?_);refine build_event rfl (N:=13) rfl 28 _ rfl (ndCells dN).toArray (by kernel_rfl) ?_;go_frame)|((with_reducible refine gate_dst (N:=14) rfl ?_);refine wpList_load_agg rfl 28 _ rfl _ rfl (ndCells dN) _ (lies_of HB3.out) h31 rfl rfl ?_;go_frame)|((with_reducible refine gate_dst (N:=15) rfl ?_);refine build_event rfl (N:=15) rfl 32 _ rfl (eCells ([97],dN)).toArray (by kernel_rfl) ?_;go_frame)|((with_reducible refine gate_dst (N:=16) rfl ?_);refine build_event rfl (N:=16) rfl 32 _ rfl (eCells ([97,47,98],zeroN)).toArray (by kernel_rfl) ?_;go_frame)|((with_reducible refine gate_dst (N:=17) rfl ?_);refine build_event rfl (N:=17) rfl 32 _ rfl (eCells ([99],zeroN)).toArray (by kernel_rfl) ?_;go_frame)|((with_reducible refine gate_dst (N:=18) rfl ?_);refine row_event rfl (N:=18) rfl (cs:=(flat eCells a19).toArray) (t:=32) (n:=3) (by kernel_rfl) ?_;intro g18 hg w18 hb hbl;have HB18:=Lib.hid hb;have HBL18:=Lib.hid hbl;clear hg hb hbl;go_frame)|((with_reducible refine gate_dst (N:=19) rfl ?_);refine wpList_load_agg rfl 28 _ rfl _ rfl (ndCells dN) _ (lies_of (blk_below HB3.out HBL18.out)) h31 rfl rfl ?_;go_frame)|((with_reducible refine gate_dst (N:=20) rfl ?_);refine build_event rfl (N:=20) rfl 32 _ rfl (eCells ([97],dN)).toArray (by kernel_rfl) ?_;go_frame)|((with_reducible refine gate_dst (N:=21) rfl ?_);refine build_event rfl (N:=21) rfl 28 _ rfl (ndCells mN).toArray (by kernel_rfl) ?_;go_frame)|((with_reducible refine gate_dst (N:=22) rfl ?_);refine build_event rfl (N:=22) rfl 32 _ rfl (eCells ([97,47,98],mN)).toArray (by kernel_rfl) ?_;go_frame)|((with_reducible refine gate_dst (N:=23) rfl ?_);refine build_event rfl (N:=23) rfl 32 _ rfl (eCells ([120],zeroN)).toArray (by kernel_rfl) ?_;go_frame)|((with_reducible refine gate_dst (N:=24) rfl ?_);refine row_event rfl (N:=24) rfl (cs:=(flat eCells b19).toArray) (t:=32) (n:=3) (by kernel_rfl) ?_;intro g24 hg w24 hb hbl;have HB24:=Lib.hid hb;have HBL24:=Lib.hid hbl;clear hg hb hbl;go_frame))
 have HW:=Lib.hid (YtjghikkboekonaaGreatDoor.below_then (YtjghikkboekonaaGreatDoor.below_then HBL3.out HBL18.out) HBL24.out)
 have HKA:Hid (Kd.C k32 w24 (some ⟨g18,0,none⟩) (a19.map ofEn).length (a19.map ofEn)):=Lib.hid (ens_C (l:=a19) (blk_below HB18.out HBL24.out) (by decide))
 have HKB:Hid (Kd.C k32 w24 (some ⟨g24,0,none⟩) (b19.map ofEn).length (b19.map ofEn)):=Lib.hid (ens_C (l:=b19) HB24.out (by decide))
 clear HB1 HBL1 HGE1 HB3 HBL3 HB18 HBL18 HB24 HBL24
 have c1:=diff_calls w24 (hG.ext HW.out) (some ⟨g18,0,none⟩) 3 (a19.map ofEn) HKA.out (by decide) fa19 (some ⟨g24,0,none⟩) 3 (b19.map ofEn) HKB.out (by decide) fb19
 rw [ens_back,ens_back,d19a] at c1
 have C1:=Lib.hid c1
 clear c1
 go_wp2_with fail
 refine C1.out.mono ?_
 rintro e w28 ⟨v1,rfl,ho,hb⟩
 obtain ⟨gl,cl,rfl,_,_⟩:=own_spot ho 3 rfl (by decide)
 have HO1:=Lib.hid ho
 have HW28:=Lib.hid (YtjghikkboekonaaGreatDoor.below_then HW.out hb)
 have HKA2:=Lib.hid (Kd.C_below HKA.out hb)
 have HKB2:=Lib.hid (Kd.C_below HKB.out hb)
 clear ho hb C1 HKA HKB HW
 have c2:=diff_calls w28 (hG.ext HW28.out) (some ⟨g18,0,none⟩) 3 (a19.map ofEn) HKA2.out (by decide) fa19 (some ⟨g18,0,none⟩) 3 (a19.map ofEn) HKA2.out (by decide) fa19
 rw [ens_back,d19b] at c2
 have C2:=Lib.hid c2
 clear c2
 go_wp2_with fail
 refine C2.out.mono ?_
 rintro e w34 ⟨v2,rfl,ho,hb⟩
 obtain ⟨am,cm,rfl⟩:=own_none ho
 have HW34:=Lib.hid (YtjghikkboekonaaGreatDoor.below_then HW28.out hb)
 have HKA3:=Lib.hid (Kd.C_below HKA2.out hb)
 have HKB3:=Lib.hid (Kd.C_below HKB2.out hb)
 have HO1b:=Lib.hid (YtjghikkboekonaaGreatDoor.Owr.ext HO1.out hb)
 clear ho hb C2 HKA2 HKB2 HW28 HO1
 go_wp2_with (first|((with_reducible refine gate_dst (N:=39) rfl ?_);refine build_event rfl (N:=39) rfl 32 _ rfl (eCells ([97],zeroN)).toArray (by kernel_rfl) ?_;go_frame)|((with_reducible refine gate_dst (N:=40) rfl ?_);refine row_event rfl (N:=40) rfl (cs:=(flat eCells c19).toArray) (t:=32) (n:=1) (by kernel_rfl) ?_;intro g40 hg w40 hb hbl;have HB40:=Lib.hid hb;have HBL40:=Lib.hid hbl;clear hg hb hbl;go_frame))
 have HW40:=Lib.hid (YtjghikkboekonaaGreatDoor.below_then HW34.out HBL40.out)
 have HKA4:=Lib.hid (Kd.C_below HKA3.out HBL40.out)
 have HKB4:=Lib.hid (Kd.C_below HKB3.out HBL40.out)
 have HO1c:=Lib.hid (YtjghikkboekonaaGreatDoor.Owr.ext HO1b.out HBL40.out)
 have c3:=diff_calls w40 (hG.ext HW40.out) (some ⟨g18,0,none⟩) 3 (a19.map ofEn) HKA4.out (by decide) fa19 (some ⟨g40,0,none⟩) 1 (c19.map ofEn) (ens_C (l:=c19) HB40.out (by decide)) (by decide) fc19
 rw [ens_back,ens_back,d19c] at c3
 have C3:=Lib.hid c3
 clear c3 HW34 HKA3 HKB3 HO1b HBL40 HB40
 go_wp2_with fail
 refine C3.out.mono ?_
 rintro e w41 ⟨v3,rfl,ho,hb⟩
 obtain ⟨gn,cn,rfl,_,_⟩:=own_spot ho 2 rfl (by decide)
 have HO3:=Lib.hid ho
 have HW41:=Lib.hid (YtjghikkboekonaaGreatDoor.below_then HW40.out hb)
 have HKA5:=Lib.hid (Kd.C_below HKA4.out hb)
 have HKB5:=Lib.hid (Kd.C_below HKB4.out hb)
 have HO1d:=Lib.hid (YtjghikkboekonaaGreatDoor.Owr.ext HO1c.out hb)
 clear ho hb C3 HKA4 HKB4 HW40 HO1c
 go_wp2_with (first|((with_reducible refine gate_dst (N:=45) rfl ?_);refine build_event rfl (N:=45) rfl 32 _ rfl (eCells ([97,47,98],zeroN)).toArray (by kernel_rfl) ?_;go_frame)|((with_reducible refine gate_dst (N:=46) rfl ?_);refine row_event rfl (N:=46) rfl (cs:=(flat eCells e19).toArray) (t:=32) (n:=1) (by kernel_rfl) ?_;intro g46 hg w46 hb hbl;have HB46:=Lib.hid hb;have HBL46:=Lib.hid hbl;clear hg hb hbl;go_frame))
 have HW46:=Lib.hid (YtjghikkboekonaaGreatDoor.below_then HW41.out HBL46.out)
 have HKA6:=Lib.hid (Kd.C_below HKA5.out HBL46.out)
 have HKB6:=Lib.hid (Kd.C_below HKB5.out HBL46.out)
 have HO1e:=Lib.hid (YtjghikkboekonaaGreatDoor.Owr.ext HO1d.out HBL46.out)
 have HO3b:=Lib.hid (YtjghikkboekonaaGreatDoor.Owr.ext HO3.out HBL46.out)
 have c4:=diff_calls w46 (hG.ext HW46.out) (some ⟨g46,0,none⟩) 1 (e19.map ofEn) (ens_C (l:=e19) HB46.out (by decide)) (by decide) fe19 none 0 [] (Kd.C_nil _ _) (Nat.le_refl _) ⟨rfl,by simp⟩
 rw [ens_back,show List.map enOf ([]:List S32)=[] from rfl,d19d] at c4
 have C4:=Lib.hid c4
 clear c4 HW41 HKA5 HKB5 HO1d HO3 HBL46 HB46
 go_wp2_with fail
 refine C4.out.mono ?_
 rintro e w47 ⟨v4,rfl,ho,hb⟩
 obtain ⟨a4,c4,rfl⟩:=own_none ho
 have HW47:=Lib.hid (YtjghikkboekonaaGreatDoor.below_then HW46.out hb)
 have HKA7:=Lib.hid (Kd.C_below HKA6.out hb)
 have HKB7:=Lib.hid (Kd.C_below HKB6.out hb)
 have HO1f:=Lib.hid (YtjghikkboekonaaGreatDoor.Owr.ext HO1e.out hb)
 have HO3c:=Lib.hid (YtjghikkboekonaaGreatDoor.Owr.ext HO3b.out hb)
 clear ho hb C4 HKA6 HKB6 HW46 HO1e HO3b
 go_wp2_with ((with_reducible refine gate_dst (N:=52) rfl ?_);refine row_event rfl (N:=52) rfl (cs:=([.slice (some ⟨g18,0,none⟩) 3 3,.slice (some ⟨g24,0,none⟩) 3 3]).toArray) (t:=22) (n:=2) (by kernel_rfl) ?_;intro g52 hg w52 hb hbl;have HB52:=Lib.hid hb;have HBL52:=Lib.hid hbl;clear hg hb hbl;go_frame)
 have HW52:=Lib.hid (YtjghikkboekonaaGreatDoor.below_then HW47.out HBL52.out)
 have HKA8:=Lib.hid (Kd.C_below HKA7.out HBL52.out)
 have HKB8:=Lib.hid (Kd.C_below HKB7.out HBL52.out)
 have HO1g:=Lib.hid (YtjghikkboekonaaGreatDoor.Owr.ext HO1f.out HBL52.out)
 have HO3d:=Lib.hid (YtjghikkboekonaaGreatDoor.Owr.ext HO3c.out HBL52.out)
 have hst:Kd.C (Kd.slice 32 k32) w52 (some ⟨g52,0,none⟩) [a19.map ofEn,b19.map ofEn].length [a19.map ofEn,b19.map ofEn]:=es_block HB52.out (by decide) (fun j p hp=>by
  match j,hp with
  | 0,hp=>obtain rfl:=Option.some.inj hp;exact ⟨_,_,rfl,by decide,HKA8.out⟩
  | 1,hp=>obtain rfl:=Option.some.inj hp;exact ⟨_,_,rfl,by decide,HKB8.out⟩
  | j + 2,hp=>cases hp)
 have c5:=both_calls w52 (hG.ext HW52.out) (some ⟨g52,0,none⟩) 2 [a19.map ofEn,b19.map ofEn] hst (by decide) (fun l hl=>by
  simp only [List.mem_cons,List.not_mem_nil,or_false] at hl
  rcases hl with rfl|rfl
  ·exact fa19
  ·exact fb19) (fun l hl=>by
  simp only [List.mem_cons,List.not_mem_nil,or_false] at hl
  rcases hl with rfl|rfl
  ·exact oka
  ·exact okb)
 rw [List.map_cons,List.map_cons,List.map_nil,ens_back,ens_back,d19e] at c5
 have C5:=Lib.hid c5
 clear c5 hst HW47 HKA7 HKB7 HO1f HO3c HBL52 HB52
 go_wp2_with fail
 refine C5.out.mono ?_
 rintro e w53 ⟨v5,rfl,ho,hb⟩
 obtain ⟨gb,cb,rfl,_,hcb⟩:=own_spot ho 1 rfl (by decide)
 have HW53:=Lib.hid (YtjghikkboekonaaGreatDoor.below_then HW52.out hb)
 have HKA9:=Lib.hid (Kd.C_below HKA8.out hb)
 have HKB9:=Lib.hid (Kd.C_below HKB8.out hb)
 obtain ⟨gl',cl',el,_,hcl⟩:=own_spot (YtjghikkboekonaaGreatDoor.Owr.ext HO1g.out hb) 3 rfl (by decide)
 obtain ⟨gn',cn',en,_,hcn⟩:=own_spot (YtjghikkboekonaaGreatDoor.Owr.ext HO3d.out hb) 2 rfl (by decide)
 cases el
 cases en
 have HL0:Hid (LiesAt w53 ⟨gl,0,none⟩ (chCells ⟨[99],1,zeroN⟩)):=Lib.hid (fun j v hv=>by rw [Addr.add_mid,Nat.zero_add];exact hcl j v (by
  have hj:j<12:=(List.getElem?_eq_some_iff.1 hv).1
  show (chCells _ ++ _)[j]?=_
  rw [List.getElem?_append_left hj];exact hv))
 have HL1:Hid (LiesAt w53 ⟨gl,12,none⟩ (chCells ⟨[97,47,98],0,mN⟩)):=Lib.hid (fun j v hv=>by rw [Addr.add_mid];exact hcl (12 + j) v (by
  have hj:j<12:=(List.getElem?_eq_some_iff.1 hv).1
  show (chCells _ ++ (chCells _ ++ _))[12 + j]?=_
  rw [List.getElem?_append_right (by show 12≤12 + j;omega),show 12 + j - (chCells _).length=j from by show 12 + j - 12=j;omega,List.getElem?_append_left hj];exact hv))
 have q2:=hcl 24 _ rfl
 have q3:=hcn 0 _ rfl
 have q4:=hcn 12 _ rfl
 have q5:=hcb 0 _ rfl
 clear hcl hcn hcb ho hb C5 HKA8 HKB8 HO1g HO3d HW52
 go_upto_region 11 with fail
 dsimp only [List.append]
 go_wp2_with (first|((with_reducible refine gate_dst (N:=71) rfl ?_);refine wpList_load_agg rfl 57 _ rfl _ rfl (chCells ⟨[99],1,zeroN⟩) _ (HL0.out) h33 rfl rfl ?_;go_frame)|((with_reducible refine gate_dst (N:=72) rfl ?_);refine wpList_giv rfl (v:=.agg (chCells ⟨[99],1,zeroN⟩).toArray) (by kernel_rfl) ?_;go_frame)|((with_reducible refine gate_dst (N:=78) rfl ?_);refine wpList_load_agg rfl 57 _ rfl _ rfl (chCells ⟨[97,47,98],0,mN⟩) _ (HL1.out) h33 rfl rfl ?_;go_frame)|((with_reducible refine gate_dst (N:=79) rfl ?_);refine wpList_giv rfl (v:=.agg (ndCells mN).toArray) (by kernel_rfl) ?_;go_frame)|((with_reducible refine gate_dst (N:=80) rfl ?_);refine wpList_giv rfl (v:=.agg (chCells ⟨[97,47,98],0,mN⟩).toArray) (by kernel_rfl) ?_;go_frame))
 have C6:=Lib.hid (dsame_calls w53 (some ⟨g18,0,none⟩) 3 (a19.map ofEn) HKA9.out (some ⟨g18,0,none⟩) 3 (a19.map ofEn) HKA9.out (by decide) (by decide) true ⟨fun _=>rfl,fun _=>rfl⟩)
 refine C6.out.mono ?_
 rintro e w54 ⟨rfl,hb⟩
 have HW54:=Lib.hid (YtjghikkboekonaaGreatDoor.below_then HW53.out hb)
 have HKA10:=Lib.hid (Kd.C_below HKA9.out hb)
 have HKB10:=Lib.hid (Kd.C_below HKB9.out hb)
 clear hb C6 HW53 HKA9 HKB9 HL0 HL1 q2 q3 q4 q5
 go_wp2_with fail
 have C7:=Lib.hid (dsame_calls w54 (some ⟨g18,0,none⟩) 3 (a19.map ofEn) HKA10.out (some ⟨g24,0,none⟩) 3 (b19.map ofEn) HKB10.out (by decide) (by decide) false ⟨fun h=>(nomatch h),fun h=>absurd h ab19⟩)
 refine C7.out.mono ?_
 rintro e w55 ⟨rfl,hb⟩
 have HW55:=Lib.hid (YtjghikkboekonaaGreatDoor.below_then HW54.out hb)
 clear hb C7 HW54 HKA10 HKB10
 go_wp2_with fail
 have C8:=Lib.hid (both_calls w55 (hG.ext HW55.out) none 0 [] (es_nil none) (by decide) (fun l h=>by cases h) (fun l h=>by cases h))
 refine C8.out.mono ?_
 rintro e w56 ⟨v6,rfl,ho,hb⟩
 obtain ⟨a6,c6,rfl⟩:=own_none ho
 have HW56:=Lib.hid (YtjghikkboekonaaGreatDoor.below_then HW55.out hb)
 clear ho hb C8 HW55
 go_wp2_with fail
 go_ret
 exact ⟨rfl,HW56.out⟩
end Go.Proofs.Zq
end
section
namespace Go.Proofs.Zq
open Go.RowKit Go.Proofs.YtjghikkboekonaaGreatDoor Go.Proofs.Zw.PrintWords Go.Proofs.Zw.PrintLast Go.Proofs.Zw.PrintMore
open Go.Proofs.Zt (getL bothM RightT rightT parM InAll PS)
attribute [local go_sem high] eqNg
theorem lies_enode {w:World} {a:Addr} {e:Str×Nd} (h:LiesAt w a (eCells e)):LiesAt w (a.add 1) (ndCells e.2):=fun j v hv=>by
 rw [Addr.add_add]
 refine h (1 + j) v ?_
 unfold eCells
 rw [Nat.add_comm 1 j]
 exact hv
theorem lies_below9 {w w':World} {ad:Addr} {a:List Value} (h:LiesAt w ad a) (hb:Below w.heap.size w w'):LiesAt w' ad a:=fun j u hu=>pw_cell_below hb (h j u hu)
theorem mem_both {t:List (Str×Nd)} {r:List (List (Str×Nd))} (h:∀ x ∈ t :: r,RightT Y x) {e:Str×Nd} (he:e ∈ bothM Y (t :: r)):∀ x ∈ t :: r,getL x e.1=some e.2:=fun x hx=>by
 obtain ⟨h1,h2⟩:=Zt.both_spec h
 exact ((h2 e.1 e.2).1 (h1.srt.get he)).all (getL x) (List.mem_map_of_mem hx)
theorem both_fits {t:List (Str×Nd)} {r:List (List (Str×Nd))} (h:∀ x ∈ t :: r,RightT Y x) (hf:rowFits t=true):rowFits (bothM Y (t :: r))=true:=by
 unfold rowFits at hf ⊢
 rw [List.all_eq_true] at hf ⊢
 intro e he
 exact hf e (Zt.getL_mem (mem_both h he t List.mem_cons_self))
theorem getN_some {l:List (Str×Nd)} {p:Str} {n:Nd} (h:getL l p=some n):getN l p=(n,true):=by unfold getN;rw [h]
theorem both_top {a b c:List (Str×Nd)} (h:∀ x ∈ [a,b,c],RightT Y x) {e:Str×Nd} (he:e ∈ a) (hp:parM e.1=[]) :
  (getN (bothM Y [a,b,c]) e.1).2=((getN b e.1).2 && (getN c e.1).2 && decide ((getN b e.1).1=e.2) && decide ((getN c e.1).1=(getN b e.1).1)):=by
 obtain ⟨h1,h2⟩:=Zt.both_spec h
 have ha:getL a e.1=some e.2:=(h a (by simp)).srt.get he
 have key:getL (bothM Y [a,b,c]) e.1=some e.2↔(getL b e.1=some e.2∧getL c e.1=some e.2):=by
  rw [h2 e.1 e.2]
  refine ⟨fun h=>⟨h.all (getL b) (by simp),h.all (getL c) (by simp)⟩,fun h=>.top (fun g hg=>?_) hp⟩
  simp only [List.map_cons,List.map_nil,List.mem_cons,List.not_mem_nil,or_false] at hg
  rcases hg with rfl|rfl|rfl
  ·exact ha
  ·exact h.1
  ·exact h.2
 have hx:∀ n,getL (bothM Y [a,b,c]) e.1=some n→n=e.2:=fun n hn=>by
  have:=((h2 e.1 n).1 hn).all (getL a) (by simp)
  rw [ha] at this
  exact (Option.some.inj this).symm
 unfold getN
 cases hX:getL (bothM Y [a,b,c]) e.1 with
 | some n =>
  obtain rfl:=hx n hX
  obtain ⟨k1,k2⟩:=key.1 hX
  rw [k1,k2]
  simp
 | none =>
  cases hb:getL b e.1 with
  | none=>simp
  | some n =>
   cases hc:getL c e.1 with
   | none=>simp
   | some m =>
    have hne:¬ (n=e.2∧m=n):=fun ⟨e1,e2⟩=>by
     subst e2
     subst e1
     have:=key.2 ⟨hb,hc⟩
     rw [hX] at this
     cases this
    simp only [Bool.true_and]
    symm
    rw [Bool.and_eq_false_iff]
    by_cases h1:n=e.2
    ·right;exact decide_eq_false (fun h2=>hne ⟨h1,h2⟩)
    ·left;exact decide_eq_false h1
set_option maxRecDepth 100000 in
set_option maxHeartbeats 16000000 in
theorem diffBoth_calls (w:World) (hG:GL w) (A0:Option Addr) (c0:Nat) (l0:List S32) (hr0:Kd.C k32 w A0 l0.length l0) (hc0:l0.length≤c0) (h0:SzE l0) (n0:l0.length≤1000000000000000) (wf0:∀ x ∈ l0,NdWf (enOf x).2)
    (A1:Option Addr) (c1:Nat) (l1:List S32) (hr1:Kd.C k32 w A1 l1.length l1) (hc1:l1.length≤c1) (h1:SzE l1) (n1:l1.length≤1000000000000000) (wf1:∀ x ∈ l1,NdWf (enOf x).2)
    (A2:Option Addr) (c2:Nat) (l2:List S32) (hr2:Kd.C k32 w A2 l2.length l2) (hc2:l2.length≤c2) (h2:SzE l2) (n2:l2.length≤1000000000000000) (wf2:∀ x ∈ l2,NdWf (enOf x).2) :
    Calls Tryz.prog 3 #[.slice A0 l0.length c0,.slice A1 l1.length c1,.slice A2 l2.length c2] w fun e w'=>e=.returned (.bool true)∧Below w.heap.size w w':=by
  obtain ⟨b0,e0,q0⟩:=few09_ev l0 h0 n0
  obtain ⟨k0,e0⟩:=e0.rounds
  have F0:=Lib.hid q0
  have E0:=Lib.hid e0
  have HR0:=Lib.hid hr0
  have HC0:=Lib.hid hc0
  have HW0:=Lib.hid wf0
  clear hr0 hc0 e0 h0 n0 q0 wf0
  obtain ⟨b1,e1,q1⟩:=few09_ev l1 h1 n1
  obtain ⟨k1,e1⟩:=e1.rounds
  have F1:=Lib.hid q1
  have E1:=Lib.hid e1
  have HR1:=Lib.hid hr1
  have HC1:=Lib.hid hc1
  have HW1:=Lib.hid wf1
  clear hr1 hc1 e1 h1 n1 q1 wf1
  obtain ⟨b2,e2,q2⟩:=few09_ev l2 h2 n2
  obtain ⟨k2,e2⟩:=e2.rounds
  have F2:=Lib.hid q2
  have E2:=Lib.hid e2
  have HR2:=Lib.hid hr2
  have HC2:=Lib.hid hc2
  have HW2:=Lib.hid wf2
  clear hr2 hc2 e2 h2 n2 q2 wf2
  have h31:=Tryz.underlying28
  go_enter Tryz.func3,Tryz.ntmps3
  go_wp2_with fail
  refine (small19_calls w hG).mono ?_
  rintro x w2 ⟨rfl,hb⟩
  have HB2:=Lib.hid hb
  clear hb
  go_wp2_with fail
  refine (onionskinlaw09_Few.calls k0 A0 c0 l0 b0 w2 (Kd.C_below HR0.out HB2.out) HC0.out E0.out).mono ?_
  rintro x w3 ⟨rfl,hd⟩
  have HB3:=Lib.hid (YtjghikkboekonaaGreatDoor.below_then HB2.out hd.below)
  clear hd HB2
  go_wp2_with fail
  refine (onionskinlaw09_Few.calls k1 A1 c1 l1 b1 w3 (Kd.C_below HR1.out HB3.out) HC1.out E1.out).mono ?_
  rintro x w4 ⟨rfl,hd⟩
  have HB4:=Lib.hid (YtjghikkboekonaaGreatDoor.below_then HB3.out hd.below)
  clear hd HB3
  go_wp2_with fail
  refine (onionskinlaw09_Few.calls k2 A2 c2 l2 b2 w4 (Kd.C_below HR2.out HB4.out) HC2.out E2.out).mono ?_
  rintro x w5 ⟨rfl,hd⟩
  have HB5:=Lib.hid (YtjghikkboekonaaGreatDoor.below_then HB4.out hd.below)
  clear hd HB4
  cases b0 with
  | false =>
    go_wp2_with fail
    go_ret
    exact ⟨rfl,HB5.out⟩
  | true =>
  cases b1 with
  | false =>
    go_wp2_with fail
    go_ret
    exact ⟨rfl,HB5.out⟩
  | true =>
  cases b2 with
  | false =>
    go_wp2_with fail
    go_ret
    exact ⟨rfl,HB5.out⟩
  | true =>
  have HF0:=Lib.hid (fitsE_of (F0.out rfl))
  have HO0:=Lib.hid (ens_ok (F0.out rfl) HW0.out)
  have HF1:=Lib.hid (fitsE_of (F1.out rfl))
  have HO1:=Lib.hid (ens_ok (F1.out rfl) HW1.out)
  have HF2:=Lib.hid (fitsE_of (F2.out rfl))
  have HO2:=Lib.hid (ens_ok (F2.out rfl) HW2.out)
  clear F0 F1 F2 E0 E1 E2 HW0 HW1 HW2
  have ct:=tright_calls w5 (hG.ext HB5.out) A0 c0 l0 (Kd.C_below HR0.out HB5.out) HC0.out HF0.out.1 HF0.out.2
  have hri:rightT Y (l0.map enOf)=true→RightT Y (l0.map enOf):=(Zt.rightT_iff Y).1
  obtain ⟨r0,hrr⟩:∃ b,b=rightT Y (l0.map enOf):=⟨_,rfl⟩
  rw [← hrr] at ct hri
  have CT:=Lib.hid ct
  have RI0:=Lib.hid hri
  clear ct hri hrr
  go_wp2_with fail
  refine CT.out.mono ?_
  rintro x w6 ⟨rfl,hb⟩
  have HB6:=Lib.hid (YtjghikkboekonaaGreatDoor.below_then HB5.out hb)
  clear hb CT HB5
  cases r0 with
  | false =>
    go_wp2_with fail
    go_ret
    exact ⟨rfl,HB6.out⟩
  | true =>
  have RT0:=Lib.hid (RI0.out rfl)
  clear RI0
  have ct:=tright_calls w6 (hG.ext HB6.out) A1 c1 l1 (Kd.C_below HR1.out HB6.out) HC1.out HF1.out.1 HF1.out.2
  have hri:rightT Y (l1.map enOf)=true→RightT Y (l1.map enOf):=(Zt.rightT_iff Y).1
  obtain ⟨r1,hrr⟩:∃ b,b=rightT Y (l1.map enOf):=⟨_,rfl⟩
  rw [← hrr] at ct hri
  have CT:=Lib.hid ct
  have RI1:=Lib.hid hri
  clear ct hri hrr
  go_wp2_with fail
  refine CT.out.mono ?_
  rintro x w7 ⟨rfl,hb⟩
  have HB7:=Lib.hid (YtjghikkboekonaaGreatDoor.below_then HB6.out hb)
  clear hb CT HB6
  cases r1 with
  | false =>
    go_wp2_with fail
    go_ret
    exact ⟨rfl,HB7.out⟩
  | true =>
  have RT1:=Lib.hid (RI1.out rfl)
  clear RI1
  have ct:=tright_calls w7 (hG.ext HB7.out) A2 c2 l2 (Kd.C_below HR2.out HB7.out) HC2.out HF2.out.1 HF2.out.2
  have hri:rightT Y (l2.map enOf)=true→RightT Y (l2.map enOf):=(Zt.rightT_iff Y).1
  obtain ⟨r2,hrr⟩:∃ b,b=rightT Y (l2.map enOf):=⟨_,rfl⟩
  rw [← hrr] at ct hri
  have CT:=Lib.hid ct
  have RI2:=Lib.hid hri
  clear ct hri hrr
  go_wp2_with fail
  refine CT.out.mono ?_
  rintro x w8 ⟨rfl,hb⟩
  have HB8:=Lib.hid (YtjghikkboekonaaGreatDoor.below_then HB7.out hb)
  clear hb CT HB7
  cases r2 with
  | false =>
    go_wp2_with fail
    go_ret
    exact ⟨rfl,HB8.out⟩
  | true =>
  have RT2:=Lib.hid (RI2.out rfl)
  clear RI2
  have HRT:Hid (∀ x ∈ [l0.map enOf,l1.map enOf,l2.map enOf],RightT Y x):=Lib.hid (fun x hx=>by
    simp only [List.mem_cons,List.not_mem_nil,or_false] at hx
    rcases hx with rfl|rfl|rfl
    · exact RT0.out
    · exact RT1.out
    · exact RT2.out)
  clear RT0 RT1 RT2
  go_wp2_with ((with_reducible refine gate_dst (N:=62) rfl ?_);refine row_event rfl (N:=62) rfl (cs:=([.slice A0 l0.length c0,.slice A1 l1.length c1,.slice A2 l2.length c2]).toArray) (t:=22) (n:=3) (by kernel_rfl) ?_;intro g62 hg w62 hb hbl;have HB62:=Lib.hid hb;have HBL62:=Lib.hid hbl;clear hg hb hbl;go_frame)
  have HW62:=Lib.hid (YtjghikkboekonaaGreatDoor.below_then HB8.out HBL62.out)
  have hst:Kd.C (Kd.slice 32 k32) w62 (some ⟨g62,0,none⟩) [l0,l1,l2].length [l0,l1,l2]:=es_block HB62.out (by show 3≤9223372036854775807;omega) (fun j p hp=>by
    match j,hp with
    | 0,hp=>obtain rfl:=Option.some.inj hp;exact ⟨_,_,rfl,HC0.out,Kd.C_below HR0.out HW62.out⟩
    | 1,hp=>obtain rfl:=Option.some.inj hp;exact ⟨_,_,rfl,HC1.out,Kd.C_below HR1.out HW62.out⟩
    | 2,hp=>obtain rfl:=Option.some.inj hp;exact ⟨_,_,rfl,HC2.out,Kd.C_below HR2.out HW62.out⟩
    | j + 3,hp=>cases hp)
  have cb:=both_calls w62 (hG.ext HW62.out) (some ⟨g62,0,none⟩) 3 [l0,l1,l2] hst (by show 3≤100;omega) (fun l hl=>by
    simp only [List.mem_cons,List.not_mem_nil,or_false] at hl
    rcases hl with rfl|rfl|rfl
    · exact HF0.out
    · exact HF1.out
    · exact HF2.out) (fun l hl=>by
    simp only [List.mem_cons,List.not_mem_nil,or_false] at hl
    rcases hl with rfl|rfl|rfl
    · exact HO0.out
    · exact HO1.out
    · exact HO2.out)
  obtain ⟨X,hX⟩:∃ X,X=bothM Y [l0.map enOf,l1.map enOf,l2.map enOf]:=⟨_,rfl⟩
  rw [show List.map (List.map enOf) [l0,l1,l2]=[l0.map enOf,l1.map enOf,l2.map enOf] from rfl,← hX] at cb
  have HXR:Hid (RightT Y X):=Lib.hid (by rw [hX];exact (Zt.both_spec HRT.out).1)
  have HXF:Hid (rowFits X=true):=Lib.hid (by rw [hX];exact both_fits HRT.out HF0.out.1)
  have HXM:Hid (∀ e ∈ X,getN (l0.map enOf) e.1=(e.2,true)∧getN (l1.map enOf) e.1=(e.2,true)∧getN (l2.map enOf) e.1=(e.2,true)):=Lib.hid (by
    rw [hX]
    intro e he
    have h:=mem_both HRT.out he
    exact ⟨getN_some (h _ (by simp)),getN_some (h _ (by simp)),getN_some (h _ (by simp))⟩)
  have HXP:Hid (X=bothM Y [l2.map enOf,l0.map enOf,l1.map enOf]):=Lib.hid (by
    rw [hX]
    refine Zt.both_perm HRT.out (fun x=>?_)
    simp only [List.mem_cons,List.not_mem_nil,or_false]
    constructor
    · rintro (h|h|h)
      · exact .inr (.inl h)
      · exact .inr (.inr h)
      · exact .inl h
    · rintro (h|h|h)
      · exact .inr (.inr h)
      · exact .inl h
      · exact .inr (.inl h))
  have HXT:Hid (∀ e ∈ l0.map enOf,parM e.1=[]→(getN X e.1).2=((getN (l1.map enOf) e.1).2 && (getN (l2.map enOf) e.1).2 && decide ((getN (l1.map enOf) e.1).1=e.2) && decide ((getN (l2.map enOf) e.1).1=(getN (l1.map enOf) e.1).1))):=Lib.hid (by
    rw [hX]
    exact fun e he hp=>both_top HRT.out he hp)
  have HXL:Hid (X.length≤5000):=Lib.hid HXR.out.len
  have CB:=Lib.hid cb
  clear cb hst hX
  go_wp2_with fail
  refine CB.out.mono ?_
  rintro x w63 ⟨v63,rfl,ho,hb⟩
  obtain ⟨A11,c11,hv,hc11,hk11⟩:=own_C ho
  rw [List.length_map] at hv hc11
  subst hv
  have HB63:=Lib.hid (YtjghikkboekonaaGreatDoor.below_then HW62.out hb)
  have HC11:=Lib.hid hc11
  have HK11:=Lib.hid hk11
  clear ho hb hc11 hk11 CB HW62 HB8
  have ct:=tright_calls w63 (hG.ext HB63.out) A11 c11 (X.map ofEn) HK11.out (by rw [List.length_map];exact HC11.out) (by rw [ens_back];exact HXF.out) (by rw [List.length_map];have:=HXL.out;omega)
  rw [ens_back,(Zt.rightT_iff Y).2 HXR.out,List.length_map] at ct
  have CT:=Lib.hid ct
  clear ct
  go_wp2_with fail
  refine CT.out.mono ?_
  rintro x w64 ⟨rfl,hb⟩
  have HB64:=Lib.hid (YtjghikkboekonaaGreatDoor.below_then HB63.out hb)
  have HK12:=Lib.hid (Kd.C_below HK11.out hb)
  clear hb CT HB63 HK11
  go_wp2_with ((with_reducible refine gate_dst (N:=72) rfl ?_);refine gate_guard (by rfl) ?_;refine row_event rfl (N:=72) rfl (cs:=([.slice A2 l2.length c2,.slice A0 l0.length c0,.slice A1 l1.length c1]).toArray) (t:=22) (n:=3) (by kernel_rfl) ?_;intro g72 hg w72 hb hbl;have HB72:=Lib.hid hb;have HBL72:=Lib.hid hbl;clear hg hb hbl;go_frame)
  have HK12b:=Lib.hid (Kd.C_below HK12.out HBL72.out)
  have HW72:=Lib.hid (YtjghikkboekonaaGreatDoor.below_then HB64.out HBL72.out)
  have hst:Kd.C (Kd.slice 32 k32) w72 (some ⟨g72,0,none⟩) [l2,l0,l1].length [l2,l0,l1]:=es_block HB72.out (by show 3≤9223372036854775807;omega) (fun j p hp=>by
    match j,hp with
    | 0,hp=>obtain rfl:=Option.some.inj hp;exact ⟨_,_,rfl,HC2.out,Kd.C_below HR2.out HW72.out⟩
    | 1,hp=>obtain rfl:=Option.some.inj hp;exact ⟨_,_,rfl,HC0.out,Kd.C_below HR0.out HW72.out⟩
    | 2,hp=>obtain rfl:=Option.some.inj hp;exact ⟨_,_,rfl,HC1.out,Kd.C_below HR1.out HW72.out⟩
    | j + 3,hp=>cases hp)
  have cb:=both_calls w72 (hG.ext HW72.out) (some ⟨g72,0,none⟩) 3 [l2,l0,l1] hst (by show 3≤100;omega) (fun l hl=>by
    simp only [List.mem_cons,List.not_mem_nil,or_false] at hl
    rcases hl with rfl|rfl|rfl
    · exact HF2.out
    · exact HF0.out
    · exact HF1.out) (fun l hl=>by
    simp only [List.mem_cons,List.not_mem_nil,or_false] at hl
    rcases hl with rfl|rfl|rfl
    · exact HO2.out
    · exact HO0.out
    · exact HO1.out)
  rw [show List.map (List.map enOf) [l2,l0,l1]=[l2.map enOf,l0.map enOf,l1.map enOf] from rfl,← HXP.out] at cb
  have CB:=Lib.hid cb
  clear cb hst
  go_wp2_with fail
  refine CB.out.mono ?_
  rintro x w73 ⟨v73,rfl,ho,hb⟩
  obtain ⟨A73,c73,hv,hc73,hk73⟩:=own_C ho
  rw [List.length_map] at hv hc73
  subst hv
  have HB73:=Lib.hid (YtjghikkboekonaaGreatDoor.below_then HW72.out hb)
  have HK13:=Lib.hid (Kd.C_below HK12b.out hb)
  have HK73:=Lib.hid hk73
  clear ho hb hc73 hk73 CB HW72 HB64 HK12 HK12b
  have cs:=dsame_calls w73 A11 c11 (X.map ofEn) HK13.out A73 c73 (X.map ofEn) HK73.out (by rw [List.length_map];have:=HXL.out;omega) (by rw [List.length_map];have:=HXL.out;omega) true ⟨fun _=>rfl,fun _=>rfl⟩
  rw [List.length_map] at cs
  have CS:=Lib.hid cs
  clear cs
  go_wp2_with fail
  refine CS.out.mono ?_
  rintro x w74 ⟨rfl,hb⟩
  have HB74:=Lib.hid (YtjghikkboekonaaGreatDoor.below_then HB73.out hb)
  have HK14:=Lib.hid (Kd.C_below HK13.out hb)
  clear hb CS HB73 HK13 HK73
  go_wp2_with ((with_reducible refine gate_dst (N:=80) rfl ?_);refine gate_guard (by rfl) ?_;refine row_event rfl (N:=80) rfl (cs:=([.slice A0 l0.length c0,.slice A0 l0.length c0]).toArray) (t:=22) (n:=2) (by kernel_rfl) ?_;intro g80 hg w80 hb hbl;have HB80:=Lib.hid hb;have HBL80:=Lib.hid hbl;clear hg hb hbl;go_frame)
  have HK14b:=Lib.hid (Kd.C_below HK14.out HBL80.out)
  have HW80:=Lib.hid (YtjghikkboekonaaGreatDoor.below_then HB74.out HBL80.out)
  have hst:Kd.C (Kd.slice 32 k32) w80 (some ⟨g80,0,none⟩) [l0,l0].length [l0,l0]:=es_block HB80.out (by show 2≤9223372036854775807;omega) (fun j p hp=>by
    match j,hp with
    | 0,hp=>obtain rfl:=Option.some.inj hp;exact ⟨_,_,rfl,HC0.out,Kd.C_below HR0.out HW80.out⟩
    | 1,hp=>obtain rfl:=Option.some.inj hp;exact ⟨_,_,rfl,HC0.out,Kd.C_below HR0.out HW80.out⟩
    | j + 2,hp=>cases hp)
  have cb:=both_calls w80 (hG.ext HW80.out) (some ⟨g80,0,none⟩) 2 [l0,l0] hst (by show 2≤100;omega) (fun l hl=>by
    simp only [List.mem_cons,List.not_mem_nil,or_false] at hl
    rcases hl with rfl|rfl
    · exact HF0.out
    · exact HF0.out) (fun l hl=>by
    simp only [List.mem_cons,List.not_mem_nil,or_false] at hl
    rcases hl with rfl|rfl
    · exact HO0.out
    · exact HO0.out)
  rw [show List.map (List.map enOf) [l0,l0]=[l0.map enOf,l0.map enOf] from rfl,Zt.both_self (HRT.out _ (by simp)) (fun x hx=>List.mem_singleton.1 hx)] at cb
  have CB:=Lib.hid cb
  clear cb hst
  go_wp2_with fail
  refine CB.out.mono ?_
  rintro x w81 ⟨v81,rfl,ho,hb⟩
  obtain ⟨A81,c81,hv,hc81,hk81⟩:=own_C ho
  rw [ens_forth] at hv hc81 hk81
  subst hv
  have HB81:=Lib.hid (YtjghikkboekonaaGreatDoor.below_then HW80.out hb)
  have HK15:=Lib.hid (Kd.C_below HK14b.out hb)
  have HK81:=Lib.hid hk81
  clear ho hb hc81 hk81 CB HW80 HB74 HK14 HK14b
  go_wp2_with fail
  refine (dsame_calls w81 A81 c81 l0 HK81.out A0 c0 l0 (Kd.C_below HR0.out HB81.out) HF0.out.2 HF0.out.2 true ⟨fun _=>rfl,fun _=>rfl⟩).mono ?_
  rintro x w82 ⟨rfl,hb⟩
  have HB82:=Lib.hid (YtjghikkboekonaaGreatDoor.below_then HB81.out hb)
  have HK16:=Lib.hid (Kd.C_below HK15.out hb)
  clear hb HB81 HK15 HK81
  have hxl:=HXL.out
  have hfl:=HF0.out.2
  go_wp2_with fail
  go_loopg [12] (X.length + 1) (fun gq v wr=>∃ i:Nat,v=.int .i64 i∧X.length<gq + i∧Hid (i≤X.length)∧Hid (Below w82.heap.size w82 wr)∧Hid (Below w.heap.size w wr))
  case atStart=>exact ⟨0,rfl,by omega,Lib.hid (by omega),Lib.hid (Below.refl _ _),HB82⟩
  case round =>
    obtain ⟨i,rfl,hgi,HI,HBX,HBW⟩:=hrel
    by_cases hi:i<X.length
    · cases gk with
      | zero=>omega
      | succ g1 =>
        obtain ⟨ad,rfl,hat⟩:=e_at HK16.out i (by rw [List.length_map];exact hi)
        have hx:enOf ((X.map ofEn)[i]'(by rw [List.length_map];exact hi))=X[i]:=by rw [List.getElem_map,enOf_ofEn]
        rw [hx] at hat
        obtain ⟨e,hee⟩:∃ e,e=X[i]:=⟨_,rfl⟩
        have hem:e ∈ X:=by rw [hee];exact List.getElem_mem hi
        rw [← hee] at hat
        have HAT:=Lib.hid (hat.below HBX.out)
        have HM0:=Lib.hid (HXM.out e hem).1
        have HM1:=Lib.hid (HXM.out e hem).2.1
        have HM2:=Lib.hid (HXM.out e hem).2.2
        have HII:Hid (i + 1≤X.length):=Lib.hid hi
        have q0:=HAT.out 0 _ rfl
        rw [Addr.add_zero'] at q0
        have hcc:=HC11.out
        clear hat hx hee hem
        go_wp2_with fail
        refine (get_calls wr A0 c0 l0 (Kd.C_below HR0.out HBW.out) HF0.out.2 e.1).mono ?_
        rintro x w7a ⟨rfl,hb⟩
        rw [HM0.out]
        have HVa:=Lib.hid hb
        clear hb
        go_upto_region 14 with (first|((with_reducible refine gate_dst (N:=13) rfl ?_);refine box_event rfl (N:=13) rfl (cs:=ndZero) (t:=28) ?hr ?_;(case hr=>first|(go_simp;done)|(go_simp;rfl));intro ga hg w8a hb2 hbl2;have HGE:Hid (w7a.heap.size≤ga):=Lib.hid (by rw [hg];exact Nat.le_refl _);have HX2:=Lib.hid hb2;have HXL2:=Lib.hid hbl2;clear hg hb2 hbl2)|((with_reducible refine gate_store (t:=28) (p:=13) rfl ?_);refine wpList_store_agg rfl rfl 28 _ _ rfl ga (ndCells e.2).toArray rfl rfl 28 ndZero HX2.out rfl rfl (ndCells_all _) ?_;intro w9a hb3 hg3;have HCa:=Lib.hid hb3;have HXL3:Hid (Below w7a.heap.size w7a w9a):=Lib.hid (HXL2.out.grown hg3 HXL2.out.size (fun j hj=>by cases hj;exact HGE.out));clear hb3 hg3))
        have HDa:=Lib.hid (YtjghikkboekonaaGreatDoor.below_then HVa.out HXL3.out)
        have HBWa:=Lib.hid (YtjghikkboekonaaGreatDoor.below_then HBW.out HDa.out)
        have HATa:=Lib.hid (HAT.out.below HDa.out)
        replace q0:=pw_cell_below HDa.out q0
        clear HX2 HXL2 HXL3 HGE HVa
        go_wp2_with fail
        refine (get_calls w9a A1 c1 l1 (Kd.C_below HR1.out HBWa.out) HF1.out.2 e.1).mono ?_
        rintro x w7b ⟨rfl,hb⟩
        rw [HM1.out]
        have HVb:=Lib.hid hb
        clear hb
        go_upto_region 15 with (first|((with_reducible refine gate_dst (N:=15) rfl ?_);refine box_event rfl (N:=15) rfl (cs:=ndZero) (t:=28) ?hr ?_;(case hr=>first|(go_simp;done)|(go_simp;rfl));intro gb hg w8b hb2 hbl2;have HGE:Hid (w7b.heap.size≤gb):=Lib.hid (by rw [hg];exact Nat.le_refl _);have HX2:=Lib.hid hb2;have HXL2:=Lib.hid hbl2;clear hg hb2 hbl2)|((with_reducible refine gate_store (t:=28) (p:=15) rfl ?_);refine wpList_store_agg rfl rfl 28 _ _ rfl gb (ndCells e.2).toArray rfl rfl 28 ndZero HX2.out rfl rfl (ndCells_all _) ?_;intro w9b hb3 hg3;have HCb:=Lib.hid hb3;have HXL3:Hid (Below w7b.heap.size w7b w9b):=Lib.hid (HXL2.out.grown hg3 HXL2.out.size (fun j hj=>by cases hj;exact HGE.out));clear hb3 hg3))
        have HDb:=Lib.hid (YtjghikkboekonaaGreatDoor.below_then HVb.out HXL3.out)
        have HBWb:=Lib.hid (YtjghikkboekonaaGreatDoor.below_then HBWa.out HDb.out)
        have HATb:=Lib.hid (HATa.out.below HDb.out)
        replace q0:=pw_cell_below HDb.out q0
        clear HX2 HXL2 HXL3 HGE HVb
        go_wp2_with fail
        refine (get_calls w9b A2 c2 l2 (Kd.C_below HR2.out HBWb.out) HF2.out.2 e.1).mono ?_
        rintro x w7c ⟨rfl,hb⟩
        rw [HM2.out]
        have HVc:=Lib.hid hb
        clear hb
        go_upto_region 16 with (first|((with_reducible refine gate_dst (N:=17) rfl ?_);refine box_event rfl (N:=17) rfl (cs:=ndZero) (t:=28) ?hr ?_;(case hr=>first|(go_simp;done)|(go_simp;rfl));intro gc hg w8c hb2 hbl2;have HGE:Hid (w7c.heap.size≤gc):=Lib.hid (by rw [hg];exact Nat.le_refl _);have HX2:=Lib.hid hb2;have HXL2:=Lib.hid hbl2;clear hg hb2 hbl2)|((with_reducible refine gate_store (t:=28) (p:=17) rfl ?_);refine wpList_store_agg rfl rfl 28 _ _ rfl gc (ndCells e.2).toArray rfl rfl 28 ndZero HX2.out rfl rfl (ndCells_all _) ?_;intro w9c hb3 hg3;have HCc:=Lib.hid hb3;have HXL3:Hid (Below w7c.heap.size w7c w9c):=Lib.hid (HXL2.out.grown hg3 HXL2.out.size (fun j hj=>by cases hj;exact HGE.out));clear hb3 hg3))
        have HDc:=Lib.hid (YtjghikkboekonaaGreatDoor.below_then HVc.out HXL3.out)
        have HBWc:=Lib.hid (YtjghikkboekonaaGreatDoor.below_then HBWb.out HDc.out)
        have HATc:=Lib.hid (HATb.out.below HDc.out)
        replace q0:=pw_cell_below HDc.out q0
        clear HX2 HXL2 HXL3 HGE HVc
        have HCb3:=Lib.hid (blk_below HCb.out HDc.out)
        have HCa3:=Lib.hid (blk_below (blk_below HCa.out HDb.out) HDc.out)
        have HLN:=Lib.hid (lies_enode HATc.out)
        have HBX3:=Lib.hid (YtjghikkboekonaaGreatDoor.below_then (YtjghikkboekonaaGreatDoor.below_then (YtjghikkboekonaaGreatDoor.below_then HBX.out HDa.out) HDb.out) HDc.out)
        clear HCa HCb HDa HDb HDc HAT HATa HATb HBWa HBWb HBX HBW HM0 HM1 HM2
        refine start_ (n:=29) (S:=fun w'=>Below w9c.heap.size w9c w') (ds:=[]) (ms 29 0) (by kernel_rfl) rfl rfl (Below.refl _ _).drew (fun hHeld=>?_)
        (refine pU 0 122 ?_ (ms 29 1) rfl rfl (by kernel_rfl) (fun _ _ _=>id) (by rfl) ?_ ?_ ?_ ?_;rotate_left;(intro w';go_simp;with_reducible rfl);rotate_left;(simp only [aP,i64_w,i32_w];rfl))
        (refine pU 1 123 ?_ (ms 29 2) rfl rfl (by kernel_rfl) (fun _ _ _=>id) (by rfl) ?_ ?_ ?_ ?_;rotate_left;(intro w';go_simp;with_reducible rfl);rotate_left;(simp only [aP,i64_w,i32_w];rfl))
        (refine pU 2 124 ?_ (ms 29 3) rfl rfl (by kernel_rfl) (fun _ _ _=>id) (by rfl) ?_ ?_ ?_ ?_;rotate_left;(intro w';go_simp;with_reducible rfl);rotate_left;(simp only [aP,i64_w,i32_w];rfl))
        (refine pU 3 125 ?_ (ms 29 4) rfl rfl (by kernel_rfl) (fun _ _ _=>id) (by rfl) ?_ ?_ ?_ ?_;rotate_left;(intro w';go_simp;with_reducible rfl);rotate_left;(simp only [aP,i64_w,i32_w];rfl))
        (refine pU 4 126 ?_ (ms 29 5) rfl rfl (by kernel_rfl) (fun _ _ _=>id) (by rfl) ?_ ?_ ?_ ?_;rotate_left;(intro w';go_simp;with_reducible rfl);rotate_left;(simp only [aP,i64_w,i32_w];rfl))
        (refine pU 5 127 ?_ (ms 29 6) rfl rfl (by kernel_rfl) (fun _ _ _=>id) (by rfl) ?_ ?_ ?_ ?_;rotate_left;(intro w';go_simp;with_reducible rfl);rotate_left;(simp only [aP,i64_w,i32_w];rfl))
        (refine pU 6 128 ?_ (ms 29 7) rfl rfl (by kernel_rfl) (fun _ _ _=>id) (by rfl) ?_ ?_ ?_ ?_;rotate_left;(intro w';go_simp;with_reducible rfl);rotate_left;(simp only [aP,i64_w,i32_w];rfl))
        (refine pU 7 129 ?_ (ms 29 8) rfl rfl (by kernel_rfl) (fun _ _ _=>id) (by rfl) ?_ ?_ ?_ ?_;rotate_left;(intro w';go_simp;with_reducible rfl);rotate_left;(simp only [aP,i64_w,i32_w];rfl))
        (refine pU 8 130 ?_ (ms 29 9) rfl rfl (by kernel_rfl) (fun _ _ _=>id) (by rfl) ?_ ?_ ?_ ?_;rotate_left;(intro w';go_simp;with_reducible rfl);rotate_left;(simp only [aP,i64_w,i32_w];rfl))
        (refine pU 9 131 ?_ (ms 29 10) rfl rfl (by kernel_rfl) (fun _ _ _=>id) (by rfl) ?_ ?_ ?_ ?_;rotate_left;(intro w';go_simp;with_reducible rfl);rotate_left;(simp only [aP,i64_w,i32_w];rfl))
        (refine pU 10 132 ?_ (ms 29 11) rfl rfl (by kernel_rfl) (fun _ _ _=>id) (by rfl) ?_ ?_ ?_ ?_;rotate_left;(intro w';go_simp;with_reducible rfl);rotate_left;(simp only [aP,i64_w,i32_w];rfl))
        refine take_ (i:=11) (N:=some 133) (v:=.agg (ndCells e.2).toArray) (a':=?_) (ms 29 12) rfl rfl (by kernel_rfl) (fun _ _ _ h=>h) (yi_agg (by rfl) 28 _ rfl _ rfl _ _ (fun w' hb=>lies_of (blk_below HCa3.out hb)) h31 rfl rfl) hHeld ?_ ?_
        rotate_left
        · (simp only [aP,i64_w,i32_w];rfl)
        (refine pU 12 134 ?_ (ms 29 13) rfl rfl (by kernel_rfl) (fun _ _ _=>id) (by rfl) ?_ ?_ ?_ ?_;rotate_left;(intro w';go_simp;with_reducible rfl);rotate_left;(simp only [aP,i64_w,i32_w];rfl))
        (refine pU 13 135 ?_ (ms 29 14) rfl rfl (by kernel_rfl) (fun _ _ _=>id) (by rfl) ?_ ?_ ?_ ?_;rotate_left;(intro w';go_simp;with_reducible rfl);rotate_left;(simp only [aP,i64_w,i32_w];rfl))
        (refine pU 14 136 ?_ (ms 29 15) rfl rfl (by kernel_rfl) (fun _ _ _=>id) (by rfl) ?_ ?_ ?_ ?_;rotate_left;(intro w';go_simp;with_reducible rfl);rotate_left;(simp only [aP,i64_w,i32_w];rfl))
        (refine pU 15 137 ?_ (ms 29 16) rfl rfl (by kernel_rfl) (fun _ _ _=>id) (by rfl) ?_ ?_ ?_ ?_;rotate_left;(intro w';go_simp;with_reducible rfl);rotate_left;(simp only [aP,i64_w,i32_w];rfl))
        refine take_ (i:=16) (N:=some 138) (v:=.agg (ndCells e.2).toArray) (a':=?_) (ms 29 17) rfl rfl (by kernel_rfl) (fun _ _ _ h=>h) (yi_agg (by rfl) 28 _ rfl _ rfl _ _ (fun w' hb=>lies_below9 HLN.out hb) h31 rfl rfl) hHeld ?_ ?_
        rotate_left
        · (simp only [aP,i64_w,i32_w];rfl)
        (refine pU 17 139 ?_ (ms 29 18) rfl rfl (by kernel_rfl) (fun _ _ _=>id) (by rfl) ?_ ?_ ?_ ?_;rotate_left;(intro w';go_simp;with_reducible rfl);rotate_left;(simp only [aP,i64_w,i32_w];rfl))
        (refine pU 18 140 ?_ (ms 29 19) rfl rfl (by kernel_rfl) (fun _ _ _=>id) (by rfl) ?_ ?_ ?_ ?_;rotate_left;(intro w';go_simp;with_reducible rfl);rotate_left;(simp only [aP,i64_w,i32_w];rfl))
        (refine pU 19 141 ?_ (ms 29 20) rfl rfl (by kernel_rfl) (fun _ _ _=>id) (by rfl) ?_ ?_ ?_ ?_;rotate_left;(intro w';go_simp;with_reducible rfl);rotate_left;(simp only [aP,i64_w,i32_w];rfl))
        refine take_ (i:=20) (N:=some 142) (v:=.agg (ndCells e.2).toArray) (a':=?_) (ms 29 21) rfl rfl (by kernel_rfl) (fun _ _ _ h=>h) (yi_agg (by rfl) 28 _ rfl _ rfl _ _ (fun w' hb=>lies_of (blk_below HCb3.out hb)) h31 rfl rfl) hHeld ?_ ?_
        rotate_left
        · (simp only [aP,i64_w,i32_w];rfl)
        refine take_ (i:=21) (N:=some 143) (v:=.agg (ndCells e.2).toArray) (a':=?_) (ms 29 22) rfl rfl (by kernel_rfl) (fun _ _ _ h=>h) (yi_agg (by rfl) 28 _ rfl _ rfl _ _ (fun w' hb=>lies_of (blk_below HCa3.out hb)) h31 rfl rfl) hHeld ?_ ?_
        rotate_left
        · (simp only [aP,i64_w,i32_w];rfl)
        (refine pU 22 144 ?_ (ms 29 23) rfl rfl (by kernel_rfl) (fun _ _ _=>id) (by rfl) ?_ ?_ ?_ ?_;rotate_left;(intro w';go_simp;with_reducible rfl);rotate_left;(simp only [aP,i64_w,i32_w];rfl))
        (refine pU 23 145 ?_ (ms 29 24) rfl rfl (by kernel_rfl) (fun _ _ _=>id) (by rfl) ?_ ?_ ?_ ?_;rotate_left;(intro w';go_simp;with_reducible rfl);rotate_left;(simp only [aP,i64_w,i32_w];rfl))
        (refine pU 24 146 ?_ (ms 29 25) rfl rfl (by kernel_rfl) (fun _ _ _=>id) (by rfl) ?_ ?_ ?_ ?_;rotate_left;(intro w';go_simp;with_reducible rfl);rotate_left;(simp only [aP,i64_w,i32_w];rfl))
        refine take_ (i:=25) (N:=some 147) (v:=.agg (ndCells e.2).toArray) (a':=?_) (ms 29 26) rfl rfl (by kernel_rfl) (fun _ _ _ h=>h) (yi_agg (by rfl) 28 _ rfl _ rfl _ _ (fun w' hb=>lies_of (blk_below HCc.out hb)) h31 rfl rfl) hHeld ?_ ?_
        rotate_left
        · (simp only [aP,i64_w,i32_w];rfl)
        refine take_ (i:=26) (N:=some 148) (v:=.agg (ndCells e.2).toArray) (a':=?_) (ms 29 27) rfl rfl (by kernel_rfl) (fun _ _ _ h=>h) (yi_agg (by rfl) 28 _ rfl _ rfl _ _ (fun w' hb=>lies_of (blk_below HCa3.out hb)) h31 rfl rfl) hHeld ?_ ?_
        rotate_left
        · (simp only [aP,i64_w,i32_w];rfl)
        (refine pU 27 149 ?_ (ms 29 28) rfl rfl (by kernel_rfl) (fun _ _ _=>id) (by rfl) ?_ ?_ ?_ ?_;rotate_left;(intro w';go_simp;with_reducible rfl);rotate_left;(simp only [aP,i64_w,i32_w];rfl))
        (refine pU 28 150 ?_ (ms 29 29) rfl rfl (by kernel_rfl) (fun _ _ _=>id) (by rfl) ?_ ?_ ?_ ?_;rotate_left;(intro w';go_simp;with_reducible rfl);rotate_left;(simp only [aP,i64_w,i32_w];rfl))
        refine done_ (by kernel_rfl) ?_
        go_wp2_with fail
        go_roundg g1
        case measure=>omega
        case rel=>exact ⟨i + 1,by go_num,by omega,HII,Lib.hid (YtjghikkboekonaaGreatDoor.below_then HBX3.out hHeld),Lib.hid (YtjghikkboekonaaGreatDoor.below_then HBWc.out hHeld)⟩
    · have he : i = X.length:=by have:=HI.out;omega
      subst he
      go_wp2_with fail
      have HK17:=Lib.hid (Kd.C_below HK16.out HBX.out)
      obtain ⟨w90,hw90⟩:∃ w90,w90=wr:=⟨_,rfl⟩
      go_loopg [19] (l0.length + 1) (fun gq v wr=>∃ j:Nat,v=.int .i64 j∧l0.length<gq + j∧Hid (j≤l0.length)∧Hid (Below w82.heap.size w82 wr)∧Hid (Below w.heap.size w wr))
      case atStart=>exact ⟨0,rfl,by omega,Lib.hid (by omega),HBX,HBW⟩
      case round =>
       clear HBX HBW
       obtain ⟨j,rfl,hgj,HJ,HBX,HBW⟩:=hrel
       by_cases hj:j<l0.length
       · cases gk with
        | zero=>omega
        | succ g1 =>
        obtain ⟨ae,rfl,hat⟩:=e_at (Kd.C_below HR0.out HBW.out) j hj
        obtain ⟨e,hee⟩:∃ e,e=enOf l0[j]:=⟨_,rfl⟩
        have hem:e ∈ l0.map enOf:=by rw [hee];exact List.mem_map_of_mem (List.getElem_mem hj)
        rw [← hee] at hat
        have HAT:=Lib.hid hat
        have HEP:=Lib.hid (fits_get HF0.out.1 hem).1
        obtain ⟨m1,is1,hm1⟩:∃ m is,getN (l1.map enOf) e.1=(m,is):=⟨_,_,rfl⟩
        obtain ⟨m2,is2,hm2⟩:∃ m is,getN (l2.map enOf) e.1=(m,is):=⟨_,_,rfl⟩
        obtain ⟨m3,is3,hm3⟩:∃ m is,getN X e.1=(m,is):=⟨_,_,rfl⟩
        have HIS:Hid (parM e.1=[]→is3=(is1 && is2 && decide (m1=e.2) && decide (m2=m1))):=Lib.hid (fun hp=>by
          have h:=HXT.out e hem hp
          rwa [hm1,hm2,hm3] at h)
        have HM1:=Lib.hid hm1
        have HM2:=Lib.hid hm2
        have HM3:=Lib.hid hm3
        have HII:Hid (j + 1≤l0.length):=Lib.hid hj
        have q0:=HAT.out 0 _ rfl
        rw [Addr.add_zero'] at q0
        have hcc:=HC0.out
        clear hat hee hem hm1 hm2 hm3
        go_wp2_with fail
        refine (get_calls wr A1 c1 l1 (Kd.C_below HR1.out HBW.out) HF1.out.2 e.1).mono ?_
        rintro x w7a ⟨rfl,hb⟩
        rw [HM1.out]
        have HVa:=Lib.hid hb
        clear hb
        go_upto_region 22 with (first|((with_reducible refine gate_dst (N:=20) rfl ?_);refine box_event rfl (N:=20) rfl (cs:=ndZero) (t:=28) ?hr ?_;(case hr=>first|(go_simp;done)|(go_simp;rfl));intro ga hg w8a hb2 hbl2;have HGE:Hid (w7a.heap.size≤ga):=Lib.hid (by rw [hg];exact Nat.le_refl _);have HX2:=Lib.hid hb2;have HXL2:=Lib.hid hbl2;clear hg hb2 hbl2)|((with_reducible refine gate_store (t:=28) (p:=20) rfl ?_);refine wpList_store_agg rfl rfl 28 _ _ rfl ga (ndCells m1).toArray rfl rfl 28 ndZero HX2.out rfl rfl (ndCells_all _) ?_;intro w9a hb3 hg3;have HCa:=Lib.hid hb3;have HXL3:Hid (Below w7a.heap.size w7a w9a):=Lib.hid (HXL2.out.grown hg3 HXL2.out.size (fun j hj=>by cases hj;exact HGE.out));clear hb3 hg3))
        have HDa:=Lib.hid (YtjghikkboekonaaGreatDoor.below_then HVa.out HXL3.out)
        have HBWa:=Lib.hid (YtjghikkboekonaaGreatDoor.below_then HBW.out HDa.out)
        have HATa:=Lib.hid (HAT.out.below HDa.out)
        replace q0:=pw_cell_below HDa.out q0
        clear HX2 HXL2 HXL3 HGE HVa
        go_wp2_with fail
        refine (get_calls w9a A2 c2 l2 (Kd.C_below HR2.out HBWa.out) HF2.out.2 e.1).mono ?_
        rintro x w7b ⟨rfl,hb⟩
        rw [HM2.out]
        have HVb:=Lib.hid hb
        clear hb
        go_upto_region 23 with (first|((with_reducible refine gate_dst (N:=22) rfl ?_);refine box_event rfl (N:=22) rfl (cs:=ndZero) (t:=28) ?hr ?_;(case hr=>first|(go_simp;done)|(go_simp;rfl));intro gb hg w8b hb2 hbl2;have HGE:Hid (w7b.heap.size≤gb):=Lib.hid (by rw [hg];exact Nat.le_refl _);have HX2:=Lib.hid hb2;have HXL2:=Lib.hid hbl2;clear hg hb2 hbl2)|((with_reducible refine gate_store (t:=28) (p:=22) rfl ?_);refine wpList_store_agg rfl rfl 28 _ _ rfl gb (ndCells m2).toArray rfl rfl 28 ndZero HX2.out rfl rfl (ndCells_all _) ?_;intro w9b hb3 hg3;have HCb:=Lib.hid hb3;have HXL3:Hid (Below w7b.heap.size w7b w9b):=Lib.hid (HXL2.out.grown hg3 HXL2.out.size (fun j hj=>by cases hj;exact HGE.out));clear hb3 hg3))
        have HDb:=Lib.hid (YtjghikkboekonaaGreatDoor.below_then HVb.out HXL3.out)
        have HBWb:=Lib.hid (YtjghikkboekonaaGreatDoor.below_then HBWa.out HDb.out)
        have HATb:=Lib.hid (HATa.out.below HDb.out)
        replace q0:=pw_cell_below HDb.out q0
        clear HX2 HXL2 HXL3 HGE HVb
        have cg:=get_calls w9b A11 c11 (X.map ofEn) (Kd.C_below HK16.out (YtjghikkboekonaaGreatDoor.below_then (YtjghikkboekonaaGreatDoor.below_then HBX.out HDa.out) HDb.out)) (by rw [List.length_map];have:=HXL.out;omega) e.1
        rw [ens_back,List.length_map] at cg
        go_wp2_with fail
        refine (cg).mono ?_
        rintro x w7c ⟨rfl,hb⟩
        rw [HM3.out]
        have HVc:=Lib.hid hb
        clear hb
        go_upto_region 24 with (first|((with_reducible refine gate_dst (N:=24) rfl ?_);refine box_event rfl (N:=24) rfl (cs:=ndZero) (t:=28) ?hr ?_;(case hr=>first|(go_simp;done)|(go_simp;rfl));intro gc hg w8c hb2 hbl2;have HGE:Hid (w7c.heap.size≤gc):=Lib.hid (by rw [hg];exact Nat.le_refl _);have HX2:=Lib.hid hb2;have HXL2:=Lib.hid hbl2;clear hg hb2 hbl2)|((with_reducible refine gate_store (t:=28) (p:=24) rfl ?_);refine wpList_store_agg rfl rfl 28 _ _ rfl gc (ndCells m3).toArray rfl rfl 28 ndZero HX2.out rfl rfl (ndCells_all _) ?_;intro w9c hb3 hg3;have HCc:=Lib.hid hb3;have HXL3:Hid (Below w7c.heap.size w7c w9c):=Lib.hid (HXL2.out.grown hg3 HXL2.out.size (fun j hj=>by cases hj;exact HGE.out));clear hb3 hg3))
        have HDc:=Lib.hid (YtjghikkboekonaaGreatDoor.below_then HVc.out HXL3.out)
        have HBWc:=Lib.hid (YtjghikkboekonaaGreatDoor.below_then HBWb.out HDc.out)
        have HATc:=Lib.hid (HATb.out.below HDc.out)
        replace q0:=pw_cell_below HDc.out q0
        clear HX2 HXL2 HXL3 HGE HVc
        have HCb3:=Lib.hid (blk_below HCb.out HDc.out)
        have HCa3:=Lib.hid (blk_below (blk_below HCa.out HDb.out) HDc.out)
        have HLN:=Lib.hid (lies_enode HATc.out)
        have HQ:=Lib.hid q0
        have HBX3:=Lib.hid (YtjghikkboekonaaGreatDoor.below_then (YtjghikkboekonaaGreatDoor.below_then (YtjghikkboekonaaGreatDoor.below_then HBX.out HDa.out) HDb.out) HDc.out)
        clear HCa HCb HDa HDb HDc HAT HATa HATb HBWa HBWb HBX HBW HM1 HM2 HM3 q0
        by_cases hpr:parM e.1=[]
        · have hq1 : (parM e.1).isEmpty=true:=by rw [hpr];rfl
          have hq2:(parM e.1 == [])=true:=by rw [hpr];rfl
          have h3:=HIS.out hpr
          cases is1 with
          | false =>
            obtain rfl:is3=false:=by rw [h3];rfl
            clear h3
            as_aux_lemma =>
              refine start_ (n:=29) (S:=fun w'=>Below w9c.heap.size w9c w') (ds:=[]) (ms 29 0) (by kernel_rfl) rfl rfl (Below.refl _ _).drew (fun hHeld=>?_)
              (refine pU 0 187 ?_ (ms 29 1) rfl rfl (by kernel_rfl) (fun _ _ _=>id) (by rfl) ?_ ?_ ?_ ?_;rotate_left;(intro w';go_simp;with_reducible rfl);rotate_left;(simp only [aP,i64_w,i32_w];rfl))
              (refine pU 1 188 ?_ (ms 29 2) rfl rfl (by kernel_rfl) (fun _ _ _=>id) (by rfl) ?_ ?_ ?_ ?_;rotate_left;(intro w';go_simp;with_reducible rfl);rotate_left;(simp only [aP,i64_w,i32_w];rfl))
              (refine pU 2 189 ?_ (ms 29 3) rfl rfl (by kernel_rfl) (fun _ _ _=>id) (by rfl) ?_ ?_ ?_ ?_;rotate_left;(intro w';go_simp;with_reducible rfl);rotate_left;(simp only [aP,i64_w,i32_w];rfl))
              (refine pU 3 190 ?_ (ms 29 4) rfl rfl (by kernel_rfl) (fun _ _ _=>id) (by rfl) ?_ ?_ ?_ ?_;rotate_left;(intro w';go_simp;with_reducible rfl);rotate_left;(simp only [aP,i64_w,i32_w];rfl))
              (refine take_ (i:=4) (N:=some 191) (v:=?_) (a':=?_) (ms 29 5) rfl rfl (by kernel_rfl) (fun _ _ _ h=>h) (Or.inl ⟨by rfl,?_⟩) hHeld ?_ ?_;rotate_left;(intro w' hS';have q1:=pw_cell_below hS' HQ.out;go_simp;with_reducible rfl);rotate_left;(simp only [aP,i64_w,i32_w];rfl))
              refine one_ (i:=5) (N:=some 192) (ms 29 6) rfl rfl (by kernel_rfl) (by decide) (fun K hK=>?_)
              refine goes_ Tryz.func19 (by kernel_rfl) rfl #[.string (B e.1)] (by rfl) rfl rfl (by simp only [List.map_toArray,List.map_cons,List.map_nil];rfl) ?_
              refine (par_c _ e.1 HEP.out).mono ?_
              rintro x w5 ⟨rfl,hb⟩
              refine ⟨_,rfl,?_⟩
              have hS5:Below w9c.heap.size w9c w5:=YtjghikkboekonaaGreatDoor.below_then (Below.refl w9c.heap.size w9c).drew hb
              refine hK.out _ _ hS5 (fun hHeld=>?_)
              clear hK K hb
              refine norm_ (a':=?_) ?_ ?_
              rotate_left
              · show Act.put _ (some 192) _=_
                (simp only [aP,i64_w,i32_w];rfl)
              (refine pU 6 193 ?_ (ms 29 7) rfl rfl (by kernel_rfl) (fun _ _ _=>id) (by rfl) ?_ ?_ ?_ ?_;rotate_left;(intro w';go_simp;with_reducible rfl);rotate_left;(simp only [aP,i64_w,i32_w];rfl))
              (refine pU 7 194 ?_ (ms 29 8) rfl rfl (by kernel_rfl) (fun _ _ _=>id) (by rfl) ?_ ?_ ?_ ?_;rotate_left;(intro w';go_simp;with_reducible rfl);rotate_left;(simp only [aP,i64_w,i32_w];rfl))
              (refine pU 8 195 ?_ (ms 29 9) rfl rfl (by kernel_rfl) (fun _ _ _=>id) (by rfl) ?_ ?_ ?_ ?_;rotate_left;(intro w';go_simp;with_reducible rfl);rotate_left;(simp only [aP,i64_w,i32_w];rfl))
              (refine pU 9 196 ?_ (ms 29 10) rfl rfl (by kernel_rfl) (fun _ _ _=>id) (by rfl) ?_ ?_ ?_ ?_;rotate_left;(intro w';go_simp;with_reducible rfl);rotate_left;(simp only [aP,i64_w,i32_w];rfl))
              (refine pU 10 197 ?_ (ms 29 11) rfl rfl (by kernel_rfl) (fun _ _ _=>id) (by rfl) ?_ ?_ ?_ ?_;rotate_left;(intro w';go_simp;with_reducible rfl);rotate_left;(simp only [aP,i64_w,i32_w];rfl))
              (refine pN 11 198 (ms 29 12) rfl rfl (by kernel_rfl) (fun _ _ _=>id) (by rfl) ?_ ?_ ?_;rotate_left;(simp only [aP,i64_w,i32_w];rfl))
              (refine pU 12 199 ?_ (ms 29 13) rfl rfl (by kernel_rfl) (fun _ _ _=>id) (by rfl) ?_ ?_ ?_ ?_;rotate_left;(intro w';go_simp;with_reducible rfl);rotate_left;(simp only [aP,i64_w,i32_w];rfl))
              (refine pU 13 200 ?_ (ms 29 14) rfl rfl (by kernel_rfl) (fun _ _ _=>id) (by rfl) ?_ ?_ ?_ ?_;rotate_left;(intro w';go_simp;with_reducible rfl);rotate_left;(simp only [aP,i64_w,i32_w];rfl))
              (refine pN 14 201 (ms 29 15) rfl rfl (by kernel_rfl) (fun _ _ _=>id) (by rfl) ?_ ?_ ?_;rotate_left;(simp only [aP,i64_w,i32_w];rfl))
              (refine pN 15 202 (ms 29 16) rfl rfl (by kernel_rfl) (fun _ _ _=>id) (by rfl) ?_ ?_ ?_;rotate_left;(simp only [aP,i64_w,i32_w];rfl))
              (refine pN 16 203 (ms 29 17) rfl rfl (by kernel_rfl) (fun _ _ _=>id) (by rfl) ?_ ?_ ?_;rotate_left;(simp only [aP,i64_w,i32_w];rfl))
              (refine pN 17 204 (ms 29 18) rfl rfl (by kernel_rfl) (fun _ _ _=>id) (by rfl) ?_ ?_ ?_;rotate_left;(simp only [aP,i64_w,i32_w];rfl))
              (refine pN 18 205 (ms 29 19) rfl rfl (by kernel_rfl) (fun _ _ _=>id) (by rfl) ?_ ?_ ?_;rotate_left;(simp only [aP,i64_w,i32_w];rfl))
              (refine pN 19 206 (ms 29 20) rfl rfl (by kernel_rfl) (fun _ _ _=>id) (by rfl) ?_ ?_ ?_;rotate_left;(simp only [aP,i64_w,i32_w];rfl))
              (refine pN 20 207 (ms 29 21) rfl rfl (by kernel_rfl) (fun _ _ _=>id) (by rfl) ?_ ?_ ?_;rotate_left;(simp only [aP,i64_w,i32_w];rfl))
              (refine pU 21 208 ?_ (ms 29 22) rfl rfl (by kernel_rfl) (fun _ _ _=>id) (by rfl) ?_ ?_ ?_ ?_;rotate_left;(intro w';go_simp;with_reducible rfl);rotate_left;(simp only [aP,i64_w,i32_w];rfl))
              (refine pU 22 209 ?_ (ms 29 23) rfl rfl (by kernel_rfl) (fun _ _ _=>id) (by rfl) ?_ ?_ ?_ ?_;rotate_left;(intro w';go_simp;with_reducible rfl);rotate_left;(simp only [aP,i64_w,i32_w];rfl))
              (refine pN 23 210 (ms 29 24) rfl rfl (by kernel_rfl) (fun _ _ _=>id) (by rfl) ?_ ?_ ?_;rotate_left;(simp only [aP,i64_w,i32_w];rfl))
              (refine pN 24 211 (ms 29 25) rfl rfl (by kernel_rfl) (fun _ _ _=>id) (by rfl) ?_ ?_ ?_;rotate_left;(simp only [aP,i64_w,i32_w];rfl))
              (refine pN 25 212 (ms 29 26) rfl rfl (by kernel_rfl) (fun _ _ _=>id) (by rfl) ?_ ?_ ?_;rotate_left;(simp only [aP,i64_w,i32_w];rfl))
              (refine pU 26 213 ?_ (ms 29 27) rfl rfl (by kernel_rfl) (fun _ _ _=>id) (by rfl) ?_ ?_ ?_ ?_;rotate_left;(intro w';go_simp;with_reducible rfl);rotate_left;(simp only [aP,i64_w,i32_w];rfl))
              (refine pU 27 214 ?_ (ms 29 28) rfl rfl (by kernel_rfl) (fun _ _ _=>id) (by rfl) ?_ ?_ ?_ ?_;rotate_left;(intro w';go_simp;with_reducible rfl);rotate_left;(simp only [aP,i64_w,i32_w];rfl))
              (refine pU 28 215 ?_ (ms 29 29) rfl rfl (by kernel_rfl) (fun _ _ _=>id) (by rfl) ?_ ?_ ?_ ?_;rotate_left;(intro w';go_simp;with_reducible rfl);rotate_left;(simp only [aP,i64_w,i32_w];rfl))
              refine done_ (by kernel_rfl) ?_
              go_wp2_with fail
              go_roundg g1
              case measure=>omega
              case rel=>exact ⟨j + 1,by go_num,by omega,HII,Lib.hid (YtjghikkboekonaaGreatDoor.below_then HBX3.out hHeld),Lib.hid (YtjghikkboekonaaGreatDoor.below_then HBWc.out hHeld)⟩
          | true =>
            cases is2 with
            | false =>
              obtain rfl:is3=false:=by rw [h3];rfl
              clear h3
              as_aux_lemma =>
                refine start_ (n:=29) (S:=fun w'=>Below w9c.heap.size w9c w') (ds:=[]) (ms 29 0) (by kernel_rfl) rfl rfl (Below.refl _ _).drew (fun hHeld=>?_)
                (refine pU 0 187 ?_ (ms 29 1) rfl rfl (by kernel_rfl) (fun _ _ _=>id) (by rfl) ?_ ?_ ?_ ?_;rotate_left;(intro w';go_simp;with_reducible rfl);rotate_left;(simp only [aP,i64_w,i32_w];rfl))
                (refine pU 1 188 ?_ (ms 29 2) rfl rfl (by kernel_rfl) (fun _ _ _=>id) (by rfl) ?_ ?_ ?_ ?_;rotate_left;(intro w';go_simp;with_reducible rfl);rotate_left;(simp only [aP,i64_w,i32_w];rfl))
                (refine pU 2 189 ?_ (ms 29 3) rfl rfl (by kernel_rfl) (fun _ _ _=>id) (by rfl) ?_ ?_ ?_ ?_;rotate_left;(intro w';go_simp;with_reducible rfl);rotate_left;(simp only [aP,i64_w,i32_w];rfl))
                (refine pU 3 190 ?_ (ms 29 4) rfl rfl (by kernel_rfl) (fun _ _ _=>id) (by rfl) ?_ ?_ ?_ ?_;rotate_left;(intro w';go_simp;with_reducible rfl);rotate_left;(simp only [aP,i64_w,i32_w];rfl))
                (refine take_ (i:=4) (N:=some 191) (v:=?_) (a':=?_) (ms 29 5) rfl rfl (by kernel_rfl) (fun _ _ _ h=>h) (Or.inl ⟨by rfl,?_⟩) hHeld ?_ ?_;rotate_left;(intro w' hS';have q1:=pw_cell_below hS' HQ.out;go_simp;with_reducible rfl);rotate_left;(simp only [aP,i64_w,i32_w];rfl))
                refine one_ (i:=5) (N:=some 192) (ms 29 6) rfl rfl (by kernel_rfl) (by decide) (fun K hK=>?_)
                refine goes_ Tryz.func19 (by kernel_rfl) rfl #[.string (B e.1)] (by rfl) rfl rfl (by simp only [List.map_toArray,List.map_cons,List.map_nil];rfl) ?_
                refine (par_c _ e.1 HEP.out).mono ?_
                rintro x w5 ⟨rfl,hb⟩
                refine ⟨_,rfl,?_⟩
                have hS5:Below w9c.heap.size w9c w5:=YtjghikkboekonaaGreatDoor.below_then (Below.refl w9c.heap.size w9c).drew hb
                refine hK.out _ _ hS5 (fun hHeld=>?_)
                clear hK K hb
                refine norm_ (a':=?_) ?_ ?_
                rotate_left
                · show Act.put _ (some 192) _=_
                  (simp only [aP,i64_w,i32_w];rfl)
                (refine pU 6 193 ?_ (ms 29 7) rfl rfl (by kernel_rfl) (fun _ _ _=>id) (by rfl) ?_ ?_ ?_ ?_;rotate_left;(intro w';go_simp;with_reducible rfl);rotate_left;(simp only [aP,i64_w,i32_w];rfl))
                (refine pU 7 194 ?_ (ms 29 8) rfl rfl (by kernel_rfl) (fun _ _ _=>id) (by rfl) ?_ ?_ ?_ ?_;rotate_left;(intro w';go_simp;with_reducible rfl);rotate_left;(simp only [aP,i64_w,i32_w];rfl))
                (refine pU 8 195 ?_ (ms 29 9) rfl rfl (by kernel_rfl) (fun _ _ _=>id) (by rfl) ?_ ?_ ?_ ?_;rotate_left;(intro w';go_simp;with_reducible rfl);rotate_left;(simp only [aP,i64_w,i32_w];rfl))
                (refine pU 9 196 ?_ (ms 29 10) rfl rfl (by kernel_rfl) (fun _ _ _=>id) (by rfl) ?_ ?_ ?_ ?_;rotate_left;(intro w';go_simp;with_reducible rfl);rotate_left;(simp only [aP,i64_w,i32_w];rfl))
                (refine pU 10 197 ?_ (ms 29 11) rfl rfl (by kernel_rfl) (fun _ _ _=>id) (by rfl) ?_ ?_ ?_ ?_;rotate_left;(intro w';go_simp;with_reducible rfl);rotate_left;(simp only [aP,i64_w,i32_w];rfl))
                (refine pU 11 198 ?_ (ms 29 12) rfl rfl (by kernel_rfl) (fun _ _ _=>id) (by rfl) ?_ ?_ ?_ ?_;rotate_left;(intro w';go_simp;with_reducible rfl);rotate_left;(simp only [aP,i64_w,i32_w];rfl))
                (refine pU 12 199 ?_ (ms 29 13) rfl rfl (by kernel_rfl) (fun _ _ _=>id) (by rfl) ?_ ?_ ?_ ?_;rotate_left;(intro w';go_simp;with_reducible rfl);rotate_left;(simp only [aP,i64_w,i32_w];rfl))
                (refine pU 13 200 ?_ (ms 29 14) rfl rfl (by kernel_rfl) (fun _ _ _=>id) (by rfl) ?_ ?_ ?_ ?_;rotate_left;(intro w';go_simp;with_reducible rfl);rotate_left;(simp only [aP,i64_w,i32_w];rfl))
                (refine pN 14 201 (ms 29 15) rfl rfl (by kernel_rfl) (fun _ _ _=>id) (by rfl) ?_ ?_ ?_;rotate_left;(simp only [aP,i64_w,i32_w];rfl))
                (refine pN 15 202 (ms 29 16) rfl rfl (by kernel_rfl) (fun _ _ _=>id) (by rfl) ?_ ?_ ?_;rotate_left;(simp only [aP,i64_w,i32_w];rfl))
                (refine pN 16 203 (ms 29 17) rfl rfl (by kernel_rfl) (fun _ _ _=>id) (by rfl) ?_ ?_ ?_;rotate_left;(simp only [aP,i64_w,i32_w];rfl))
                (refine pN 17 204 (ms 29 18) rfl rfl (by kernel_rfl) (fun _ _ _=>id) (by rfl) ?_ ?_ ?_;rotate_left;(simp only [aP,i64_w,i32_w];rfl))
                (refine pN 18 205 (ms 29 19) rfl rfl (by kernel_rfl) (fun _ _ _=>id) (by rfl) ?_ ?_ ?_;rotate_left;(simp only [aP,i64_w,i32_w];rfl))
                (refine pN 19 206 (ms 29 20) rfl rfl (by kernel_rfl) (fun _ _ _=>id) (by rfl) ?_ ?_ ?_;rotate_left;(simp only [aP,i64_w,i32_w];rfl))
                (refine pN 20 207 (ms 29 21) rfl rfl (by kernel_rfl) (fun _ _ _=>id) (by rfl) ?_ ?_ ?_;rotate_left;(simp only [aP,i64_w,i32_w];rfl))
                (refine pU 21 208 ?_ (ms 29 22) rfl rfl (by kernel_rfl) (fun _ _ _=>id) (by rfl) ?_ ?_ ?_ ?_;rotate_left;(intro w';go_simp;with_reducible rfl);rotate_left;(simp only [aP,i64_w,i32_w];rfl))
                (refine pU 22 209 ?_ (ms 29 23) rfl rfl (by kernel_rfl) (fun _ _ _=>id) (by rfl) ?_ ?_ ?_ ?_;rotate_left;(intro w';go_simp;with_reducible rfl);rotate_left;(simp only [aP,i64_w,i32_w];rfl))
                (refine pN 23 210 (ms 29 24) rfl rfl (by kernel_rfl) (fun _ _ _=>id) (by rfl) ?_ ?_ ?_;rotate_left;(simp only [aP,i64_w,i32_w];rfl))
                (refine pN 24 211 (ms 29 25) rfl rfl (by kernel_rfl) (fun _ _ _=>id) (by rfl) ?_ ?_ ?_;rotate_left;(simp only [aP,i64_w,i32_w];rfl))
                (refine pN 25 212 (ms 29 26) rfl rfl (by kernel_rfl) (fun _ _ _=>id) (by rfl) ?_ ?_ ?_;rotate_left;(simp only [aP,i64_w,i32_w];rfl))
                (refine pU 26 213 ?_ (ms 29 27) rfl rfl (by kernel_rfl) (fun _ _ _=>id) (by rfl) ?_ ?_ ?_ ?_;rotate_left;(intro w';go_simp;with_reducible rfl);rotate_left;(simp only [aP,i64_w,i32_w];rfl))
                (refine pU 27 214 ?_ (ms 29 28) rfl rfl (by kernel_rfl) (fun _ _ _=>id) (by rfl) ?_ ?_ ?_ ?_;rotate_left;(intro w';go_simp;with_reducible rfl);rotate_left;(simp only [aP,i64_w,i32_w];rfl))
                (refine pU 28 215 ?_ (ms 29 29) rfl rfl (by kernel_rfl) (fun _ _ _=>id) (by rfl) ?_ ?_ ?_ ?_;rotate_left;(intro w';go_simp;with_reducible rfl);rotate_left;(simp only [aP,i64_w,i32_w];rfl))
                refine done_ (by kernel_rfl) ?_
                go_wp2_with fail
                go_roundg g1
                case measure=>omega
                case rel=>exact ⟨j + 1,by go_num,by omega,HII,Lib.hid (YtjghikkboekonaaGreatDoor.below_then HBX3.out hHeld),Lib.hid (YtjghikkboekonaaGreatDoor.below_then HBWc.out hHeld)⟩
            | true =>
              by_cases hn1:m1=e.2
              · subst hn1
                by_cases hn2:m2=e.2
                · subst hn2
                  obtain rfl:is3=true:=by rw [h3];simp
                  clear h3
                  as_aux_lemma =>
                    refine start_ (n:=29) (S:=fun w'=>Below w9c.heap.size w9c w') (ds:=[]) (ms 29 0) (by kernel_rfl) rfl rfl (Below.refl _ _).drew (fun hHeld=>?_)
                    (refine pU 0 187 ?_ (ms 29 1) rfl rfl (by kernel_rfl) (fun _ _ _=>id) (by rfl) ?_ ?_ ?_ ?_;rotate_left;(intro w';go_simp;with_reducible rfl);rotate_left;(simp only [aP,i64_w,i32_w];rfl))
                    (refine pU 1 188 ?_ (ms 29 2) rfl rfl (by kernel_rfl) (fun _ _ _=>id) (by rfl) ?_ ?_ ?_ ?_;rotate_left;(intro w';go_simp;with_reducible rfl);rotate_left;(simp only [aP,i64_w,i32_w];rfl))
                    (refine pU 2 189 ?_ (ms 29 3) rfl rfl (by kernel_rfl) (fun _ _ _=>id) (by rfl) ?_ ?_ ?_ ?_;rotate_left;(intro w';go_simp;with_reducible rfl);rotate_left;(simp only [aP,i64_w,i32_w];rfl))
                    (refine pU 3 190 ?_ (ms 29 4) rfl rfl (by kernel_rfl) (fun _ _ _=>id) (by rfl) ?_ ?_ ?_ ?_;rotate_left;(intro w';go_simp;with_reducible rfl);rotate_left;(simp only [aP,i64_w,i32_w];rfl))
                    (refine take_ (i:=4) (N:=some 191) (v:=?_) (a':=?_) (ms 29 5) rfl rfl (by kernel_rfl) (fun _ _ _ h=>h) (Or.inl ⟨by rfl,?_⟩) hHeld ?_ ?_;rotate_left;(intro w' hS';have q1:=pw_cell_below hS' HQ.out;go_simp;with_reducible rfl);rotate_left;(simp only [aP,i64_w,i32_w];rfl))
                    refine one_ (i:=5) (N:=some 192) (ms 29 6) rfl rfl (by kernel_rfl) (by decide) (fun K hK=>?_)
                    refine goes_ Tryz.func19 (by kernel_rfl) rfl #[.string (B e.1)] (by rfl) rfl rfl (by simp only [List.map_toArray,List.map_cons,List.map_nil];rfl) ?_
                    refine (par_c _ e.1 HEP.out).mono ?_
                    rintro x w5 ⟨rfl,hb⟩
                    refine ⟨_,rfl,?_⟩
                    have hS5:Below w9c.heap.size w9c w5:=YtjghikkboekonaaGreatDoor.below_then (Below.refl w9c.heap.size w9c).drew hb
                    refine hK.out _ _ hS5 (fun hHeld=>?_)
                    clear hK K hb
                    refine norm_ (a':=?_) ?_ ?_
                    rotate_left
                    · show Act.put _ (some 192) _=_
                      (simp only [aP,i64_w,i32_w];rfl)
                    (refine pU 6 193 ?_ (ms 29 7) rfl rfl (by kernel_rfl) (fun _ _ _=>id) (by rfl) ?_ ?_ ?_ ?_;rotate_left;(intro w';go_simp;with_reducible rfl);rotate_left;(simp only [aP,i64_w,i32_w];rfl))
                    (refine pU 7 194 ?_ (ms 29 8) rfl rfl (by kernel_rfl) (fun _ _ _=>id) (by rfl) ?_ ?_ ?_ ?_;rotate_left;(intro w';go_simp;with_reducible rfl);rotate_left;(simp only [aP,i64_w,i32_w];rfl))
                    (refine pU 8 195 ?_ (ms 29 9) rfl rfl (by kernel_rfl) (fun _ _ _=>id) (by rfl) ?_ ?_ ?_ ?_;rotate_left;(intro w';go_simp;with_reducible rfl);rotate_left;(simp only [aP,i64_w,i32_w];rfl))
                    (refine pU 9 196 ?_ (ms 29 10) rfl rfl (by kernel_rfl) (fun _ _ _=>id) (by rfl) ?_ ?_ ?_ ?_;rotate_left;(intro w';go_simp;with_reducible rfl);rotate_left;(simp only [aP,i64_w,i32_w];rfl))
                    (refine pU 10 197 ?_ (ms 29 11) rfl rfl (by kernel_rfl) (fun _ _ _=>id) (by rfl) ?_ ?_ ?_ ?_;rotate_left;(intro w';go_simp;with_reducible rfl);rotate_left;(simp only [aP,i64_w,i32_w];rfl))
                    (refine pU 11 198 ?_ (ms 29 12) rfl rfl (by kernel_rfl) (fun _ _ _=>id) (by rfl) ?_ ?_ ?_ ?_;rotate_left;(intro w';go_simp;with_reducible rfl);rotate_left;(simp only [aP,i64_w,i32_w];rfl))
                    (refine pU 12 199 ?_ (ms 29 13) rfl rfl (by kernel_rfl) (fun _ _ _=>id) (by rfl) ?_ ?_ ?_ ?_;rotate_left;(intro w';go_simp;with_reducible rfl);rotate_left;(simp only [aP,i64_w,i32_w];rfl))
                    (refine pU 13 200 ?_ (ms 29 14) rfl rfl (by kernel_rfl) (fun _ _ _=>id) (by rfl) ?_ ?_ ?_ ?_;rotate_left;(intro w';go_simp;with_reducible rfl);rotate_left;(simp only [aP,i64_w,i32_w];rfl))
                    refine take_ (i:=14) (N:=some 201) (v:=.agg (ndCells e.2).toArray) (a':=?_) (ms 29 15) rfl rfl (by kernel_rfl) (fun _ _ _ h=>h) (yi_agg (by rfl) 28 _ rfl _ rfl _ _ (fun w' hb=>lies_of (blk_below HCa3.out hb)) h31 rfl rfl) hHeld ?_ ?_
                    rotate_left
                    · (simp only [aP,i64_w,i32_w];rfl)
                    (refine pU 15 202 ?_ (ms 29 16) rfl rfl (by kernel_rfl) (fun _ _ _=>id) (by rfl) ?_ ?_ ?_ ?_;rotate_left;(intro w';go_simp;with_reducible rfl);rotate_left;(simp only [aP,i64_w,i32_w];rfl))
                    (refine pU 16 203 ?_ (ms 29 17) rfl rfl (by kernel_rfl) (fun _ _ _=>id) (by rfl) ?_ ?_ ?_ ?_;rotate_left;(intro w';go_simp;with_reducible rfl);rotate_left;(simp only [aP,i64_w,i32_w];rfl))
                    (refine pU 17 204 ?_ (ms 29 18) rfl rfl (by kernel_rfl) (fun _ _ _=>id) (by rfl) ?_ ?_ ?_ ?_;rotate_left;(intro w';go_simp;with_reducible rfl);rotate_left;(simp only [aP,i64_w,i32_w];rfl))
                    (refine pU 18 205 ?_ (ms 29 19) rfl rfl (by kernel_rfl) (fun _ _ _=>id) (by rfl) ?_ ?_ ?_ ?_;rotate_left;(intro w';go_simp;with_reducible rfl);rotate_left;(simp only [aP,i64_w,i32_w];rfl))
                    refine take_ (i:=19) (N:=some 206) (v:=.agg (ndCells e.2).toArray) (a':=?_) (ms 29 20) rfl rfl (by kernel_rfl) (fun _ _ _ h=>h) (yi_agg (by rfl) 28 _ rfl _ rfl _ _ (fun w' hb=>lies_below9 HLN.out hb) h31 rfl rfl) hHeld ?_ ?_
                    rotate_left
                    · (simp only [aP,i64_w,i32_w];rfl)
                    (refine pU 20 207 ?_ (ms 29 21) rfl rfl (by kernel_rfl) (fun _ _ _=>id) (by rfl) ?_ ?_ ?_ ?_;rotate_left;(intro w';go_simp;with_reducible rfl);rotate_left;(simp only [aP,i64_w,i32_w];rfl))
                    (refine pU 21 208 ?_ (ms 29 22) rfl rfl (by kernel_rfl) (fun _ _ _=>id) (by rfl) ?_ ?_ ?_ ?_;rotate_left;(intro w';go_simp;with_reducible rfl);rotate_left;(simp only [aP,i64_w,i32_w];rfl))
                    (refine pU 22 209 ?_ (ms 29 23) rfl rfl (by kernel_rfl) (fun _ _ _=>id) (by rfl) ?_ ?_ ?_ ?_;rotate_left;(intro w';go_simp;with_reducible rfl);rotate_left;(simp only [aP,i64_w,i32_w];rfl))
                    refine take_ (i:=23) (N:=some 210) (v:=.agg (ndCells e.2).toArray) (a':=?_) (ms 29 24) rfl rfl (by kernel_rfl) (fun _ _ _ h=>h) (yi_agg (by rfl) 28 _ rfl _ rfl _ _ (fun w' hb=>lies_of (blk_below HCb3.out hb)) h31 rfl rfl) hHeld ?_ ?_
                    rotate_left
                    · (simp only [aP,i64_w,i32_w];rfl)
                    refine take_ (i:=24) (N:=some 211) (v:=.agg (ndCells e.2).toArray) (a':=?_) (ms 29 25) rfl rfl (by kernel_rfl) (fun _ _ _ h=>h) (yi_agg (by rfl) 28 _ rfl _ rfl _ _ (fun w' hb=>lies_of (blk_below HCa3.out hb)) h31 rfl rfl) hHeld ?_ ?_
                    rotate_left
                    · (simp only [aP,i64_w,i32_w];rfl)
                    (refine pU 25 212 ?_ (ms 29 26) rfl rfl (by kernel_rfl) (fun _ _ _=>id) (by rfl) ?_ ?_ ?_ ?_;rotate_left;(intro w';go_simp;with_reducible rfl);rotate_left;(simp only [aP,i64_w,i32_w];rfl))
                    (refine pU 26 213 ?_ (ms 29 27) rfl rfl (by kernel_rfl) (fun _ _ _=>id) (by rfl) ?_ ?_ ?_ ?_;rotate_left;(intro w';go_simp;with_reducible rfl);rotate_left;(simp only [aP,i64_w,i32_w];rfl))
                    (refine pU 27 214 ?_ (ms 29 28) rfl rfl (by kernel_rfl) (fun _ _ _=>id) (by rfl) ?_ ?_ ?_ ?_;rotate_left;(intro w';go_simp;with_reducible rfl);rotate_left;(simp only [aP,i64_w,i32_w];rfl))
                    (refine pU 28 215 ?_ (ms 29 29) rfl rfl (by kernel_rfl) (fun _ _ _=>id) (by rfl) ?_ ?_ ?_ ?_;rotate_left;(intro w';go_simp;with_reducible rfl);rotate_left;(simp only [aP,i64_w,i32_w];rfl))
                    refine done_ (by kernel_rfl) ?_
                    go_wp2_with fail
                    go_roundg g1
                    case measure=>omega
                    case rel=>exact ⟨j + 1,by go_num,by omega,HII,Lib.hid (YtjghikkboekonaaGreatDoor.below_then HBX3.out hHeld),Lib.hid (YtjghikkboekonaaGreatDoor.below_then HBWc.out hHeld)⟩
                · have hd2:decide (m2=e.2)=false:=decide_eq_false hn2
                  obtain rfl:is3=false:=by rw [h3,hd2];simp
                  clear h3
                  as_aux_lemma =>
                    refine start_ (n:=29) (S:=fun w'=>Below w9c.heap.size w9c w') (ds:=[]) (ms 29 0) (by kernel_rfl) rfl rfl (Below.refl _ _).drew (fun hHeld=>?_)
                    (refine pU 0 187 ?_ (ms 29 1) rfl rfl (by kernel_rfl) (fun _ _ _=>id) (by rfl) ?_ ?_ ?_ ?_;rotate_left;(intro w';go_simp;with_reducible rfl);rotate_left;(simp only [aP,i64_w,i32_w];rfl))
                    (refine pU 1 188 ?_ (ms 29 2) rfl rfl (by kernel_rfl) (fun _ _ _=>id) (by rfl) ?_ ?_ ?_ ?_;rotate_left;(intro w';go_simp;with_reducible rfl);rotate_left;(simp only [aP,i64_w,i32_w];rfl))
                    (refine pU 2 189 ?_ (ms 29 3) rfl rfl (by kernel_rfl) (fun _ _ _=>id) (by rfl) ?_ ?_ ?_ ?_;rotate_left;(intro w';go_simp;with_reducible rfl);rotate_left;(simp only [aP,i64_w,i32_w];rfl))
                    (refine pU 3 190 ?_ (ms 29 4) rfl rfl (by kernel_rfl) (fun _ _ _=>id) (by rfl) ?_ ?_ ?_ ?_;rotate_left;(intro w';go_simp;with_reducible rfl);rotate_left;(simp only [aP,i64_w,i32_w];rfl))
                    (refine take_ (i:=4) (N:=some 191) (v:=?_) (a':=?_) (ms 29 5) rfl rfl (by kernel_rfl) (fun _ _ _ h=>h) (Or.inl ⟨by rfl,?_⟩) hHeld ?_ ?_;rotate_left;(intro w' hS';have q1:=pw_cell_below hS' HQ.out;go_simp;with_reducible rfl);rotate_left;(simp only [aP,i64_w,i32_w];rfl))
                    refine one_ (i:=5) (N:=some 192) (ms 29 6) rfl rfl (by kernel_rfl) (by decide) (fun K hK=>?_)
                    refine goes_ Tryz.func19 (by kernel_rfl) rfl #[.string (B e.1)] (by rfl) rfl rfl (by simp only [List.map_toArray,List.map_cons,List.map_nil];rfl) ?_
                    refine (par_c _ e.1 HEP.out).mono ?_
                    rintro x w5 ⟨rfl,hb⟩
                    refine ⟨_,rfl,?_⟩
                    have hS5:Below w9c.heap.size w9c w5:=YtjghikkboekonaaGreatDoor.below_then (Below.refl w9c.heap.size w9c).drew hb
                    refine hK.out _ _ hS5 (fun hHeld=>?_)
                    clear hK K hb
                    refine norm_ (a':=?_) ?_ ?_
                    rotate_left
                    · show Act.put _ (some 192) _=_
                      (simp only [aP,i64_w,i32_w];rfl)
                    (refine pU 6 193 ?_ (ms 29 7) rfl rfl (by kernel_rfl) (fun _ _ _=>id) (by rfl) ?_ ?_ ?_ ?_;rotate_left;(intro w';go_simp;with_reducible rfl);rotate_left;(simp only [aP,i64_w,i32_w];rfl))
                    (refine pU 7 194 ?_ (ms 29 8) rfl rfl (by kernel_rfl) (fun _ _ _=>id) (by rfl) ?_ ?_ ?_ ?_;rotate_left;(intro w';go_simp;with_reducible rfl);rotate_left;(simp only [aP,i64_w,i32_w];rfl))
                    (refine pU 8 195 ?_ (ms 29 9) rfl rfl (by kernel_rfl) (fun _ _ _=>id) (by rfl) ?_ ?_ ?_ ?_;rotate_left;(intro w';go_simp;with_reducible rfl);rotate_left;(simp only [aP,i64_w,i32_w];rfl))
                    (refine pU 9 196 ?_ (ms 29 10) rfl rfl (by kernel_rfl) (fun _ _ _=>id) (by rfl) ?_ ?_ ?_ ?_;rotate_left;(intro w';go_simp;with_reducible rfl);rotate_left;(simp only [aP,i64_w,i32_w];rfl))
                    (refine pU 10 197 ?_ (ms 29 11) rfl rfl (by kernel_rfl) (fun _ _ _=>id) (by rfl) ?_ ?_ ?_ ?_;rotate_left;(intro w';go_simp;with_reducible rfl);rotate_left;(simp only [aP,i64_w,i32_w];rfl))
                    (refine pU 11 198 ?_ (ms 29 12) rfl rfl (by kernel_rfl) (fun _ _ _=>id) (by rfl) ?_ ?_ ?_ ?_;rotate_left;(intro w';go_simp;with_reducible rfl);rotate_left;(simp only [aP,i64_w,i32_w];rfl))
                    (refine pU 12 199 ?_ (ms 29 13) rfl rfl (by kernel_rfl) (fun _ _ _=>id) (by rfl) ?_ ?_ ?_ ?_;rotate_left;(intro w';go_simp;with_reducible rfl);rotate_left;(simp only [aP,i64_w,i32_w];rfl))
                    (refine pU 13 200 ?_ (ms 29 14) rfl rfl (by kernel_rfl) (fun _ _ _=>id) (by rfl) ?_ ?_ ?_ ?_;rotate_left;(intro w';go_simp;with_reducible rfl);rotate_left;(simp only [aP,i64_w,i32_w];rfl))
                    refine take_ (i:=14) (N:=some 201) (v:=.agg (ndCells e.2).toArray) (a':=?_) (ms 29 15) rfl rfl (by kernel_rfl) (fun _ _ _ h=>h) (yi_agg (by rfl) 28 _ rfl _ rfl _ _ (fun w' hb=>lies_of (blk_below HCa3.out hb)) h31 rfl rfl) hHeld ?_ ?_
                    rotate_left
                    · (simp only [aP,i64_w,i32_w];rfl)
                    (refine pU 15 202 ?_ (ms 29 16) rfl rfl (by kernel_rfl) (fun _ _ _=>id) (by rfl) ?_ ?_ ?_ ?_;rotate_left;(intro w';go_simp;with_reducible rfl);rotate_left;(simp only [aP,i64_w,i32_w];rfl))
                    (refine pU 16 203 ?_ (ms 29 17) rfl rfl (by kernel_rfl) (fun _ _ _=>id) (by rfl) ?_ ?_ ?_ ?_;rotate_left;(intro w';go_simp;with_reducible rfl);rotate_left;(simp only [aP,i64_w,i32_w];rfl))
                    (refine pU 17 204 ?_ (ms 29 18) rfl rfl (by kernel_rfl) (fun _ _ _=>id) (by rfl) ?_ ?_ ?_ ?_;rotate_left;(intro w';go_simp;with_reducible rfl);rotate_left;(simp only [aP,i64_w,i32_w];rfl))
                    (refine pU 18 205 ?_ (ms 29 19) rfl rfl (by kernel_rfl) (fun _ _ _=>id) (by rfl) ?_ ?_ ?_ ?_;rotate_left;(intro w';go_simp;with_reducible rfl);rotate_left;(simp only [aP,i64_w,i32_w];rfl))
                    refine take_ (i:=19) (N:=some 206) (v:=.agg (ndCells e.2).toArray) (a':=?_) (ms 29 20) rfl rfl (by kernel_rfl) (fun _ _ _ h=>h) (yi_agg (by rfl) 28 _ rfl _ rfl _ _ (fun w' hb=>lies_below9 HLN.out hb) h31 rfl rfl) hHeld ?_ ?_
                    rotate_left
                    · (simp only [aP,i64_w,i32_w];rfl)
                    (refine pU 20 207 ?_ (ms 29 21) rfl rfl (by kernel_rfl) (fun _ _ _=>id) (by rfl) ?_ ?_ ?_ ?_;rotate_left;(intro w';go_simp;with_reducible rfl);rotate_left;(simp only [aP,i64_w,i32_w];rfl))
                    (refine pU 21 208 ?_ (ms 29 22) rfl rfl (by kernel_rfl) (fun _ _ _=>id) (by rfl) ?_ ?_ ?_ ?_;rotate_left;(intro w';go_simp;with_reducible rfl);rotate_left;(simp only [aP,i64_w,i32_w];rfl))
                    (refine pU 22 209 ?_ (ms 29 23) rfl rfl (by kernel_rfl) (fun _ _ _=>id) (by rfl) ?_ ?_ ?_ ?_;rotate_left;(intro w';go_simp;with_reducible rfl);rotate_left;(simp only [aP,i64_w,i32_w];rfl))
                    refine take_ (i:=23) (N:=some 210) (v:=.agg (ndCells m2).toArray) (a':=?_) (ms 29 24) rfl rfl (by kernel_rfl) (fun _ _ _ h=>h) (yi_agg (by rfl) 28 _ rfl _ rfl _ _ (fun w' hb=>lies_of (blk_below HCb3.out hb)) h31 rfl rfl) hHeld ?_ ?_
                    rotate_left
                    · (simp only [aP,i64_w,i32_w];rfl)
                    refine take_ (i:=24) (N:=some 211) (v:=.agg (ndCells e.2).toArray) (a':=?_) (ms 29 25) rfl rfl (by kernel_rfl) (fun _ _ _ h=>h) (yi_agg (by rfl) 28 _ rfl _ rfl _ _ (fun w' hb=>lies_of (blk_below HCa3.out hb)) h31 rfl rfl) hHeld ?_ ?_
                    rotate_left
                    · (simp only [aP,i64_w,i32_w];rfl)
                    (refine pU 25 212 ?_ (ms 29 26) rfl rfl (by kernel_rfl) (fun _ _ _=>id) (by rfl) ?_ ?_ ?_ ?_;rotate_left;(intro w';go_simp;with_reducible rfl);rotate_left;(simp only [aP,i64_w,i32_w];rfl))
                    (refine pU 26 213 ?_ (ms 29 27) rfl rfl (by kernel_rfl) (fun _ _ _=>id) (by rfl) ?_ ?_ ?_ ?_;rotate_left;(intro w';go_simp;with_reducible rfl);rotate_left;(simp only [aP,i64_w,i32_w];rfl))
                    (refine pU 27 214 ?_ (ms 29 28) rfl rfl (by kernel_rfl) (fun _ _ _=>id) (by rfl) ?_ ?_ ?_ ?_;rotate_left;(intro w';go_simp;with_reducible rfl);rotate_left;(simp only [aP,i64_w,i32_w];rfl))
                    (refine pU 28 215 ?_ (ms 29 29) rfl rfl (by kernel_rfl) (fun _ _ _=>id) (by rfl) ?_ ?_ ?_ ?_;rotate_left;(intro w';go_simp;with_reducible rfl);rotate_left;(simp only [aP,i64_w,i32_w];rfl))
                    refine done_ (by kernel_rfl) ?_
                    go_wp2_with fail
                    go_roundg g1
                    case measure=>omega
                    case rel=>exact ⟨j + 1,by go_num,by omega,HII,Lib.hid (YtjghikkboekonaaGreatDoor.below_then HBX3.out hHeld),Lib.hid (YtjghikkboekonaaGreatDoor.below_then HBWc.out hHeld)⟩
              · have hd1:decide (m1=e.2)=false:=decide_eq_false hn1
                obtain rfl:is3=false:=by rw [h3,hd1];simp
                clear h3
                as_aux_lemma =>
                  refine start_ (n:=29) (S:=fun w'=>Below w9c.heap.size w9c w') (ds:=[]) (ms 29 0) (by kernel_rfl) rfl rfl (Below.refl _ _).drew (fun hHeld=>?_)
                  (refine pU 0 187 ?_ (ms 29 1) rfl rfl (by kernel_rfl) (fun _ _ _=>id) (by rfl) ?_ ?_ ?_ ?_;rotate_left;(intro w';go_simp;with_reducible rfl);rotate_left;(simp only [aP,i64_w,i32_w];rfl))
                  (refine pU 1 188 ?_ (ms 29 2) rfl rfl (by kernel_rfl) (fun _ _ _=>id) (by rfl) ?_ ?_ ?_ ?_;rotate_left;(intro w';go_simp;with_reducible rfl);rotate_left;(simp only [aP,i64_w,i32_w];rfl))
                  (refine pU 2 189 ?_ (ms 29 3) rfl rfl (by kernel_rfl) (fun _ _ _=>id) (by rfl) ?_ ?_ ?_ ?_;rotate_left;(intro w';go_simp;with_reducible rfl);rotate_left;(simp only [aP,i64_w,i32_w];rfl))
                  (refine pU 3 190 ?_ (ms 29 4) rfl rfl (by kernel_rfl) (fun _ _ _=>id) (by rfl) ?_ ?_ ?_ ?_;rotate_left;(intro w';go_simp;with_reducible rfl);rotate_left;(simp only [aP,i64_w,i32_w];rfl))
                  (refine take_ (i:=4) (N:=some 191) (v:=?_) (a':=?_) (ms 29 5) rfl rfl (by kernel_rfl) (fun _ _ _ h=>h) (Or.inl ⟨by rfl,?_⟩) hHeld ?_ ?_;rotate_left;(intro w' hS';have q1:=pw_cell_below hS' HQ.out;go_simp;with_reducible rfl);rotate_left;(simp only [aP,i64_w,i32_w];rfl))
                  refine one_ (i:=5) (N:=some 192) (ms 29 6) rfl rfl (by kernel_rfl) (by decide) (fun K hK=>?_)
                  refine goes_ Tryz.func19 (by kernel_rfl) rfl #[.string (B e.1)] (by rfl) rfl rfl (by simp only [List.map_toArray,List.map_cons,List.map_nil];rfl) ?_
                  refine (par_c _ e.1 HEP.out).mono ?_
                  rintro x w5 ⟨rfl,hb⟩
                  refine ⟨_,rfl,?_⟩
                  have hS5:Below w9c.heap.size w9c w5:=YtjghikkboekonaaGreatDoor.below_then (Below.refl w9c.heap.size w9c).drew hb
                  refine hK.out _ _ hS5 (fun hHeld=>?_)
                  clear hK K hb
                  refine norm_ (a':=?_) ?_ ?_
                  rotate_left
                  · show Act.put _ (some 192) _=_
                    (simp only [aP,i64_w,i32_w];rfl)
                  (refine pU 6 193 ?_ (ms 29 7) rfl rfl (by kernel_rfl) (fun _ _ _=>id) (by rfl) ?_ ?_ ?_ ?_;rotate_left;(intro w';go_simp;with_reducible rfl);rotate_left;(simp only [aP,i64_w,i32_w];rfl))
                  (refine pU 7 194 ?_ (ms 29 8) rfl rfl (by kernel_rfl) (fun _ _ _=>id) (by rfl) ?_ ?_ ?_ ?_;rotate_left;(intro w';go_simp;with_reducible rfl);rotate_left;(simp only [aP,i64_w,i32_w];rfl))
                  (refine pU 8 195 ?_ (ms 29 9) rfl rfl (by kernel_rfl) (fun _ _ _=>id) (by rfl) ?_ ?_ ?_ ?_;rotate_left;(intro w';go_simp;with_reducible rfl);rotate_left;(simp only [aP,i64_w,i32_w];rfl))
                  (refine pU 9 196 ?_ (ms 29 10) rfl rfl (by kernel_rfl) (fun _ _ _=>id) (by rfl) ?_ ?_ ?_ ?_;rotate_left;(intro w';go_simp;with_reducible rfl);rotate_left;(simp only [aP,i64_w,i32_w];rfl))
                  (refine pU 10 197 ?_ (ms 29 11) rfl rfl (by kernel_rfl) (fun _ _ _=>id) (by rfl) ?_ ?_ ?_ ?_;rotate_left;(intro w';go_simp;with_reducible rfl);rotate_left;(simp only [aP,i64_w,i32_w];rfl))
                  (refine pU 11 198 ?_ (ms 29 12) rfl rfl (by kernel_rfl) (fun _ _ _=>id) (by rfl) ?_ ?_ ?_ ?_;rotate_left;(intro w';go_simp;with_reducible rfl);rotate_left;(simp only [aP,i64_w,i32_w];rfl))
                  (refine pU 12 199 ?_ (ms 29 13) rfl rfl (by kernel_rfl) (fun _ _ _=>id) (by rfl) ?_ ?_ ?_ ?_;rotate_left;(intro w';go_simp;with_reducible rfl);rotate_left;(simp only [aP,i64_w,i32_w];rfl))
                  (refine pU 13 200 ?_ (ms 29 14) rfl rfl (by kernel_rfl) (fun _ _ _=>id) (by rfl) ?_ ?_ ?_ ?_;rotate_left;(intro w';go_simp;with_reducible rfl);rotate_left;(simp only [aP,i64_w,i32_w];rfl))
                  refine take_ (i:=14) (N:=some 201) (v:=.agg (ndCells m1).toArray) (a':=?_) (ms 29 15) rfl rfl (by kernel_rfl) (fun _ _ _ h=>h) (yi_agg (by rfl) 28 _ rfl _ rfl _ _ (fun w' hb=>lies_of (blk_below HCa3.out hb)) h31 rfl rfl) hHeld ?_ ?_
                  rotate_left
                  · (simp only [aP,i64_w,i32_w];rfl)
                  (refine pU 15 202 ?_ (ms 29 16) rfl rfl (by kernel_rfl) (fun _ _ _=>id) (by rfl) ?_ ?_ ?_ ?_;rotate_left;(intro w';go_simp;with_reducible rfl);rotate_left;(simp only [aP,i64_w,i32_w];rfl))
                  (refine pU 16 203 ?_ (ms 29 17) rfl rfl (by kernel_rfl) (fun _ _ _=>id) (by rfl) ?_ ?_ ?_ ?_;rotate_left;(intro w';go_simp;with_reducible rfl);rotate_left;(simp only [aP,i64_w,i32_w];rfl))
                  (refine pU 17 204 ?_ (ms 29 18) rfl rfl (by kernel_rfl) (fun _ _ _=>id) (by rfl) ?_ ?_ ?_ ?_;rotate_left;(intro w';go_simp;with_reducible rfl);rotate_left;(simp only [aP,i64_w,i32_w];rfl))
                  (refine pU 18 205 ?_ (ms 29 19) rfl rfl (by kernel_rfl) (fun _ _ _=>id) (by rfl) ?_ ?_ ?_ ?_;rotate_left;(intro w';go_simp;with_reducible rfl);rotate_left;(simp only [aP,i64_w,i32_w];rfl))
                  refine take_ (i:=19) (N:=some 206) (v:=.agg (ndCells e.2).toArray) (a':=?_) (ms 29 20) rfl rfl (by kernel_rfl) (fun _ _ _ h=>h) (yi_agg (by rfl) 28 _ rfl _ rfl _ _ (fun w' hb=>lies_below9 HLN.out hb) h31 rfl rfl) hHeld ?_ ?_
                  rotate_left
                  · (simp only [aP,i64_w,i32_w];rfl)
                  (refine pU 20 207 ?_ (ms 29 21) rfl rfl (by kernel_rfl) (fun _ _ _=>id) (by rfl) ?_ ?_ ?_ ?_;rotate_left;(intro w';go_simp;with_reducible rfl);rotate_left;(simp only [aP,i64_w,i32_w];rfl))
                  (refine pU 21 208 ?_ (ms 29 22) rfl rfl (by kernel_rfl) (fun _ _ _=>id) (by rfl) ?_ ?_ ?_ ?_;rotate_left;(intro w';go_simp;with_reducible rfl);rotate_left;(simp only [aP,i64_w,i32_w];rfl))
                  (refine pU 22 209 ?_ (ms 29 23) rfl rfl (by kernel_rfl) (fun _ _ _=>id) (by rfl) ?_ ?_ ?_ ?_;rotate_left;(intro w';go_simp;with_reducible rfl);rotate_left;(simp only [aP,i64_w,i32_w];rfl))
                  (refine pN 23 210 (ms 29 24) rfl rfl (by kernel_rfl) (fun _ _ _=>id) (by rfl) ?_ ?_ ?_;rotate_left;(simp only [aP,i64_w,i32_w];rfl))
                  (refine pN 24 211 (ms 29 25) rfl rfl (by kernel_rfl) (fun _ _ _=>id) (by rfl) ?_ ?_ ?_;rotate_left;(simp only [aP,i64_w,i32_w];rfl))
                  (refine pN 25 212 (ms 29 26) rfl rfl (by kernel_rfl) (fun _ _ _=>id) (by rfl) ?_ ?_ ?_;rotate_left;(simp only [aP,i64_w,i32_w];rfl))
                  (refine pU 26 213 ?_ (ms 29 27) rfl rfl (by kernel_rfl) (fun _ _ _=>id) (by rfl) ?_ ?_ ?_ ?_;rotate_left;(intro w';go_simp;with_reducible rfl);rotate_left;(simp only [aP,i64_w,i32_w];rfl))
                  (refine pU 27 214 ?_ (ms 29 28) rfl rfl (by kernel_rfl) (fun _ _ _=>id) (by rfl) ?_ ?_ ?_ ?_;rotate_left;(intro w';go_simp;with_reducible rfl);rotate_left;(simp only [aP,i64_w,i32_w];rfl))
                  (refine pU 28 215 ?_ (ms 29 29) rfl rfl (by kernel_rfl) (fun _ _ _=>id) (by rfl) ?_ ?_ ?_ ?_;rotate_left;(intro w';go_simp;with_reducible rfl);rotate_left;(simp only [aP,i64_w,i32_w];rfl))
                  refine done_ (by kernel_rfl) ?_
                  go_wp2_with fail
                  go_roundg g1
                  case measure=>omega
                  case rel=>exact ⟨j + 1,by go_num,by omega,HII,Lib.hid (YtjghikkboekonaaGreatDoor.below_then HBX3.out hHeld),Lib.hid (YtjghikkboekonaaGreatDoor.below_then HBWc.out hHeld)⟩
        · have hq1:(parM e.1).isEmpty=false:=by cases hh:parM e.1 with|nil=>exact absurd hh hpr|cons _ _=>rfl
          have hq2:(parM e.1 == [])=false:=by simpa using hpr
          as_aux_lemma =>
            refine start_ (n:=29) (S:=fun w'=>Below w9c.heap.size w9c w') (ds:=[]) (ms 29 0) (by kernel_rfl) rfl rfl (Below.refl _ _).drew (fun hHeld=>?_)
            (refine pU 0 187 ?_ (ms 29 1) rfl rfl (by kernel_rfl) (fun _ _ _=>id) (by rfl) ?_ ?_ ?_ ?_;rotate_left;(intro w';go_simp;with_reducible rfl);rotate_left;(simp only [aP,i64_w,i32_w];rfl))
            (refine pU 1 188 ?_ (ms 29 2) rfl rfl (by kernel_rfl) (fun _ _ _=>id) (by rfl) ?_ ?_ ?_ ?_;rotate_left;(intro w';go_simp;with_reducible rfl);rotate_left;(simp only [aP,i64_w,i32_w];rfl))
            (refine pU 2 189 ?_ (ms 29 3) rfl rfl (by kernel_rfl) (fun _ _ _=>id) (by rfl) ?_ ?_ ?_ ?_;rotate_left;(intro w';go_simp;with_reducible rfl);rotate_left;(simp only [aP,i64_w,i32_w];rfl))
            (refine pU 3 190 ?_ (ms 29 4) rfl rfl (by kernel_rfl) (fun _ _ _=>id) (by rfl) ?_ ?_ ?_ ?_;rotate_left;(intro w';go_simp;with_reducible rfl);rotate_left;(simp only [aP,i64_w,i32_w];rfl))
            (refine take_ (i:=4) (N:=some 191) (v:=?_) (a':=?_) (ms 29 5) rfl rfl (by kernel_rfl) (fun _ _ _ h=>h) (Or.inl ⟨by rfl,?_⟩) hHeld ?_ ?_;rotate_left;(intro w' hS';have q1:=pw_cell_below hS' HQ.out;go_simp;with_reducible rfl);rotate_left;(simp only [aP,i64_w,i32_w];rfl))
            refine one_ (i:=5) (N:=some 192) (ms 29 6) rfl rfl (by kernel_rfl) (by decide) (fun K hK=>?_)
            refine goes_ Tryz.func19 (by kernel_rfl) rfl #[.string (B e.1)] (by rfl) rfl rfl (by simp only [List.map_toArray,List.map_cons,List.map_nil];rfl) ?_
            refine (par_c _ e.1 HEP.out).mono ?_
            rintro x w5 ⟨rfl,hb⟩
            refine ⟨_,rfl,?_⟩
            have hS5:Below w9c.heap.size w9c w5:=YtjghikkboekonaaGreatDoor.below_then (Below.refl w9c.heap.size w9c).drew hb
            refine hK.out _ _ hS5 (fun hHeld=>?_)
            clear hK K hb
            refine norm_ (a':=?_) ?_ ?_
            rotate_left
            · show Act.put _ (some 192) _=_
              (simp only [aP,i64_w,i32_w];rfl)
            (refine pU 6 193 ?_ (ms 29 7) rfl rfl (by kernel_rfl) (fun _ _ _=>id) (by rfl) ?_ ?_ ?_ ?_;rotate_left;(intro w';go_simp;with_reducible rfl);rotate_left;(simp only [aP,i64_w,i32_w];rfl))
            (refine pU 7 194 ?_ (ms 29 8) rfl rfl (by kernel_rfl) (fun _ _ _=>id) (by rfl) ?_ ?_ ?_ ?_;rotate_left;(intro w';go_simp;with_reducible rfl);rotate_left;(simp only [aP,i64_w,i32_w];rfl))
            (refine pN 8 195 (ms 29 9) rfl rfl (by kernel_rfl) (fun _ _ _=>id) (by rfl) ?_ ?_ ?_;rotate_left;(simp only [aP,i64_w,i32_w];rfl))
            (refine pN 9 196 (ms 29 10) rfl rfl (by kernel_rfl) (fun _ _ _=>id) (by rfl) ?_ ?_ ?_;rotate_left;(simp only [aP,i64_w,i32_w];rfl))
            (refine pN 10 197 (ms 29 11) rfl rfl (by kernel_rfl) (fun _ _ _=>id) (by rfl) ?_ ?_ ?_;rotate_left;(simp only [aP,i64_w,i32_w];rfl))
            (refine pN 11 198 (ms 29 12) rfl rfl (by kernel_rfl) (fun _ _ _=>id) (by rfl) ?_ ?_ ?_;rotate_left;(simp only [aP,i64_w,i32_w];rfl))
            (refine pN 12 199 (ms 29 13) rfl rfl (by kernel_rfl) (fun _ _ _=>id) (by rfl) ?_ ?_ ?_;rotate_left;(simp only [aP,i64_w,i32_w];rfl))
            (refine pN 13 200 (ms 29 14) rfl rfl (by kernel_rfl) (fun _ _ _=>id) (by rfl) ?_ ?_ ?_;rotate_left;(simp only [aP,i64_w,i32_w];rfl))
            (refine pN 14 201 (ms 29 15) rfl rfl (by kernel_rfl) (fun _ _ _=>id) (by rfl) ?_ ?_ ?_;rotate_left;(simp only [aP,i64_w,i32_w];rfl))
            (refine pN 15 202 (ms 29 16) rfl rfl (by kernel_rfl) (fun _ _ _=>id) (by rfl) ?_ ?_ ?_;rotate_left;(simp only [aP,i64_w,i32_w];rfl))
            (refine pN 16 203 (ms 29 17) rfl rfl (by kernel_rfl) (fun _ _ _=>id) (by rfl) ?_ ?_ ?_;rotate_left;(simp only [aP,i64_w,i32_w];rfl))
            (refine pN 17 204 (ms 29 18) rfl rfl (by kernel_rfl) (fun _ _ _=>id) (by rfl) ?_ ?_ ?_;rotate_left;(simp only [aP,i64_w,i32_w];rfl))
            (refine pN 18 205 (ms 29 19) rfl rfl (by kernel_rfl) (fun _ _ _=>id) (by rfl) ?_ ?_ ?_;rotate_left;(simp only [aP,i64_w,i32_w];rfl))
            (refine pN 19 206 (ms 29 20) rfl rfl (by kernel_rfl) (fun _ _ _=>id) (by rfl) ?_ ?_ ?_;rotate_left;(simp only [aP,i64_w,i32_w];rfl))
            (refine pN 20 207 (ms 29 21) rfl rfl (by kernel_rfl) (fun _ _ _=>id) (by rfl) ?_ ?_ ?_;rotate_left;(simp only [aP,i64_w,i32_w];rfl))
            (refine pN 21 208 (ms 29 22) rfl rfl (by kernel_rfl) (fun _ _ _=>id) (by rfl) ?_ ?_ ?_;rotate_left;(simp only [aP,i64_w,i32_w];rfl))
            (refine pN 22 209 (ms 29 23) rfl rfl (by kernel_rfl) (fun _ _ _=>id) (by rfl) ?_ ?_ ?_;rotate_left;(simp only [aP,i64_w,i32_w];rfl))
            (refine pN 23 210 (ms 29 24) rfl rfl (by kernel_rfl) (fun _ _ _=>id) (by rfl) ?_ ?_ ?_;rotate_left;(simp only [aP,i64_w,i32_w];rfl))
            (refine pN 24 211 (ms 29 25) rfl rfl (by kernel_rfl) (fun _ _ _=>id) (by rfl) ?_ ?_ ?_;rotate_left;(simp only [aP,i64_w,i32_w];rfl))
            (refine pN 25 212 (ms 29 26) rfl rfl (by kernel_rfl) (fun _ _ _=>id) (by rfl) ?_ ?_ ?_;rotate_left;(simp only [aP,i64_w,i32_w];rfl))
            (refine pN 26 213 (ms 29 27) rfl rfl (by kernel_rfl) (fun _ _ _=>id) (by rfl) ?_ ?_ ?_;rotate_left;(simp only [aP,i64_w,i32_w];rfl))
            (refine pN 27 214 (ms 29 28) rfl rfl (by kernel_rfl) (fun _ _ _=>id) (by rfl) ?_ ?_ ?_;rotate_left;(simp only [aP,i64_w,i32_w];rfl))
            (refine pU 28 215 ?_ (ms 29 29) rfl rfl (by kernel_rfl) (fun _ _ _=>id) (by rfl) ?_ ?_ ?_ ?_;rotate_left;(intro w';go_simp;with_reducible rfl);rotate_left;(simp only [aP,i64_w,i32_w];rfl))
            refine done_ (by kernel_rfl) ?_
            go_wp2_with fail
            go_roundg g1
            case measure=>omega
            case rel=>exact ⟨j + 1,by go_num,by omega,HII,Lib.hid (YtjghikkboekonaaGreatDoor.below_then HBX3.out hHeld),Lib.hid (YtjghikkboekonaaGreatDoor.below_then HBWc.out hHeld)⟩
       · have he:j=l0.length:=by have:=HJ.out;omega
         subst he
         go_wp2_with fail
         go_ret
         exact ⟨rfl,HBW.out⟩
end Go.Proofs.Zq
end
