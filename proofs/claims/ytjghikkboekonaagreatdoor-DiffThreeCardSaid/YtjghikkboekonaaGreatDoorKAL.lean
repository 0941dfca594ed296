/- A part of a proof of statements of this seat: what its walks and its laws lean on; joined by a program of this repo (wip/pack.py) out of the texts XSm19, XDiffL, Three. -/
import Derived.Test.YtjghikkboekonaaGreatDoorKAK
set_option linter.unusedSimpArgs false
set_option linter.unusedVariables false
section
namespace Go.Proofs.Zq
open Go.RowKit Go.WideMaps Go.Maps Go.Proofs.YtjghikkboekonaaGreatDoor Go.Proofs.Zw.PrintWords Go.Proofs.Zw.PrintLast Go.Proofs.Zw.PrintMore
open Go.Proofs.Zt (diffM bothM Ch)
theorem eqCg (d:Nat) (w:World) (a b:Ch Str Nd):(Op.equalIn (d + 3) 57 (.agg (chCells a).toArray) (.agg (chCells b).toArray)).run Tryz.prog w=.ok (decide (a=b)) w:=by
 obtain ⟨p,o,n⟩:=a
 obtain ⟨q,u,m⟩:=b
 have h:=eqA57 d w (B p) (B q) o u n.kind m.kind n.mode m.mode n.uid m.uid n.gid m.gid n.mtime m.mtime (B n.link) (B m.link) (B n.data) (B m.data) n.major m.major n.minor m.minor (B n.attrs) (B m.attrs)
 have e:decide ((⟨p,o,n⟩:Ch Str Nd)=⟨q,u,m⟩)=(p == q && (o == u && decide (n=m))):=by rw [Bool.eq_iff_iff];simp
 rw [e,← nd_eq]
 simp only [toList_B] at h ⊢
 exact h
attribute [local go_sem high] eqCg
def mN:Nd:={ zeroN with mode:=1 }
def a19:List (Str×Nd):=[([97],dN),([97,47,98],zeroN),([99],zeroN)]
def b19:List (Str×Nd):=[([97],dN),([97,47,98],mN),([120],zeroN)]
def c19:List (Str×Nd):=[([97],zeroN)]
def e19:List (Str×Nd):=[([97,47,98],zeroN)]
theorem d19a:diffM Y a19 b19=([⟨[99],1,zeroN⟩,⟨[97,47,98],0,mN⟩,⟨[120],0,zeroN⟩],true):=by kernel_rfl
theorem d19b:diffM Y a19 a19=([],true):=by kernel_rfl
theorem d19c:diffM Y a19 c19=([⟨[99],1,zeroN⟩,⟨[97],0,zeroN⟩],true):=by kernel_rfl
theorem d19d:diffM Y e19 []=([],false):=by kernel_rfl
theorem d19e:bothM Y [a19,b19]=[([97],dN)]:=by kernel_rfl
theorem fa19:rowFits' (a19.map ofEn):=⟨by kernel_rfl,by decide⟩
theorem fb19:rowFits' (b19.map ofEn):=⟨by kernel_rfl,by decide⟩
theorem fc19:rowFits' (c19.map ofEn):=⟨by kernel_rfl,by decide⟩
theorem fe19:rowFits' (e19.map ofEn):=⟨by kernel_rfl,by decide⟩
theorem en_ok {e:Str×Nd} (h:e.1.length≤1000) (hk:NdWf e.2) (h1:e.2.link.length≤1000) (h2:e.2.data.length≤1000) (h3:e.2.attrs.length≤1000):EnOk e:=enOk_of (by omega) hk (by omega) (by omega) (by omega)
theorem oka:∀ x ∈ a19.map ofEn,EnOk (enOf x):=by
 intro x hx
 obtain ⟨e,he,rfl⟩:=List.mem_map.1 hx
 rw [enOf_ofEn]
 simp only [a19,List.mem_cons,List.not_mem_nil,or_false] at he
 rcases he with rfl|rfl|rfl <;> exact en_ok (by decide) ⟨rfl,rfl,rfl,rfl,rfl,rfl,rfl⟩ (by decide) (by decide) (by decide)
theorem okb:∀ x ∈ b19.map ofEn,EnOk (enOf x):=by
 intro x hx
 obtain ⟨e,he,rfl⟩:=List.mem_map.1 hx
 rw [enOf_ofEn]
 simp only [b19,List.mem_cons,List.not_mem_nil,or_false] at he
 rcases he with rfl|rfl|rfl <;> exact en_ok (by decide) ⟨rfl,rfl,rfl,rfl,rfl,rfl,rfl⟩ (by decide) (by decide) (by decide)
theorem es_block {w:World} {g:Nat} {T:TypeId} {vs:List Value} {xs:List (List S32)} (h:w.heap[g]?=some (.cells vs.toArray T (0,0))) (hm:xs.length≤9223372036854775807)
  (hx:∀ (j:Nat) (p:List S32),xs[j]?=some p→∃ A c,vs[j]?=some (.slice A p.length c)∧p.length≤c∧Kd.C k32 w A p.length p) :
  Kd.C (Kd.slice 32 k32) w (some ⟨g,0,none⟩) xs.length xs:=by
 refine ⟨rfl,hm,fun _=>⟨_,rfl,fun j p hp=>?_⟩⟩
 obtain ⟨A,c,hv,hc,hk⟩:=hx j p hp
 refine ⟨[.slice A p.length c],rfl,⟨A,c,rfl,hc,hk⟩,fun i u hu=>?_⟩
 have e0:i=0:=by
  apply Classical.byContradiction
  intro hne
  rw [List.getElem?_eq_none (by simp;omega)] at hu
  cases hu
 subst e0
 obtain rfl:=Option.some.inj hu
 show w.cell? ((⟨g,0,none⟩:Addr).add (j * 1 + 0))=_
 rw [YtjghikkboekonaaGreatDoor.add_at,Nat.zero_add,Nat.mul_one,Nat.add_zero,YtjghikkboekonaaGreatDoor.blk_cell h]
 simpa using hv
theorem es_nil {w:World} (A:Option Addr):Kd.C (Kd.slice 32 k32) w A ([]:List (List S32)).length []:=⟨rfl,by simp,fun h=>absurd h (Nat.lt_irrefl 0)⟩
theorem own_spot {α:Type} {enc:α→List Value} {T k base:Nat} {w:World} {v:Value} {l:List α} (h:YtjghikkboekonaaGreatDoor.Owr enc T k base w v l) (n:Nat) (hn:l.length=n) (hl:0<n):∃ g c,v=.slice (some ⟨g,0,none⟩) n c∧n≤c∧∀ i u,(flat enc l)[i]?=some u→w.cell? ⟨g,i,none⟩=some u:=by
 subst hn
 have hh:=h
 rcases h.2 with ⟨_,h0⟩|⟨g,cap,cur,hv,_,_,h1,_⟩
 ·omega
 ·subst hv
  exact ⟨g,cap,rfl,h1,fun i u hu=>by have q:=World.ownsRow.cells hh rfl i u hu;rw [Addr.add_mid,Nat.zero_add] at q;exact q⟩
theorem own_none {α:Type} {enc:α→List Value} {T k base:Nat} {w:World} {v:Value} (h:YtjghikkboekonaaGreatDoor.Owr enc T k base w v []):∃ A c,v=.slice A 0 c:=by
 obtain ⟨A,c,rfl,_,_⟩:=YtjghikkboekonaaGreatDoor.Owr.val h
 exact ⟨A,c,rfl⟩
theorem ab19:¬ (a19.map ofEn).map enOf=(b19.map ofEn).map enOf:=by
 rw [ens_back,ens_back]
 intro h
 have h2:((a19.map (fun e=>e.2.mode)).getD 1 0)=((b19.map (fun e=>e.2.mode)).getD 1 0):=by rw [h]
 exact absurd h2 (by decide)
set_option maxRecDepth 100000 in
set_option maxHeartbeats 16000000 in
theorem small19_calls (w:World) (hG:GL w):Calls Tryz.prog 13 #[] w fun e w'=>e=.returned (.bool true)∧Below w.heap.size w w':=by
 have h31:=Tryz.underlying28
 have h33:=Tryz.underlying57
 go_enter Tryz.func13,Tryz.ntmps13
 go_wp2_with (first|((with_reducible refine gate_dst (N:=1) rfl ?_);refine box_event rfl (N:=1) rfl (cs:=ndZero) (t:=28) ?hr ?_;(case hr=>first|(go_simp;done)|(go_simp;rfl));intro g1 hg w2 hb2 hbl2;have HB1:=Lib.hid hb2;have HBL1:=Lib.hid hbl2;have HGE1:Hid (w.heap.size≤g1):=Lib.hid (by rw [hg];exact Nat.le_refl _);clear hg hb2 hbl2;go_frame)|((with_reducible refine gate_store (t:=28) (p:=1) rfl ?_);refine wpList_store_agg rfl rfl 28 _ _ rfl g1 (ndCells dN).toArray rfl rfl 28 ndZero HB1.out rfl rfl (ndCells_all _) ?_;intro w3 hb3 hg3;have HB3:=Lib.hid hb3;have HBL3:Hid (Below w.heap.size w w3):=Lib.hid (HBL1.out.grown hg3 HBL1.out.size (fun j hj=>by cases hj;exact HGE1.out));clear hb3 hg3)|((with_reducible refine gate_dst (N:=13) rfl ?_);refine build_event rfl (N:=13) rfl 28 _ rfl (ndCells dN).toArray (by kernel_rfl) ?_;go_frame)|((with_reducible refine gate_dst (N:=14) rfl ?_);refine wpList_load_agg rfl 28 _ rfl _ rfl (ndCells dN) _ (lies_of HB3.out) h31 rfl rfl ?_;go_frame)|((with_reducible refine gate_dst (N:=15) rfl ?_);refine build_event rfl (N:=15) rfl 32 _ rfl (eCells ([97],dN)).toArray (by kernel_rfl) ?_;go_frame)|((with_reducible refine gate_dst (N:=16) rfl ?_);refine build_event rfl (N:=16) rfl 32 _ rfl (eCells ([97,47,98],zeroN)).toArray (by kernel_rfl) ?_;go_frame)|((with_reducible refine gate_dst (N:=17) rfl ?_);refine build_event rfl (N:=17) rfl 32 _ rfl (eCells ([99],zeroN)).toArray (by kernel_rfl) ?_;go_frame)|((with_reducible refine gate_dst (N:=18) rfl ?_);refine row_event rfl (N:=18) rfl (cs:=(flat eCells a19).toArray) (t:=32) (n:=3) (by kernel_rfl) ?_;intro g18 hg w18 hb hbl;have HB18:=Lib.hid hb;have HBL18:=Lib.hid hbl;clear hg hb hbl;go_frame)|((with_reducible refine gate_dst (N:=19) rfl ?_);refine wpList_load_agg rfl 28 _ rfl _ rfl (ndCells dN) _ (lies_of (blk_below HB3.out HBL18.out)) h31 rfl rfl ?_;go_frame)|((with_reducible refine gate_dst (N:=20) rfl ?_);refine build_event rfl (N:=20) rfl 32 _ rfl (eCells ([97],dN)).toArray (by kernel_rfl) ?_;go_frame)|((with_reducible refine gate_dst (N:=21) rfl ?_);refine build_event rfl (N:=21) rfl 28 _ rfl (ndCells mN).toArray (by kernel_rfl) ?_;go_frame)|((with_reducible refine gate_dst (N:=22) rfl ?_);refine build_event rfl (N:=22) rfl 32 _ rfl (eCells ([97,47,98],mN)).toArray (by kernel_rfl) ?_;go_frame)|((with_reducible refine gate_dst (N:=23) rfl ?_);refine build_event rfl (N:=23) rfl 32 _ rfl (eCells ([120],zeroN)).toArray (by kernel_rfl) ?_;go_frame)|((with_reducible refine gate_dst (N:=24) rfl ?_);refine row_event rfl (N:=24) rfl (cs:=(flat eCells b19).toArray) (t:=32) (n:=3) (by kernel_rfl) ?_;intro g24 hg w24 hb hbl;have HB24:=Lib.hid hb;have HBL24:=Lib.hid hbl;clear hg hb hbl;go_frame))
 have HW:=Lib.hid (YtjghikkboekonaaGreatDoor.below_then (YtjghikkboekonaaGreatDoor.below_then HBL3.out HBL18.out) HBL24.out)
 have HKA:Hid (Kd.C k32 w24 (some ⟨g18,0,none⟩) (a19.map ofEn).length (a19.map ofEn)):=Lib.hid (ens_C (l:=a19) (blk_below HB18.out HBL24.out) (by decide))
 have HKB:Hid (Kd.C k32 w24 (some ⟨g24,0,none⟩) (b19.map ofEn).length (b19.map ofEn)):=Lib.hid (ens_C (l:=b19) HB24.out (by decide))
 clear HB1 HBL1 HGE1 HB3 HBL3 HB18 HBL18 HB24 HBL24
 have c1:=diff_calls w24 (hG.ext HW.out) (some ⟨g18,0,none⟩) 3 (a19.map ofEn) HKA.out (by decide) fa19 (some ⟨g24,0,none⟩) 3 (b19.map ofEn) HKB.out (by decide) fb19
 rw [ens_back,ens_back,d19a] at c1
 have C1:=Lib.hid c1
 clear c1
 go_wp2_with fail
 refine C1.out.mono ?_
 rintro e w28 ⟨v1,rfl,ho,hb⟩
 obtain ⟨gl,cl,rfl,_,_⟩:=own_spot ho 3 rfl (by decide)
 have HO1:=Lib.hid ho
 have HW28:=Lib.hid (YtjghikkboekonaaGreatDoor.below_then HW.out hb)
 have HKA2:=Lib.hid (Kd.C_below HKA.out hb)
 have HKB2:=Lib.hid (Kd.C_below HKB.out hb)
 clear ho hb C1 HKA HKB HW
 have c2:=diff_calls w28 (hG.ext HW28.out) (some ⟨g18,0,none⟩) 3 (a19.map ofEn) HKA2.out (by decide) fa19 (some ⟨g18,0,none⟩) 3 (a19.map ofEn) HKA2.out (by decide) fa19
 rw [ens_back,d19b] at c2
 have C2:=Lib.hid c2
 clear c2
 go_wp2_with fail
 refine C2.out.mono ?_
 rintro e w34 ⟨v2,rfl,ho,hb⟩
 obtain ⟨am,cm,rfl⟩:=own_none ho
 have HW34:=Lib.hid (YtjghikkboekonaaGreatDoor.below_then HW28.out hb)
 have HKA3:=Lib.hid (Kd.C_below HKA2.out hb)
 have HKB3:=Lib.hid (Kd.C_below HKB2.out hb)
 have HO1b:=Lib.hid (YtjghikkboekonaaGreatDoor.Owr.ext HO1.out hb)
 clear ho hb C2 HKA2 HKB2 HW28 HO1
 go_wp2_with (first|((with_reducible refine gate_dst (N:=39) rfl ?_);refine build_event rfl (N:=39) rfl 32 _ rfl (eCells ([97],zeroN)).toArray (by kernel_rfl) ?_;go_frame)|((with_reducible refine gate_dst (N:=40) rfl ?_);refine row_event rfl (N:=40) rfl (cs:=(flat eCells c19).toArray) (t:=32) (n:=1) (by kernel_rfl) ?_;intro g40 hg w40 hb hbl;have HB40:=Lib.hid hb;have HBL40:=Lib.hid hbl;clear hg hb hbl;go_frame))
 have HW40:=Lib.hid (YtjghikkboekonaaGreatDoor.below_then HW34.out HBL40.out)
 have HKA4:=Lib.hid (Kd.C_below HKA3.out HBL40.out)
 have HKB4:=Lib.hid (Kd.C_below HKB3.out HBL40.out)
 have HO1c:=Lib.hid (YtjghikkboekonaaGreatDoor.Owr.ext HO1b.out HBL40.out)
 have c3:=diff_calls w40 (hG.ext HW40.out) (some ⟨g18,0,none⟩) 3 (a19.map ofEn) HKA4.out (by decide) fa19 (some ⟨g40,0,none⟩) 1 (c19.map ofEn) (ens_C (l:=c19) HB40.out (by decide)) (by decide) fc19
 rw [ens_back,ens_back,d19c] at c3
 have C3:=Lib.hid c3
 clear c3 HW34 HKA3 HKB3 HO1b HBL40 HB40
 go_wp2_with fail
 refine C3.out.mono ?_
 rintro e w41 ⟨v3,rfl,ho,hb⟩
 obtain ⟨gn,cn,rfl,_,_⟩:=own_spot ho 2 rfl (by decide)
 have HO3:=Lib.hid ho
 have HW41:=Lib.hid (YtjghikkboekonaaGreatDoor.below_then HW40.out hb)
 have HKA5:=Lib.hid (Kd.C_below HKA4.out hb)
 have HKB5:=Lib.hid (Kd.C_below HKB4.out hb)
 have HO1d:=Lib.hid (YtjghikkboekonaaGreatDoor.Owr.ext HO1c.out hb)
 clear ho hb C3 HKA4 HKB4 HW40 HO1c
 go_wp2_with (first|((with_reducible refine gate_dst (N:=45) rfl ?_);refine build_event rfl (N:=45) rfl 32 _ rfl (eCells ([97,47,98],zeroN)).toArray (by kernel_rfl) ?_;go_frame)|((with_reducible refine gate_dst (N:=46) rfl ?_);refine row_event rfl (N:=46) rfl (cs:=(flat eCells e19).toArray) (t:=32) (n:=1) (by kernel_rfl) ?_;intro g46 hg w46 hb hbl;have HB46:=Lib.hid hb;have HBL46:=Lib.hid hbl;clear hg hb hbl;go_frame))
 have HW46:=Lib.hid (YtjghikkboekonaaGreatDoor.below_then HW41.out HBL46.out)
 have HKA6:=Lib.hid (Kd.C_below HKA5.out HBL46.out)
 have HKB6:=Lib.hid (Kd.C_below HKB5.out HBL46.out)
 have HO1e:=Lib.hid (YtjghikkboekonaaGreatDoor.Owr.ext HO1d.out HBL46.out)
 have HO3b:=Lib.hid (YtjghikkboekonaaGreatDoor.Owr.ext HO3.out HBL46.out)
 have c4:=diff_calls w46 (hG.ext HW46.out) (some ⟨g46,0,none⟩) 1 (e19.map ofEn) (ens_C (l:=e19) HB46.out (by decide)) (by decide) fe19 none 0 [] (Kd.C_nil _ _) (Nat.le_refl _) ⟨rfl,by simp⟩
 rw [ens_back,show List.map enOf ([]:List S32)=[] from rfl,d19d] at c4
 have C4:=Lib.hid c4
 clear c4 HW41 HKA5 HKB5 HO1d HO3 HBL46 HB46
 go_wp2_with fail
 refine C4.out.mono ?_
 rintro e w47 ⟨v4,rfl,ho,hb⟩
 obtain ⟨a4,c4,rfl⟩:=own_none ho
 have HW47:=Lib.hid (YtjghikkboekonaaGreatDoor.below_then HW46.out hb)
 have HKA7:=Lib.hid (Kd.C_below HKA6.out hb)
 have HKB7:=Lib.hid (Kd.C_below HKB6.out hb)
 have HO1f:=Lib.hid (YtjghikkboekonaaGreatDoor.Owr.ext HO1e.out hb)
 have HO3c:=Lib.hid (YtjghikkboekonaaGreatDoor.Owr.ext HO3b.out hb)
 clear ho hb C4 HKA6 HKB6 HW46 HO1e HO3b
 go_wp2_with ((with_reducible refine gate_dst (N:=52) rfl ?_);refine row_event rfl (N:=52) rfl (cs:=([.slice (some ⟨g18,0,none⟩) 3 3,.slice (some ⟨g24,0,none⟩) 3 3]).toArray) (t:=22) (n:=2) (by kernel_rfl) ?_;intro g52 hg w52 hb hbl;have HB52:=Lib.hid hb;have HBL52:=Lib.hid hbl;clear hg hb hbl;go_frame)
 have HW52:=Lib.hid (YtjghikkboekonaaGreatDoor.below_then HW47.out HBL52.out)
 have HKA8:=Lib.hid (Kd.C_below HKA7.out HBL52.out)
 have HKB8:=Lib.hid (Kd.C_below HKB7.out HBL52.out)
 have HO1g:=Lib.hid (YtjghikkboekonaaGreatDoor.Owr.ext HO1f.out HBL52.out)
 have HO3d:=Lib.hid (YtjghikkboekonaaGreatDoor.Owr.ext HO3c.out HBL52.out)
 have hst:Kd.C (Kd.slice 32 k32) w52 (some ⟨g52,0,none⟩) [a19.map ofEn,b19.map ofEn].length [a19.map ofEn,b19.map ofEn]:=es_block HB52.out (by decide) (fun j p hp=>by
  match j,hp with
  | 0,hp=>obtain rfl:=Option.some.inj hp;exact ⟨_,_,rfl,by decide,HKA8.out⟩
  | 1,hp=>obtain rfl:=Option.some.inj hp;exact ⟨_,_,rfl,by decide,HKB8.out⟩
  | j + 2,hp=>cases hp)
 have c5:=both_calls w52 (hG.ext HW52.out) (some ⟨g52,0,none⟩) 2 [a19.map ofEn,b19.map ofEn] hst (by decide) (fun l hl=>by
  simp only [List.mem_cons,List.not_mem_nil,or_false] at hl
  rcases hl with rfl|rfl
  ·exact fa19
  ·exact fb19) (fun l hl=>by
  simp only [List.mem_cons,List.not_mem_nil,or_false] at hl
  rcases hl with rfl|rfl
  ·exact oka
  ·exact okb)
 rw [List.map_cons,List.map_cons,List.map_nil,ens_back,ens_back,d19e] at c5
 have C5:=Lib.hid c5
 clear c5 hst HW47 HKA7 HKB7 HO1f HO3c HBL52 HB52
 go_wp2_with fail
 refine C5.out.mono ?_
 rintro e w53 ⟨v5,rfl,ho,hb⟩
 obtain ⟨gb,cb,rfl,_,hcb⟩:=own_spot ho 1 rfl (by decide)
 have HW53:=Lib.hid (YtjghikkboekonaaGreatDoor.below_then HW52.out hb)
 have HKA9:=Lib.hid (Kd.C_below HKA8.out hb)
 have HKB9:=Lib.hid (Kd.C_below HKB8.out hb)
 obtain ⟨gl',cl',el,_,hcl⟩:=own_spot (YtjghikkboekonaaGreatDoor.Owr.ext HO1g.out hb) 3 rfl (by decide)
 obtain ⟨gn',cn',en,_,hcn⟩:=own_spot (YtjghikkboekonaaGreatDoor.Owr.ext HO3d.out hb) 2 rfl (by decide)
 cases el
 cases en
 have HL0:Hid (LiesAt w53 ⟨gl,0,none⟩ (chCells ⟨[99],1,zeroN⟩)):=Lib.hid (fun j v hv=>by rw [Addr.add_mid,Nat.zero_add];exact hcl j v (by
  have hj:j<12:=(List.getElem?_eq_some_iff.1 hv).1
  show (chCells _ ++ _)[j]?=_
  rw [List.getElem?_append_left hj];exact hv))
 have HL1:Hid (LiesAt w53 ⟨gl,12,none⟩ (chCells ⟨[97,47,98],0,mN⟩)):=Lib.hid (fun j v hv=>by rw [Addr.add_mid];exact hcl (12 + j) v (by
  have hj:j<12:=(List.getElem?_eq_some_iff.1 hv).1
  show (chCells _ ++ (chCells _ ++ _))[12 + j]?=_
  rw [List.getElem?_append_right (by show 12≤12 + j;omega),show 12 + j - (chCells _).length=j from by show 12 + j - 12=j;omega,List.getElem?_append_left hj];exact hv))
 have q2:=hcl 24 _ rfl
 have q3:=hcn 0 _ rfl
 have q4:=hcn 12 _ rfl
 have q5:=hcb 0 _ rfl
 clear hcl hcn hcb ho hb C5 HKA8 HKB8 HO1g HO3d HW52
 go_upto_region 11 with fail
 dsimp only [List.append]
 go_wp2_with (first|((with_reducible refine gate_dst (N:=71) rfl ?_);refine wpList_load_agg rfl 57 _ rfl _ rfl (chCells ⟨[99],1,zeroN⟩) _ (HL0.out) h33 rfl rfl ?_;go_frame)|((with_reducible refine gate_dst (N:=72) rfl ?_);refine wpList_giv rfl (v:=.agg (chCells ⟨[99],1,zeroN⟩).toArray) (by kernel_rfl) ?_;go_frame)|((with_reducible refine gate_dst (N:=78) rfl ?_);refine wpList_load_agg rfl 57 _ rfl _ rfl (chCells ⟨[97,47,98],0,mN⟩) _ (HL1.out) h33 rfl rfl ?_;go_frame)|((with_reducible refine gate_dst (N:=79) rfl ?_);refine wpList_giv rfl (v:=.agg (ndCells mN).toArray) (by kernel_rfl) ?_;go_frame)|((with_reducible refine gate_dst (N:=80) rfl ?_);refine wpList_giv rfl (v:=.agg (chCells ⟨[97,47,98],0,mN⟩).toArray) (by kernel_rfl) ?_;go_frame))
 have C6:=Lib.hid (dsame_calls w53 (some ⟨g18,0,none⟩) 3 (a19.map ofEn) HKA9.out (some ⟨g18,0,none⟩) 3 (a19.map ofEn) HKA9.out (by decide) (by decide) true ⟨fun _=>rfl,fun _=>rfl⟩)
 refine C6.out.mono ?_
 rintro e w54 ⟨rfl,hb⟩
 have HW54:=Lib.hid (YtjghikkboekonaaGreatDoor.below_then HW53.out hb)
 have HKA10:=Lib.hid (Kd.C_below HKA9.out hb)
 have HKB10:=Lib.hid (Kd.C_below HKB9.out hb)
 clear hb C6 HW53 HKA9 HKB9 HL0 HL1 q2 q3 q4 q5
 go_wp2_with fail
 have C7:=Lib.hid (dsame_calls w54 (some ⟨g18,0,none⟩) 3 (a19.map ofEn) HKA10.out (some ⟨g24,0,none⟩) 3 (b19.map ofEn) HKB10.out (by decide) (by decide) false ⟨fun h=>(nomatch h),fun h=>absurd h ab19⟩)
 refine C7.out.mono ?_
 rintro e w55 ⟨rfl,hb⟩
 have HW55:=Lib.hid (YtjghikkboekonaaGreatDoor.below_then HW54.out hb)
 clear hb C7 HW54 HKA10 HKB10
 go_wp2_with fail
 have C8:=Lib.hid (both_calls w55 (hG.ext HW55.out) none 0 [] (es_nil none) (by decide) (fun l h=>by cases h) (fun l h=>by cases h))
 refine C8.out.mono ?_
 rintro e w56 ⟨v6,rfl,ho,hb⟩
 obtain ⟨a6,c6,rfl⟩:=own_none ho
 have HW56:=Lib.hid (YtjghikkboekonaaGreatDoor.below_then HW55.out hb)
 clear ho hb C8 HW55
 go_wp2_with fail
 go_ret
 exact ⟨rfl,HW56.out⟩
end Go.Proofs.Zq
end
section
namespace Go.Proofs.Zq
open Go.RowKit Go.Proofs.YtjghikkboekonaaGreatDoor Go.Proofs.Zw.PrintWords Go.Proofs.Zw.PrintLast Go.Proofs.Zw.PrintMore
open Go.Proofs.Zt (applyM diffM diffC sortL lessC RightT RightL rightT rightC Ch)
theorem own_chC {W:World} {nb:Nat} {v:Value} {l:List (Ch Str Nd)} (h:YtjghikkboekonaaGreatDoor.Owr chCells 57 12 nb W v l) (hl:l.length≤1000000):∃ A c,v=.slice A (l.map ofCh).length c∧(l.map ofCh).length≤c∧Kd.C k57 W A (l.map ofCh).length (l.map ofCh):=by
 obtain ⟨A,c,rfl,_,hc⟩:=YtjghikkboekonaaGreatDoor.Owr.val h
 exact ⟨A,c,by rw [List.length_map],by rw [List.length_map];exact hc,ch_C (by rw [chs_back];exact h.row chC_len) (by rw [List.length_map];omega)⟩
theorem diff_fits {a b:List (Str×Nd)} (ha:rowFits a=true) (hb:rowFits b=true):lyrFits (diffM Y a b).1=true∧(diffM Y a b).1.length≤1000000:=by
 by_cases h:(rightT Y a && rightT Y b)=true
 ·have e:diffM Y a b=(sortL lessC [] (diffC Y a b),true):=by unfold diffM;rw [if_pos h]
  rw [e]
  rw [Bool.and_eq_true] at h
  have hA:=(Zt.rightT_iff Y).1 h.1
  have hB:=(Zt.rightT_iff Y).1 h.2
  refine ⟨List.all_eq_true.2 fun c hc=>?_,?_⟩
  ·have hc':c ∈ diffC Y a b:=by have:=(Zt.sortL_perm lessC [] (diffC Y a b)).mem_iff.1 hc;simpa using this
   rcases (Zt.mem_diffC c).1 hc' with ⟨e,h1,_,_,rfl⟩|⟨e,h1,_,rfl⟩
   ·have:=(fits_get ha h1).1
    simp only [Bool.and_eq_true,decide_eq_true_eq]
    exact ⟨this,by show ndFits zeroN=true;rfl⟩
   ·have:=fits_get hb h1
    simp only [Bool.and_eq_true,decide_eq_true_eq]
    exact this
  ·rw [(Zt.sortL_perm lessC [] (diffC Y a b)).length_eq,List.nil_append,diffC_parts,List.length_append]
   have h1:=dA_len b a
   have h2:=dB_len a b
   have:=hA.len
   have:=hB.len
   omega
 ·have e:diffM Y a b=([],false):=by unfold diffM;rw [if_neg h]
  rw [e]
  exact ⟨rfl,by simp⟩
end Go.Proofs.Zq
end
section
namespace Go.Proofs.Zq
open Go.RowKit Go.Proofs.YtjghikkboekonaaGreatDoor Go.Proofs.Zw.PrintWords Go.Proofs.Zw.PrintLast Go.Proofs.Zw.PrintMore
open Go.Proofs.Zt (applyM diffM ontoM ontoGo RightT RightL rightT rightC Ch)
set_option maxRecDepth 100000 in
set_option maxHeartbeats 4000000 in
theorem diffThree_calls (w:World) (hG:GL w) (A0:Option Addr) (c0:Nat) (l0:List S32) (hr0:Kd.C k32 w A0 l0.length l0) (hc0:l0.length≤c0) (h0:SzE l0) (n0:l0.length≤1000000000000000)
  (A1:Option Addr) (c1:Nat) (l1:List S32) (hr1:Kd.C k32 w A1 l1.length l1) (hc1:l1.length≤c1) (h1:SzE l1) (n1:l1.length≤1000000000000000)
  (A2:Option Addr) (c2:Nat) (l2:List S32) (hr2:Kd.C k32 w A2 l2.length l2) (hc2:l2.length≤c2) (h2:SzE l2) (n2:l2.length≤1000000000000000) :
  Calls Tryz.prog 4 #[.slice A0 l0.length c0,.slice A1 l1.length c1,.slice A2 l2.length c2] w fun e w'=>e=.returned (.bool true)∧Below w.heap.size w w':=by
 obtain ⟨b0,e0,q0⟩:=few09_ev l0 h0 n0
 obtain ⟨k0,e0⟩:=e0.rounds
 obtain ⟨b1,e1,q1⟩:=few09_ev l1 h1 n1
 obtain ⟨k1,e1⟩:=e1.rounds
 obtain ⟨b2,e2,q2⟩:=few09_ev l2 h2 n2
 obtain ⟨k2,e2⟩:=e2.rounds
 have F2:Hid (b2=true→rowFits' l2):=Lib.hid fun h=>fitsE_of (q2 h)
 have E2:=Lib.hid e2
 have HR2:=Lib.hid hr2
 have HC2:=Lib.hid hc2
 have F0:Hid (b0=true→rowFits' l0):=Lib.hid fun h=>fitsE_of (q0 h)
 have F1:Hid (b1=true→rowFits' l1):=Lib.hid fun h=>fitsE_of (q1 h)
 have E0:=Lib.hid e0
 have E1:=Lib.hid e1
 have HR0:=Lib.hid hr0
 have HC0:=Lib.hid hc0
 have HR1:=Lib.hid hr1
 have HC1:=Lib.hid hc1
 clear hr0 hc0 e0 h0 n0 q0 hr1 hc1 e1 h1 n1 q1 hr2 hc2 e2 h2 n2 q2
 go_enter Tryz.func4,Tryz.ntmps4
 go_wp2_with fail
 refine (small19_calls w hG).mono ?_
 rintro x w2 ⟨rfl,hb⟩
 have HB2:=Lib.hid hb
 clear hb
 go_wp2_with fail
 refine (onionskinlaw09_Few.calls k0 A0 c0 l0 b0 w2 (Kd.C_below HR0.out HB2.out) HC0.out E0.out).mono ?_
 rintro x w3 ⟨rfl,hd⟩
 have HB3:=Lib.hid (YtjghikkboekonaaGreatDoor.below_then HB2.out hd.below)
 clear hd HB2
 go_wp2_with fail
 refine (onionskinlaw09_Few.calls k1 A1 c1 l1 b1 w3 (Kd.C_below HR1.out HB3.out) HC1.out E1.out).mono ?_
 rintro x w4 ⟨rfl,hd⟩
 have HB4:=Lib.hid (YtjghikkboekonaaGreatDoor.below_then HB3.out hd.below)
 clear hd HB3
 go_wp2_with fail
 refine (onionskinlaw09_Few.calls k2 A2 c2 l2 b2 w4 (Kd.C_below HR2.out HB4.out) HC2.out E2.out).mono ?_
 rintro x w5 ⟨rfl,hd⟩
 have HB5:=Lib.hid (YtjghikkboekonaaGreatDoor.below_then HB4.out hd.below)
 clear hd HB4
 cases b0 with
 | false =>
  go_wp2_with fail
  go_ret
  exact ⟨rfl,HB5.out⟩
 | true =>
 cases b1 with
 | false =>
  go_wp2_with fail
  go_ret
  exact ⟨rfl,HB5.out⟩
 | true =>
 cases b2 with
 | false =>
  go_wp2_with fail
  go_ret
  exact ⟨rfl,HB5.out⟩
 | true =>
 have HF0:=Lib.hid (F0.out rfl)
 have HF1:=Lib.hid (F1.out rfl)
 have HF2:=Lib.hid (F2.out rfl)
 clear F0 F1 F2 E0 E1 E2
 have hdo:(diffM Y (l0.map enOf) (l1.map enOf)).2=true→(diffM Y (l1.map enOf) (l2.map enOf)).2=true→ontoM Y (l0.map enOf) [(diffM Y (l0.map enOf) (l1.map enOf)).1,(diffM Y (l1.map enOf) (l2.map enOf)).1]=(l2.map enOf,2,0):=fun h1 h2=>by
  have e1:diffM Y (l0.map enOf) (l1.map enOf)=((diffM Y (l0.map enOf) (l1.map enOf)).1,true):=Prod.ext rfl h1
  have e2:diffM Y (l1.map enOf) (l2.map enOf)=((diffM Y (l1.map enOf) (l2.map enOf)).1,true):=Prod.ext rfl h2
  have a1:=(Zt.diff_does e1).2
  have a2:=(Zt.diff_does e2).2
  have hr:=(Zt.rightT_iff Y).2 (Zt.diffM_some e1).1
  unfold ontoM ontoGo
  rw [if_pos hr,a1]
  unfold ontoGo
  rw [a2]
  rfl
 have cd:=diff_calls w5 (hG.ext HB5.out) A0 c0 l0 (Kd.C_below HR0.out HB5.out) HC0.out HF0.out A1 c1 l1 (Kd.C_below HR1.out HB5.out) HC1.out HF1.out
 have hfl:=diff_fits HF0.out.1 HF1.out.1
 have hfm:=diff_fits HF1.out.1 HF2.out.1
 obtain ⟨R,hR⟩:∃ R,R=diffM Y (l0.map enOf) (l1.map enOf):=⟨_,rfl⟩
 rw [← hR] at cd hfl hdo
 obtain ⟨L,rb⟩:=R
 obtain ⟨R2,hR2⟩:∃ R,R=diffM Y (l1.map enOf) (l2.map enOf):=⟨_,rfl⟩
 have HR22:=Lib.hid hR2
 rw [← hR2] at hfm hdo
 obtain ⟨M,rc⟩:=R2
 have CD:=Lib.hid cd
 have HFL:=Lib.hid hfl
 have HFM:=Lib.hid hfm
 have HDO:=Lib.hid hdo
 clear cd hfl hfm hdo hR hR2
 go_wp2_with fail
 refine CD.out.mono ?_
 rintro x w6 ⟨v6,rfl,ho,hb⟩
 obtain ⟨A6,c6,hv6,hc6,hk6⟩:=own_chC ho HFL.out.2
 obtain ⟨n6,hn6⟩:∃ n,n=(L.map ofCh).length:=⟨_,rfl⟩
 rw [← hn6] at hv6
 subst hv6
 have HN6:=Lib.hid hn6
 clear hn6
 have HB6:=Lib.hid (YtjghikkboekonaaGreatDoor.below_then HB5.out hb)
 have HC6:=Lib.hid hc6
 have HK6:=Lib.hid hk6
 clear ho hb hc6 hk6 CD HB5
 have cd:=diff_calls w6 (hG.ext HB6.out) A1 c1 l1 (Kd.C_below HR1.out HB6.out) HC1.out HF1.out A2 c2 l2 (Kd.C_below HR2.out HB6.out) HC2.out HF2.out
 rw [← HR22.out] at cd
 have CD:=Lib.hid cd
 clear cd HR22
 go_wp2_with fail
 refine CD.out.mono ?_
 rintro x w7 ⟨v7,rfl,ho,hb⟩
 obtain ⟨A7,c7,hv7,hc7,hk7⟩:=own_chC ho HFM.out.2
 obtain ⟨n7,hn7⟩:∃ n,n=(M.map ofCh).length:=⟨_,rfl⟩
 rw [← hn7] at hv7
 subst hv7
 have HN7:=Lib.hid hn7
 clear hn7
 have HB7:=Lib.hid (YtjghikkboekonaaGreatDoor.below_then HB6.out hb)
 have HC7:=Lib.hid hc7
 have HK7:=Lib.hid hk7
 have HK67:=Lib.hid (Kd.C_below HK6.out hb)
 clear ho hb hc7 hk7 CD HB6 HK6
 cases rb with
 | false =>
  go_wp2_with fail
  go_ret
  exact ⟨rfl,HB7.out⟩
 | true =>
 cases rc with
 | false =>
  go_wp2_with fail
  go_ret
  exact ⟨rfl,HB7.out⟩
 | true =>
 have HON:=Lib.hid (HDO.out rfl rfl)
 clear HDO
 go_wp2_with ((with_reducible refine gate_dst (N:=59) rfl ?_);refine row_event rfl (N:=59) rfl (cs:=[Value.slice A6 n6 c6,Value.slice A7 n7 c7].toArray) (t:=35) (n:=2) (by kernel_rfl) ?_;intro g8 hg w8 hb hbl;have HB8:=Lib.hid hb;have HBL8:=Lib.hid hbl;clear hg hb hbl;go_frame)
 have HBW8:=Lib.hid (YtjghikkboekonaaGreatDoor.below_then HB7.out HBL8.out)
 have hst:Kd.C (Kd.slice 57 k57) w8 (some ⟨g8,0,none⟩) [L.map ofCh,M.map ofCh].length [L.map ofCh,M.map ofCh]:=stk_block HB8.out (by show 2≤9223372036854775807;omega) (fun j p hp=>by
  match j,hp with
  | 0,hp=>obtain rfl:=Option.some.inj hp;exact ⟨A6,c6,by rw [← HN6.out];rfl,HC6.out,Kd.C_below HK67.out HBL8.out⟩
  | 1,hp=>obtain rfl:=Option.some.inj hp;exact ⟨A7,c7,by rw [← HN7.out];rfl,HC7.out,Kd.C_below HK7.out HBL8.out⟩
  | j + 2,hp=>cases hp)
 have co:=onto_calls w8 (hG.ext HBW8.out) A0 c0 l0 (Kd.C_below HR0.out HBW8.out) HC0.out HF0.out (some ⟨g8,0,none⟩) 2 [L.map ofCh,M.map ofCh] hst (by show 2≤1000000;omega) (fun l hl=>by
  simp only [List.mem_cons,List.not_mem_nil,or_false] at hl
  rcases hl with rfl|rfl
  ·exact ⟨by rw [chs_back];exact HFL.out.1,by rw [List.length_map];exact HFL.out.2⟩
  ·exact ⟨by rw [chs_back];exact HFM.out.1,by rw [List.length_map];exact HFM.out.2⟩)
 rw [List.map_cons,List.map_cons,List.map_nil,chs_back,chs_back,show ontoM Y (l0.map enOf) [L,M]=(l2.map enOf,2,0) from HON.out] at co
 have CO:=Lib.hid co
 clear co hst
 go_wp2_with fail
 refine CO.out.mono ?_
 rintro x w9 ⟨v9,rfl,ho,hb⟩
 obtain ⟨A9,c9,rfl,hc9,hk9⟩:=own_C ho
 rw [ens_forth] at hc9 hk9 ⊢
 have HB9:=Lib.hid (YtjghikkboekonaaGreatDoor.below_then HBW8.out hb)
 have HK9:=Lib.hid hk9
 clear ho hb hc9 hk9 CO
 go_wp2_with fail
 refine (dsame_calls w9 A9 c9 l2 HK9.out A2 c2 l2 (Kd.C_below HR2.out HB9.out) HF2.out.2 HF2.out.2 true (by simp)).mono ?_
 rintro x w10 ⟨rfl,hb⟩
 have HB10:=Lib.hid (YtjghikkboekonaaGreatDoor.below_then HB9.out hb)
 clear hb
 go_wp2_with fail
 go_ret
 exact ⟨rfl,HB10.out⟩
end Go.Proofs.Zq
end
