/- A part of a proof of statements of this seat: what its walks and its laws lean on; joined by a program of this repo (wip/pack.py) out of the texts XDig, XSm23, XArgs6, CPre. -/
import Derived.ChangeKeysEq
import Derived.OpenShut
import Derived.Test.YtjghikkboekonaaGreatDoorKAA
import Derived.Test.YtjghikkboekonaaGreatDoorKAJ
import Derived.Test.YtjghikkboekonaaGreatDoorKAK
set_option linter.unusedSimpArgs false
set_option linter.unusedVariables false
section
namespace Go.Proofs.Zq
open Go.RowKit Go.WideMaps Go.Maps Go.Proofs.YtjghikkboekonaaGreatDoor Go.Proofs.Zw.PrintWords Go.Proofs.Zw.PrintLast Go.Proofs.Zw.PrintMore
abbrev Dg:={d:List UInt8 // d.length=32}
def dgV (b:UInt8):Value:=.int .u8 b.toNat
def dgC (d:Dg):List Value:=d.1.map dgV
theorem dgC_len (d:Dg):(dgC d).length=32:=by unfold dgC;rw [List.length_map,d.2]
def DgAt (w:World) (A:Option Addr) (l:List Dg):Prop:=∀ (i:Nat) (d:Dg),l[i]?=some d→∃ ad,A=some ad∧LiesAt w (ad.add (i * 32)) (dgC d)
theorem dg_at {w:World} {A:Option Addr} {l:List Dg} (h:DgAt w A l) (i:Nat) (hi:i<l.length):∃ ad,A=some ad∧LiesAt w (ad.add (i * 32)) (dgC l[i]):=h i _ (List.getElem?_eq_getElem hi)
theorem dgs_at {l0 l1:List Dg} (h:l0=l1) (i:Nat) (h0:i<l0.length) (h1:i<l1.length):l0[i]=l1[i]:=by subst h;rfl
theorem DgAt.below {w w':World} {A:Option Addr} {l:List Dg} (h:DgAt w A l) (hb:Below w.heap.size w w'):DgAt w' A l:=fun i d hd=>by
 obtain ⟨ad,h1,h2⟩:=h i d hd
 exact ⟨ad,h1,h2.below hb⟩
theorem DgAt.nil (w:World) (A:Option Addr):DgAt w A []:=fun i d hd=>by simp at hd
theorem DgAt.take {w:World} {A:Option Addr} {l:List Dg} (h:DgAt w A l) (n:Nat):DgAt w A (l.take n):=fun i d hd=>by
 rw [List.getElem?_take] at hd
 split at hd
 ·exact h i d hd
 ·cases hd
theorem DgAt.drop {w:World} {ad:Addr} {l:List Dg} (h:DgAt w (some ad) l) (n:Nat):DgAt w (some (ad.add (n * 32))) (l.drop n):=fun i d hd=>by
 rw [List.getElem?_drop] at hd
 obtain ⟨ad',h1,h2⟩:=h _ d hd
 obtain rfl:=Option.some.inj h1
 refine ⟨_,rfl,?_⟩
 rw [Addr.add_add,← Nat.add_mul]
 exact h2
theorem u8_eq (a b:UInt8):(((a.toNat:Nat):Int) == ((b.toNat:Nat):Int))=decide (a=b):=by
 rw [Bool.eq_iff_iff,beq_iff_eq,decide_eq_true_iff]
 constructor
 ·intro h
  apply UInt8.toNat_inj.1
  omega
 ·rintro rfl
  rfl
theorem info_dg (e:Dg):(Tryz.prog.info? 61).map (·.size)=some (dgC e).length:=by
 rw [dgC_len]
 kernel_rfl
theorem items_dg (d:Nat) (w:World) (xs ys:List UInt8):∀ is:List Nat,(∀ i ∈ is,i<xs.length∧i<ys.length) →
  (Go.Op.eqItems (d + 1) 5 1 (xs.map dgV).toArray (ys.map dgV).toArray is).run Tryz.prog w=.ok (is.all fun i=>decide (xs[i]?=ys[i]?)) w:=by
 intro is
 induction is with
 | nil=>intro _;simp [Go.Op.eqItems]
 | cons i r ih =>
  intro h
  obtain ⟨h1,h2⟩:=h i List.mem_cons_self
  have ih:=ih fun j hj=>h j (List.mem_cons_of_mem _ hj)
  have hag:∀ w,(isAgg 5).run Tryz.prog w=.ok false w:=fun w=>by kernel_rfl
  have p1:(part 5 (xs.map dgV).toArray (i * 1)).run Tryz.prog w=.ok (dgV xs[i]) w:=by
   unfold part
   simp [Sem.run_bind,hag,Result.andThen,h1]
  have p2:(part 5 (ys.map dgV).toArray (i * 1)).run Tryz.prog w=.ok (dgV ys[i]) w:=by
   unfold part
   simp [Sem.run_bind,hag,Result.andThen,h2]
  have p3:(Go.Op.equalIn (d + 1) 5 (dgV xs[i]) (dgV ys[i])).run Tryz.prog w=.ok (decide (xs[i]=ys[i])) w:=by
   unfold dgV
   rw [← u8_eq]
   simp [Go.Op.equalIn,Sem.run_bind,run_underlying Tryz.underlying5,Result.andThen]
  simp only [Go.Op.eqItems,Sem.run_bind,p1,p2,p3,Result.andThen_ok]
  rw [List.all_cons,List.getElem?_eq_getElem h1,List.getElem?_eq_getElem h2]
  by_cases he:xs[i]=ys[i]
  ·rw [decide_eq_true he]
   simpa [he] using ih
  ·rw [decide_eq_false he]
   simp [he]
set_option maxRecDepth 100000 in
theorem eqDg (d:Nat) (w:World) (a b:Dg):(Op.equalIn (d + 2) 61 (.agg (dgC a).toArray) (.agg (dgC b).toArray)).run Tryz.prog w=.ok (decide (a=b)) w:=by
 have hi:∃ i,Tryz.prog.info? 5=some i:=by
  cases h:Tryz.prog.info? 5 with
  | some i=>exact ⟨i,rfl⟩
  | none=>exact absurd h (by
    have:(Tryz.prog.info? 5).isSome=true:=by kernel_rfl
    intro h;rw [h] at this;cases this)
 obtain ⟨i,hi⟩:=hi
 have hc:Tryz.prog.cellsOf 5=1:=by kernel_rfl
 rw [Go.run_equalIn_array (w:=w) (d + 1) _ _ Tryz.underlying61 hi,hc]
 unfold dgC
 rw [items_dg d w a.1 b.1 (List.range 32) (fun i hi=>by rw [a.2,b.2];have:=List.mem_range.1 hi;omega)]
 refine congrArg (fun b=>Result.ok b w) ?_
 rw [Bool.eq_iff_iff,List.all_eq_true,decide_eq_true_iff]
 constructor
 ·intro h
  apply Subtype.ext
  apply List.ext_getElem?
  intro i
  by_cases hi:i<32
  ·simpa using h i (List.mem_range.2 hi)
  ·rw [List.getElem?_eq_none (by rw [a.2];omega),List.getElem?_eq_none (by rw [b.2];omega)]
 ·intro h i _
  rw [h];simp
attribute [local go_sem high] eqDg
set_option maxRecDepth 100000 in
set_option maxHeartbeats 4000000 in
theorem eqlD_calls (w:World) (A0:Option Addr) (c0:Nat) (l0:List Dg) (hr0:DgAt w A0 l0) (A1:Option Addr) (c1:Nat) (l1:List Dg) (hr1:DgAt w A1 l1) (hl:l0.length≤1000000) (hl1:l1.length≤1000000)
  (d:Bool) (hd:d=true↔l0=l1) :
  Calls Tryz.prog 66 #[.slice A0 l0.length c0,.slice A1 l1.length c1] w fun e w'=>e=.returned (.bool d)∧Below w.heap.size w w':=by
 have HR0:=pH hr0
 have HR1:=pH hr1
 have HD:=pH hd
 clear hr0 hr1 hd
 have h49:=Tryz.underlying61
 go_enter Tryz.func66,Tryz.ntmps66
 by_cases hn:l0.length=l1.length
 ·have hq:((l0.length:Int) != (l1.length:Int))=false:=by rw [hn];simp
  have HN:=pH hn
  clear hn
  go_wp2_with fail
  clear hq
  go_loopg [13] (l0.length + 1) (fun gq v wr=>∃ i:Nat,v=.int .i64 i∧l0.length<gq + i∧Hid (i≤l0.length)∧Hid (l0.take i=l1.take i)∧Hid (Below w.heap.size w wr))
  case atStart=>exact ⟨0,rfl,by omega,pH (by omega),pH (by simp),pH (Below.refl _ _)⟩
  case round =>
   obtain ⟨i,rfl,hgi,HI,HT,HB⟩:=hrel
   by_cases hi:i<l0.length
   ·cases gk with
    | zero=>omega
    | succ g1 =>
     have hi1:i<l1.length:=by rw [← HN.out];exact hi
     obtain ⟨ad0,rfl,hat0⟩:=dg_at HR0.out i hi
     obtain ⟨ad1,rfl,hat1⟩:=dg_at HR1.out i hi1
     have HA0:=pH (hat0.below HB.out)
     have HA1:=pH (hat1.below HB.out)
     have hs0:l0.take (i + 1)=l0.take i ++ [l0[i]]:=List.take_succ_eq_append_getElem hi
     have hs1:l1.take (i + 1)=l1.take i ++ [l1[i]]:=List.take_succ_eq_append_getElem hi1
     have hdf:d=true→l0[i]=l1[i]:=fun h=>dgs_at (HD.out.1 h) i hi hi1
     obtain ⟨e0,he0⟩:∃ e,e=l0[i]:=⟨_,rfl⟩
     obtain ⟨e1,he1⟩:∃ e,e=l1[i]:=⟨_,rfl⟩
     rw [← he0] at HA0 hs0 hdf
     rw [← he1] at HA1 hs1 hdf
     have HS:Hid (e0=e1→l0.take (i + 1)=l1.take (i + 1)):=pH (fun h=>by rw [hs0,hs1,HT.out,h])
     have HDF:=pH hdf
     clear hs0 hs1 hdf he0 he1 hat0 hat1
     have HII:Hid (i + 1≤l0.length):=pH hi
     have hk0:(0:Int)≤(i:Int):=by omega
     have hk1:(i:Int)<(l0.length:Int):=by omega
     have hk2:(i:Int)<(l1.length:Int):=by omega
     go_upto_region 6 with (fail)
     obtain ⟨nb,hnb⟩:∃ nb,nb=!decide (e0=e1):=⟨_,rfl⟩
     have HNB:=pH hnb
     clear hnb
     go_cut [24] (fun v wc=>v=.bool nb∧Hid (Below wr.heap.size wr wc))
     case first =>
      refine start_ (n:=9) (S:=fun w'=>Below wr.heap.size wr w') (ds:=[]) (ms 9 0) (by kernel_rfl) rfl rfl (Below.refl _ _).drew (fun hHeld=>?_)
      iterate 3 (refine pW ?_ rfl rfl (by kernel_rfl) (fun _ _ _=>id) (by rfl) ?_ ?_ ?_ ?_;rotate_left;(intro w';go_simp;with_reducible rfl);rotate_left;(simp only [aP,i64_w,i32_w];rfl))
      refine take_ (i:=3) (N:=some 19) (v:=.agg (dgC e0).toArray) (a':=?_) (ms 9 4) rfl rfl (by kernel_rfl) (fun _ _ _ h=>h) (yi_agg (by rfl) 61 _ rfl _ rfl _ _ (fun w' hb=>HA0.out.below hb) h49 rfl (info_dg _)) hHeld ?_ ?_;rotate_left;(simp only [aP,i64_w,i32_w];rfl)
      iterate 3 (refine pW ?_ rfl rfl (by kernel_rfl) (fun _ _ _=>id) (by rfl) ?_ ?_ ?_ ?_;rotate_left;(intro w';go_simp;with_reducible rfl);rotate_left;(simp only [aP,i64_w,i32_w];rfl))
      refine take_ (i:=7) (N:=some 23) (v:=.agg (dgC e1).toArray) (a':=?_) (ms 9 8) rfl rfl (by kernel_rfl) (fun _ _ _ h=>h) (yi_agg (by rfl) 61 _ rfl _ rfl _ _ (fun w' hb=>HA1.out.below hb) h49 rfl (info_dg _)) hHeld ?_ ?_;rotate_left;(simp only [aP,i64_w,i32_w];rfl)
      refine pW ?_ rfl rfl (by kernel_rfl) (fun _ _ _=>id) (by rfl) ?_ ?_ ?_ ?_;rotate_left;(intro w';go_simp;with_reducible rfl);rotate_left;(simp only [aP,i64_w,i32_w];rfl)
      refine done_ (by kernel_rfl) ?_
      go_wp2_with fail
      go_meet
      exact ⟨by rw [HNB.out],pH hHeld⟩
     case rest =>
     obtain ⟨rfl,HBC⟩:=hcut
     have HB2:=pH (pbt HB.out HBC.out)
     clear HBC HA0 HA1 HB
     cases nb with
     | false =>
      have HT2:=pH (HS.out (by simpa using HNB.out))
      clear HNB
      go_wp2_with fail
      go_roundg g1
      case measure=>omega
      case rel=>exact ⟨i + 1,by go_num,by omega,HII,HT2,HB2⟩
     | true =>
      have hee:¬ e0=e1:=by simpa using HNB.out
      have HDD:Hid (d=false):=pH (by cases hdd:d with|false=>rfl|true=>exact absurd (HDF.out hdd) hee)
      clear hee HNB
      go_wp2_with fail
      go_ret
      exact ⟨by rw [HDD.out];rfl,HB2.out⟩
   ·have he:i=l0.length:=by have:=HI.out;omega
    subst he
    have HDD:Hid (d=true):=pH (HD.out.2 (by
     have:=HT.out
     rwa [List.take_of_length_le (by simp),List.take_of_length_le (by simp [HN.out])] at this))
    go_wp2_with fail
    go_ret
    exact ⟨by rw [HDD.out];rfl,HB.out⟩
 ·have hq:((l0.length:Int) != (l1.length:Int))=true:=by simp;omega
  have HDD:Hid (d=false):=pH (by
   cases hdd:d with
   | false=>rfl
   | true=>exact absurd (by have:=congrArg List.length (HD.out.1 hdd);simpa using this) hn)
  clear hn
  go_wp2_with fail
  go_ret
  exact ⟨by rw [HDD.out];rfl,Below.refl _ _⟩
set_option maxRecDepth 100000 in
theorem prefix_calls (w:World) (A0:Option Addr) (c0:Nat) (l0:List Dg) (hr0:DgAt w A0 l0) (A1:Option Addr) (c1:Nat) (l1:List Dg) (hr1:DgAt w A1 l1) (hl:l0.length≤1000000) (hl1:l1.length≤1000000) (hc1:l1.length≤c1) (hn1:A1=none→c1=0)
  (d:Bool) (hd:d=true↔l0=l1.take l0.length) :
  Calls Tryz.prog 35 #[.slice A0 l0.length c0,.slice A1 l1.length c1] w fun e w'=>e=.returned (.bool d)∧Below w.heap.size w w':=by
 have HR0:=pH hr0
 have HR1:=pH hr1
 have HD:=pH hd
 clear hr0 hr1 hd
 go_enter Tryz.func35,Tryz.ntmps35
 by_cases hn:l0.length≤l1.length
 ·have HE:=eqlD_calls w A0 c0 l0 HR0.out A1 c1 (l1.take l0.length) (HR1.out.take _) hl (by rw [List.length_take];omega) d HD.out
  rw [List.length_take,Nat.min_eq_left hn] at HE
  have HE':=pH HE
  clear HE
  have hq:decide (l0.length≤l1.length)=true:=by simpa using hn
  have hcc:l0.length≤c1:=by omega
  cases A1 with
  | none =>
   obtain rfl:=hn1 rfl
   have h0:l0=[]:=List.eq_nil_of_length_eq_zero (by omega)
   subst h0
   go_wp2_with fail
   refine HE'.out.mono ?_
   rintro x w1 ⟨rfl,hb⟩
   have HB:=pH hb
   clear hb
   go_wp2_with fail
   go_ret
   exact ⟨rfl,HB.out⟩
  | some ad =>
   go_wp2_with fail
   refine HE'.out.mono ?_
   rintro x w1 ⟨rfl,hb⟩
   have HB:=pH hb
   clear hb
   go_wp2_with fail
   go_ret
   exact ⟨rfl,HB.out⟩
 ·have hq:decide (l0.length≤l1.length)=false:=by simpa using hn
  have HDD:Hid (d=false):=pH (by
   cases hdd:d with
   | false=>rfl
   | true=>exact absurd (by have:=congrArg List.length (HD.out.1 hdd);rw [List.length_take] at this;omega) hn)
  clear hn
  go_wp2_with fail
  go_ret
  exact ⟨by rw [HDD.out];rfl,Below.refl _ _⟩
end Go.Proofs.Zq
end
section
namespace Go.Proofs.Zq
open Go.RowKit Go.WideMaps Go.Maps Go.Proofs.YtjghikkboekonaaGreatDoor Go.Proofs.Zw.PrintWords Go.Proofs.Zw.PrintLast Go.Proofs.Zw.PrintMore
open Go.Proofs.Zt (extractM Ch)
attribute [local go_sem high] eqCg
instance (n:Nd):Decidable (NdKey n):=by
 unfold NdKey NdWf
 infer_instance
def p23:List (Ch Str Nd):=[⟨[97],0,dN⟩,⟨[97,47,120],0,zeroN⟩]
def q23:List (Ch Str Nd):=[⟨[97],0,dN⟩]
def r23:List (Ch Str Nd):=[⟨[98],0,zeroN⟩]
def s23:List (Ch Str Nd):=[⟨[113,47,113],0,zeroN⟩]
theorem x23a:extractM Y [[p23],[q23,r23]]=([⟨[97],0,dN⟩],[[⟨[97,47,120],0,zeroN⟩],[⟨[98],0,zeroN⟩]],2,0):=by kernel_rfl
theorem x23b:extractM Y [[p23],[s23]]=([],[],1,10):=by kernel_rfl
theorem x23c:extractM Y ([]:List (List (List (Ch Str Nd))))=([],[],0,1):=by kernel_rfl
theorem fits23 {s:List (List (Ch Str Nd))} (h1:s.length≤100) (h2:∀ l ∈ s,lyrFits l=true∧l.length≤100) (h3:∀ l ∈ s,∀ c ∈ l,NdKey c.node):StkFits (s.map (List.map ofCh)):=by
 refine ⟨by rw [List.length_map];omega,fun l hl=>?_,by rw [s18_back];exact h3⟩
 obtain ⟨m,hm,rfl⟩:=List.mem_map.1 hl
 exact ⟨by rw [chs_back];exact (h2 m hm).1,by rw [List.length_map];have:=(h2 m hm).2;omega⟩
theorem ss_back (a b:List (List (Ch Str Nd))):List.map (List.map (List.map chOf)) [a.map (List.map ofCh),b.map (List.map ofCh)]=[a,b]:=by rw [List.map_cons,List.map_cons,List.map_nil,s18_back,s18_back]
theorem fa23:StkFits ([p23].map (List.map ofCh)):=fits23 (by decide) (by decide +kernel) (by decide +kernel)
theorem fb23:StkFits ([q23,r23].map (List.map ofCh)):=fits23 (by decide) (by decide +kernel) (by decide +kernel)
theorem fs23:StkFits ([s23].map (List.map ofCh)):=fits23 (by decide) (by decide +kernel) (by decide +kernel)
section
variable {α:Type} {K:Kd α}
theorem RowsAt.cons {w:World} {vs:List SlW} {xs:List (List α)} (h:RowsAt K w vs xs) {A:Option Addr} {p:List α} {n c:Nat} (hn:n=p.length) (hc:p.length≤c) (hk:Kd.C K w A p.length p):RowsAt K w ((A,n,c) :: vs) (p :: xs):=⟨by rw [List.length_cons,List.length_cons,h.1],fun j q hq=>by
 cases j with
 | zero =>
  obtain rfl:=Option.some.inj hq
  exact ⟨A,c,by rw [hn];rfl,hc,hk⟩
 | succ j=>exact h.2 j q hq⟩
end
def dg1:Dg:=⟨1 :: List.replicate 31 0,by decide⟩
def dg2:Dg:=⟨2 :: List.replicate 31 0,by decide⟩
theorem dg_ne:dg1≠dg2:=fun h=>absurd (congrArg (fun d:Dg=>d.1.head?) h) (by decide)
theorem dgs_block {w:World} {g:Nat} {T:TypeId} {l:List Dg} (h:w.heap[g]?=some (.cells (flat dgC l).toArray T (0,0))):DgAt w (some ⟨g,0,none⟩) l:=fun i d hd=>⟨_,rfl,fun j v hv=>by
 rw [Addr.add_add,Addr.add_mid,Nat.zero_add,pbc h]
 have:=flat_at dgC_len l i j d v hd hv
 simpa using this⟩
theorem rests_two {w:World} {base gr cr:Nat} {us:List SlW} {c0 c1:Ch Str Nd} (h:LrO w base (.slice (some ⟨gr,0,none⟩) 2 cr) us [[c0],[c1]]):∃ g0 k0 g1 k1,w.cell? ⟨gr,0,none⟩=some (.slice (some ⟨g0,0,none⟩) 1 k0)∧w.cell? ⟨gr,1,none⟩=some (.slice (some ⟨g1,0,none⟩) 1 k1) ∧
  w.cell? ⟨g0,0,none⟩=some (.string (B c0.path))∧w.cell? ⟨g1,0,none⟩=some (.string (B c1.path)):=by
 obtain ⟨g',c',e,_,hc⟩:=own_spot h.own 2 h.len (by decide)
 cases e
 match us,h.len with
 | [x0,x1],_ =>
  obtain ⟨g0,k0,e0,_,h0⟩:=own_spot (h.rows 0 x0 _ rfl rfl).2 1 rfl (by decide)
  obtain ⟨g1,k1,e1,_,h1⟩:=own_spot (h.rows 1 x1 _ rfl rfl).2 1 rfl (by decide)
  exact ⟨g0,k0,g1,k1,by rw [← e0];exact hc 0 _ rfl,by rw [← e1];exact hc 1 _ rfl,h0 0 _ rfl,h1 0 _ rfl⟩
theorem lies_one {w:World} {base gl cl:Nat} {c:Ch Str Nd} (h:Owr pz13 57 12 base w (.slice (some ⟨gl,0,none⟩) 1 cl) [c]):LiesAt w ⟨gl,0,none⟩ (pz13 c):=by
 obtain ⟨g',c',e,_,hc⟩:=own_spot h 1 rfl (by decide)
 cases e
 intro j v hv
 rw [Addr.add_mid,Nat.zero_add]
 refine hc j v ?_
 show (pz13 c ++ [])[j]?=_
 rw [List.append_nil]
 exact hv
set_option maxRecDepth 100000 in
set_option maxHeartbeats 16000000 in
theorem small23_calls (w:World) (hG:GL w):Calls Tryz.prog 31 #[] w fun e w'=>e=.returned (.bool true)∧Below w.heap.size w w':=by
  have h31:=Tryz.underlying28
  have h33:=Tryz.underlying57
  go_enter Tryz.func31,Tryz.ntmps31
  go_wp2_with (first|((with_reducible refine pz10 (N:=1) rfl ?_);refine pz24 rfl (N:=1) rfl (cs:=ndZero) (t:=28) ?hr ?_;(case hr=>first|(go_simp;done)|(go_simp;rfl));intro g1 hg w2 hb2 hbl2;have HB1:=pH hb2;have HBL1:=pH hbl2;have HGE1:Hid (w.heap.size≤g1):=pH (by rw [hg];exact Nat.le_refl _);clear hg hb2 hbl2;go_frame)|((with_reducible refine pz28 (t:=28) (p:=1) rfl ?_);refine pz22 rfl rfl 28 _ _ rfl g1 (pz18 dN).toArray rfl rfl 28 ndZero HB1.out rfl rfl (ndCells_all _) ?_;intro w3 hb3 hg3;have HB3:=pH hb3;have HBL3:Hid (Below w.heap.size w w3):=pH (HBL1.out.grown hg3 HBL1.out.size (fun j hj=>by cases hj;exact HGE1.out));clear hb3 hg3)|((with_reducible refine pz10 (N:=17) rfl ?_);refine build_event rfl (N:=17) rfl 28 _ rfl (pz18 dN).toArray (by kernel_rfl) ?_;go_frame)|((with_reducible refine pz10 (N:=18) rfl ?_);refine pz12 rfl 28 _ rfl _ rfl (pz18 dN) _ (pz26 HB3.out) h31 rfl rfl ?_;go_frame)|((with_reducible refine pz10 (N:=19) rfl ?_);refine build_event rfl (N:=19) rfl 57 _ rfl (pz13 ⟨[97],0,dN⟩).toArray (by kernel_rfl) ?_;go_frame)|((with_reducible refine pz10 (N:=20) rfl ?_);refine build_event rfl (N:=20) rfl 57 _ rfl (pz13 ⟨[97,47,120],0,zeroN⟩).toArray (by kernel_rfl) ?_;go_frame)|((with_reducible refine pz10 (N:=21) rfl ?_);refine pz34 rfl (N:=21) rfl (cs:=(flat pz13 p23).toArray) (t:=57) (n:=2) (by kernel_rfl) ?_;intro g21 hg w21 hb hbl;have HB21:=pH hb;have HBL21:=pH hbl;clear hg hb hbl;go_frame)|((with_reducible refine pz10 (N:=22) rfl ?_);refine pz34 rfl (N:=22) rfl (cs:=([.slice (some ⟨g21,0,none⟩) 2 2]).toArray) (t:=35) (n:=1) (by kernel_rfl) ?_;intro g22 hg w22 hb hbl;have HB22:=pH hb;have HBL22:=pH hbl;clear hg hb hbl;go_frame)|((with_reducible refine pz10 (N:=23) rfl ?_);refine pz12 rfl 28 _ rfl _ rfl (pz18 dN) _ (pz26 (pz11 (pz11 HB3.out HBL21.out) HBL22.out)) h31 rfl rfl ?_;go_frame)|((with_reducible refine pz10 (N:=24) rfl ?_);refine build_event rfl (N:=24) rfl 57 _ rfl (pz13 ⟨[97],0,dN⟩).toArray (by kernel_rfl) ?_;go_frame)|((with_reducible refine pz10 (N:=25) rfl ?_);refine pz34 rfl (N:=25) rfl (cs:=(flat pz13 q23).toArray) (t:=57) (n:=1) (by kernel_rfl) ?_;intro g25 hg w25 hb hbl;have HB25:=pH hb;have HBL25:=pH hbl;clear hg hb hbl;go_frame)|((with_reducible refine pz10 (N:=26) rfl ?_);refine build_event rfl (N:=26) rfl 57 _ rfl (pz13 ⟨[98],0,zeroN⟩).toArray (by kernel_rfl) ?_;go_frame)|((with_reducible refine pz10 (N:=27) rfl ?_);refine pz34 rfl (N:=27) rfl (cs:=(flat pz13 r23).toArray) (t:=57) (n:=1) (by kernel_rfl) ?_;intro g27 hg w27 hb hbl;have HB27:=pH hb;have HBL27:=pH hbl;clear hg hb hbl;go_frame)|((with_reducible refine pz10 (N:=28) rfl ?_);refine pz34 rfl (N:=28) rfl (cs:=([.slice (some ⟨g25,0,none⟩) 1 1,.slice (some ⟨g27,0,none⟩) 1 1]).toArray) (t:=35) (n:=2) (by kernel_rfl) ?_;intro g28 hg w28 hb hbl;have HB28:=pH hb;have HBL28:=pH hbl;clear hg hb hbl;go_frame)|((with_reducible refine pz10 (N:=32) rfl ?_);refine pz34 rfl (N:=32) rfl (cs:=([.slice (some ⟨g22,0,none⟩) 1 1,.slice (some ⟨g28,0,none⟩) 2 2]).toArray) (t:=41) (n:=2) (by kernel_rfl) ?_;intro g32 hg w32 hb hbl;have HB32:=pH hb;have HBL32:=pH hbl;clear hg hb hbl;go_frame))
  have HW:=pH (pbt (pbt (pbt (pbt (pbt (pbt (HBL3.out) HBL21.out) HBL22.out) HBL25.out) HBL27.out) HBL28.out) HBL32.out)
  have HBX:=pH (pz11 (pz11 (pz11 (pz11 (pz11 (pz11 (HB3.out) HBL21.out) HBL22.out) HBL25.out) HBL27.out) HBL28.out) HBL32.out)
  have HKP:Hid (Kd.C k57 w32 (some ⟨g21,0,none⟩) (p23.map ofCh).length (p23.map ofCh)):=pH (chs_C (l:=p23) (pz11 (pz11 (pz11 (pz11 (pz11 (HB21.out) HBL22.out) HBL25.out) HBL27.out) HBL28.out) HBL32.out) (by decide))
  have HKQ:Hid (Kd.C k57 w32 (some ⟨g25,0,none⟩) (q23.map ofCh).length (q23.map ofCh)):=pH (chs_C (l:=q23) (pz11 (pz11 (pz11 (HB25.out) HBL27.out) HBL28.out) HBL32.out) (by decide))
  have HKR:Hid (Kd.C k57 w32 (some ⟨g27,0,none⟩) (r23.map ofCh).length (r23.map ofCh)):=pH (chs_C (l:=r23) (pz11 (pz11 (HB27.out) HBL28.out) HBL32.out) (by decide))
  have HSA:Hid (Kd.C (Kd.slice 57 k57) w32 (some ⟨g22,0,none⟩) ([p23].map (List.map ofCh)).length ([p23].map (List.map ofCh))):=pH (rows_block (vs:=[(some ⟨g21,0,none⟩,2,2)]) (pz11 (pz11 (pz11 (pz11 (HB22.out) HBL25.out) HBL27.out) HBL28.out) HBL32.out) (by decide) ((RowsAt.nil _).cons rfl (by decide) HKP.out))
  have HSB:Hid (Kd.C (Kd.slice 57 k57) w32 (some ⟨g28,0,none⟩) ([q23,r23].map (List.map ofCh)).length ([q23,r23].map (List.map ofCh))):=pH (rows_block (vs:=[(some ⟨g25,0,none⟩,1,1),(some ⟨g27,0,none⟩,1,1)]) (pz11 (HB28.out) HBL32.out) (by decide) (((RowsAt.nil _).cons rfl (by decide) HKR.out).cons rfl (by decide) HKQ.out))
  have c1:=extract_calls w32 (hG.ext HW.out) (some ⟨g32,0,none⟩) 2 [[p23].map (List.map ofCh),[q23,r23].map (List.map ofCh)] (rows_block (vs:=[(some ⟨g22,0,none⟩,1,1),(some ⟨g28,0,none⟩,2,2)]) HB32.out (by decide) (((RowsAt.nil _).cons rfl (by decide) HSB.out).cons rfl (by decide) HSA.out)) (by decide) (fun s hs=>by
    simp only [List.mem_cons,List.not_mem_nil,or_false] at hs
    rcases hs with rfl|rfl
    · exact fa23
    · exact fb23)
  rw [ss_back,x23a] at c1
  have C1:=pH c1
  clear c1 HB1 HBL1 HGE1 HB3 HBL3 HB21 HBL21 HB22 HBL22 HB25 HBL25 HB27 HBL27 HB28 HBL28 HB32 HBL32 HKP HKQ HKR HSB
  go_wp2_with fail
  refine C1.out.mono ?_
  rintro e w34 ⟨vb,vr,us,rfl,ho,hr,hb⟩
  have HW34:=pH (pbt HW.out hb)
  have HBX34:=pH (pz11 HBX.out hb)
  have HSA34:=pH (Kd.C_below HSA.out hb)
  obtain ⟨gl,cl,rfl,_,_⟩:=own_spot ho 1 rfl (by decide)
  obtain ⟨gr,cr,rfl,_,_⟩:=own_spot hr.own 2 hr.len (by decide)
  have HO:=pH ho
  have HR:=pH hr
  clear ho hr hb C1 HW HBX HSA
  go_wp2_with (first|((with_reducible refine pz10 (N:=40) rfl ?_);refine build_event rfl (N:=40) rfl 57 _ rfl (pz13 ⟨[113,47,113],0,zeroN⟩).toArray (by kernel_rfl) ?_;go_frame)|((with_reducible refine pz10 (N:=41) rfl ?_);refine pz34 rfl (N:=41) rfl (cs:=(flat pz13 s23).toArray) (t:=57) (n:=1) (by kernel_rfl) ?_;intro g41 hg w41 hb hbl;have HB41:=pH hb;have HBL41:=pH hbl;clear hg hb hbl;go_frame)|((with_reducible refine pz10 (N:=42) rfl ?_);refine pz34 rfl (N:=42) rfl (cs:=([.slice (some ⟨g41,0,none⟩) 1 1]).toArray) (t:=35) (n:=1) (by kernel_rfl) ?_;intro g42 hg w42 hb hbl;have HB42:=pH hb;have HBL42:=pH hbl;clear hg hb hbl;go_frame)|((with_reducible refine pz10 (N:=43) rfl ?_);refine pz34 rfl (N:=43) rfl (cs:=([.slice (some ⟨g22,0,none⟩) 1 1,.slice (some ⟨g42,0,none⟩) 1 1]).toArray) (t:=41) (n:=2) (by kernel_rfl) ?_;intro g43 hg w43 hb hbl;have HB43:=pH hb;have HBL43:=pH hbl;clear hg hb hbl;go_frame))
  have HW43:=pH (pbt (pbt (pbt (HW34.out) HBL41.out) HBL42.out) HBL43.out)
  have HBX43:=pH (pz11 (pz11 (pz11 (HBX34.out) HBL41.out) HBL42.out) HBL43.out)
  have HO43:=pH (((HO.out.ext HBL41.out).ext HBL42.out).ext HBL43.out)
  have HR43:=pH (((HR.out.ext HBL41.out).ext HBL42.out).ext HBL43.out)
  have c2:=extract_calls w43 (hG.ext HW43.out) (some ⟨g43,0,none⟩) 2 [[p23].map (List.map ofCh),[s23].map (List.map ofCh)] (rows_block (vs:=[(some ⟨g22,0,none⟩,1,1),(some ⟨g42,0,none⟩,1,1)]) HB43.out (by decide) (((RowsAt.nil _).cons rfl (by decide) (rows_block (vs:=[(some ⟨g41,0,none⟩,1,1)]) (pz11 (HB42.out) HBL43.out) (by decide) ((RowsAt.nil _).cons rfl (by decide) (chs_C (l:=s23) (pz11 (pz11 (HB41.out) HBL42.out) HBL43.out) (by decide))))).cons rfl (by decide) (Kd.C_below (Kd.C_below (Kd.C_below (HSA34.out) HBL41.out) HBL42.out) HBL43.out))) (by decide) (fun s hs=>by
    simp only [List.mem_cons,List.not_mem_nil,or_false] at hs
    rcases hs with rfl|rfl
    · exact fa23
    · exact fs23)
  rw [ss_back,x23b] at c2
  have C2:=pH c2
  clear c2 HB41 HBL41 HB42 HBL42 HB43 HBL43 HW34 HBX34 HSA34 HO HR
  go_wp2_with fail
  refine C2.out.mono ?_
  rintro e w44 ⟨v8,v9,us2,rfl,_,_,hb⟩
  have HW44:=pH (pbt HW43.out hb)
  have HBX44:=pH (pz11 HBX43.out hb)
  have HO44:=pH (HO43.out.ext hb)
  have HR44:=pH (HR43.out.ext hb)
  clear hb C2 HW43 HBX43 HO43 HR43
  have c3:=extract_calls w44 (hG.ext HW44.out) none 0 [] (Kd.C_nil _ _) (by decide) (fun s hs=>by cases hs)
  rw [List.map_nil,x23c] at c3
  have C3:=pH c3
  clear c3
  go_wp2_with fail
  refine C3.out.mono ?_
  rintro e w50 ⟨va,vc,us3,rfl,_,_,hb⟩
  have HW50:=pH (pbt HW44.out hb)
  have HBX50:=pH (pz11 HBX44.out hb)
  have HO50:=pH (HO44.out.ext hb)
  have HR50:=pH (HR44.out.ext hb)
  clear hb C3 HW44 HBX44 HO44 HR44
  go_upto_region 8 with (first|((with_reducible refine pz10 (N:=55) rfl ?_);refine build_event rfl (N:=55) rfl 61 _ rfl (dgC dg1).toArray (by kernel_rfl) ?_;go_frame)|((with_reducible refine pz10 (N:=56) rfl ?_);refine build_event rfl (N:=56) rfl 61 _ rfl (dgC dg2).toArray (by kernel_rfl) ?_;go_frame)|((with_reducible refine pz10 (N:=57) rfl ?_);refine pz34 rfl (N:=57) rfl (cs:=(flat dgC [dg1,dg2]).toArray) (t:=61) (n:=2) (by kernel_rfl) ?_;intro g57 hg w57 hb hbl;have HB57:=pH hb;have HBL57:=pH hbl;clear hg hb hbl;go_frame))
  have HW57:=pH (pbt HW50.out HBL57.out)
  have HBX57:=pH (pz11 HBX50.out HBL57.out)
  have HD57:=pH (dgs_block HB57.out)
  have HL57:=pH (lies_one (HO50.out.ext HBL57.out))
  obtain ⟨g0,k0,g1',k1,q1,q2,q3,q4⟩:=rests_two (HR50.out.ext HBL57.out)
  have HQ1:=pH q1
  have HQ2:=pH q2
  have HQ3:=pH q3
  have HQ4:=pH q4
  clear HW50 HBX50 HO50 HR50 HB57 HBL57 q3 q4
  go_upto_region 10 with (fail)
  dsimp only [List.append]
  clear q1 q2
  refine start_ (n:=68) (S:=fun w'=>Below w57.heap.size w57 w') (ds:=[]) (ms 68 0) (by kernel_rfl) rfl rfl (Below.refl _ _).drew (fun hHeld=>?_)
  iterate 2 (refine pW ?_ rfl rfl (by kernel_rfl) (fun _ _ _=>id) (by rfl) ?_ ?_ ?_ ?_;rotate_left;(intro w';go_simp;with_reducible rfl);rotate_left;(simp only [aP,i64_w,i32_w];rfl))
  refine take_ (i:=2) (N:=some 82) (v:=.agg (pz13 ⟨[97],0,dN⟩).toArray) (a':=?_) (ms 68 3) rfl rfl (by kernel_rfl) (fun _ _ _ h=>h) (yi_agg (by rfl) 57 _ rfl _ rfl _ _ (fun w' hb=>HL57.out.below hb) h33 rfl rfl) hHeld ?_ ?_;rotate_left;(simp only [aP,i64_w,i32_w];rfl)
  refine take_ (i:=3) (N:=some 83) (v:=.agg (pz18 dN).toArray) (a':=?_) (ms 68 4) rfl rfl (by kernel_rfl) (fun _ _ _ h=>h) (yi_agg (by rfl) 28 _ rfl _ rfl _ _ (fun w' hb=>pz26 (pz11 HBX57.out hb)) h31 rfl rfl) hHeld ?_ ?_;rotate_left;(simp only [aP,i64_w,i32_w];rfl)
  refine pure_ (i:=4) (N:=some 84) (v:=.agg (pz13 ⟨[97],0,dN⟩).toArray) (a':=?_) (ms 68 5) rfl rfl (by kernel_rfl) (fun _ _ _ h=>h) (Or.inl ⟨by rfl,fun w'=>by kernel_rfl⟩) ?_ ?_;rotate_left;(simp only [aP,i64_w,i32_w];rfl)
  iterate 4 (refine pW ?_ rfl rfl (by kernel_rfl) (fun _ _ _=>id) (by rfl) ?_ ?_ ?_ ?_;rotate_left;(intro w';go_simp;with_reducible rfl);rotate_left;(simp only [aP,i64_w,i32_w];rfl))
  (refine take_ (i:=9) (N:=some 89) (v:=?_) (a':=?_) (ms 68 10) rfl rfl (by kernel_rfl) (fun _ _ _ h=>h) (Or.inl ⟨by rfl,?_⟩) hHeld ?_ ?_;rotate_left;(intro w' hS';have q9:=pz25 hS' HQ1.out;go_simp;with_reducible rfl);rotate_left;(simp only [aP,i64_w,i32_w];rfl))
  iterate 2 (refine pW ?_ rfl rfl (by kernel_rfl) (fun _ _ _=>id) (by rfl) ?_ ?_ ?_ ?_;rotate_left;(intro w';go_simp;with_reducible rfl);rotate_left;(simp only [aP,i64_w,i32_w];rfl))
  as_aux_lemma =>
   (refine take_ (i:=12) (N:=some 92) (v:=?_) (a':=?_) (ms 68 13) rfl rfl (by kernel_rfl) (fun _ _ _ h=>h) (Or.inl ⟨by rfl,?_⟩) hHeld ?_ ?_;rotate_left;(intro w' hS';have q9:=pz25 hS' HQ3.out;go_simp;with_reducible rfl);rotate_left;(simp only [aP,i64_w,i32_w];rfl))
   iterate 5 (refine pW ?_ rfl rfl (by kernel_rfl) (fun _ _ _=>id) (by rfl) ?_ ?_ ?_ ?_;rotate_left;(intro w';go_simp;with_reducible rfl);rotate_left;(simp only [aP,i64_w,i32_w];rfl))
   (refine take_ (i:=18) (N:=some 98) (v:=?_) (a':=?_) (ms 68 19) rfl rfl (by kernel_rfl) (fun _ _ _ h=>h) (Or.inl ⟨by rfl,?_⟩) hHeld ?_ ?_;rotate_left;(intro w' hS';have q9:=pz25 hS' HQ2.out;go_simp;with_reducible rfl);rotate_left;(simp only [aP,i64_w,i32_w];rfl))
   iterate 2 (refine pW ?_ rfl rfl (by kernel_rfl) (fun _ _ _=>id) (by rfl) ?_ ?_ ?_ ?_;rotate_left;(intro w';go_simp;with_reducible rfl);rotate_left;(simp only [aP,i64_w,i32_w];rfl))
   (refine take_ (i:=21) (N:=some 101) (v:=?_) (a':=?_) (ms 68 22) rfl rfl (by kernel_rfl) (fun _ _ _ h=>h) (Or.inl ⟨by rfl,?_⟩) hHeld ?_ ?_;rotate_left;(intro w' hS';have q9:=pz25 hS' HQ4.out;go_simp;with_reducible rfl);rotate_left;(simp only [aP,i64_w,i32_w];rfl))
   iterate 2 (refine pW ?_ rfl rfl (by kernel_rfl) (fun _ _ _=>id) (by rfl) ?_ ?_ ?_ ?_;rotate_left;(intro w';go_simp;with_reducible rfl);rotate_left;(simp only [aP,i64_w,i32_w];rfl))
   as_aux_lemma =>
    iterate 12 (refine pW ?_ rfl rfl (by kernel_rfl) (fun _ _ _=>id) (by rfl) ?_ ?_ ?_ ?_;rotate_left;(intro w';go_simp;with_reducible rfl);rotate_left;(simp only [aP,i64_w,i32_w];rfl))
    as_aux_lemma =>
     iterate 11 (refine pW ?_ rfl rfl (by kernel_rfl) (fun _ _ _=>id) (by rfl) ?_ ?_ ?_ ?_;rotate_left;(intro w';go_simp;with_reducible rfl);rotate_left;(simp only [aP,i64_w,i32_w];rfl))
     as_aux_lemma =>
      refine pW ?_ rfl rfl (by kernel_rfl) (fun _ _ _=>id) (by rfl) ?_ ?_ ?_ ?_;rotate_left;(intro w';go_simp;with_reducible rfl);rotate_left;(simp only [aP,i64_w,i32_w];rfl)
      refine one_ (i:=48) (N:=some 128) (ms 68 49) rfl rfl (by kernel_rfl) (by decide) (fun K hK=>?_)
      refine goes_ Tryz.func35 (by kernel_rfl) rfl #[.slice (some ⟨g57,0,none⟩) 1 2,.slice (some ⟨g57,0,none⟩) 2 2] (by rfl) rfl rfl (by simp only [pM];rfl) ?_
      refine (prefix_calls _ (some ⟨g57,0,none⟩) 2 [dg1] ((HD57.out.below hHeld).take 1) (some ⟨g57,0,none⟩) 2 [dg1,dg2] (HD57.out.below hHeld) (by decide) (by decide) (by decide) (fun h=>by cases h) true ⟨fun _=>rfl,fun _=>rfl⟩).mono ?_
      rintro x w128 ⟨rfl,hb⟩
      refine ⟨_,rfl,?_⟩
      have hS128:Below w57.heap.size w57 w128:=pbt hHeld hb
      refine hK.out _ _ hS128 (fun hHeld=>?_)
      clear hK K hb
      refine norm_ (a':=?_) ?_ ?_
      rotate_left
      · show Act.put _ (some 128) _=_
        (simp only [aP,i64_w,i32_w];rfl)
      iterate 4 (refine pW ?_ rfl rfl (by kernel_rfl) (fun _ _ _=>id) (by rfl) ?_ ?_ ?_ ?_;rotate_left;(intro w';go_simp;with_reducible rfl);rotate_left;(simp only [aP,i64_w,i32_w];rfl))
      as_aux_lemma =>
       refine pW ?_ rfl rfl (by kernel_rfl) (fun _ _ _=>id) (by rfl) ?_ ?_ ?_ ?_;rotate_left;(intro w';go_simp;with_reducible rfl);rotate_left;(simp only [aP,i64_w,i32_w];rfl)
       refine one_ (i:=54) (N:=some 134) (ms 68 55) rfl rfl (by kernel_rfl) (by decide) (fun K hK=>?_)
       refine goes_ Tryz.func35 (by kernel_rfl) rfl #[.slice (some ⟨g57,0,none⟩) 2 2,.slice (some ⟨g57,0,none⟩) 1 2] (by rfl) rfl rfl (by simp only [pM];rfl) ?_
       refine (prefix_calls _ (some ⟨g57,0,none⟩) 2 [dg1,dg2] (HD57.out.below hHeld) (some ⟨g57,0,none⟩) 2 [dg1] ((HD57.out.below hHeld).take 1) (by decide) (by decide) (by decide) (fun h=>by cases h) false ⟨(fun h=>by cases h),fun h=>absurd (congrArg List.length h) (by decide)⟩).mono ?_
       rintro x w134 ⟨rfl,hb⟩
       refine ⟨_,rfl,?_⟩
       have hS134:Below w57.heap.size w57 w134:=pbt hHeld hb
       refine hK.out _ _ hS134 (fun hHeld=>?_)
       clear hK K hb
       refine norm_ (a':=?_) ?_ ?_
       rotate_left
       · show Act.put _ (some 134) _=_
         (simp only [aP,i64_w,i32_w];rfl)
       iterate 5 (refine pW ?_ rfl rfl (by kernel_rfl) (fun _ _ _=>id) (by rfl) ?_ ?_ ?_ ?_;rotate_left;(intro w';go_simp;with_reducible rfl);rotate_left;(simp only [aP,i64_w,i32_w];rfl))
       as_aux_lemma =>
        refine pW ?_ rfl rfl (by kernel_rfl) (fun _ _ _=>id) (by rfl) ?_ ?_ ?_ ?_;rotate_left;(intro w';go_simp;with_reducible rfl);rotate_left;(simp only [aP,i64_w,i32_w];rfl)
        refine one_ (i:=61) (N:=some 141) (ms 68 62) rfl rfl (by kernel_rfl) (by decide) (fun K hK=>?_)
        refine goes_ Tryz.func35 (by kernel_rfl) rfl #[.slice (some ⟨g57,32,none⟩) 1 1,.slice (some ⟨g57,0,none⟩) 2 2] (by rfl) rfl rfl (by simp only [pM];rfl) ?_
        refine (prefix_calls _ (some ⟨g57,32,none⟩) 1 [dg2] (by have h:=(HD57.out.below hHeld).drop 1;rwa [Addr.add_mid] at h) (some ⟨g57,0,none⟩) 2 [dg1,dg2] (HD57.out.below hHeld) (by decide) (by decide) (by decide) (fun h=>by cases h) false ⟨(fun h=>by cases h),fun h=>absurd (List.cons.inj h).1.symm dg_ne⟩).mono ?_
        rintro x w141 ⟨rfl,hb⟩
        refine ⟨_,rfl,?_⟩
        have hS141:Below w57.heap.size w57 w141:=pbt hHeld hb
        refine hK.out _ _ hS141 (fun hHeld=>?_)
        clear hK K hb
        refine norm_ (a':=?_) ?_ ?_
        rotate_left
        · show Act.put _ (some 141) _=_
          (simp only [aP,i64_w,i32_w];rfl)
        iterate 3 (refine pW ?_ rfl rfl (by kernel_rfl) (fun _ _ _=>id) (by rfl) ?_ ?_ ?_ ?_;rotate_left;(intro w';go_simp;with_reducible rfl);rotate_left;(simp only [aP,i64_w,i32_w];rfl))
        refine one_ (i:=65) (N:=some 145) (ms 68 66) rfl rfl (by kernel_rfl) (by decide) (fun K hK=>?_)
        refine goes_ Tryz.func35 (by kernel_rfl) rfl #[.slice none 0 0,.slice none 0 0] (by rfl) rfl rfl (by simp only [pM];rfl) ?_
        refine (prefix_calls _ none 0 [] (DgAt.nil _ _) none 0 [] (DgAt.nil _ _) (by decide) (by decide) (by decide) (fun _=>rfl) true ⟨fun _=>rfl,fun _=>rfl⟩).mono ?_
        rintro x w145 ⟨rfl,hb⟩
        refine ⟨_,rfl,?_⟩
        have hS145:Below w57.heap.size w57 w145:=pbt hHeld hb
        refine hK.out _ _ hS145 (fun hHeld=>?_)
        clear hK K hb
        refine norm_ (a':=?_) ?_ ?_
        rotate_left
        · show Act.put _ (some 145) _=_
          (simp only [aP,i64_w,i32_w];rfl)
        iterate 2 (refine pW ?_ rfl rfl (by kernel_rfl) (fun _ _ _=>id) (by rfl) ?_ ?_ ?_ ?_;rotate_left;(intro w';go_simp;with_reducible rfl);rotate_left;(simp only [aP,i64_w,i32_w];rfl))
        refine done_ (by kernel_rfl) ?_
        go_wp2_with fail
        go_ret
        exact ⟨rfl,pbt HW57.out hHeld⟩
end Go.Proofs.Zq
end
section
namespace Go.Proofs.Zq
open Go.ChangeShapes Go.WideShapes Go.ChangeAt Go.RowKit Go.WideElems Go.Proofs.YtjghikkboekonaaGreatDoor Go.Proofs.Zw.PrintWords
section
variable {H:Type} {enc:TypeId×Value→H} {W:World} {base:Nat} {spare:Nat→Bool} {held:Bool}
instance:Inhabited Dg:=⟨⟨List.replicate 32 0,by decide⟩⟩
theorem dg_open {fuel:Nat} {cs:List Value} {y:DataW H×List MemPlace} (h:DataW.trod enc Tryz.prog W base spare held fuel 61 cs=some y):∃ d:Dg,cs=dgC d:=by
 obtain ⟨xs,m,_,_,hl,hlen,hf⟩:=DataW.trod_array Tryz.underlying61 h
 have hC:cs.length=32:=hl.trans (by kernel_rfl)
 have h1:Tryz.prog.cellsOf 5=1:=by kernel_rfl
 have hch:∃ F:Nat→UInt8,∀ i,i<32→cs[i]?=some (dgV (F i)):=by
  refine Deep.choose_lt (p:=fun i x=>cs[i]?=some (dgV x)) fun i hi=>?_
  have hx:=hf i hi
  rw [h1,Nat.mul_one] at hx
  rw [List.getElem?_eq_getElem (by omega)] at hx
  obtain ⟨n,e1,_,e2⟩:=DataW.trod_int Tryz.underlying5 hx
  have hb:0≤n∧n≤255:=by simpa [Lit.wf,IntKind.min,IntKind.max,IntKind.signed,IntKind.bits] using e2
  refine ⟨UInt8.ofNat n.toNat,?_⟩
  have e3:((cs.drop i).take 1)[0]?=some (Value.int .u8 n):=by rw [e1];rfl
  rw [List.getElem?_take_of_lt (by decide),List.getElem?_drop,Nat.add_zero] at e3
  rw [e3]
  unfold dgV
  have h4:(UInt8.ofNat n.toNat).toNat=n.toNat:=by
   rw [UInt8.toNat_ofNat']
   omega
  rw [h4,Int.toNat_of_nonneg hb.1]
 obtain ⟨F,hF⟩:=hch
 refine ⟨⟨(List.range 32).map F,by simp⟩,?_⟩
 apply List.ext_getElem?
 intro i
 unfold dgC
 by_cases hi:i<32
 ·rw [hF i hi]
  simp [hi]
 ·rw [List.getElem?_eq_none (by omega),List.getElem?_eq_none (by simp;omega)]
set_option maxRecDepth 100000 in
theorem dgs_arg {v:Value} {d:DataW H} {p:List MemPlace} (hv:Value.okWide Tryz.prog W .any base 59 v) (h:DataW.Trod enc Tryz.prog W 0 (fun _=>true) true 59 v d p) (hw:∀ n ∈ d.weights Tryz.prog 59,n≤reachBytes) :
  ∃ (a:Option Addr) (l:List Dg) (cap:Nat),v=.slice a l.length cap∧RowAt dgC 32 W a l∧(a=none→l=[]∧cap=0)∧l.length≤cap∧l.length≤1000000000000000:=by
 obtain ⟨a0,len0,cap0,rfl⟩:=okWide_slice Tryz.underlying59 hv
 obtain ⟨fuel,hf⟩:=h
 obtain ⟨a,l,cap,hcs,hrow,hlc,hcm,hsz,hlen⟩:=row_open (k:=32) (cells:=dgC) (sz:=fun _ _=>False) Tryz.underlying59 (by kernel_rfl) (by decide) dgC_len (fun h=>by
  obtain ⟨x,hx⟩:=dg_open h
  exact ⟨x,hx,fun n hn=>hn.elim⟩) hf
 have hno:a=none→l=[]∧cap=0:=fun ha=>by
  subst ha
  rcases Deep.open_slice Tryz.underlying59 hf with ⟨h0,_⟩|⟨a',len,cap',m,n,D,Pl,hcs2,_⟩
  ·rw [hcs] at h0
   simp only [List.cons.injEq,Value.slice.injEq,and_true] at h0
   exact ⟨List.eq_nil_of_length_eq_zero h0.2.1,h0.2.2⟩
  ·rw [hcs] at hcs2
   simp at hcs2
 simp [Value.cells] at hcs
 obtain ⟨rfl,rfl,rfl⟩:=hcs
 have hb:Tryz.prog.bytesOf 61=32:=by kernel_rfl
 refine ⟨a0,l,cap0,rfl,hrow,hno,hlc,?_⟩
 by_cases h0:l=[]
 ·rw [h0];simp
 ·obtain ⟨n,h1,h2⟩:=hlen h0
  have:=hw n h1
  rw [reach_is] at this
  rw [hb] at h2
  omega
end
end Go.Proofs.Zq
end
section
namespace Go.Proofs.Zq
open Go.RowKit Go.Proofs.YtjghikkboekonaaGreatDoor Go.Proofs.Zw.PrintWords Go.Proofs.Zw.PrintLast Go.Proofs.Zw.PrintMore
attribute [local go_sem high] eqDg
theorem dgC_one:∀ d:Dg,∀ u ∈ dgC d,u.oneCell'=true:=by
 intro d u hu
 obtain ⟨b,_,rfl⟩:=List.mem_map.1 hu
 rfl
theorem dgAt_row {w:World} {A:Option Addr} {l:List Dg} (h:RowAt dgC 32 w A l):DgAt w A l:=fun i d hd=>by
 obtain ⟨b,o,rfl,hc⟩:=h i d hd
 refine ⟨_,rfl,fun j v hv=>?_⟩
 rw [Addr.add_add,YtjghikkboekonaaGreatDoor.add_at,← Nat.add_assoc]
 exact hc j v hv
def dgZero:Array Value:=(List.replicate 32 (Value.int .u8 0)).toArray
theorem info_dz:(Tryz.prog.info? 61).map (fun i=>(i.zero,i.size,i.bytes))=some (some (.agg dgZero),32,32):=by kernel_rfl
theorem pre_step (l m:List Dg) (i:Nat) (hi:i<l.length) (hj:i<m.length):decide (l.take (i + 1)=m.take (i + 1))=(decide (l.take i=m.take i) && decide (l[i]=m[i])):=by
 rw [List.take_succ_eq_append_getElem hi,List.take_succ_eq_append_getElem hj,Bool.eq_iff_iff,Bool.and_eq_true,decide_eq_true_iff,decide_eq_true_iff,decide_eq_true_iff]
 constructor
 ·intro h
  have h1:=List.append_inj h (by rw [List.length_take,List.length_take];omega)
  exact ⟨h1.1,(List.cons.inj h1.2).1⟩
 ·rintro ⟨h1,h2⟩
  rw [h1,h2]
theorem pre_end (l m:List Dg) (n i:Nat) (hn:n≤l.length) (h:i=n∨(i=m.length∧i<n)):(decide (n≤m.length) && decide (l.take i=m.take i))=true↔l.take n=m.take (l.take n).length:=by
 rw [List.length_take,Nat.min_eq_left hn,Bool.and_eq_true,decide_eq_true_iff,decide_eq_true_iff]
 constructor
 ·rintro ⟨h1,h2⟩
  rcases h with rfl|⟨h3,h4⟩
  ·exact h2
  ·omega
 ·intro h2
  have h3:=congrArg List.length h2
  rw [List.length_take,List.length_take] at h3
  refine ⟨by omega,?_⟩
  rcases h with rfl|⟨h3,h4⟩
  ·exact h2
  ·omega
set_option maxRecDepth 100000 in
set_option maxHeartbeats 16000000 in
theorem commonPrefix_calls (w:World) (hG:GL w) (A0:Option Addr) (c0:Nat) (l0:List Dg) (hr0:RowAt dgC 32 w A0 l0) (hA0:A0=none→l0=[]∧c0=0) (hc0:l0.length≤c0) (hn0:l0.length≤1000000000000000)
    (A1:Option Addr) (c1:Nat) (l1:List Dg) (hr1:RowAt dgC 32 w A1 l1) (hA1:A1=none→l1=[]∧c1=0) (hc1:l1.length≤c1) (hn1:l1.length≤1000000000000000)
    (a2:Int) (hw2:(Lit.int .i64 a2).wf=true) :
    Calls Tryz.prog 12 #[.slice A0 l0.length c0,.slice A1 l1.length c1,.int .i64 a2] w fun e w'=>e=.returned (.bool true)∧Below w.heap.size w w':=by
  have HR0:=pH hr0
  have HA0:=pH hA0
  have HC0:=pH hc0
  have HD0:=pH (dgAt_row hr0)
  clear hr0 hA0
  have HR1:=pH hr1
  have HA1:=pH hA1
  have HC1:=pH hc1
  have HD1:=pH (dgAt_row hr1)
  clear hr1 hA1
  obtain ⟨i0,hi,hz0,hz1,hz2⟩:=info_parts info_dz
  have HI:=pH hi
  have HZ0:=pH hz0
  have HZ1:=pH hz1
  have HZ2:=pH hz2
  have h61:=Tryz.underlying61
  have h59:=Tryz.underlying59
  clear hi hz0 hz1 hz2
  go_enter Tryz.func12,Tryz.ntmps12
  go_wp2_with fail
  refine (small23_calls w hG).mono ?_
  rintro x w2 ⟨rfl,hb⟩
  have HB2:=pH hb
  clear hb
  by_cases g0:100<l0.length
  · have q0:decide (100<l0.length)=true:=by simpa using g0
    go_wp2_with fail
    go_ret
    exact ⟨rfl,HB2.out⟩
  have q0:decide (100<l0.length)=false:=by simpa using g0
  by_cases g1:100<l1.length
  · have q1:decide (100<l1.length)=true:=by simpa using g1
    go_wp2_with fail
    go_ret
    exact ⟨rfl,HB2.out⟩
  have q1:decide (100<l1.length)=false:=by simpa using g1
  by_cases g2:a2<0
  · have q2:decide (a2<0)=true:=by simpa using g2
    go_wp2_with fail
    go_ret
    exact ⟨rfl,HB2.out⟩
  obtain ⟨n,rfl⟩:∃ n:Nat,a2=n:=⟨a2.toNat,by omega⟩
  have q2:decide ((n:Int)<0)=false:=by simp
  by_cases g3:l0.length<n
  · have q3:decide (l0.length<n)=true:=by simpa using g3
    go_wp2_with fail
    go_ret
    exact ⟨rfl,HB2.out⟩
  have q3:decide (l0.length<n)=false:=by simpa using g3
  have hnl:n≤l0.length:=by omega
  have hl0:l0.length≤100:=by omega
  have hl1:l1.length≤100:=by omega
  have hnc:n≤c0:=by omega
  cases A0 with
  | none =>
    obtain ⟨h1,h2⟩:=HA0.out rfl
    have hn0':n=0:=by rw [h1] at hnl;simpa using hnl
    subst h1
    subst h2
    subst hn0'
    clear hnl
    go_wp2_with fail
    go_loopg [8,9] (0 + 1) (fun gq v u wr=>∃ (b:Bool) (i:Nat),v=.bool b∧u=.int .i64 i∧0<gq + i∧Hid (i≤0)∧Hid (i≤l1.length)∧Hid (b=(decide (0≤l1.length) && decide (([]:List Dg).take i=l1.take i)))∧Hid (Below w.heap.size w wr))
    case atStart=>exact ⟨_,0,rfl,rfl,by omega,pH (by omega),pH (by omega),pH (by simp),HB2⟩
    case round =>
     obtain ⟨b,i,rfl,rfl,hgi,HI1,HI2,HBI,HBX⟩:=hrel
     by_cases hi:i<0
     · exact absurd hi (Nat.not_lt_zero _)
     · have hbe:b=true↔([]:List Dg).take 0=l1.take (([]:List Dg).take 0).length:=by rw [HBI.out];exact pre_end [] l1 0 i (Nat.zero_le _) (.inl (by have:=HI1.out;omega))
       have HBE:=pH hbe
       clear hbe HBI
       have HLN:Hid ((([]:List Dg).take 0).length=0):=pH (by rw [List.length_take];omega)
       have c1:=(prefix_calls wr none 0 (([]:List Dg).take 0) ((HD0.out.below HBX.out).take 0) none 0 ([]:List Dg) (HD0.out.below HBX.out) (by rw [List.length_take];omega) (by omega) HC0.out (fun _=>rfl) true ⟨fun _=>by rw [HLN.out],fun _=>rfl⟩)
       rw [HLN.out] at c1
       have C1:=pH c1
       clear c1
       go_wp2_with fail
       refine C1.out.mono ?_
       rintro x w66 ⟨rfl,hb⟩
       have HB66:=pH (pbt HBX.out hb)
       have c2:=(prefix_calls w66 none 0 (([]:List Dg).take 0) ((HD0.out.below HB66.out).take 0) A1 c1 l1 (HD1.out.below HB66.out) (by rw [List.length_take];omega) (by omega) HC1.out (fun h=>(HA1.out h).2) b HBE.out)
       rw [HLN.out] at c2
       have C2:=pH c2
       clear hb c2 C1 HBX
       go_wp2_with fail
       refine C2.out.mono ?_
       rintro x w73 ⟨rfl,hb⟩
       have HB73:=pH (pbt HB66.out hb)
       have hbb:(b == b)=true:=by simp
       clear hb C2 HB66
       go_wp2_with (first|((with_reducible refine pz10 (N:=81) rfl ?_);refine wpList_append_row (by rfl) _ _ 59 rfl w73.heap.size 61 32 32 i0 (.agg dgZero) h59 HI.out HZ0.out HZ1.out HZ2.out rfl (by decide) dgC_len dgC_one _ [] rfl (own_empty dgC 32 w73.heap.size w73 (Nat.le_refl _)) none ([]:List Dg).length 0 ([]:List Dg) rfl rfl ((HR0.out.ext HB73.out).ext (pbn _ _)) (fun _=>rfl) ?c1 ?c2 ?c3 ?_))
       case c1=>unfold maxLen;simp <;> omega
       case c2=>simp <;> omega
       case c3=>simp
       intro v4 w4 ho hg
       have hb4:Below w73.heap.size w73 w4:=((Below.refl w73.heap.size w73).alloc (Nat.le_refl _) _).grown hg (by simp) (fun j hj=>by simp [Value.ownBlock] at hj;omega)
       have HO:=pH ho
       have HB4:=pH hb4
       have HBW4:=pH (pbt HB73.out hb4)
       have HSZ:Hid (w73.heap.size≤w4.heap.size):=pH hb4.size
       clear ho hg hb4
       go_wp2_with (first|((with_reducible refine pz10 (N:=83) rfl ?_);refine wpList_append_row (by rfl) _ _ 59 rfl w73.heap.size 61 32 32 i0 (.agg dgZero) h59 HI.out HZ0.out HZ1.out HZ2.out rfl (by decide) dgC_len dgC_one _ ([]:List Dg) rfl HO.out A1 l1.length c1 l1 rfl rfl (HR1.out.ext HBW4.out) (fun h=>(HA1.out h).1) ?d1 ?d2 ?d3 ?_))
       case d1=>unfold maxLen;omega
       case d2=>omega
       case d3=>exact HSZ.out
       intro v5 w5 ho hg
       have hb5:Below w73.heap.size w73 w5:=HB4.out.grown hg HSZ.out (fun j hj=>(World.ownsRow.lt HO.out j hj).1)
       obtain ⟨z,hz⟩:∃ z,z=([]:List Dg) ++ l1:=⟨_,rfl⟩
       replace ho:Owr dgC 61 32 w73.heap.size w5 v5 z:=by rw [hz];exact ho
       have hzl:z.length≤200:=by rw [hz,List.length_append];omega
       obtain ⟨Az,cz,rfl,hzn,hzc⟩:=Owr.val ho
       have HDZ:=pH (dgAt_row (ho.row dgC_len))
       have HZT:Hid (([]:List Dg)=z.take ([]:List Dg).length):=pH (by rw [hz,List.take_left'] <;> rfl)
       have HB5:=pH (pbt HB73.out hb5)
       have HZN:=pH hzn
       have HZC:=pH hzc
       clear ho hg hb5 hz hzn hzc HO HB4 HBW4 HSZ HB73 HI HZ0 HZ1 HZ2
       have C3:=pH (prefix_calls w5 none 0 ([]:List Dg) (HD0.out.below HB5.out) Az cz z HDZ.out (by omega) (by omega) HZC.out (fun h=>(HZN.out h).2) true ⟨fun _=>HZT.out,fun _=>rfl⟩)
       go_wp2_with fail
       refine C3.out.mono ?_
       rintro x w84 ⟨rfl,hb⟩
       have HB84:=pH (pbt HB5.out hb)
       obtain ⟨p,hp⟩:∃ p,p=decide (([]:List Dg)=l1.take ([]:List Dg).length):=⟨_,rfl⟩
       have HP:Hid (p=true↔([]:List Dg)=l1.take ([]:List Dg).length):=pH (by rw [hp,decide_eq_true_iff])
       have C4:=pH (prefix_calls w84 none 0 ([]:List Dg) (HD0.out.below HB84.out) A1 c1 l1 (HD1.out.below HB84.out) (by omega) (by omega) HC1.out (fun h=>(HA1.out h).2) p HP.out)
       clear hb hp C3 HB5 HDZ
       go_wp2_with fail
       refine C4.out.mono ?_
       rintro x w89 ⟨rfl,hb⟩
       have HB89:=pH (pbt HB84.out hb)
       clear hb C4 HB84
       cases p with
       | false =>
         go_wp2_with fail
         go_ret
         exact ⟨rfl,HB89.out⟩
       | true =>
       obtain ⟨q,hq⟩:∃ q,q=decide (l1=([]:List Dg).take l1.length):=⟨_,rfl⟩
       have HQ:Hid (q=true↔l1=([]:List Dg).take l1.length):=pH (by rw [hq,decide_eq_true_iff])
       have C5:=pH (prefix_calls w89 A1 c1 l1 (HD1.out.below HB89.out) none 0 ([]:List Dg) (HD0.out.below HB89.out) (by omega) (by omega) HC0.out (fun _=>rfl) q HQ.out)
       clear hq
       go_wp2_with fail
       refine C5.out.mono ?_
       rintro x w94 ⟨rfl,hb⟩
       have HB94:=pH (pbt HB89.out hb)
       clear hb C5 HB89
       cases q with
       | false =>
         go_wp2_with fail
         go_ret
         exact ⟨rfl,HB94.out⟩
       | true =>
         have heq:([]:List Dg).length=l1.length:=by
           have h1:=congrArg List.length (HP.out.1 (by simp))
           have h2:=congrArg List.length (HQ.out.1 (by simp))
           rw [List.length_take] at h1 h2
           omega
         have h9:((0:Int) == (l1.length:Int))=true:=by rw [← heq];simp
         clear heq
         go_wp2_with fail
         go_ret
         exact ⟨rfl,HB94.out⟩
  | some ad =>
    go_wp2_with fail
    go_loopg [8,9] (n + 1) (fun gq v u wr=>∃ (b:Bool) (i:Nat),v=.bool b∧u=.int .i64 i∧n<gq + i∧Hid (i≤n)∧Hid (i≤l1.length)∧Hid (b=(decide (n≤l1.length) && decide (l0.take i=l1.take i)))∧Hid (Below w.heap.size w wr))
    case atStart=>exact ⟨_,0,rfl,rfl,by omega,pH (by omega),pH (by omega),pH (by simp),HB2⟩
    case round =>
     obtain ⟨b,i,rfl,rfl,hgi,HI1,HI2,HBI,HBX⟩:=hrel
     by_cases hi:i<n
     · by_cases hj:i<l1.length
       · cases gk with
         | zero=>omega
         | succ gg =>
           obtain ⟨ad0,had,hat0⟩:=dg_at HD0.out i (by omega)
           obtain rfl:=Option.some.inj had
           obtain ⟨ad1,hA1,hat1⟩:=dg_at HD1.out i hj
           subst hA1
           have hps:=pre_step l0 l1 i (by omega) hj
           have hil:i<l0.length:=by omega
           obtain ⟨e0,he0⟩:∃ e,e=l0[i]:=⟨_,rfl⟩
           obtain ⟨e1,he1⟩:∃ e,e=l1[i]:=⟨_,rfl⟩
           rw [← he0] at hat0 hps
           rw [← he1] at hat1 hps
           have HE0:=pH (hat0.below HBX.out)
           have HE1:=pH (hat1.below HBX.out)
           have HPS:Hid ((decide (n≤l1.length) && decide (l0.take (i + 1)=l1.take (i + 1)))=(b && decide (e0=e1))):=pH (by rw [hps,HBI.out,Bool.and_assoc])
           have HII:Hid (i + 1≤n):=pH hi
           have HJJ:Hid (i + 1≤l1.length):=pH hj
           clear had hat0 hat1 hps he0 he1 HBI
           go_upto_region 8 with (fail)
           cases b with
           | false =>
             as_aux_lemma =>
             refine start_ (n:=13) (S:=fun w'=>Below wr.heap.size wr w') (ds:=[]) (ms 13 0) (by kernel_rfl) rfl rfl (Below.refl _ _).drew (fun hHeld=>?_)
             iterate 2 (refine pW ?_ rfl rfl (by kernel_rfl) (fun _ _ _=>id) (by rfl) ?_ ?_ ?_ ?_;rotate_left;(intro w';go_simp;with_reducible rfl);rotate_left;(simp only [aP,i64_w,i32_w];rfl))
             (refine pN 2 50 (ms 13 3) rfl rfl (by kernel_rfl) (fun _ _ _=>id) (by rfl) ?_ ?_ ?_;rotate_left;(simp only [aP,i64_w,i32_w];rfl))
             (refine pN 3 51 (ms 13 4) rfl rfl (by kernel_rfl) (fun _ _ _=>id) (by rfl) ?_ ?_ ?_;rotate_left;(simp only [aP,i64_w,i32_w];rfl))
             (refine pN 4 52 (ms 13 5) rfl rfl (by kernel_rfl) (fun _ _ _=>id) (by rfl) ?_ ?_ ?_;rotate_left;(simp only [aP,i64_w,i32_w];rfl))
             (refine pN 5 53 (ms 13 6) rfl rfl (by kernel_rfl) (fun _ _ _=>id) (by rfl) ?_ ?_ ?_;rotate_left;(simp only [aP,i64_w,i32_w];rfl))
             (refine pN 6 54 (ms 13 7) rfl rfl (by kernel_rfl) (fun _ _ _=>id) (by rfl) ?_ ?_ ?_;rotate_left;(simp only [aP,i64_w,i32_w];rfl))
             (refine pN 7 55 (ms 13 8) rfl rfl (by kernel_rfl) (fun _ _ _=>id) (by rfl) ?_ ?_ ?_;rotate_left;(simp only [aP,i64_w,i32_w];rfl))
             (refine pN 8 56 (ms 13 9) rfl rfl (by kernel_rfl) (fun _ _ _=>id) (by rfl) ?_ ?_ ?_;rotate_left;(simp only [aP,i64_w,i32_w];rfl))
             (refine pN 9 57 (ms 13 10) rfl rfl (by kernel_rfl) (fun _ _ _=>id) (by rfl) ?_ ?_ ?_;rotate_left;(simp only [aP,i64_w,i32_w];rfl))
             (refine pN 10 58 (ms 13 11) rfl rfl (by kernel_rfl) (fun _ _ _=>id) (by rfl) ?_ ?_ ?_;rotate_left;(simp only [aP,i64_w,i32_w];rfl))
             iterate 2 (refine pW ?_ rfl rfl (by kernel_rfl) (fun _ _ _=>id) (by rfl) ?_ ?_ ?_ ?_;rotate_left;(intro w';go_simp;with_reducible rfl);rotate_left;(simp only [aP,i64_w,i32_w];rfl))
             refine done_ (by kernel_rfl) ?_
             go_wp2_with fail
             go_roundg gg
             case measure=>omega
             case rel=>exact ⟨false,i + 1,rfl,by go_num,by omega,HII,HJJ,pH (by rw [HPS.out,Bool.false_and]),pH (pbt HBX.out hHeld)⟩
           | true =>
             as_aux_lemma =>
             refine start_ (n:=13) (S:=fun w'=>Below wr.heap.size wr w') (ds:=[]) (ms 13 0) (by kernel_rfl) rfl rfl (Below.refl _ _).drew (fun hHeld=>?_)
             iterate 5 (refine pW ?_ rfl rfl (by kernel_rfl) (fun _ _ _=>id) (by rfl) ?_ ?_ ?_ ?_;rotate_left;(intro w';go_simp;with_reducible rfl);rotate_left;(simp only [aP,i64_w,i32_w];rfl))
             refine take_ (i:=5) (N:=some 53) (v:=.agg (dgC e0).toArray) (a':=?_) (ms 13 6) rfl rfl (by kernel_rfl) (fun _ _ _ h=>h) (yi_agg (by rfl) 61 _ rfl _ rfl _ _ (fun w' hb=>HE0.out.below hb) h61 rfl (info_dg _)) hHeld ?_ ?_;rotate_left;(simp only [aP,i64_w,i32_w];rfl)
             iterate 3 (refine pW ?_ rfl rfl (by kernel_rfl) (fun _ _ _=>id) (by rfl) ?_ ?_ ?_ ?_;rotate_left;(intro w';go_simp;with_reducible rfl);rotate_left;(simp only [aP,i64_w,i32_w];rfl))
             refine take_ (i:=9) (N:=some 57) (v:=.agg (dgC e1).toArray) (a':=?_) (ms 13 10) rfl rfl (by kernel_rfl) (fun _ _ _ h=>h) (yi_agg (by rfl) 61 _ rfl _ rfl _ _ (fun w' hb=>HE1.out.below hb) h61 rfl (info_dg _)) hHeld ?_ ?_;rotate_left;(simp only [aP,i64_w,i32_w];rfl)
             iterate 3 (refine pW ?_ rfl rfl (by kernel_rfl) (fun _ _ _=>id) (by rfl) ?_ ?_ ?_ ?_;rotate_left;(intro w';go_simp;with_reducible rfl);rotate_left;(simp only [aP,i64_w,i32_w];rfl))
             refine done_ (by kernel_rfl) ?_
             go_wp2_with fail
             go_roundg gg
             case measure=>omega
             case rel=>exact ⟨decide (e0=e1),i + 1,rfl,by go_num,by omega,HII,HJJ,pH (by rw [HPS.out,Bool.true_and]),pH (pbt HBX.out hHeld)⟩
       · have hbe:b=true↔l0.take n=l1.take (l0.take n).length:=by rw [HBI.out];exact pre_end l0 l1 n i hnl (.inr ⟨by have:=HI2.out;omega,hi⟩)
         have HBE:=pH hbe
         clear hbe HBI
         have HLN:Hid ((l0.take n).length=n):=pH (by rw [List.length_take];omega)
         have c1:=(prefix_calls wr (some ad) c0 (l0.take n) ((HD0.out.below HBX.out).take n) (some ad) c0 l0 (HD0.out.below HBX.out) (by rw [List.length_take];omega) (by omega) HC0.out (fun h=>by cases h) true ⟨fun _=>by rw [HLN.out],fun _=>rfl⟩)
         rw [HLN.out] at c1
         have C1:=pH c1
         clear c1
         go_wp2_with fail
         refine C1.out.mono ?_
         rintro x w66 ⟨rfl,hb⟩
         have HB66:=pH (pbt HBX.out hb)
         have c2:=(prefix_calls w66 (some ad) c0 (l0.take n) ((HD0.out.below HB66.out).take n) A1 c1 l1 (HD1.out.below HB66.out) (by rw [List.length_take];omega) (by omega) HC1.out (fun h=>(HA1.out h).2) b HBE.out)
         rw [HLN.out] at c2
         have C2:=pH c2
         clear hb c2 C1 HBX
         go_wp2_with fail
         refine C2.out.mono ?_
         rintro x w73 ⟨rfl,hb⟩
         have HB73:=pH (pbt HB66.out hb)
         have hbb:(b == b)=true:=by simp
         clear hb C2 HB66
         go_wp2_with (first|((with_reducible refine pz10 (N:=81) rfl ?_);refine wpList_append_row (by rfl) _ _ 59 rfl w73.heap.size 61 32 32 i0 (.agg dgZero) h59 HI.out HZ0.out HZ1.out HZ2.out rfl (by decide) dgC_len dgC_one _ [] rfl (own_empty dgC 32 w73.heap.size w73 (Nat.le_refl _)) (some ad) l0.length c0 l0 rfl rfl ((HR0.out.ext HB73.out).ext (pbn _ _)) (fun h=>by cases h) ?c1 ?c2 ?c3 ?_))
         case c1=>unfold maxLen;simp <;> omega
         case c2=>simp <;> omega
         case c3=>simp
         intro v4 w4 ho hg
         have hb4:Below w73.heap.size w73 w4:=((Below.refl w73.heap.size w73).alloc (Nat.le_refl _) _).grown hg (by simp) (fun j hj=>by simp [Value.ownBlock] at hj;omega)
         have HO:=pH ho
         have HB4:=pH hb4
         have HBW4:=pH (pbt HB73.out hb4)
         have HSZ:Hid (w73.heap.size≤w4.heap.size):=pH hb4.size
         clear ho hg hb4
         go_wp2_with (first|((with_reducible refine pz10 (N:=83) rfl ?_);refine wpList_append_row (by rfl) _ _ 59 rfl w73.heap.size 61 32 32 i0 (.agg dgZero) h59 HI.out HZ0.out HZ1.out HZ2.out rfl (by decide) dgC_len dgC_one _ l0 rfl HO.out A1 l1.length c1 l1 rfl rfl (HR1.out.ext HBW4.out) (fun h=>(HA1.out h).1) ?d1 ?d2 ?d3 ?_))
         case d1=>unfold maxLen;omega
         case d2=>omega
         case d3=>exact HSZ.out
         intro v5 w5 ho hg
         have hb5:Below w73.heap.size w73 w5:=HB4.out.grown hg HSZ.out (fun j hj=>(World.ownsRow.lt HO.out j hj).1)
         obtain ⟨z,hz⟩:∃ z,z=l0 ++ l1:=⟨_,rfl⟩
         replace ho:Owr dgC 61 32 w73.heap.size w5 v5 z:=by rw [hz];exact ho
         have hzl:z.length≤200:=by rw [hz,List.length_append];omega
         obtain ⟨Az,cz,rfl,hzn,hzc⟩:=Owr.val ho
         have HDZ:=pH (dgAt_row (ho.row dgC_len))
         have HZT:Hid (l0=z.take l0.length):=pH (by rw [hz,List.take_left'] <;> rfl)
         have HB5:=pH (pbt HB73.out hb5)
         have HZN:=pH hzn
         have HZC:=pH hzc
         clear ho hg hb5 hz hzn hzc HO HB4 HBW4 HSZ HB73 HI HZ0 HZ1 HZ2
         have C3:=pH (prefix_calls w5 (some ad) c0 l0 (HD0.out.below HB5.out) Az cz z HDZ.out (by omega) (by omega) HZC.out (fun h=>(HZN.out h).2) true ⟨fun _=>HZT.out,fun _=>rfl⟩)
         go_wp2_with fail
         refine C3.out.mono ?_
         rintro x w84 ⟨rfl,hb⟩
         have HB84:=pH (pbt HB5.out hb)
         obtain ⟨p,hp⟩:∃ p,p=decide (l0=l1.take l0.length):=⟨_,rfl⟩
         have HP:Hid (p=true↔l0=l1.take l0.length):=pH (by rw [hp,decide_eq_true_iff])
         have C4:=pH (prefix_calls w84 (some ad) c0 l0 (HD0.out.below HB84.out) A1 c1 l1 (HD1.out.below HB84.out) (by omega) (by omega) HC1.out (fun h=>(HA1.out h).2) p HP.out)
         clear hb hp C3 HB5 HDZ
         go_wp2_with fail
         refine C4.out.mono ?_
         rintro x w89 ⟨rfl,hb⟩
         have HB89:=pH (pbt HB84.out hb)
         clear hb C4 HB84
         cases p with
         | false =>
           go_wp2_with fail
           go_ret
           exact ⟨rfl,HB89.out⟩
         | true =>
         obtain ⟨q,hq⟩:∃ q,q=decide (l1=l0.take l1.length):=⟨_,rfl⟩
         have HQ:Hid (q=true↔l1=l0.take l1.length):=pH (by rw [hq,decide_eq_true_iff])
         have C5:=pH (prefix_calls w89 A1 c1 l1 (HD1.out.below HB89.out) (some ad) c0 l0 (HD0.out.below HB89.out) (by omega) (by omega) HC0.out (fun h=>by cases h) q HQ.out)
         clear hq
         go_wp2_with fail
         refine C5.out.mono ?_
         rintro x w94 ⟨rfl,hb⟩
         have HB94:=pH (pbt HB89.out hb)
         clear hb C5 HB89
         cases q with
         | false =>
           go_wp2_with fail
           go_ret
           exact ⟨rfl,HB94.out⟩
         | true =>
           have heq:l0.length=l1.length:=by
             have h1:=congrArg List.length (HP.out.1 (by simp))
             have h2:=congrArg List.length (HQ.out.1 (by simp))
             rw [List.length_take] at h1 h2
             omega
           have h9:((l0.length:Int) == (l1.length:Int))=true:=by rw [← heq];simp
           clear heq
           go_wp2_with fail
           go_ret
           exact ⟨rfl,HB94.out⟩
     · have hbe:b=true↔l0.take n=l1.take (l0.take n).length:=by rw [HBI.out];exact pre_end l0 l1 n i hnl (.inl (by have:=HI1.out;omega))
       have HBE:=pH hbe
       clear hbe HBI
       have HLN:Hid ((l0.take n).length=n):=pH (by rw [List.length_take];omega)
       have c1:=(prefix_calls wr (some ad) c0 (l0.take n) ((HD0.out.below HBX.out).take n) (some ad) c0 l0 (HD0.out.below HBX.out) (by rw [List.length_take];omega) (by omega) HC0.out (fun h=>by cases h) true ⟨fun _=>by rw [HLN.out],fun _=>rfl⟩)
       rw [HLN.out] at c1
       have C1:=pH c1
       clear c1
       go_wp2_with fail
       refine C1.out.mono ?_
       rintro x w66 ⟨rfl,hb⟩
       have HB66:=pH (pbt HBX.out hb)
       have c2:=(prefix_calls w66 (some ad) c0 (l0.take n) ((HD0.out.below HB66.out).take n) A1 c1 l1 (HD1.out.below HB66.out) (by rw [List.length_take];omega) (by omega) HC1.out (fun h=>(HA1.out h).2) b HBE.out)
       rw [HLN.out] at c2
       have C2:=pH c2
       clear hb c2 C1 HBX
       go_wp2_with fail
       refine C2.out.mono ?_
       rintro x w73 ⟨rfl,hb⟩
       have HB73:=pH (pbt HB66.out hb)
       have hbb:(b == b)=true:=by simp
       clear hb C2 HB66
       go_wp2_with (first|((with_reducible refine pz10 (N:=81) rfl ?_);refine wpList_append_row (by rfl) _ _ 59 rfl w73.heap.size 61 32 32 i0 (.agg dgZero) h59 HI.out HZ0.out HZ1.out HZ2.out rfl (by decide) dgC_len dgC_one _ [] rfl (own_empty dgC 32 w73.heap.size w73 (Nat.le_refl _)) (some ad) l0.length c0 l0 rfl rfl ((HR0.out.ext HB73.out).ext (pbn _ _)) (fun h=>by cases h) ?c1 ?c2 ?c3 ?_))
       case c1=>unfold maxLen;simp <;> omega
       case c2=>simp <;> omega
       case c3=>simp
       intro v4 w4 ho hg
       have hb4:Below w73.heap.size w73 w4:=((Below.refl w73.heap.size w73).alloc (Nat.le_refl _) _).grown hg (by simp) (fun j hj=>by simp [Value.ownBlock] at hj;omega)
       have HO:=pH ho
       have HB4:=pH hb4
       have HBW4:=pH (pbt HB73.out hb4)
       have HSZ:Hid (w73.heap.size≤w4.heap.size):=pH hb4.size
       clear ho hg hb4
       go_wp2_with (first|((with_reducible refine pz10 (N:=83) rfl ?_);refine wpList_append_row (by rfl) _ _ 59 rfl w73.heap.size 61 32 32 i0 (.agg dgZero) h59 HI.out HZ0.out HZ1.out HZ2.out rfl (by decide) dgC_len dgC_one _ l0 rfl HO.out A1 l1.length c1 l1 rfl rfl (HR1.out.ext HBW4.out) (fun h=>(HA1.out h).1) ?d1 ?d2 ?d3 ?_))
       case d1=>unfold maxLen;omega
       case d2=>omega
       case d3=>exact HSZ.out
       intro v5 w5 ho hg
       have hb5:Below w73.heap.size w73 w5:=HB4.out.grown hg HSZ.out (fun j hj=>(World.ownsRow.lt HO.out j hj).1)
       obtain ⟨z,hz⟩:∃ z,z=l0 ++ l1:=⟨_,rfl⟩
       replace ho:Owr dgC 61 32 w73.heap.size w5 v5 z:=by rw [hz];exact ho
       have hzl:z.length≤200:=by rw [hz,List.length_append];omega
       obtain ⟨Az,cz,rfl,hzn,hzc⟩:=Owr.val ho
       have HDZ:=pH (dgAt_row (ho.row dgC_len))
       have HZT:Hid (l0=z.take l0.length):=pH (by rw [hz,List.take_left'] <;> rfl)
       have HB5:=pH (pbt HB73.out hb5)
       have HZN:=pH hzn
       have HZC:=pH hzc
       clear ho hg hb5 hz hzn hzc HO HB4 HBW4 HSZ HB73 HI HZ0 HZ1 HZ2
       have C3:=pH (prefix_calls w5 (some ad) c0 l0 (HD0.out.below HB5.out) Az cz z HDZ.out (by omega) (by omega) HZC.out (fun h=>(HZN.out h).2) true ⟨fun _=>HZT.out,fun _=>rfl⟩)
       go_wp2_with fail
       refine C3.out.mono ?_
       rintro x w84 ⟨rfl,hb⟩
       have HB84:=pH (pbt HB5.out hb)
       obtain ⟨p,hp⟩:∃ p,p=decide (l0=l1.take l0.length):=⟨_,rfl⟩
       have HP:Hid (p=true↔l0=l1.take l0.length):=pH (by rw [hp,decide_eq_true_iff])
       have C4:=pH (prefix_calls w84 (some ad) c0 l0 (HD0.out.below HB84.out) A1 c1 l1 (HD1.out.below HB84.out) (by omega) (by omega) HC1.out (fun h=>(HA1.out h).2) p HP.out)
       clear hb hp C3 HB5 HDZ
       go_wp2_with fail
       refine C4.out.mono ?_
       rintro x w89 ⟨rfl,hb⟩
       have HB89:=pH (pbt HB84.out hb)
       clear hb C4 HB84
       cases p with
       | false =>
         go_wp2_with fail
         go_ret
         exact ⟨rfl,HB89.out⟩
       | true =>
       obtain ⟨q,hq⟩:∃ q,q=decide (l1=l0.take l1.length):=⟨_,rfl⟩
       have HQ:Hid (q=true↔l1=l0.take l1.length):=pH (by rw [hq,decide_eq_true_iff])
       have C5:=pH (prefix_calls w89 A1 c1 l1 (HD1.out.below HB89.out) (some ad) c0 l0 (HD0.out.below HB89.out) (by omega) (by omega) HC0.out (fun h=>by cases h) q HQ.out)
       clear hq
       go_wp2_with fail
       refine C5.out.mono ?_
       rintro x w94 ⟨rfl,hb⟩
       have HB94:=pH (pbt HB89.out hb)
       clear hb C5 HB89
       cases q with
       | false =>
         go_wp2_with fail
         go_ret
         exact ⟨rfl,HB94.out⟩
       | true =>
         have heq:l0.length=l1.length:=by
           have h1:=congrArg List.length (HP.out.1 (by simp))
           have h2:=congrArg List.length (HQ.out.1 (by simp))
           rw [List.length_take] at h1 h2
           omega
         have h9:((l0.length:Int) == (l1.length:Int))=true:=by rw [← heq];simp
         clear heq
         go_wp2_with fail
         go_ret
         exact ⟨rfl,HB94.out⟩
end Go.Proofs.Zq
end
