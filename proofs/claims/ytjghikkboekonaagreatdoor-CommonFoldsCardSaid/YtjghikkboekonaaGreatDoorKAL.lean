/- A part of a proof of statements of this seat: what its walks and its laws lean on; joined by a program of this repo (wip/pack.py) out of the texts XDig, XSm23, XExF, QKindsExtra, ThExtra, Th4Extra, ModExtra, Mod2Extra, Mod3Extra, QOnionskinref08SameExtra, XEntExtra, XLwExtra, XSm19Extra, Mod5Extra, CFolds. -/
import Derived.ArgAppend
import Derived.Below
import Derived.BigQuiet
import Derived.ChangeKeysEq
import Derived.Deep.AppendLies
import Derived.Deep.CutBlock
import Derived.Deep.DeepCutAuto
import Derived.Deep.Draws
import Derived.Deep.LoopGhost
import Derived.Deep.OwnRows
import Derived.Deep.QuietTactic
import Derived.Deep.RegionHeld3
import Derived.KernelRfl
import Derived.Laws.BitsLemmas
import Derived.Laws.BytesArg
import Derived.Laws.IdiomCopy
import Derived.Laws.MakeOwn
import Derived.Laws.OwnMore
import Derived.Laws.Rows
import Derived.Laws.Slices
import Derived.Lib.AppendStr
import Derived.Lib.ConvBytes
import Derived.Maps.AppendAt
import Derived.OrdersHeld
import Derived.OwnWalk
import Derived.RowKit
import Derived.RowKit3
import Derived.Tactics
import Derived.Test.YtjghikkboekonaaGreatDoorProg
import Derived.WalkKit
import Derived.WideLaws
import Derived.Test.YtjghikkboekonaaGreatDoorKAA
import Derived.Test.YtjghikkboekonaaGreatDoorKAB
import Derived.Test.YtjghikkboekonaaGreatDoorKAC
import Derived.Test.YtjghikkboekonaaGreatDoorKAH
import Derived.Test.YtjghikkboekonaaGreatDoorKAJ
import Derived.Test.YtjghikkboekonaaGreatDoorKAK
set_option linter.unusedSimpArgs false
set_option linter.unusedVariables false
section
namespace Go.Proofs.Zq
open Go.RowKit Go.WideMaps Go.Maps Go.Proofs.YtjghikkboekonaaGreatDoor Go.Proofs.Zw.PrintWords Go.Proofs.Zw.PrintLast Go.Proofs.Zw.PrintMore
abbrev Dg:={d:List UInt8 // d.length=32}
def dgV (b:UInt8):Value:=.int .u8 b.toNat
def dgC (d:Dg):List Value:=d.1.map dgV
theorem dgC_len (d:Dg):(dgC d).length=32:=by unfold dgC;rw [List.length_map,d.2]
def DgAt (w:World) (A:Option Addr) (l:List Dg):Prop:=∀ (i:Nat) (d:Dg),l[i]?=some d→∃ ad,A=some ad∧LiesAt w (ad.add (i * 32)) (dgC d)
theorem dg_at {w:World} {A:Option Addr} {l:List Dg} (h:DgAt w A l) (i:Nat) (hi:i<l.length):∃ ad,A=some ad∧LiesAt w (ad.add (i * 32)) (dgC l[i]):=h i _ (List.getElem?_eq_getElem hi)
theorem dgs_at {l0 l1:List Dg} (h:l0=l1) (i:Nat) (h0:i<l0.length) (h1:i<l1.length):l0[i]=l1[i]:=by subst h;rfl
theorem DgAt.below {w w':World} {A:Option Addr} {l:List Dg} (h:DgAt w A l) (hb:Below w.heap.size w w'):DgAt w' A l:=fun i d hd=>by
 obtain ⟨ad,h1,h2⟩:=h i d hd
 exact ⟨ad,h1,h2.below hb⟩
theorem DgAt.nil (w:World) (A:Option Addr):DgAt w A []:=fun i d hd=>by simp at hd
theorem DgAt.take {w:World} {A:Option Addr} {l:List Dg} (h:DgAt w A l) (n:Nat):DgAt w A (l.take n):=fun i d hd=>by
 rw [List.getElem?_take] at hd
 split at hd
 ·exact h i d hd
 ·cases hd
theorem DgAt.drop {w:World} {ad:Addr} {l:List Dg} (h:DgAt w (some ad) l) (n:Nat):DgAt w (some (ad.add (n * 32))) (l.drop n):=fun i d hd=>by
 rw [List.getElem?_drop] at hd
 obtain ⟨ad',h1,h2⟩:=h _ d hd
 obtain rfl:=Option.some.inj h1
 refine ⟨_,rfl,?_⟩
 rw [Addr.add_add,← Nat.add_mul]
 exact h2
theorem u8_eq (a b:UInt8):(((a.toNat:Nat):Int) == ((b.toNat:Nat):Int))=decide (a=b):=by
 rw [Bool.eq_iff_iff,beq_iff_eq,decide_eq_true_iff]
 constructor
 ·intro h
  apply UInt8.toNat_inj.1
  omega
 ·rintro rfl
  rfl
theorem info_dg (e:Dg):(Tryz.prog.info? 61).map (·.size)=some (dgC e).length:=by
 rw [dgC_len]
 kernel_rfl
theorem items_dg (d:Nat) (w:World) (xs ys:List UInt8):∀ is:List Nat,(∀ i ∈ is,i<xs.length∧i<ys.length) →
  (Go.Op.eqItems (d + 1) 5 1 (xs.map dgV).toArray (ys.map dgV).toArray is).run Tryz.prog w=.ok (is.all fun i=>decide (xs[i]?=ys[i]?)) w:=by
 intro is
 induction is with
 | nil=>intro _;simp [Go.Op.eqItems]
 | cons i r ih =>
  intro h
  obtain ⟨h1,h2⟩:=h i List.mem_cons_self
  have ih:=ih fun j hj=>h j (List.mem_cons_of_mem _ hj)
  have hag:∀ w,(isAgg 5).run Tryz.prog w=.ok false w:=fun w=>by kernel_rfl
  have p1:(part 5 (xs.map dgV).toArray (i * 1)).run Tryz.prog w=.ok (dgV xs[i]) w:=by
   unfold part
   simp [Sem.run_bind,hag,Result.andThen,h1]
  have p2:(part 5 (ys.map dgV).toArray (i * 1)).run Tryz.prog w=.ok (dgV ys[i]) w:=by
   unfold part
   simp [Sem.run_bind,hag,Result.andThen,h2]
  have p3:(Go.Op.equalIn (d + 1) 5 (dgV xs[i]) (dgV ys[i])).run Tryz.prog w=.ok (decide (xs[i]=ys[i])) w:=by
   unfold dgV
   rw [← u8_eq]
   simp [Go.Op.equalIn,Sem.run_bind,run_underlying Tryz.underlying5,Result.andThen]
  simp only [Go.Op.eqItems,Sem.run_bind,p1,p2,p3,Result.andThen_ok]
  rw [List.all_cons,List.getElem?_eq_getElem h1,List.getElem?_eq_getElem h2]
  by_cases he:xs[i]=ys[i]
  ·rw [decide_eq_true he]
   simpa [he] using ih
  ·rw [decide_eq_false he]
   simp [he]
set_option maxRecDepth 100000 in
theorem eqDg (d:Nat) (w:World) (a b:Dg):(Op.equalIn (d + 2) 61 (.agg (dgC a).toArray) (.agg (dgC b).toArray)).run Tryz.prog w=.ok (decide (a=b)) w:=by
 have hi:∃ i,Tryz.prog.info? 5=some i:=by
  cases h:Tryz.prog.info? 5 with
  | some i=>exact ⟨i,rfl⟩
  | none=>exact absurd h (by
    have:(Tryz.prog.info? 5).isSome=true:=by kernel_rfl
    intro h;rw [h] at this;cases this)
 obtain ⟨i,hi⟩:=hi
 have hc:Tryz.prog.cellsOf 5=1:=by kernel_rfl
 rw [Go.run_equalIn_array (w:=w) (d + 1) _ _ Tryz.underlying61 hi,hc]
 unfold dgC
 rw [items_dg d w a.1 b.1 (List.range 32) (fun i hi=>by rw [a.2,b.2];have:=List.mem_range.1 hi;omega)]
 refine congrArg (fun b=>Result.ok b w) ?_
 rw [Bool.eq_iff_iff,List.all_eq_true,decide_eq_true_iff]
 constructor
 ·intro h
  apply Subtype.ext
  apply List.ext_getElem?
  intro i
  by_cases hi:i<32
  ·simpa using h i (List.mem_range.2 hi)
  ·rw [List.getElem?_eq_none (by rw [a.2];omega),List.getElem?_eq_none (by rw [b.2];omega)]
 ·intro h i _
  rw [h];simp
attribute [local go_sem high] eqDg
set_option maxRecDepth 100000 in
set_option maxHeartbeats 4000000 in
theorem eqlD_calls (w:World) (A0:Option Addr) (c0:Nat) (l0:List Dg) (hr0:DgAt w A0 l0) (A1:Option Addr) (c1:Nat) (l1:List Dg) (hr1:DgAt w A1 l1) (hl:l0.length≤1000000) (hl1:l1.length≤1000000)
  (d:Bool) (hd:d=true↔l0=l1) :
  Calls Tryz.prog 66 #[.slice A0 l0.length c0,.slice A1 l1.length c1] w fun e w'=>e=.returned (.bool d)∧Below w.heap.size w w':=by
 have HR0:=pH hr0
 have HR1:=pH hr1
 have HD:=pH hd
 clear hr0 hr1 hd
 have h49:=Tryz.underlying61
 go_enter Tryz.func66,Tryz.ntmps66
 by_cases hn:l0.length=l1.length
 ·have hq:((l0.length:Int) != (l1.length:Int))=false:=by rw [hn];simp
  have HN:=pH hn
  clear hn
  go_wp2_with fail
  clear hq
  go_loopg [13] (l0.length + 1) (fun gq v wr=>∃ i:Nat,v=.int .i64 i∧l0.length<gq + i∧Hid (i≤l0.length)∧Hid (l0.take i=l1.take i)∧Hid (Below w.heap.size w wr))
  case atStart=>exact ⟨0,rfl,by omega,pH (by omega),pH (by simp),pH (Below.refl _ _)⟩
  case round =>
   obtain ⟨i,rfl,hgi,HI,HT,HB⟩:=hrel
   by_cases hi:i<l0.length
   ·cases gk with
    | zero=>omega
    | succ g1 =>
     have hi1:i<l1.length:=by rw [← HN.out];exact hi
     obtain ⟨ad0,rfl,hat0⟩:=dg_at HR0.out i hi
     obtain ⟨ad1,rfl,hat1⟩:=dg_at HR1.out i hi1
     have HA0:=pH (hat0.below HB.out)
     have HA1:=pH (hat1.below HB.out)
     have hs0:l0.take (i + 1)=l0.take i ++ [l0[i]]:=List.take_succ_eq_append_getElem hi
     have hs1:l1.take (i + 1)=l1.take i ++ [l1[i]]:=List.take_succ_eq_append_getElem hi1
     have hdf:d=true→l0[i]=l1[i]:=fun h=>dgs_at (HD.out.1 h) i hi hi1
     obtain ⟨e0,he0⟩:∃ e,e=l0[i]:=⟨_,rfl⟩
     obtain ⟨e1,he1⟩:∃ e,e=l1[i]:=⟨_,rfl⟩
     rw [← he0] at HA0 hs0 hdf
     rw [← he1] at HA1 hs1 hdf
     have HS:Hid (e0=e1→l0.take (i + 1)=l1.take (i + 1)):=pH (fun h=>by rw [hs0,hs1,HT.out,h])
     have HDF:=pH hdf
     clear hs0 hs1 hdf he0 he1 hat0 hat1
     have HII:Hid (i + 1≤l0.length):=pH hi
     have hk0:(0:Int)≤(i:Int):=by omega
     have hk1:(i:Int)<(l0.length:Int):=by omega
     have hk2:(i:Int)<(l1.length:Int):=by omega
     go_upto_region 6 with (fail)
     obtain ⟨nb,hnb⟩:∃ nb,nb=!decide (e0=e1):=⟨_,rfl⟩
     have HNB:=pH hnb
     clear hnb
     go_cut [24] (fun v wc=>v=.bool nb∧Hid (Below wr.heap.size wr wc))
     case first =>
      refine start_ (n:=9) (S:=fun w'=>Below wr.heap.size wr w') (ds:=[]) (ms 9 0) (by kernel_rfl) rfl rfl (Below.refl _ _).drew (fun hHeld=>?_)
      iterate 3 (refine pW ?_ rfl rfl (by kernel_rfl) (fun _ _ _=>id) (by rfl) ?_ ?_ ?_ ?_;rotate_left;(intro w';go_simp;with_reducible rfl);rotate_left;(simp only [aP,i64_w,i32_w];rfl))
      refine take_ (i:=3) (N:=some 19) (v:=.agg (dgC e0).toArray) (a':=?_) (ms 9 4) rfl rfl (by kernel_rfl) (fun _ _ _ h=>h) (yi_agg (by rfl) 61 _ rfl _ rfl _ _ (fun w' hb=>HA0.out.below hb) h49 rfl (info_dg _)) hHeld ?_ ?_;rotate_left;(simp only [aP,i64_w,i32_w];rfl)
      iterate 3 (refine pW ?_ rfl rfl (by kernel_rfl) (fun _ _ _=>id) (by rfl) ?_ ?_ ?_ ?_;rotate_left;(intro w';go_simp;with_reducible rfl);rotate_left;(simp only [aP,i64_w,i32_w];rfl))
      refine take_ (i:=7) (N:=some 23) (v:=.agg (dgC e1).toArray) (a':=?_) (ms 9 8) rfl rfl (by kernel_rfl) (fun _ _ _ h=>h) (yi_agg (by rfl) 61 _ rfl _ rfl _ _ (fun w' hb=>HA1.out.below hb) h49 rfl (info_dg _)) hHeld ?_ ?_;rotate_left;(simp only [aP,i64_w,i32_w];rfl)
      refine pW ?_ rfl rfl (by kernel_rfl) (fun _ _ _=>id) (by rfl) ?_ ?_ ?_ ?_;rotate_left;(intro w';go_simp;with_reducible rfl);rotate_left;(simp only [aP,i64_w,i32_w];rfl)
      refine done_ (by kernel_rfl) ?_
      go_wp2_with fail
      go_meet
      exact ⟨by rw [HNB.out],pH hHeld⟩
     case rest =>
     obtain ⟨rfl,HBC⟩:=hcut
     have HB2:=pH (pbt HB.out HBC.out)
     clear HBC HA0 HA1 HB
     cases nb with
     | false =>
      have HT2:=pH (HS.out (by simpa using HNB.out))
      clear HNB
      go_wp2_with fail
      go_roundg g1
      case measure=>omega
      case rel=>exact ⟨i + 1,by go_num,by omega,HII,HT2,HB2⟩
     | true =>
      have hee:¬ e0=e1:=by simpa using HNB.out
      have HDD:Hid (d=false):=pH (by cases hdd:d with|false=>rfl|true=>exact absurd (HDF.out hdd) hee)
      clear hee HNB
      go_wp2_with fail
      go_ret
      exact ⟨by rw [HDD.out];rfl,HB2.out⟩
   ·have he:i=l0.length:=by have:=HI.out;omega
    subst he
    have HDD:Hid (d=true):=pH (HD.out.2 (by
     have:=HT.out
     rwa [List.take_of_length_le (by simp),List.take_of_length_le (by simp [HN.out])] at this))
    go_wp2_with fail
    go_ret
    exact ⟨by rw [HDD.out];rfl,HB.out⟩
 ·have hq:((l0.length:Int) != (l1.length:Int))=true:=by simp;omega
  have HDD:Hid (d=false):=pH (by
   cases hdd:d with
   | false=>rfl
   | true=>exact absurd (by have:=congrArg List.length (HD.out.1 hdd);simpa using this) hn)
  clear hn
  go_wp2_with fail
  go_ret
  exact ⟨by rw [HDD.out];rfl,Below.refl _ _⟩
set_option maxRecDepth 100000 in
theorem prefix_calls (w:World) (A0:Option Addr) (c0:Nat) (l0:List Dg) (hr0:DgAt w A0 l0) (A1:Option Addr) (c1:Nat) (l1:List Dg) (hr1:DgAt w A1 l1) (hl:l0.length≤1000000) (hl1:l1.length≤1000000) (hc1:l1.length≤c1) (hn1:A1=none→c1=0)
  (d:Bool) (hd:d=true↔l0=l1.take l0.length) :
  Calls Tryz.prog 35 #[.slice A0 l0.length c0,.slice A1 l1.length c1] w fun e w'=>e=.returned (.bool d)∧Below w.heap.size w w':=by
 have HR0:=pH hr0
 have HR1:=pH hr1
 have HD:=pH hd
 clear hr0 hr1 hd
 go_enter Tryz.func35,Tryz.ntmps35
 by_cases hn:l0.length≤l1.length
 ·have HE:=eqlD_calls w A0 c0 l0 HR0.out A1 c1 (l1.take l0.length) (HR1.out.take _) hl (by rw [List.length_take];omega) d HD.out
  rw [List.length_take,Nat.min_eq_left hn] at HE
  have HE':=pH HE
  clear HE
  have hq:decide (l0.length≤l1.length)=true:=by simpa using hn
  have hcc:l0.length≤c1:=by omega
  cases A1 with
  | none =>
   obtain rfl:=hn1 rfl
   have h0:l0=[]:=List.eq_nil_of_length_eq_zero (by omega)
   subst h0
   go_wp2_with fail
   refine HE'.out.mono ?_
   rintro x w1 ⟨rfl,hb⟩
   have HB:=pH hb
   clear hb
   go_wp2_with fail
   go_ret
   exact ⟨rfl,HB.out⟩
  | some ad =>
   go_wp2_with fail
   refine HE'.out.mono ?_
   rintro x w1 ⟨rfl,hb⟩
   have HB:=pH hb
   clear hb
   go_wp2_with fail
   go_ret
   exact ⟨rfl,HB.out⟩
 ·have hq:decide (l0.length≤l1.length)=false:=by simpa using hn
  have HDD:Hid (d=false):=pH (by
   cases hdd:d with
   | false=>rfl
   | true=>exact absurd (by have:=congrArg List.length (HD.out.1 hdd);rw [List.length_take] at this;omega) hn)
  clear hn
  go_wp2_with fail
  go_ret
  exact ⟨by rw [HDD.out];rfl,Below.refl _ _⟩
end Go.Proofs.Zq
end
section
namespace Go.Proofs.Zq
open Go.RowKit Go.WideMaps Go.Maps Go.Proofs.YtjghikkboekonaaGreatDoor Go.Proofs.Zw.PrintWords Go.Proofs.Zw.PrintLast Go.Proofs.Zw.PrintMore
open Go.Proofs.Zt (extractM Ch)
attribute [local go_sem high] eqCg
instance (n:Nd):Decidable (NdKey n):=by
 unfold NdKey NdWf
 infer_instance
def p23:List (Ch Str Nd):=[⟨[97],0,dN⟩,⟨[97,47,120],0,zeroN⟩]
def q23:List (Ch Str Nd):=[⟨[97],0,dN⟩]
def r23:List (Ch Str Nd):=[⟨[98],0,zeroN⟩]
def s23:List (Ch Str Nd):=[⟨[113,47,113],0,zeroN⟩]
theorem x23a:extractM Y [[p23],[q23,r23]]=([⟨[97],0,dN⟩],[[⟨[97,47,120],0,zeroN⟩],[⟨[98],0,zeroN⟩]],2,0):=by kernel_rfl
theorem x23b:extractM Y [[p23],[s23]]=([],[],1,10):=by kernel_rfl
theorem x23c:extractM Y ([]:List (List (List (Ch Str Nd))))=([],[],0,1):=by kernel_rfl
theorem fits23 {s:List (List (Ch Str Nd))} (h1:s.length≤100) (h2:∀ l ∈ s,lyrFits l=true∧l.length≤100) (h3:∀ l ∈ s,∀ c ∈ l,NdKey c.node):StkFits (s.map (List.map ofCh)):=by
 refine ⟨by rw [List.length_map];omega,fun l hl=>?_,by rw [s18_back];exact h3⟩
 obtain ⟨m,hm,rfl⟩:=List.mem_map.1 hl
 exact ⟨by rw [chs_back];exact (h2 m hm).1,by rw [List.length_map];have:=(h2 m hm).2;omega⟩
theorem ss_back (a b:List (List (Ch Str Nd))):List.map (List.map (List.map chOf)) [a.map (List.map ofCh),b.map (List.map ofCh)]=[a,b]:=by rw [List.map_cons,List.map_cons,List.map_nil,s18_back,s18_back]
theorem fa23:StkFits ([p23].map (List.map ofCh)):=fits23 (by decide) (by decide +kernel) (by decide +kernel)
theorem fb23:StkFits ([q23,r23].map (List.map ofCh)):=fits23 (by decide) (by decide +kernel) (by decide +kernel)
theorem fs23:StkFits ([s23].map (List.map ofCh)):=fits23 (by decide) (by decide +kernel) (by decide +kernel)
section
variable {α:Type} {K:Kd α}
theorem RowsAt.cons {w:World} {vs:List SlW} {xs:List (List α)} (h:RowsAt K w vs xs) {A:Option Addr} {p:List α} {n c:Nat} (hn:n=p.length) (hc:p.length≤c) (hk:Kd.C K w A p.length p):RowsAt K w ((A,n,c) :: vs) (p :: xs):=⟨by rw [List.length_cons,List.length_cons,h.1],fun j q hq=>by
 cases j with
 | zero =>
  obtain rfl:=Option.some.inj hq
  exact ⟨A,c,by rw [hn];rfl,hc,hk⟩
 | succ j=>exact h.2 j q hq⟩
end
def dg1:Dg:=⟨1 :: List.replicate 31 0,by decide⟩
def dg2:Dg:=⟨2 :: List.replicate 31 0,by decide⟩
theorem dg_ne:dg1≠dg2:=fun h=>absurd (congrArg (fun d:Dg=>d.1.head?) h) (by decide)
theorem dgs_block {w:World} {g:Nat} {T:TypeId} {l:List Dg} (h:w.heap[g]?=some (.cells (flat dgC l).toArray T (0,0))):DgAt w (some ⟨g,0,none⟩) l:=fun i d hd=>⟨_,rfl,fun j v hv=>by
 rw [Addr.add_add,Addr.add_mid,Nat.zero_add,pbc h]
 have:=flat_at dgC_len l i j d v hd hv
 simpa using this⟩
theorem rests_two {w:World} {base gr cr:Nat} {us:List SlW} {c0 c1:Ch Str Nd} (h:LrO w base (.slice (some ⟨gr,0,none⟩) 2 cr) us [[c0],[c1]]):∃ g0 k0 g1 k1,w.cell? ⟨gr,0,none⟩=some (.slice (some ⟨g0,0,none⟩) 1 k0)∧w.cell? ⟨gr,1,none⟩=some (.slice (some ⟨g1,0,none⟩) 1 k1) ∧
  w.cell? ⟨g0,0,none⟩=some (.string (B c0.path))∧w.cell? ⟨g1,0,none⟩=some (.string (B c1.path)):=by
 obtain ⟨g',c',e,_,hc⟩:=own_spot h.own 2 h.len (by decide)
 cases e
 match us,h.len with
 | [x0,x1],_ =>
  obtain ⟨g0,k0,e0,_,h0⟩:=own_spot (h.rows 0 x0 _ rfl rfl).2 1 rfl (by decide)
  obtain ⟨g1,k1,e1,_,h1⟩:=own_spot (h.rows 1 x1 _ rfl rfl).2 1 rfl (by decide)
  exact ⟨g0,k0,g1,k1,by rw [← e0];exact hc 0 _ rfl,by rw [← e1];exact hc 1 _ rfl,h0 0 _ rfl,h1 0 _ rfl⟩
theorem lies_one {w:World} {base gl cl:Nat} {c:Ch Str Nd} (h:Owr pz13 57 12 base w (.slice (some ⟨gl,0,none⟩) 1 cl) [c]):LiesAt w ⟨gl,0,none⟩ (pz13 c):=by
 obtain ⟨g',c',e,_,hc⟩:=own_spot h 1 rfl (by decide)
 cases e
 intro j v hv
 rw [Addr.add_mid,Nat.zero_add]
 refine hc j v ?_
 show (pz13 c ++ [])[j]?=_
 rw [List.append_nil]
 exact hv
set_option maxRecDepth 100000 in
set_option maxHeartbeats 16000000 in
theorem small23_calls (w:World) (hG:GL w):Calls Tryz.prog 31 #[] w fun e w'=>e=.returned (.bool true)∧Below w.heap.size w w':=by
  have h31:=Tryz.underlying28
  have h33:=Tryz.underlying57
  go_enter Tryz.func31,Tryz.ntmps31
  go_wp2_with (first|((with_reducible refine pz10 (N:=1) rfl ?_);refine pz24 rfl (N:=1) rfl (cs:=ndZero) (t:=28) ?hr ?_;(case hr=>first|(go_simp;done)|(go_simp;rfl));intro g1 hg w2 hb2 hbl2;have HB1:=pH hb2;have HBL1:=pH hbl2;have HGE1:Hid (w.heap.size≤g1):=pH (by rw [hg];exact Nat.le_refl _);clear hg hb2 hbl2;go_frame)|((with_reducible refine pz28 (t:=28) (p:=1) rfl ?_);refine pz22 rfl rfl 28 _ _ rfl g1 (pz18 dN).toArray rfl rfl 28 ndZero HB1.out rfl rfl (ndCells_all _) ?_;intro w3 hb3 hg3;have HB3:=pH hb3;have HBL3:Hid (Below w.heap.size w w3):=pH (HBL1.out.grown hg3 HBL1.out.size (fun j hj=>by cases hj;exact HGE1.out));clear hb3 hg3)|((with_reducible refine pz10 (N:=17) rfl ?_);refine build_event rfl (N:=17) rfl 28 _ rfl (pz18 dN).toArray (by kernel_rfl) ?_;go_frame)|((with_reducible refine pz10 (N:=18) rfl ?_);refine pz12 rfl 28 _ rfl _ rfl (pz18 dN) _ (pz26 HB3.out) h31 rfl rfl ?_;go_frame)|((with_reducible refine pz10 (N:=19) rfl ?_);refine build_event rfl (N:=19) rfl 57 _ rfl (pz13 ⟨[97],0,dN⟩).toArray (by kernel_rfl) ?_;go_frame)|((with_reducible refine pz10 (N:=20) rfl ?_);refine build_event rfl (N:=20) rfl 57 _ rfl (pz13 ⟨[97,47,120],0,zeroN⟩).toArray (by kernel_rfl) ?_;go_frame)|((with_reducible refine pz10 (N:=21) rfl ?_);refine pz34 rfl (N:=21) rfl (cs:=(flat pz13 p23).toArray) (t:=57) (n:=2) (by kernel_rfl) ?_;intro g21 hg w21 hb hbl;have HB21:=pH hb;have HBL21:=pH hbl;clear hg hb hbl;go_frame)|((with_reducible refine pz10 (N:=22) rfl ?_);refine pz34 rfl (N:=22) rfl (cs:=([.slice (some ⟨g21,0,none⟩) 2 2]).toArray) (t:=35) (n:=1) (by kernel_rfl) ?_;intro g22 hg w22 hb hbl;have HB22:=pH hb;have HBL22:=pH hbl;clear hg hb hbl;go_frame)|((with_reducible refine pz10 (N:=23) rfl ?_);refine pz12 rfl 28 _ rfl _ rfl (pz18 dN) _ (pz26 (pz11 (pz11 HB3.out HBL21.out) HBL22.out)) h31 rfl rfl ?_;go_frame)|((with_reducible refine pz10 (N:=24) rfl ?_);refine build_event rfl (N:=24) rfl 57 _ rfl (pz13 ⟨[97],0,dN⟩).toArray (by kernel_rfl) ?_;go_frame)|((with_reducible refine pz10 (N:=25) rfl ?_);refine pz34 rfl (N:=25) rfl (cs:=(flat pz13 q23).toArray) (t:=57) (n:=1) (by kernel_rfl) ?_;intro g25 hg w25 hb hbl;have HB25:=pH hb;have HBL25:=pH hbl;clear hg hb hbl;go_frame)|((with_reducible refine pz10 (N:=26) rfl ?_);refine build_event rfl (N:=26) rfl 57 _ rfl (pz13 ⟨[98],0,zeroN⟩).toArray (by kernel_rfl) ?_;go_frame)|((with_reducible refine pz10 (N:=27) rfl ?_);refine pz34 rfl (N:=27) rfl (cs:=(flat pz13 r23).toArray) (t:=57) (n:=1) (by kernel_rfl) ?_;intro g27 hg w27 hb hbl;have HB27:=pH hb;have HBL27:=pH hbl;clear hg hb hbl;go_frame)|((with_reducible refine pz10 (N:=28) rfl ?_);refine pz34 rfl (N:=28) rfl (cs:=([.slice (some ⟨g25,0,none⟩) 1 1,.slice (some ⟨g27,0,none⟩) 1 1]).toArray) (t:=35) (n:=2) (by kernel_rfl) ?_;intro g28 hg w28 hb hbl;have HB28:=pH hb;have HBL28:=pH hbl;clear hg hb hbl;go_frame)|((with_reducible refine pz10 (N:=32) rfl ?_);refine pz34 rfl (N:=32) rfl (cs:=([.slice (some ⟨g22,0,none⟩) 1 1,.slice (some ⟨g28,0,none⟩) 2 2]).toArray) (t:=41) (n:=2) (by kernel_rfl) ?_;intro g32 hg w32 hb hbl;have HB32:=pH hb;have HBL32:=pH hbl;clear hg hb hbl;go_frame))
  have HW:=pH (pbt (pbt (pbt (pbt (pbt (pbt (HBL3.out) HBL21.out) HBL22.out) HBL25.out) HBL27.out) HBL28.out) HBL32.out)
  have HBX:=pH (pz11 (pz11 (pz11 (pz11 (pz11 (pz11 (HB3.out) HBL21.out) HBL22.out) HBL25.out) HBL27.out) HBL28.out) HBL32.out)
  have HKP:Hid (Kd.C k57 w32 (some ⟨g21,0,none⟩) (p23.map ofCh).length (p23.map ofCh)):=pH (chs_C (l:=p23) (pz11 (pz11 (pz11 (pz11 (pz11 (HB21.out) HBL22.out) HBL25.out) HBL27.out) HBL28.out) HBL32.out) (by decide))
  have HKQ:Hid (Kd.C k57 w32 (some ⟨g25,0,none⟩) (q23.map ofCh).length (q23.map ofCh)):=pH (chs_C (l:=q23) (pz11 (pz11 (pz11 (HB25.out) HBL27.out) HBL28.out) HBL32.out) (by decide))
  have HKR:Hid (Kd.C k57 w32 (some ⟨g27,0,none⟩) (r23.map ofCh).length (r23.map ofCh)):=pH (chs_C (l:=r23) (pz11 (pz11 (HB27.out) HBL28.out) HBL32.out) (by decide))
  have HSA:Hid (Kd.C (Kd.slice 57 k57) w32 (some ⟨g22,0,none⟩) ([p23].map (List.map ofCh)).length ([p23].map (List.map ofCh))):=pH (rows_block (vs:=[(some ⟨g21,0,none⟩,2,2)]) (pz11 (pz11 (pz11 (pz11 (HB22.out) HBL25.out) HBL27.out) HBL28.out) HBL32.out) (by decide) ((RowsAt.nil _).cons rfl (by decide) HKP.out))
  have HSB:Hid (Kd.C (Kd.slice 57 k57) w32 (some ⟨g28,0,none⟩) ([q23,r23].map (List.map ofCh)).length ([q23,r23].map (List.map ofCh))):=pH (rows_block (vs:=[(some ⟨g25,0,none⟩,1,1),(some ⟨g27,0,none⟩,1,1)]) (pz11 (HB28.out) HBL32.out) (by decide) (((RowsAt.nil _).cons rfl (by decide) HKR.out).cons rfl (by decide) HKQ.out))
  have c1:=extract_calls w32 (hG.ext HW.out) (some ⟨g32,0,none⟩) 2 [[p23].map (List.map ofCh),[q23,r23].map (List.map ofCh)] (rows_block (vs:=[(some ⟨g22,0,none⟩,1,1),(some ⟨g28,0,none⟩,2,2)]) HB32.out (by decide) (((RowsAt.nil _).cons rfl (by decide) HSB.out).cons rfl (by decide) HSA.out)) (by decide) (fun s hs=>by
    simp only [List.mem_cons,List.not_mem_nil,or_false] at hs
    rcases hs with rfl|rfl
    · exact fa23
    · exact fb23)
  rw [ss_back,x23a] at c1
  have C1:=pH c1
  clear c1 HB1 HBL1 HGE1 HB3 HBL3 HB21 HBL21 HB22 HBL22 HB25 HBL25 HB27 HBL27 HB28 HBL28 HB32 HBL32 HKP HKQ HKR HSB
  go_wp2_with fail
  refine C1.out.mono ?_
  rintro e w34 ⟨vb,vr,us,rfl,ho,hr,hb⟩
  have HW34:=pH (pbt HW.out hb)
  have HBX34:=pH (pz11 HBX.out hb)
  have HSA34:=pH (Kd.C_below HSA.out hb)
  obtain ⟨gl,cl,rfl,_,_⟩:=own_spot ho 1 rfl (by decide)
  obtain ⟨gr,cr,rfl,_,_⟩:=own_spot hr.own 2 hr.len (by decide)
  have HO:=pH ho
  have HR:=pH hr
  clear ho hr hb C1 HW HBX HSA
  go_wp2_with (first|((with_reducible refine pz10 (N:=40) rfl ?_);refine build_event rfl (N:=40) rfl 57 _ rfl (pz13 ⟨[113,47,113],0,zeroN⟩).toArray (by kernel_rfl) ?_;go_frame)|((with_reducible refine pz10 (N:=41) rfl ?_);refine pz34 rfl (N:=41) rfl (cs:=(flat pz13 s23).toArray) (t:=57) (n:=1) (by kernel_rfl) ?_;intro g41 hg w41 hb hbl;have HB41:=pH hb;have HBL41:=pH hbl;clear hg hb hbl;go_frame)|((with_reducible refine pz10 (N:=42) rfl ?_);refine pz34 rfl (N:=42) rfl (cs:=([.slice (some ⟨g41,0,none⟩) 1 1]).toArray) (t:=35) (n:=1) (by kernel_rfl) ?_;intro g42 hg w42 hb hbl;have HB42:=pH hb;have HBL42:=pH hbl;clear hg hb hbl;go_frame)|((with_reducible refine pz10 (N:=43) rfl ?_);refine pz34 rfl (N:=43) rfl (cs:=([.slice (some ⟨g22,0,none⟩) 1 1,.slice (some ⟨g42,0,none⟩) 1 1]).toArray) (t:=41) (n:=2) (by kernel_rfl) ?_;intro g43 hg w43 hb hbl;have HB43:=pH hb;have HBL43:=pH hbl;clear hg hb hbl;go_frame))
  have HW43:=pH (pbt (pbt (pbt (HW34.out) HBL41.out) HBL42.out) HBL43.out)
  have HBX43:=pH (pz11 (pz11 (pz11 (HBX34.out) HBL41.out) HBL42.out) HBL43.out)
  have HO43:=pH (((HO.out.ext HBL41.out).ext HBL42.out).ext HBL43.out)
  have HR43:=pH (((HR.out.ext HBL41.out).ext HBL42.out).ext HBL43.out)
  have c2:=extract_calls w43 (hG.ext HW43.out) (some ⟨g43,0,none⟩) 2 [[p23].map (List.map ofCh),[s23].map (List.map ofCh)] (rows_block (vs:=[(some ⟨g22,0,none⟩,1,1),(some ⟨g42,0,none⟩,1,1)]) HB43.out (by decide) (((RowsAt.nil _).cons rfl (by decide) (rows_block (vs:=[(some ⟨g41,0,none⟩,1,1)]) (pz11 (HB42.out) HBL43.out) (by decide) ((RowsAt.nil _).cons rfl (by decide) (chs_C (l:=s23) (pz11 (pz11 (HB41.out) HBL42.out) HBL43.out) (by decide))))).cons rfl (by decide) (Kd.C_below (Kd.C_below (Kd.C_below (HSA34.out) HBL41.out) HBL42.out) HBL43.out))) (by decide) (fun s hs=>by
    simp only [List.mem_cons,List.not_mem_nil,or_false] at hs
    rcases hs with rfl|rfl
    · exact fa23
    · exact fs23)
  rw [ss_back,x23b] at c2
  have C2:=pH c2
  clear c2 HB41 HBL41 HB42 HBL42 HB43 HBL43 HW34 HBX34 HSA34 HO HR
  go_wp2_with fail
  refine C2.out.mono ?_
  rintro e w44 ⟨v8,v9,us2,rfl,_,_,hb⟩
  have HW44:=pH (pbt HW43.out hb)
  have HBX44:=pH (pz11 HBX43.out hb)
  have HO44:=pH (HO43.out.ext hb)
  have HR44:=pH (HR43.out.ext hb)
  clear hb C2 HW43 HBX43 HO43 HR43
  have c3:=extract_calls w44 (hG.ext HW44.out) none 0 [] (Kd.C_nil _ _) (by decide) (fun s hs=>by cases hs)
  rw [List.map_nil,x23c] at c3
  have C3:=pH c3
  clear c3
  go_wp2_with fail
  refine C3.out.mono ?_
  rintro e w50 ⟨va,vc,us3,rfl,_,_,hb⟩
  have HW50:=pH (pbt HW44.out hb)
  have HBX50:=pH (pz11 HBX44.out hb)
  have HO50:=pH (HO44.out.ext hb)
  have HR50:=pH (HR44.out.ext hb)
  clear hb C3 HW44 HBX44 HO44 HR44
  go_upto_region 8 with (first|((with_reducible refine pz10 (N:=55) rfl ?_);refine build_event rfl (N:=55) rfl 61 _ rfl (dgC dg1).toArray (by kernel_rfl) ?_;go_frame)|((with_reducible refine pz10 (N:=56) rfl ?_);refine build_event rfl (N:=56) rfl 61 _ rfl (dgC dg2).toArray (by kernel_rfl) ?_;go_frame)|((with_reducible refine pz10 (N:=57) rfl ?_);refine pz34 rfl (N:=57) rfl (cs:=(flat dgC [dg1,dg2]).toArray) (t:=61) (n:=2) (by kernel_rfl) ?_;intro g57 hg w57 hb hbl;have HB57:=pH hb;have HBL57:=pH hbl;clear hg hb hbl;go_frame))
  have HW57:=pH (pbt HW50.out HBL57.out)
  have HBX57:=pH (pz11 HBX50.out HBL57.out)
  have HD57:=pH (dgs_block HB57.out)
  have HL57:=pH (lies_one (HO50.out.ext HBL57.out))
  obtain ⟨g0,k0,g1',k1,q1,q2,q3,q4⟩:=rests_two (HR50.out.ext HBL57.out)
  have HQ1:=pH q1
  have HQ2:=pH q2
  have HQ3:=pH q3
  have HQ4:=pH q4
  clear HW50 HBX50 HO50 HR50 HB57 HBL57 q3 q4
  go_upto_region 10 with (fail)
  dsimp only [List.append]
  clear q1 q2
  refine start_ (n:=68) (S:=fun w'=>Below w57.heap.size w57 w') (ds:=[]) (ms 68 0) (by kernel_rfl) rfl rfl (Below.refl _ _).drew (fun hHeld=>?_)
  iterate 2 (refine pW ?_ rfl rfl (by kernel_rfl) (fun _ _ _=>id) (by rfl) ?_ ?_ ?_ ?_;rotate_left;(intro w';go_simp;with_reducible rfl);rotate_left;(simp only [aP,i64_w,i32_w];rfl))
  refine take_ (i:=2) (N:=some 82) (v:=.agg (pz13 ⟨[97],0,dN⟩).toArray) (a':=?_) (ms 68 3) rfl rfl (by kernel_rfl) (fun _ _ _ h=>h) (yi_agg (by rfl) 57 _ rfl _ rfl _ _ (fun w' hb=>HL57.out.below hb) h33 rfl rfl) hHeld ?_ ?_;rotate_left;(simp only [aP,i64_w,i32_w];rfl)
  refine take_ (i:=3) (N:=some 83) (v:=.agg (pz18 dN).toArray) (a':=?_) (ms 68 4) rfl rfl (by kernel_rfl) (fun _ _ _ h=>h) (yi_agg (by rfl) 28 _ rfl _ rfl _ _ (fun w' hb=>pz26 (pz11 HBX57.out hb)) h31 rfl rfl) hHeld ?_ ?_;rotate_left;(simp only [aP,i64_w,i32_w];rfl)
  refine pure_ (i:=4) (N:=some 84) (v:=.agg (pz13 ⟨[97],0,dN⟩).toArray) (a':=?_) (ms 68 5) rfl rfl (by kernel_rfl) (fun _ _ _ h=>h) (Or.inl ⟨by rfl,fun w'=>by kernel_rfl⟩) ?_ ?_;rotate_left;(simp only [aP,i64_w,i32_w];rfl)
  iterate 4 (refine pW ?_ rfl rfl (by kernel_rfl) (fun _ _ _=>id) (by rfl) ?_ ?_ ?_ ?_;rotate_left;(intro w';go_simp;with_reducible rfl);rotate_left;(simp only [aP,i64_w,i32_w];rfl))
  (refine take_ (i:=9) (N:=some 89) (v:=?_) (a':=?_) (ms 68 10) rfl rfl (by kernel_rfl) (fun _ _ _ h=>h) (Or.inl ⟨by rfl,?_⟩) hHeld ?_ ?_;rotate_left;(intro w' hS';have q9:=pz25 hS' HQ1.out;go_simp;with_reducible rfl);rotate_left;(simp only [aP,i64_w,i32_w];rfl))
  iterate 2 (refine pW ?_ rfl rfl (by kernel_rfl) (fun _ _ _=>id) (by rfl) ?_ ?_ ?_ ?_;rotate_left;(intro w';go_simp;with_reducible rfl);rotate_left;(simp only [aP,i64_w,i32_w];rfl))
  as_aux_lemma =>
   (refine take_ (i:=12) (N:=some 92) (v:=?_) (a':=?_) (ms 68 13) rfl rfl (by kernel_rfl) (fun _ _ _ h=>h) (Or.inl ⟨by rfl,?_⟩) hHeld ?_ ?_;rotate_left;(intro w' hS';have q9:=pz25 hS' HQ3.out;go_simp;with_reducible rfl);rotate_left;(simp only [aP,i64_w,i32_w];rfl))
   iterate 5 (refine pW ?_ rfl rfl (by kernel_rfl) (fun _ _ _=>id) (by rfl) ?_ ?_ ?_ ?_;rotate_left;(intro w';go_simp;with_reducible rfl);rotate_left;(simp only [aP,i64_w,i32_w];rfl))
   (refine take_ (i:=18) (N:=some 98) (v:=?_) (a':=?_) (ms 68 19) rfl rfl (by kernel_rfl) (fun _ _ _ h=>h) (Or.inl ⟨by rfl,?_⟩) hHeld ?_ ?_;rotate_left;(intro w' hS';have q9:=pz25 hS' HQ2.out;go_simp;with_reducible rfl);rotate_left;(simp only [aP,i64_w,i32_w];rfl))
   iterate 2 (refine pW ?_ rfl rfl (by kernel_rfl) (fun _ _ _=>id) (by rfl) ?_ ?_ ?_ ?_;rotate_left;(intro w';go_simp;with_reducible rfl);rotate_left;(simp only [aP,i64_w,i32_w];rfl))
   (refine take_ (i:=21) (N:=some 101) (v:=?_) (a':=?_) (ms 68 22) rfl rfl (by kernel_rfl) (fun _ _ _ h=>h) (Or.inl ⟨by rfl,?_⟩) hHeld ?_ ?_;rotate_left;(intro w' hS';have q9:=pz25 hS' HQ4.out;go_simp;with_reducible rfl);rotate_left;(simp only [aP,i64_w,i32_w];rfl))
   iterate 2 (refine pW ?_ rfl rfl (by kernel_rfl) (fun _ _ _=>id) (by rfl) ?_ ?_ ?_ ?_;rotate_left;(intro w';go_simp;with_reducible rfl);rotate_left;(simp only [aP,i64_w,i32_w];rfl))
   as_aux_lemma =>
    iterate 12 (refine pW ?_ rfl rfl (by kernel_rfl) (fun _ _ _=>id) (by rfl) ?_ ?_ ?_ ?_;rotate_left;(intro w';go_simp;with_reducible rfl);rotate_left;(simp only [aP,i64_w,i32_w];rfl))
    as_aux_lemma =>
     iterate 11 (refine pW ?_ rfl rfl (by kernel_rfl) (fun _ _ _=>id) (by rfl) ?_ ?_ ?_ ?_;rotate_left;(intro w';go_simp;with_reducible rfl);rotate_left;(simp only [aP,i64_w,i32_w];rfl))
     as_aux_lemma =>
      refine pW ?_ rfl rfl (by kernel_rfl) (fun _ _ _=>id) (by rfl) ?_ ?_ ?_ ?_;rotate_left;(intro w';go_simp;with_reducible rfl);rotate_left;(simp only [aP,i64_w,i32_w];rfl)
      refine one_ (i:=48) (N:=some 128) (ms 68 49) rfl rfl (by kernel_rfl) (by decide) (fun K hK=>?_)
      refine goes_ Tryz.func35 (by kernel_rfl) rfl #[.slice (some ⟨g57,0,none⟩) 1 2,.slice (some ⟨g57,0,none⟩) 2 2] (by rfl) rfl rfl (by simp only [pM];rfl) ?_
      refine (prefix_calls _ (some ⟨g57,0,none⟩) 2 [dg1] ((HD57.out.below hHeld).take 1) (some ⟨g57,0,none⟩) 2 [dg1,dg2] (HD57.out.below hHeld) (by decide) (by decide) (by decide) (fun h=>by cases h) true ⟨fun _=>rfl,fun _=>rfl⟩).mono ?_
      rintro x w128 ⟨rfl,hb⟩
      refine ⟨_,rfl,?_⟩
      have hS128:Below w57.heap.size w57 w128:=pbt hHeld hb
      refine hK.out _ _ hS128 (fun hHeld=>?_)
      clear hK K hb
      refine norm_ (a':=?_) ?_ ?_
      rotate_left
      · show Act.put _ (some 128) _=_
        (simp only [aP,i64_w,i32_w];rfl)
      iterate 4 (refine pW ?_ rfl rfl (by kernel_rfl) (fun _ _ _=>id) (by rfl) ?_ ?_ ?_ ?_;rotate_left;(intro w';go_simp;with_reducible rfl);rotate_left;(simp only [aP,i64_w,i32_w];rfl))
      as_aux_lemma =>
       refine pW ?_ rfl rfl (by kernel_rfl) (fun _ _ _=>id) (by rfl) ?_ ?_ ?_ ?_;rotate_left;(intro w';go_simp;with_reducible rfl);rotate_left;(simp only [aP,i64_w,i32_w];rfl)
       refine one_ (i:=54) (N:=some 134) (ms 68 55) rfl rfl (by kernel_rfl) (by decide) (fun K hK=>?_)
       refine goes_ Tryz.func35 (by kernel_rfl) rfl #[.slice (some ⟨g57,0,none⟩) 2 2,.slice (some ⟨g57,0,none⟩) 1 2] (by rfl) rfl rfl (by simp only [pM];rfl) ?_
       refine (prefix_calls _ (some ⟨g57,0,none⟩) 2 [dg1,dg2] (HD57.out.below hHeld) (some ⟨g57,0,none⟩) 2 [dg1] ((HD57.out.below hHeld).take 1) (by decide) (by decide) (by decide) (fun h=>by cases h) false ⟨(fun h=>by cases h),fun h=>absurd (congrArg List.length h) (by decide)⟩).mono ?_
       rintro x w134 ⟨rfl,hb⟩
       refine ⟨_,rfl,?_⟩
       have hS134:Below w57.heap.size w57 w134:=pbt hHeld hb
       refine hK.out _ _ hS134 (fun hHeld=>?_)
       clear hK K hb
       refine norm_ (a':=?_) ?_ ?_
       rotate_left
       · show Act.put _ (some 134) _=_
         (simp only [aP,i64_w,i32_w];rfl)
       iterate 5 (refine pW ?_ rfl rfl (by kernel_rfl) (fun _ _ _=>id) (by rfl) ?_ ?_ ?_ ?_;rotate_left;(intro w';go_simp;with_reducible rfl);rotate_left;(simp only [aP,i64_w,i32_w];rfl))
       as_aux_lemma =>
        refine pW ?_ rfl rfl (by kernel_rfl) (fun _ _ _=>id) (by rfl) ?_ ?_ ?_ ?_;rotate_left;(intro w';go_simp;with_reducible rfl);rotate_left;(simp only [aP,i64_w,i32_w];rfl)
        refine one_ (i:=61) (N:=some 141) (ms 68 62) rfl rfl (by kernel_rfl) (by decide) (fun K hK=>?_)
        refine goes_ Tryz.func35 (by kernel_rfl) rfl #[.slice (some ⟨g57,32,none⟩) 1 1,.slice (some ⟨g57,0,none⟩) 2 2] (by rfl) rfl rfl (by simp only [pM];rfl) ?_
        refine (prefix_calls _ (some ⟨g57,32,none⟩) 1 [dg2] (by have h:=(HD57.out.below hHeld).drop 1;rwa [Addr.add_mid] at h) (some ⟨g57,0,none⟩) 2 [dg1,dg2] (HD57.out.below hHeld) (by decide) (by decide) (by decide) (fun h=>by cases h) false ⟨(fun h=>by cases h),fun h=>absurd (List.cons.inj h).1.symm dg_ne⟩).mono ?_
        rintro x w141 ⟨rfl,hb⟩
        refine ⟨_,rfl,?_⟩
        have hS141:Below w57.heap.size w57 w141:=pbt hHeld hb
        refine hK.out _ _ hS141 (fun hHeld=>?_)
        clear hK K hb
        refine norm_ (a':=?_) ?_ ?_
        rotate_left
        · show Act.put _ (some 141) _=_
          (simp only [aP,i64_w,i32_w];rfl)
        iterate 3 (refine pW ?_ rfl rfl (by kernel_rfl) (fun _ _ _=>id) (by rfl) ?_ ?_ ?_ ?_;rotate_left;(intro w';go_simp;with_reducible rfl);rotate_left;(simp only [aP,i64_w,i32_w];rfl))
        refine one_ (i:=65) (N:=some 145) (ms 68 66) rfl rfl (by kernel_rfl) (by decide) (fun K hK=>?_)
        refine goes_ Tryz.func35 (by kernel_rfl) rfl #[.slice none 0 0,.slice none 0 0] (by rfl) rfl rfl (by simp only [pM];rfl) ?_
        refine (prefix_calls _ none 0 [] (DgAt.nil _ _) none 0 [] (DgAt.nil _ _) (by decide) (by decide) (by decide) (fun _=>rfl) true ⟨fun _=>rfl,fun _=>rfl⟩).mono ?_
        rintro x w145 ⟨rfl,hb⟩
        refine ⟨_,rfl,?_⟩
        have hS145:Below w57.heap.size w57 w145:=pbt hHeld hb
        refine hK.out _ _ hS145 (fun hHeld=>?_)
        clear hK K hb
        refine norm_ (a':=?_) ?_ ?_
        rotate_left
        · show Act.put _ (some 145) _=_
          (simp only [aP,i64_w,i32_w];rfl)
        iterate 2 (refine pW ?_ rfl rfl (by kernel_rfl) (fun _ _ _=>id) (by rfl) ?_ ?_ ?_ ?_;rotate_left;(intro w';go_simp;with_reducible rfl);rotate_left;(simp only [aP,i64_w,i32_w];rfl))
        refine done_ (by kernel_rfl) ?_
        go_wp2_with fail
        go_ret
        exact ⟨rfl,pbt HW57.out hHeld⟩
end Go.Proofs.Zq
end
section
namespace Go.Proofs.Zq
open Go.RowKit Go.Proofs.YtjghikkboekonaaGreatDoor Go.Proofs.Zw.PrintWords Go.Proofs.Zw.PrintLast Go.Proofs.Zw.PrintMore
open Go.Proofs.Zt (Ch ontoGo bothM diffM extractM allPuts RightL rightC)
theorem extract_fits {ss:List (List (List S57))} (hf:∀ s ∈ ss,StkFits s) {b:List (Ch Str Nd)} {rs:List (List (Ch Str Nd))} {n:Nat} (h:extractM Y (ss.map (List.map (List.map chOf)))=(b,rs,n,0)) :
  lyrFits b=true∧b.length≤1000000∧rs.length=ss.length∧∀ l ∈ rs,lyrFits l=true∧l.length≤1000000:=by
 obtain ⟨t,r,hts,hr,rfl,rfl,_⟩:=Zt.common_parts h
 have hfit:∀ x ∈ t :: r,rowFits x=true:=fun x hx=>by
  rw [← hts] at hx
  obtain ⟨S,hS,rfl⟩:=List.mem_map.1 hx
  obtain ⟨s,hs,rfl⟩:=List.mem_map.1 hS
  have h1:=(hf s hs).tree.1.1
  rw [ens_back] at h1
  unfold foldE at h1
  rwa [ontoM_nil] at h1
 have hb:=(Zt.both_spec hr).1
 have hbf:=bothx_fits hr (hfit t (by simp))
 refine ⟨?_,?_,?_,fun l hl=>?_⟩
 ·unfold lyrFits allPuts
  rw [List.all_eq_true]
  intro c hc
  obtain ⟨e,he,rfl⟩:=List.mem_map.1 hc
  have h1:=fits_get hbf he
  simp [h1.1,h1.2]
 ·unfold allPuts
  rw [List.length_map]
  have:=hb.len
  omega
 ·rw [List.length_map,← hts,List.length_map,List.length_map]
 ·obtain ⟨x,hx,rfl⟩:=List.mem_map.1 hl
  exact diff_fits hbf (hfit x hx)
theorem stkFits_of {s:List (List S57)} (h:s.length≤12∧∀ l ∈ s,FewC l) (hw:∀ l ∈ s,∀ x ∈ l,NdWf (chOf x).node):StkFits s:=⟨by omega,fun l hl=>fitsC_of (h.2 l hl),keys_of h.2 hw⟩
end Go.Proofs.Zq
end
section
namespace Go.Proofs.Zq
open Go.RowKit Go.Proofs.Zw.PrintWords Go.Proofs.Zw.PrintLast Go.Proofs.Zw.PrintMore
open Go.Proofs.YtjghikkboekonaaGreatDoor (GL)
attribute [local go_sem] max2_int min2_int max_two min_two pz35 pz36 max_four min_four
def rd_T32 (xs:List S32) (i:Int):S32:=xs.getD i.toNat z32
theorem at_T32 {w:World} {A:Option Addr} {n:Nat} {xs:List S32} (h:Kd.C k32 w A n xs) (i:Int) (h0:0≤i) (h1:i<n):∃ ad ,A=some ad∧w.cell? (ad.add (i.toNat * 11))=some (.string (rd_T32 xs i).f0)∧w.cell? ⟨(ad.add (i.toNat * 11)).block,(ad.add (i.toNat * 11)).off + 1,none⟩=some (.int .i64 (rd_T32 xs i).f1.f0)∧w.cell? ⟨(ad.add (i.toNat * 11)).block,(ad.add (i.toNat * 11)).off + 2,none⟩=some (.int .i64 (rd_T32 xs i).f1.f1)∧w.cell? ⟨(ad.add (i.toNat * 11)).block,(ad.add (i.toNat * 11)).off + 3,none⟩=some (.int .i64 (rd_T32 xs i).f1.f2)∧w.cell? ⟨(ad.add (i.toNat * 11)).block,(ad.add (i.toNat * 11)).off + 4,none⟩=some (.int .i64 (rd_T32 xs i).f1.f3)∧w.cell? ⟨(ad.add (i.toNat * 11)).block,(ad.add (i.toNat * 11)).off + 5,none⟩=some (.int .i64 (rd_T32 xs i).f1.f4)∧w.cell? ⟨(ad.add (i.toNat * 11)).block,(ad.add (i.toNat * 11)).off + 6,none⟩=some (.string (rd_T32 xs i).f1.f5)∧w.cell? ⟨(ad.add (i.toNat * 11)).block,(ad.add (i.toNat * 11)).off + 7,none⟩=some (.string (rd_T32 xs i).f1.f6)∧w.cell? ⟨(ad.add (i.toNat * 11)).block,(ad.add (i.toNat * 11)).off + 8,none⟩=some (.int .i64 (rd_T32 xs i).f1.f7)∧w.cell? ⟨(ad.add (i.toNat * 11)).block,(ad.add (i.toNat * 11)).off + 9,none⟩=some (.int .i64 (rd_T32 xs i).f1.f8)∧w.cell? ⟨(ad.add (i.toNat * 11)).block,(ad.add (i.toNat * 11)).off + 10,none⟩=some (.string (rd_T32 xs i).f1.f9):=by
 obtain ⟨ad,c,e,_,hK,hc0⟩:=Kd.C_get h z32 i h0 h1
 have hc:∀ j u,c[j]?=some u→w.cell? (ad.add (i.toNat * 11 + j))=some u:=hc0
 obtain rfl:=k32_open hK
 exact ⟨ad,e,hc 0 _ rfl,by rw [← add_field _ _ 1 (by omega)];exact hc 1 _ rfl,by rw [← add_field _ _ 2 (by omega)];exact hc 2 _ rfl,by rw [← add_field _ _ 3 (by omega)];exact hc 3 _ rfl,by rw [← add_field _ _ 4 (by omega)];exact hc 4 _ rfl,by rw [← add_field _ _ 5 (by omega)];exact hc 5 _ rfl,by rw [← add_field _ _ 6 (by omega)];exact hc 6 _ rfl,by rw [← add_field _ _ 7 (by omega)];exact hc 7 _ rfl,by rw [← add_field _ _ 8 (by omega)];exact hc 8 _ rfl,by rw [← add_field _ _ 9 (by omega)];exact hc 9 _ rfl,by rw [← add_field _ _ 10 (by omega)];exact hc 10 _ rfl⟩
end Go.Proofs.Zq
end
section
namespace Go.Proofs.Zt
variable {π ν:Type} (P:Paths π) (dir:ν→Bool)
namespace Paths
variable {P}
end Paths
variable {P dir}
theorem makes_after {a b:π→Option ν} {L:Lay P ν} (ha:WF P dir a) (hb:WF P dir b) (h:Makes dir a b L) (q:π) (hq:P.V q):after dir L a q=b q:=by
 rcases after_cases (dir:=dir) L a q with ⟨m,h1,h2⟩|⟨h1,h2,h3⟩|⟨h1,h2,h3,h4⟩
 ·rw [h2];exact (((h.put _ _).1 h1).1).symm
 ·rw [h3]
  cases e:b q with
  | none=>rfl
  | some n =>
   exfalso
   rcases h2 with ⟨p,m,c1,c2,c3⟩|h2
   ·have hf:=hb.up q hq n e p c3
    have:=((h.put _ _).1 c1).1
    rcases hf with hr|⟨k,hk,hd⟩
    ·exact P.V_root (hr ▸ L.put_V _ _ c1)
    ·rw [this] at hk;cases hk;rw [c2] at hd;cases hd
   ·obtain ⟨p,c1,c2,c3,_⟩:=(h.tk q hq).1 h2
    rcases c1 with rfl|c1
    ·rw [e] at c3;cases c3
    ·rcases hb.up q hq n e p c1 with hr|⟨k,hk,_⟩
     ·obtain ⟨x,hx⟩:∃ x,a p=some x:=by cases ex:a p with|none=>exact absurd ex c2|some x=>exact ⟨x,rfl⟩
      exact P.V_root (hr ▸ (ha p x hx).1)
     ·rw [c3] at hk;cases hk
 ·rw [h4]
  cases e:b q with
  | some n =>
   cases e2:a q with
   | none=>rw [(h.put q n).2 ⟨e,by rw [e2];simp⟩] at h1;cases h1
   | some m =>
    by_cases hmn:m=n
    ·rw [hmn]
    ·rw [(h.put q n).2 ⟨e,by rw [e2];simpa using hmn⟩] at h1;cases h1
  | none =>
   cases e2:a q with
   | none=>rfl
   | some m =>
    exfalso
    have top:∀ q,P.V q→b q=none→(∀ m,a q=some m→L.tk q=true∨Cov dir L q):=by
     refine Paths.ind (C:=fun q=>b q=none→(∀ m,a q=some m→L.tk q=true∨Cov dir L q)) fun q hq ih e m e2=>?_
     by_cases hf:Fold P dir b (P.par q)
     ·exact .inl ((h.tk q hq).2 ⟨q,.inl rfl,by rw [e2];simp,e,hf⟩)
     ·have hr:P.par q≠P.root:=fun e=>hf (.inl e)
      have hv:=(P.par_V hq).resolve_left hr
      obtain ⟨k,hk,hkd⟩:=(ha q m e2).2.resolve_left hr
      cases eb:b (P.par q) with
      | none =>
       rcases ih hr eb k hk with h'|h'
       ·exact .inl (L.tk_down _ _ hq h' (Paths.under_par hq))
       ·exact .inr (h'.down hq (Paths.under_par hq))
      | some j =>
       have hj:dir j=false:=by cases ed:dir j with|false=>rfl|true=>exact absurd (.inr ⟨j,eb,ed⟩) hf
       refine .inr ⟨P.par q,j,(h.put _ _).2 ⟨eb,?_⟩,hj,Paths.under_par hq⟩
       rw [hk];simp only [ne_eq,Option.some.injEq];rintro rfl;rw [hkd] at hj;cases hj
    rcases top q hq e m e2 with h'|h'
    ·rw [h3] at h';cases h'
    ·exact h2 h'
theorem makes_ok {a b:π→Option ν} {L:Lay P ν} (ha:WF P dir a) (hb:WF P dir b) (h:Makes dir a b L):Ok dir L a:=by
 intro p n hp
 have hv:=L.put_V _ _ hp
 rcases (hb p n ((h.put _ _).1 hp).1).2 with hr|⟨m,hm,hd⟩
 ·exact .inl hr
 ·rcases P.par_V hv with hr|hv'
  ·exact .inl hr
  ·exact .inr ⟨m,(makes_after ha hb h _ hv').trans hm,hd⟩
end Go.Proofs.Zt
end
section
namespace Go.Proofs.Zt
variable {π ν:Type} [DecidableEq π] {P:Paths π} {dir:ν→Bool}
theorem DiffR.makes {key:Ch π ν→π} {a b:π→Option ν} {l:List (Ch π ν)} (hl:LayR P key l) (h:DiffR P dir a b l):Makes dir a b (layOf hl) where
 put p n:=by
  rw [pz38]
  constructor
  ·rintro ⟨c,hc,h0,rfl,rfl⟩
   exact (h.put c h0).1 hc
  ·rintro ⟨h1,h2⟩
   exact ⟨⟨p,0,n⟩,(h.put ⟨p,0,n⟩ rfl).2 ⟨h1,h2⟩,rfl,rfl,rfl⟩
 tk q _:=by
  rw [layOf_tk]
  constructor
  ·rintro ⟨c,hc,⟨h1,h2⟩|⟨h1,_⟩⟩
   ·exact ⟨c.path,h2,(h.white _).1 ⟨c,hc,h1,rfl⟩⟩
   ·rcases h.op c hc with h0|h0 <;> rw [h0] at h1 <;> cases h1
  ·rintro ⟨p,h1,h2⟩
   obtain ⟨c,hc,h3,rfl⟩:=(h.white p).2 h2
   exact ⟨c,hc,.inl ⟨h3,h1⟩⟩
end Go.Proofs.Zt
end
section
namespace Go.Proofs.Zt
variable {ν:Type} [DecidableEq ν] (Y:Sys ν)
theorem applyM_of {t:Row ν} {l:Lyr ν} (ht:RightT Y t) (hl:RightL Y l) (hk:Ok Y.dir (layOf hl.layR) (getL t)) {a:Row ν} (ha:Srt PS a) (hlen:a.length≤5000) (hag:∀ q,PS.V q→getL a q=after Y.dir (layOf hl.layR) (getL t) q):applyM Y t l=(a,0):=by
 unfold applyM
 rw [(pz39 Y).2 ht,(rightC_iff Y).2 hl]
 simp only [Bool.and_self,if_true]
 rcases applyL_spec (dir:=Y.dir) lessM_iff hl.layR ht.srt ht.wf with ⟨_,hn⟩|⟨t',e,hs,_,h'⟩
 ·exact absurd hk hn
 ·rw [e]
  have:t'=a:=hs.ext ha fun q hq=>(h' q hq).trans (hag q hq).symm
  subst this
  dsimp only
  rw [if_pos hlen]
variable {Y}
end Go.Proofs.Zt
end
section
namespace Go.Proofs.Zt
variable {ν:Type} [DecidableEq ν] {Y:Sys ν}
theorem diffM_some {a b:Row ν} {l:Lyr ν} (h:diffM Y a b=(l,true)):RightT Y a∧RightT Y b∧l=sortL lessC [] (diffC Y a b):=by
 unfold diffM at h
 split at h
 ·rename_i hb
  simp only [Bool.and_eq_true] at hb
  simp only [Prod.mk.injEq,and_true] at h
  exact ⟨(pz39 Y).1 hb.1,(pz39 Y).1 hb.2,h.symm⟩
 ·simp at h
theorem diff_does {a b:Row ν} {l:Lyr ν} (h:diffM Y a b=(l,true)):RightL Y l∧applyM Y a l=(b,0):=by
 obtain ⟨ha,hb,rfl⟩:=diffM_some h
 obtain ⟨hl,hd⟩:=diff_right ha hb
 have hm:=hd.makes hl.layR
 exact ⟨hl,applyM_of Y ha hl (makes_ok ha.wf hb.wf hm) hb.srt hb.len fun q hq=>(makes_after ha.wf hb.wf hm q hq).symm⟩
end Go.Proofs.Zt
end
section
namespace Go.Proofs.Zt
variable {ν:Type} [DecidableEq ν] {Y:Sys ν}
omit [DecidableEq ν] in
theorem puts_allPuts (t:Row ν):puts (allPuts t)=t:=by
 unfold allPuts
 induction t with
 | nil=>rfl
 | cons e r ih=>simp only [List.map_cons,puts,if_true,ih]
omit [DecidableEq ν] in
theorem layOf_allPuts {t:Row ν} (h:LayR PS keyM (allPuts t)) (p:Str):(layOf h).put p=getL t p:=by
 show getL (puts (allPuts t)) p=_
 rw [puts_allPuts]
omit [DecidableEq ν] in
theorem allPuts_after {t:Row ν} (ht:RightT Y t) (g:Str→Option ν) (hg:∀ p,PS.V p→getL t p=none→g p=none) (q:Str) (hq:PS.V q):after Y.dir (layOf (allPuts_right ht).layR) g q=getL t q:=by
 cases e:getL t q with
 | some n=>exact after_put (by rw [layOf_allPuts];exact e)
 | none =>
  have e':(layOf (allPuts_right ht).layR).put q=none:=by rw [layOf_allPuts];exact e
  rcases after_cases (dir:=Y.dir) (layOf (allPuts_right ht).layR) g q with ⟨m,h1,_⟩|⟨_,_,h3⟩|⟨_,_,_,h4⟩
  ·rw [e'] at h1;cases h1
  ·exact h3
  ·rw [h4];exact hg q hq e
theorem puts_apply {t u:Row ν} (ht:RightT Y t) (hu:RightT Y u) (hsub:∀ p,PS.V p→getL t p=none→getL u p=none):applyM Y u (allPuts t)=(t,0):=by
 have ha:=allPuts_after ht (getL u) hsub
 refine applyM_of Y hu (allPuts_right ht) (fun p n hp=>?_) ht.srt ht.len fun q hq=>(ha q hq).symm
 rw [layOf_allPuts] at hp
 obtain ⟨hv,hf⟩:=ht.wf p n hp
 exact (fold_ext ha (PS.par_V hv)).2 hf
theorem nothing_put {t:Row ν} (ht:RightT Y t):applyM Y [] (allPuts t)=(t,0):=puts_apply ht right_nil fun _ _ _=>rfl
end Go.Proofs.Zt
end
section
namespace Go.Proofs.Zq
open Go.RowKit Go.Proofs.Zw.PrintWords Go.Proofs.Zw.PrintLast Go.Proofs.Zw.PrintMore
open Go.Proofs.YtjghikkboekonaaGreatDoor (GL)
attribute [local go_sem] max2_int min2_int max_two min_two pz35 pz36 max_four min_four
attribute [local go_sem high] eqA32
def onionskinref08_Same.l0:Nat→List (S32)→List (S32)→Int→Option (Bool)
 | 0,_,_,_=>none
 | k + 1,x0,x1,x5=>if x5<(x0.length:Int) then (if 0≤x5 then (if x5<(x1.length:Int) then (if (!((((rd_T32 x0 x5).f0).toList) == (((rd_T32 x1 x5).f0).toList)) || ((!(((rd_T32 x0 x5).f1.f0) == ((rd_T32 x1 x5).f1.f0)) || (!(((rd_T32 x0 x5).f1.f1) == ((rd_T32 x1 x5).f1.f1)) || (!(((rd_T32 x0 x5).f1.f2) == ((rd_T32 x1 x5).f1.f2)) || (!(((rd_T32 x0 x5).f1.f3) == ((rd_T32 x1 x5).f1.f3)) || (!(((rd_T32 x0 x5).f1.f4) == ((rd_T32 x1 x5).f1.f4)) || (!((((rd_T32 x0 x5).f1.f5).toList) == (((rd_T32 x1 x5).f1.f5).toList)) || (!((((rd_T32 x0 x5).f1.f6).toList) == (((rd_T32 x1 x5).f1.f6).toList)) || (!(((rd_T32 x0 x5).f1.f7) == ((rd_T32 x1 x5).f1.f7)) || (!(((rd_T32 x0 x5).f1.f8) == ((rd_T32 x1 x5).f1.f8)) || (!((((rd_T32 x0 x5).f1.f9).toList) == (((rd_T32 x1 x5).f1.f9).toList))))))))))))))=true then (some false) else (onionskinref08_Same.l0 k x0 x1 (wrap64 (x5 + 1)))) else (none)) else (none)) else (some true)
def onionskinref08_Same.f (k:Nat) (l0:List (S32)) (l1:List (S32)):Option (Bool):=if (l0.length:Int)=(l1.length:Int) then (onionskinref08_Same.l0 k l0 l1 0) else (some false)
set_option maxHeartbeats 8000000 in
set_option maxRecDepth 100000 in
theorem onionskinref08_Same.calls (k:Nat) (A0:Option Addr) (c0:Nat) (l0:List (S32)) (A1:Option Addr) (c1:Nat) (l1:List (S32)) (r:Bool) (w:World) (hr0:Kd.C k32 w A0 l0.length l0) (hc0:l0.length≤c0) (hr1:Kd.C k32 w A1 l1.length l1) (hc1:l1.length≤c1) (h:onionskinref08_Same.f k l0 l1=some r) :
  Calls Tryz.prog 26 #[.slice A0 l0.length c0,.slice A1 l1.length c1] w fun e w'=>e=.returned (.bool r)∧pz17 w w':=by
 have hu32:=Tryz.underlying32
 have HR0:=pz4.mk hr0
 have HC0:=pz4.mk hc0
 clear hr0 hc0
 have HR1:=pz4.mk hr1
 have HC1:=pz4.mk hc1
 clear hr1 hc1
 have H:(if (l0.length:Int)=(l1.length:Int) then (onionskinref08_Same.l0 k l0 l1 0) else (some false))=some r:=h
 clear h
 by_cases c3:(l0.length:Int)=(l1.length:Int)
 ·rw [if_pos c3] at H
  have c3b0:((l0.length:Int) == (l1.length:Int))=true:=beq_iff_eq.mpr c3
  have c3b1:((l0.length:Int) != (l1.length:Int))=false:=bne_eq_false_iff_eq.mpr c3
  have c3b2:(l0.length == l1.length)=true:=by first|simpa using c3|(simp at c3 ⊢;omega)
  clear c3
  have H':=pz4.mk H
  clear H
  go_enter Tryz.func26,Tryz.ntmps26
  go_wp2
  repeat (go_quiet (fail);try go_wp2)
  go_loopg [5] k (fun kq v5 w'=>∃ (x5_1:Int),v5=.int .i64 x5_1∧pz4 (onionskinref08_Same.l0 kq l0 l1 x5_1=some r)∧pz4 (kq≤k)∧pz17 w w')
  case atStart=>exact ⟨(0),(by first|rfl|(simp;done)|(simp [*];done)),H',⟨Nat.le_refl _⟩,by repeat (first|exact pz17.refl _|apply pz17.step)⟩
  case round =>
   clear H'
   try clear c1;try clear c3;try clear c3b0;try clear c3b1;try clear c3b2
   obtain ⟨x5_1,rfl,HA,HK1,⟨m1,rfl⟩⟩:=hrel
   cases gk with
   | zero=>exact absurd HA.out (by simp [onionskinref08_Same.l0])
   | succ k1 =>
    have H:=HA.out
    clear HA
    simp only [onionskinref08_Same.l0] at H
    by_cases c4:x5_1<(l0.length:Int)
    ·rw [if_pos c4] at H
     have c4b0:decide (x5_1<(l0.length:Int))=true:=decide_eq_true c4
     clear c4
     by_cases c5:0≤x5_1
     ·rw [if_pos c5] at H
      have c5b0:decide (0≤x5_1)=true:=decide_eq_true c5
      clear c5
      by_cases c6:x5_1<(l1.length:Int)
      ·rw [if_pos c6] at H
       have c6b0:decide (x5_1<(l1.length:Int))=true:=decide_eq_true c6
       clear c6
       by_cases c7:(!((((rd_T32 l0 x5_1).f0).toList) == (((rd_T32 l1 x5_1).f0).toList)) || ((!(((rd_T32 l0 x5_1).f1.f0) == ((rd_T32 l1 x5_1).f1.f0)) || (!(((rd_T32 l0 x5_1).f1.f1) == ((rd_T32 l1 x5_1).f1.f1)) || (!(((rd_T32 l0 x5_1).f1.f2) == ((rd_T32 l1 x5_1).f1.f2)) || (!(((rd_T32 l0 x5_1).f1.f3) == ((rd_T32 l1 x5_1).f1.f3)) || (!(((rd_T32 l0 x5_1).f1.f4) == ((rd_T32 l1 x5_1).f1.f4)) || (!((((rd_T32 l0 x5_1).f1.f5).toList) == (((rd_T32 l1 x5_1).f1.f5).toList)) || (!((((rd_T32 l0 x5_1).f1.f6).toList) == (((rd_T32 l1 x5_1).f1.f6).toList)) || (!(((rd_T32 l0 x5_1).f1.f7) == ((rd_T32 l1 x5_1).f1.f7)) || (!(((rd_T32 l0 x5_1).f1.f8) == ((rd_T32 l1 x5_1).f1.f8)) || (!((((rd_T32 l0 x5_1).f1.f9).toList) == (((rd_T32 l1 x5_1).f1.f9).toList))))))))))))))=true
       ·rw [if_pos c7] at H
        have c7b0:(!((((rd_T32 l0 x5_1).f0).toList) == (((rd_T32 l1 x5_1).f0).toList)) || ((!(((rd_T32 l0 x5_1).f1.f0) == ((rd_T32 l1 x5_1).f1.f0)) || (!(((rd_T32 l0 x5_1).f1.f1) == ((rd_T32 l1 x5_1).f1.f1)) || (!(((rd_T32 l0 x5_1).f1.f2) == ((rd_T32 l1 x5_1).f1.f2)) || (!(((rd_T32 l0 x5_1).f1.f3) == ((rd_T32 l1 x5_1).f1.f3)) || (!(((rd_T32 l0 x5_1).f1.f4) == ((rd_T32 l1 x5_1).f1.f4)) || (!((((rd_T32 l0 x5_1).f1.f5).toList) == (((rd_T32 l1 x5_1).f1.f5).toList)) || (!((((rd_T32 l0 x5_1).f1.f6).toList) == (((rd_T32 l1 x5_1).f1.f6).toList)) || (!(((rd_T32 l0 x5_1).f1.f7) == ((rd_T32 l1 x5_1).f1.f7)) || (!(((rd_T32 l0 x5_1).f1.f8) == ((rd_T32 l1 x5_1).f1.f8)) || (!((((rd_T32 l0 x5_1).f1.f9).toList) == (((rd_T32 l1 x5_1).f1.f9).toList))))))))))))))=true:=c7
        clear c7
        obtain rfl:=Option.some.inj H
        have p836:0≤(x5_1:Int):=of_decide_eq_true (by first|(with_reducible assumption)|assumption)
        have q836:x5_1<(l0.length:Int):=of_decide_eq_true (by first|(with_reducible assumption)|assumption)
        obtain ⟨ad836,e836,hx836_0,hx836_1,hx836_2,hx836_3,hx836_4,hx836_5,hx836_6,hx836_7,hx836_8,hx836_9,hx836_10⟩:=at_T32 HR0.out x5_1 p836 q836
        cases e836
        replace p836:=eq_true p836
        replace q836:=eq_true q836
        have p837:0≤(x5_1:Int):=of_decide_eq_true (by first|(with_reducible assumption)|assumption)
        have q837:x5_1<(l1.length:Int):=of_decide_eq_true (by first|(with_reducible assumption)|assumption)
        obtain ⟨ad837,e837,hx837_0,hx837_1,hx837_2,hx837_3,hx837_4,hx837_5,hx837_6,hx837_7,hx837_8,hx837_9,hx837_10⟩:=at_T32 HR1.out x5_1 p837 q837
        cases e837
        replace p837:=eq_true p837
        replace q837:=eq_true q837
        go_wp2
        repeat (go_quiet (fail);try go_wp2)
        go_ret
        exact ⟨by first|rfl|(simp;done)|(simp [*];done),by repeat (first|exact pz17.refl _|apply pz17.step)⟩
       ·rw [if_neg c7] at H
        have c7b0:(!((((rd_T32 l0 x5_1).f0).toList) == (((rd_T32 l1 x5_1).f0).toList)) || ((!(((rd_T32 l0 x5_1).f1.f0) == ((rd_T32 l1 x5_1).f1.f0)) || (!(((rd_T32 l0 x5_1).f1.f1) == ((rd_T32 l1 x5_1).f1.f1)) || (!(((rd_T32 l0 x5_1).f1.f2) == ((rd_T32 l1 x5_1).f1.f2)) || (!(((rd_T32 l0 x5_1).f1.f3) == ((rd_T32 l1 x5_1).f1.f3)) || (!(((rd_T32 l0 x5_1).f1.f4) == ((rd_T32 l1 x5_1).f1.f4)) || (!((((rd_T32 l0 x5_1).f1.f5).toList) == (((rd_T32 l1 x5_1).f1.f5).toList)) || (!((((rd_T32 l0 x5_1).f1.f6).toList) == (((rd_T32 l1 x5_1).f1.f6).toList)) || (!(((rd_T32 l0 x5_1).f1.f7) == ((rd_T32 l1 x5_1).f1.f7)) || (!(((rd_T32 l0 x5_1).f1.f8) == ((rd_T32 l1 x5_1).f1.f8)) || (!((((rd_T32 l0 x5_1).f1.f9).toList) == (((rd_T32 l1 x5_1).f1.f9).toList))))))))))))))=false:=by simpa using c7
        clear c7
        have H':=pz4.mk H
        clear H
        have p836:0≤(x5_1:Int):=of_decide_eq_true (by first|(with_reducible assumption)|assumption)
        have q836:x5_1<(l0.length:Int):=of_decide_eq_true (by first|(with_reducible assumption)|assumption)
        obtain ⟨ad836,e836,hx836_0,hx836_1,hx836_2,hx836_3,hx836_4,hx836_5,hx836_6,hx836_7,hx836_8,hx836_9,hx836_10⟩:=at_T32 HR0.out x5_1 p836 q836
        cases e836
        replace p836:=eq_true p836
        replace q836:=eq_true q836
        have p837:0≤(x5_1:Int):=of_decide_eq_true (by first|(with_reducible assumption)|assumption)
        have q837:x5_1<(l1.length:Int):=of_decide_eq_true (by first|(with_reducible assumption)|assumption)
        obtain ⟨ad837,e837,hx837_0,hx837_1,hx837_2,hx837_3,hx837_4,hx837_5,hx837_6,hx837_7,hx837_8,hx837_9,hx837_10⟩:=at_T32 HR1.out x5_1 p837 q837
        cases e837
        replace p837:=eq_true p837
        replace q837:=eq_true q837
        go_wp2
        repeat (go_quiet (fail);try go_wp2)
        go_roundg k1
        case measure=>have:=HK1.out;omega
        case rel=>exact ⟨(wrap64 (x5_1 + 1)),(by first|rfl|(simp;done)|(simp [*];done)),H',⟨by have:=HK1.out;omega⟩,by repeat (first|exact pz17.refl _|apply pz17.step)⟩
      ·rw [if_neg c6] at H
       exact absurd H (by simp)
     ·rw [if_neg c5] at H
      exact absurd H (by simp)
    ·rw [if_neg c4] at H
     have c4b0:decide (x5_1<(l0.length:Int))=false:=decide_eq_false c4
     clear c4
     obtain rfl:=Option.some.inj H
     go_wp2
     repeat (go_quiet (fail);try go_wp2)
     go_ret
     exact ⟨by first|rfl|(simp;done)|(simp [*];done),by repeat (first|exact pz17.refl _|apply pz17.step)⟩
 ·rw [if_neg c3] at H
  have c3b0:((l0.length:Int) == (l1.length:Int))=false:=beq_eq_false_iff_ne.mpr c3
  have c3b1:((l0.length:Int) != (l1.length:Int))=true:=bne_iff_ne.mpr c3
  have c3b2:(l0.length == l1.length)=false:=by first|simpa using c3|(simp at c3 ⊢;omega)
  obtain rfl:=Option.some.inj H
  go_enter Tryz.func26,Tryz.ntmps26
  go_wp2
  repeat (go_quiet (fail);try go_wp2)
  go_ret
  exact ⟨by first|rfl|(simp;done)|(simp [*];done),by repeat (first|exact pz17.refl _|apply pz17.step)⟩
end Go.Proofs.Zq
end
section
namespace Go.Proofs.Zq
open Go.RowKit Go.Proofs.YtjghikkboekonaaGreatDoor Go.Proofs.Zw.PrintWords Go.Proofs.Zw.PrintLast Go.Proofs.Zw.PrintMore
open Go.Proofs.Zt (applyM rightT rightC Ch getL)
theorem rdE {l:List S32} {i:Nat} (h:i<l.length):rd_T32 l (i:Int)=l[i]:=by
 unfold rd_T32
 rw [show ((i:Nat):Int).toNat=i from rfl,List.getD_eq_getElem?_getD,List.getElem?_eq_getElem h];rfl
theorem ba_eq (a b:ByteArray):(a.toList == b.toList)=decide (a=b):=by
 rw [Bool.eq_iff_iff,beq_iff_eq,decide_eq_true_eq]
 constructor
 ·intro h
  rw [ByteArray.toList_eq,ByteArray.toList_eq] at h
  obtain ⟨x⟩:=a;obtain ⟨y⟩:=b
  congr 1
  exact Array.toList_inj.1 h
 ·rintro rfl;rfl
theorem same_l (a b:List S32) (hl:a.length=b.length) (hn:a.length≤1000000000000000) (d0:Bool) (hd0:d0=true↔a=b):∀ d i,i + d=a.length→a.take i=b.take i→Ev (fun k=>onionskinref08_Same.l0 k a b i) d0:=by
 intro d
 induction d with
 | zero =>
  intro i hi ht
  have:a=b:=by rwa [List.take_of_length_le (by omega),List.take_of_length_le (by omega)] at ht
  rw [hd0.2 this]
  refine Ev.step (f:=fun _=>some true) (fun k=>?_) (Ev.now _)
  simp only [onionskinref08_Same.l0];rw [if_neg (by omega)]
 | succ d ih =>
  intro i hi ht
  have h1:i<a.length:=by omega
  have h2:i<b.length:=by omega
  by_cases he:a[i]=b[i]
  ·refine Ev.step (fun k=>?_) (ih (i + 1) (by omega) (by rw [List.take_succ_eq_append_getElem h1,List.take_succ_eq_append_getElem h2,ht,he]))
   simp only [onionskinref08_Same.l0,ba_eq]
   rw [rdE h1,rdE h2,he,if_pos (by omega),if_pos (by omega),if_pos (by omega),if_neg (by simp),w64 (by omega) (by omega)]
   rfl
  ·have hne:d0=false:=by
    cases hd:d0 with
    | false=>rfl
    | true =>
     have:=hd0.1 hd
     subst this
     exact absurd rfl he
   rw [hne]
   refine Ev.step (f:=fun _=>some false) (fun k=>?_) (Ev.now _)
   simp only [onionskinref08_Same.l0,ba_eq]
   rw [rdE h1,rdE h2,if_pos (by omega),if_pos (by omega),if_pos (by omega),if_pos ?_]
   generalize a[i]=x at he
   generalize b[i]=y at he
   obtain ⟨x0,x1,x2,x3,x4,x5,x6,x7,x8,x9,x10⟩:=x
   obtain ⟨y0,y1,y2,y3,y4,y5,y6,y7,y8,y9,y10⟩:=y
   apply Classical.byContradiction
   intro hc
   apply he
   simp at hc
   obtain ⟨q0,q1,q2,q3,q4,q5,q6,q7,q8,q9,q10⟩:=hc
   subst q0;subst q1;subst q2;subst q3;subst q4;subst q5;subst q6;subst q7;subst q8;subst q9;subst q10
   rfl
theorem same_ev (a b:List S32) (hn:a.length≤1000000000000000) {d0:Bool} (hd0:d0=true↔a=b):Ev (fun k=>onionskinref08_Same.f k a b) d0:=by
 unfold onionskinref08_Same.f
 by_cases hl:a.length=b.length
 ·refine Ev.congr (fun k=>?_) (same_l a b hl hn d0 hd0 a.length 0 (by omega) rfl)
  rw [if_pos (by omega)];rfl
 ·have hne:d0=false:=by
   cases hd:d0 with
   | false=>rfl
   | true=>exact absurd (by rw [hd0.1 hd]) hl
  rw [hne]
  exact Ev.congr (fun k=>by rw [if_neg (by omega)]) (Ev.now _)
end Go.Proofs.Zq
end
section
namespace Go.Proofs.Zq
open Go.RowKit Go.Proofs.YtjghikkboekonaaGreatDoor Go.Proofs.Zw.PrintWords Go.Proofs.Zw.PrintLast Go.Proofs.Zw.PrintMore
open Go.Proofs.Zt (applyM RightT getL parM underM Ch)
theorem same_c (w:World) (A0:Option Addr) (c0:Nat) (l0:List S32) (hr0:Kd.C k32 w A0 l0.length l0) (hc0:l0.length≤c0) (n0:l0.length≤1000000)
  (A1:Option Addr) (c1:Nat) (l1:List S32) (hr1:Kd.C k32 w A1 l1.length l1) (hc1:l1.length≤c1) (d:Bool) (hd:d=true↔l0=l1) :
  Calls Tryz.prog 26 #[.slice A0 l0.length c0,.slice A1 l1.length c1] w fun x w'=>x=.returned (.bool d)∧Below w.heap.size w w':=by
 obtain ⟨k,hk⟩:=(same_ev l0 l1 (by omega) hd).rounds
 exact (onionskinref08_Same.calls k A0 c0 l0 A1 c1 l1 _ w hr0 hc0 hr1 hc1 hk).mono fun _ _ ⟨h1,h2⟩=>⟨h1,h2.below⟩
end Go.Proofs.Zq
end
section
namespace Go.Proofs.Zq
open Go.RowKit Go.WideMaps Go.Maps Go.Proofs.YtjghikkboekonaaGreatDoor Go.Proofs.Zw.PrintWords Go.Proofs.Zw.PrintLast Go.Proofs.Zw.PrintMore
open Go.Proofs.Zt (diffM bothM Ch)
attribute [local go_sem high] eqCg
theorem own_none {α:Type} {enc:α→List Value} {T k base:Nat} {w:World} {v:Value} (h:Owr enc T k base w v []):∃ A c,v=.slice A 0 c:=by
 obtain ⟨A,c,rfl,_,_⟩:=Owr.val h
 exact ⟨A,c,rfl⟩
end Go.Proofs.Zq
end
section
namespace Go.Proofs.Zt
variable {ν:Type} [DecidableEq ν] {Y:Sys ν}
theorem folds_at {k:Nat} {ss:List (List (Lyr ν))} (h:(foldsGo Y k ss).2.2≠0):(foldsGo Y k ss).2.1<k + ss.length:=by
 induction ss generalizing k with
 | nil=>exact absurd rfl h
 | cons s r ih =>
  unfold foldsGo at h ⊢
  split at h
  ·rename_i hc
   rw [if_pos hc]
   have:=ih h
   simp
   omega
  ·rename_i hc
   rw [if_neg hc]
   simp
theorem common_folds {ss:List (List (Lyr ν))} {base:Lyr ν} {rests:List (Lyr ν)} {n:Nat} (h:extractM Y ss=(base,rests,n,0)) :
  n=ss.length∧rests.length=ss.length∧RightL Y base∧∀ (i:Nat) (s:List (Lyr ν)) (r:Lyr ν),ss[i]?=some s→rests[i]?=some r→(ontoGo Y 0 [] s).2.2=0∧ontoGo Y 0 [] [base,r]=((ontoGo Y 0 [] s).1,2,0):=by
 unfold extractM at h
 split at h
 ·simp at h
 ·rename_i hne
  split at h
  ·rename_i h0
   simp only [Prod.mk.injEq,and_true] at h
   obtain ⟨rfl,rfl,rfl⟩:=h
   obtain ⟨f1,f2,f3⟩:=folds_spec h0
   obtain ⟨t,r,hts⟩:∃ t r,(foldsGo Y 0 ss).1=t :: r:=by
    rw [f1]
    cases ss with
    | nil=>exact absurd rfl hne
    | cons s r=>exact ⟨_,_,rfl⟩
   have hb:=(both_spec (Y:=Y) (t:=t) (r:=r) (by rw [← hts];exact f3)).1
   rw [← hts] at hb
   refine ⟨rfl,by rw [f1];simp,allPuts_right hb,fun i s d hs hd=>?_⟩
   rw [f1] at hd
   simp only [List.map_map,List.getElem?_map,hs,Option.map_some,Option.some.injEq,Function.comp] at hd
   subst hd
   have hmem:=List.mem_of_getElem? hs
   have hok:=f2 s hmem
   have ht:=(onto_right right_nil hok).1
   refine ⟨hok,?_⟩
   rw [← f1]
   have hd:diffM Y (bothM Y (foldsGo Y 0 ss).1) (ontoGo Y 0 [] s).1=((diffM Y (bothM Y (foldsGo Y 0 ss).1) (ontoGo Y 0 [] s).1).1,true):=by
    refine Prod.ext rfl ?_
    unfold diffM
    rw [(pz39 Y).2 hb,(pz39 Y).2 ht];rfl
   have h1:=nothing_put hb
   have h2:=(diff_does hd).2
   rw [onto_ok (by rw [h1]),h1,onto_ok (by rw [h2]),h2];rfl
  ·simp only [Prod.mk.injEq] at h
   rename_i hn
   exact absurd h.2.2.2 hn
end Go.Proofs.Zt
end
section
namespace Go.Proofs.Zq
open Go.RowKit Go.Proofs.YtjghikkboekonaaGreatDoor Go.Proofs.Zw.PrintWords Go.Proofs.Zw.PrintLast Go.Proofs.Zw.PrintMore
open Go.Proofs.Zt (Ch ontoGo ontoM bothM diffM extractM foldsGo allPuts RightL rightC)
theorem common_err {ss:List (List (List (Ch Str Nd)))} {b:List (Ch Str Nd)} {rs:List (List (Ch Str Nd))} {n:Nat} {e:Int} (h0:ss≠[]) (he:e≠0) (h:extractM Y ss=(b,rs,n,e)):b=[]∧rs=[]∧n<ss.length:=by
 unfold extractM at h
 rw [if_neg h0] at h
 split at h
 ·simp only [Prod.mk.injEq] at h
  exact absurd h.2.2.2.symm he
 ·rename_i hf
  simp only [Prod.mk.injEq] at h
  have:=Zt.folds_at (Y:=Y) (k:=0) (ss:=ss) hf
  exact ⟨h.1.symm,h.2.1.symm,by omega⟩
set_option maxRecDepth 100000 in
set_option maxHeartbeats 16000000 in
theorem commonFolds_calls (w:World) (hG:GL w) (A0:Option Addr) (c0:Nat) (s0:List (List S57)) (hS0:Kd.C (Kd.slice 57 k57) w A0 s0.length s0) (hc0:s0.length≤c0) (hz0:∀ l ∈ s0,SzC l∧l.length≤1000000000000000) (hn0:s0.length≤1000000000000000) (hw0:∀ l ∈ s0,∀ x ∈ l,NdWf (chOf x).node)
  (A1:Option Addr) (c1:Nat) (s1:List (List S57)) (hS1:Kd.C (Kd.slice 57 k57) w A1 s1.length s1) (hc1:s1.length≤c1) (hz1:∀ l ∈ s1,SzC l∧l.length≤1000000000000000) (hn1:s1.length≤1000000000000000) (hw1:∀ l ∈ s1,∀ x ∈ l,NdWf (chOf x).node)
  (A2:Option Addr) (c2:Nat) (s2:List (List S57)) (hS2:Kd.C (Kd.slice 57 k57) w A2 s2.length s2) (hc2:s2.length≤c2) (hz2:∀ l ∈ s2,SzC l∧l.length≤1000000000000000) (hn2:s2.length≤1000000000000000) (hw2:∀ l ∈ s2,∀ x ∈ l,NdWf (chOf x).node) :
  Calls Tryz.prog 9 #[.slice A0 s0.length c0,.slice A1 s1.length c1,.slice A2 s2.length c2] w fun e w'=>e=.returned (.bool true)∧Below w.heap.size w w':=by
 have HS0:=pH hS0
 have HC0:=pH hc0
 have HZ0:=pH hz0
 have HN0:=pH hn0
 have HW0:=pH hw0
 clear hS0 hc0 hz0 hn0 hw0
 have HS1:=pH hS1
 have HC1:=pH hc1
 have HZ1:=pH hz1
 have HN1:=pH hn1
 have HW1:=pH hw1
 clear hS1 hc1 hz1 hn1 hw1
 have HS2:=pH hS2
 have HC2:=pH hc2
 have HZ2:=pH hz2
 have HN2:=pH hn2
 have HW2:=pH hw2
 clear hS2 hc2 hz2 hn2 hw2
 go_enter Tryz.func9,Tryz.ntmps9
 go_wp2_with fail
 refine (small23_calls w hG).mono ?_
 rintro x w2 ⟨rfl,hb⟩
 have HB2:=pH hb
 clear hb
 go_wp2_with fail
 refine (few18x_calls w2 A0 c0 s0 (Kd.C_below HS0.out HB2.out) HZ0.out HN0.out).mono ?_
 rintro x w3 ⟨b0,rfl,hb0,hb⟩
 have F0:=pH hb0
 have HB3:=pH (pbt HB2.out hb)
 clear hb hb0 HB2
 go_wp2_with fail
 refine (few18x_calls w3 A1 c1 s1 (Kd.C_below HS1.out HB3.out) HZ1.out HN1.out).mono ?_
 rintro x w4 ⟨b1,rfl,hb1,hb⟩
 have F1:=pH hb1
 have HB4:=pH (pbt HB3.out hb)
 clear hb hb1 HB3
 go_wp2_with fail
 refine (few18x_calls w4 A2 c2 s2 (Kd.C_below HS2.out HB4.out) HZ2.out HN2.out).mono ?_
 rintro x w5 ⟨b2,rfl,hb2,hb⟩
 have F2:=pH hb2
 have HB5:=pH (pbt HB4.out hb)
 clear hb hb2 HB4
 cases b0 with
 | false =>
  go_wp2_with fail
  go_ret
  exact ⟨rfl,HB5.out⟩
 | true =>
 cases b1 with
 | false =>
  go_wp2_with fail
  go_ret
  exact ⟨rfl,HB5.out⟩
 | true =>
 cases b2 with
 | false =>
  go_wp2_with fail
  go_ret
  exact ⟨rfl,HB5.out⟩
 | true =>
 have T0:=pH (stkFits_of (F0.out rfl) HW0.out)
 have T1:=pH (stkFits_of (F1.out rfl) HW1.out)
 have T2:=pH (stkFits_of (F2.out rfl) HW2.out)
 clear F0 HZ0 HN0 HW0 F1 HZ1 HN1 HW1 F2 HZ2 HN2 HW2
 go_wp2_with ((with_reducible refine pz10 (N:=45) rfl ?_);refine pz34 rfl (N:=45) rfl (cs:=([.slice A0 s0.length c0,.slice A1 s1.length c1,.slice A2 s2.length c2]).toArray) (t:=41) (n:=3) (by kernel_rfl) ?_;intro g45 hg w45 hb hbl;have HB45:=pH hb;have HBL45:=pH hbl;clear hg hb hbl;go_frame)
 have HW45:=pH (pbt HB5.out HBL45.out)
 have hst:Kd.C (Kd.slice 35 (Kd.slice 57 k57)) w45 (some ⟨g45,0,none⟩) [s0,s1,s2].length [s0,s1,s2]:=rows_block (vs:=[(A0,s0.length,c0),(A1,s1.length,c1),(A2,s2.length,c2)]) HB45.out (by show 3≤9223372036854775807;omega) ((((RowsAt.nil _).cons rfl HC2.out (Kd.C_below HS2.out HW45.out)).cons rfl HC1.out (Kd.C_below HS1.out HW45.out)).cons rfl HC0.out (Kd.C_below HS0.out HW45.out))
 have hall:∀ s ∈ [s0,s1,s2],StkFits s:=fun s hs=>by
  simp only [List.mem_cons,List.not_mem_nil,or_false] at hs
  rcases hs with rfl|rfl|rfl
  ·exact T0.out
  ·exact T1.out
  ·exact T2.out
 have ce:=extract_calls w45 (hG.ext HW45.out) (some ⟨g45,0,none⟩) 3 [s0,s1,s2] hst (by show 3≤100;omega) hall
 obtain ⟨X,hX⟩:∃ X,X=extractM Y ([s0,s1,s2].map (List.map (List.map chOf))):=⟨_,rfl⟩
 rw [← hX] at ce
 obtain ⟨bs,rs,n,err⟩:=X
 have CE:=pH ce
 have HX:=pH hX
 have HALL:=pH hall
 clear ce hX hall hst HB5 HB45 HBL45 T0 T1 T2
 go_wp2_with fail
 refine CE.out.mono ?_
 rintro x w46 ⟨vb,vr,us,rfl,ho,hr,hb⟩
 have HB46:=pH (pbt HW45.out hb)
 by_cases herr:err=0
 ·subst herr
  have hq0:((0:Int) != 0)=false:=rfl
  obtain ⟨hn3,hr3,hp1,hp2⟩:=Zt.common_folds HX.out.symm
  obtain ⟨hf1,hf2,hf3,hf4⟩:=extract_fits HALL.out HX.out.symm
  obtain ⟨A8,c8,hv8,hc8,hk8⟩:=own_chC ho hf2
  obtain ⟨A9,c9,hv9,hc9,hk9⟩:=rows_own (TE:=57) hr.own (hr.at_ (K:=k57) (f:=ofCh) (fun t ht v h=>own_chC h (hf4 t ht).2))
  obtain ⟨P,hP⟩:∃ P,P=bs.map ofCh:=⟨_,rfl⟩
  obtain ⟨Q,hQ⟩:∃ Q,Q=rs.map (List.map ofCh):=⟨_,rfl⟩
  have hql:Q.length=3:=by rw [hQ,List.length_map,hr3];rfl
  have hn3':n=3:=hn3
  rw [← hP] at hv8 hc8 hk8
  rw [← hQ] at hv9 hc9 hk9
  rw [hql] at hv9
  subst hv8
  subst hv9
  subst hn3'
  obtain ⟨SS,hSS⟩:∃ SS,SS=[s0,s1,s2]:=⟨_,rfl⟩
  have hsl:SS.length=3:=by rw [hSS];rfl
  have HFI:Hid (∀ (i:Nat) (hi:i<SS.length) (hq:i<Q.length),(ontoM Y ([]:List (Str×Nd)) (SS[i].map (List.map chOf))).2.2=0∧ontoM Y ([]:List (Str×Nd)) ([P,Q[i]].map (List.map chOf))=((ontoM Y ([]:List (Str×Nd)) (SS[i].map (List.map chOf))).1,2,0)):=pH (fun i hi hq=>by
   have hri:i<rs.length:=by rw [hr3];simpa [hSS] using hi
   have hs:([s0,s1,s2].map (List.map (List.map chOf)))[i]?=some (SS[i].map (List.map chOf)):=by
    rw [← hSS,List.getElem?_map,List.getElem?_eq_getElem hi];rfl
   obtain ⟨h1,h2⟩:=hp2 i _ _ hs (List.getElem?_eq_getElem hri)
   have e1:Q[i].map chOf=rs[i]:=by
    have h3:Q[i]?=(rs.map (List.map ofCh))[i]?:=by rw [hQ]
    rw [List.getElem?_eq_getElem hq,List.getElem?_map,List.getElem?_eq_getElem hri] at h3
    rw [Option.some.inj h3,chs_back]
   rw [List.map_cons,List.map_cons,List.map_nil,e1,hP,chs_back,ontoM_nil,ontoM_nil]
   exact ⟨h1,h2⟩)
  have HFP:Hid (lyrFits' P):=pH ⟨by rw [hP,chs_back];exact hf1,by rw [hP,List.length_map];exact hf2⟩
  have HFQ:Hid (∀ p ∈ Q,lyrFits' p):=pH (fun p hp=>by
   rw [hQ] at hp
   obtain ⟨l,hl,rfl⟩:=List.mem_map.1 hp
   exact ⟨by rw [chs_back];exact (hf4 l hl).1,by rw [List.length_map];exact (hf4 l hl).2⟩)
  have HFS:Hid (∀ s ∈ SS,StkFits s):=pH (by rw [hSS];exact HALL.out)
  have hpl:P.length≤1000000:=HFP.out.2
  have HK8:=pH hk8
  have HC8:=pH hc8
  have HK9:=pH hk9
  have HQL:=pH hql
  have HSL:=pH hsl
  have HSS:=pH hSS
  clear ho hr hb hn3 hr3 hp1 hp2 hf1 hf2 hf3 hf4 hc8 hk8 hc9 hk9 hP hQ hql hsl hSS CE HX HALL HW45
  go_wp2_with ((with_reducible refine pz10 (N:=71) rfl ?_);refine pz34 rfl (N:=71) rfl (cs:=([.slice A0 s0.length c0,.slice A1 s1.length c1,.slice A2 s2.length c2]).toArray) (t:=41) (n:=3) (by kernel_rfl) ?_;intro g71 hg w71 hb hbl;have HB71:=pH hb;have HBL71:=pH hbl;clear hg hb hbl;go_frame)
  have HW71:=pH (pbt HB46.out HBL71.out)
  have hst:Kd.C (Kd.slice 35 (Kd.slice 57 k57)) w71 (some ⟨g71,0,none⟩) [s0,s1,s2].length [s0,s1,s2]:=rows_block (vs:=[(A0,s0.length,c0),(A1,s1.length,c1),(A2,s2.length,c2)]) HB71.out (by show 3≤9223372036854775807;omega) ((((RowsAt.nil _).cons rfl HC2.out (Kd.C_below HS2.out HW71.out)).cons rfl HC1.out (Kd.C_below HS1.out HW71.out)).cons rfl HC0.out (Kd.C_below HS0.out HW71.out))
  rw [← HSS.out] at hst
  have HST:=pH hst
  have HK8b:=pH (Kd.C_below HK8.out HBL71.out)
  have HK9b:=pH (Kd.C_below HK9.out HBL71.out)
  clear hst HB71 HBL71 HB46 HK8 HK9 HSS
  go_loopg [16] 4 (fun gq v wr=>∃ i:Nat,v=.int .i64 i∧3<gq + i∧Hid (i≤3)∧Hid (Below w71.heap.size w71 wr))
  case atStart=>exact ⟨0,rfl,by omega,pH (by omega),pH (Below.refl _ _)⟩
  case round =>
   obtain ⟨i,rfl,hgi,HI,HBX⟩:=hrel
   by_cases hi:i<3
   ·cases gk with
    | zero=>omega
    | succ g1 =>
     have hi1:i<SS.length:=by rw [HSL.out];exact hi
     have hi2:i<Q.length:=by rw [HQL.out];exact hi
     obtain ⟨ad,A5,c5,had,hc5,hl5,hk5⟩:=rows_at HST.out i hi1
     obtain rfl:=Option.some.inj had
     obtain ⟨ad9,A6,c6,rfl,hc6,hl6,hk6⟩:=rows_at HK9b.out i hi2
     obtain ⟨h1,h2⟩:=HFI.out i hi1 hi2
     have hfs:=HFS.out _ (List.getElem_mem hi1)
     have hfq:=HFQ.out _ (List.getElem_mem hi2)
     have htf:=ontoM_fits (SS[i].map (List.map chOf)) [] rfl (by simp) (s_fits hfs.fits)
     have cf:=fold_calls wr (hG.ext (pbt HW71.out HBX.out)) A5 c5 SS[i] (Kd.C_below hk5 HBX.out) hfs.len hfs.fits
     obtain ⟨s,hs⟩:∃ s,s=SS[i]:=⟨_,rfl⟩
     obtain ⟨p,hp⟩:∃ p,p=Q[i]:=⟨_,rfl⟩
     rw [← hs] at hc5 h1 h2 htf cf
     rw [← hp] at hc6 hl6 hk6 h2 hfq
     obtain ⟨R,hR⟩:∃ R,R=ontoM Y ([]:List (Str×Nd)) (s.map (List.map chOf)):=⟨_,rfl⟩
     rw [← hR] at h1 h2 htf cf
     obtain ⟨T,m,e⟩:=R
     obtain rfl:e=0:=h1
     have HTF:=pH htf
     have H2:=pH h2
     have CF:=pH cf
     have HL6:=pH hl6
     have HK6:=pH hk6
     have HFQ1:=pH hfq
     have q1:=pz25 HBX.out hc5
     have HC6:=pH hc6
     have HII:Hid (i + 1≤3):=pH hi
     rw [Addr.add_mid,Nat.zero_add] at q1
     clear hi1 hi2 had hc5 hl5 hk5 hc6 hl6 hk6 h2 hfs hfq htf cf hs hp hR
     go_wp2_with fail
     refine CF.out.mono ?_
     rintro x w88 ⟨v88,rfl,ho,hb⟩
     have HB88:=pH (pbt HBX.out hb)
     obtain ⟨A17,c17,hv17,hc17,hk17⟩:=own_C ho
     obtain ⟨E,hE⟩:∃ E,E=T.map ofEn:=⟨_,rfl⟩
     rw [← hE] at hv17 hc17 hk17
     subst hv17
     have hel:E.length≤1000000:=by rw [hE,List.length_map];exact HTF.out.2
     have HE:=pH hE
     have HC17:=pH hc17
     have HK17:=pH hk17
     have q2:=pz25 HB88.out HC6.out
     clear ho hb hc17 hk17 hE CF q1
     go_wp2_with ((with_reducible refine pz10 (N:=98) rfl ?_);refine pz34 rfl (N:=98) rfl (cs:=([.slice A8 P.length c8,.slice A6 p.length c6]).toArray) (t:=35) (n:=2) (by kernel_rfl) ?_;intro g98 hg w98 hb hbl;have HB98:=pH hb;have HBL98:=pH hbl;clear hg hb hbl;go_frame)
     have HB98b:=pH (pbt HB88.out HBL98.out)
     have HW98:=pH (pbt HW71.out HB98b.out)
     have hs2:Kd.C (Kd.slice 57 k57) w98 (some ⟨g98,0,none⟩) [P,p].length [P,p]:=rows_block (vs:=[(A8,P.length,c8),(A6,p.length,c6)]) HB98.out (by show 2≤9223372036854775807;omega) (((RowsAt.nil _).cons rfl HL6.out (Kd.C_below HK6.out HB98b.out)).cons rfl HC8.out (Kd.C_below HK8b.out HB98b.out))
     have cg:=fold_calls w98 (hG.ext HW98.out) (some ⟨g98,0,none⟩) 2 [P,p] hs2 (by show 2≤1000000;omega) (fun l hl=>by
      simp only [List.mem_cons,List.not_mem_nil,or_false] at hl
      rcases hl with rfl|rfl
      ·exact HFP.out
      ·exact HFQ1.out)
     rw [H2.out] at cg
     have CG:=pH cg
     have HK17b:=pH (Kd.C_below HK17.out HBL98.out)
     clear cg hs2 HB98 HBL98 HB88 HK17 q2
     go_wp2_with fail
     refine CG.out.mono ?_
     rintro x w99 ⟨v99,rfl,ho,hb⟩
     have HB99:=pH (pbt HB98b.out hb)
     obtain ⟨A20,c20,hv20,hc20,hk20⟩:=own_C ho
     rw [← HE.out] at hv20 hc20 hk20
     subst hv20
     have cs:=same_c w99 A17 c17 E (Kd.C_below HK17b.out hb) HC17.out hel A20 c20 E hk20 hc20 true (by simp)
     have CS:=pH cs
     clear ho hb hc20 hk20 cs CG HB98b HW98 HK17b
     go_wp2_with fail
     refine CS.out.mono ?_
     rintro x w112 ⟨rfl,hb⟩
     have HB112:=pH (pbt HB99.out hb)
     clear hb CS HB99
     go_wp2_with fail
     go_roundg g1
     case measure=>omega
     case rel=>exact ⟨i + 1,by go_num,by omega,HII,HB112⟩
   ·have he:i=3:=by have:=HI.out;omega
    subst he
    go_wp2_with fail
    go_ret
    exact ⟨rfl,pbt HW71.out HBX.out⟩
 ·have hq0:((err:Int) != 0)=true:=by simpa using herr
  obtain ⟨h1,h2,h3⟩:=common_err (by simp) herr HX.out.symm
  subst h1
  subst h2
  obtain ⟨Ab,cb,rfl⟩:=own_none ho
  have hu0:us=[]:=List.eq_nil_of_length_eq_zero hr.len
  subst hu0
  obtain ⟨Ar,cr,rfl⟩:=own_none hr.own
  have h3':n<3:=h3
  have h4:decide ((n:Int)<3)=true:=by simp;omega
  have h5:decide (n<3)=true:=by simpa using h3'
  clear ho hr h3
  go_wp2_with fail
  go_ret
  exact ⟨rfl,HB46.out⟩
end Go.Proofs.Zq
end
