/- A part of a proof of statements of this seat: what its walks and its laws lean on; joined by a program of this repo (wip/pack.py) out of the texts XSlv, XBoth, XNdG, XDiffA, Drn, ShelfC, XSortC, XEqG, XDiff, XEqlE, XStk, QEq57, XSm19, XDiffL, Mod5, Mod9, XExtr. -/
import Derived.Calls
import Derived.Ground.SlsfProg
import Derived.Lib.SortBridge
import Derived.Shelf.SlGeneric
import Derived.Shelf.SlSortCmp.NoneTotal
import Derived.Shelf.SlSortCmp.WholeK
import Derived.Test.YtjghikkboekonaaGreatDoorProg
import Derived.Test.YtjghikkboekonaaGreatDoorKAB
import Derived.Test.YtjghikkboekonaaGreatDoorKAE
import Derived.Test.YtjghikkboekonaaGreatDoorKAH
import Derived.Test.YtjghikkboekonaaGreatDoorKAI
import Derived.Test.YtjghikkboekonaaGreatDoorKAJ
set_option linter.unusedSimpArgs false
set_option linter.unusedVariables false
section
namespace Go.Proofs.Zq
open Go.RowKit Go.Proofs.YtjghikkboekonaaGreatDoor Go.Proofs.Zw.PrintWords Go.Proofs.Zw.PrintLast Go.Proofs.Zw.PrintMore
abbrev SlW:=Option Addr×Nat×Nat
def encW (x:SlW):List Value:=[.slice x.1 x.2.1 x.2.2]
theorem encW_len (x:SlW):(encW x).length=1:=rfl
theorem encW_one:∀ x:SlW,∀ u ∈ encW x,u.oneCell'=true:=by
 intro x u hu
 rw [List.mem_singleton.1 hu]
 rfl
section
variable {α:Type} {K:Kd α}
def RowsAt (K:Kd α) (w:World) (vs:List SlW) (xs:List (List α)):Prop:=vs.length=xs.length∧∀ (j:Nat) (p:List α),xs[j]?=some p→∃ A c,vs[j]?=some (A,p.length,c)∧p.length≤c∧Kd.C K w A p.length p
theorem RowsAt.ext {w w1:World} {vs:List SlW} {xs:List (List α)} (h:RowsAt K w vs xs) (hb:Below w.heap.size w w1):RowsAt K w1 vs xs:=⟨h.1,fun j p hp=>by
 obtain ⟨A,c,h1,h2,h3⟩:=h.2 j p hp
 exact ⟨A,c,h1,h2,Kd.C_below h3 hb⟩⟩
theorem RowsAt.nil (w:World):RowsAt K w [] []:=⟨rfl,fun j p hp=>by simp at hp⟩
theorem RowsAt.snoc {w:World} {vs:List SlW} {xs:List (List α)} (h:RowsAt K w vs xs) {A:Option Addr} {p:List α} {c:Nat} (hc:p.length≤c) (hk:Kd.C K w A p.length p):RowsAt K w (vs ++ [(A,p.length,c)]) (xs ++ [p]):=⟨by rw [List.length_append,List.length_append,h.1];rfl,fun j q hq=>by
 by_cases hj:j<xs.length
 ·rw [List.getElem?_append_left hj] at hq
  rw [List.getElem?_append_left (by rw [h.1];exact hj)]
  exact h.2 j q hq
 ·rw [List.getElem?_append_right (by omega)] at hq
  rw [List.getElem?_append_right (by rw [h.1];omega),h.1]
  cases hjj:j - xs.length with
  | zero =>
   rw [hjj] at hq
   obtain rfl:=Option.some.inj hq
   exact ⟨A,c,rfl,hc,hk⟩
  | succ n=>rw [hjj] at hq;simp at hq⟩
theorem rows_own {base T TE:Nat} {w:World} {v:Value} {us:List SlW} {xs:List (List α)} (h:Owr encW T 1 base w v us) (hx:RowsAt K w us xs) :
  ∃ A c,v=.slice A xs.length c∧xs.length≤c∧Kd.C (Kd.slice TE K) w A xs.length xs:=by
 obtain ⟨A,c,rfl,hn,hc⟩:=Owr.val h
 have hl:=hx.1
 refine ⟨A,c,by rw [hl],by rw [← hl];exact hc,rfl,?_,fun h0=>?_⟩
 ·rcases h.2 with ⟨_,h0⟩|⟨g,cap,cur,hv,_,_,h1,h2,_⟩
  ·omega
  ·unfold maxLen at h2;omega
 ·cases A with
  | none=>exact absurd (hn rfl).1 (fun e=>by rw [e] at hl;simp at hl;omega)
  | some ad =>
   refine ⟨ad,rfl,fun j p hp=>?_⟩
   obtain ⟨A1,c1,hv,hc1,hk⟩:=hx.2 j p hp
   refine ⟨[.slice A1 p.length c1],rfl,⟨A1,c1,rfl,hc1,hk⟩,fun i u hu=>?_⟩
   obtain ⟨b,o,ha,hcell⟩:=h.row encW_len j _ hv
   obtain rfl:=Option.some.inj ha
   have:=hcell i u hu
   show w.cell? ((⟨b,o,none⟩:Addr).add (j * 1 + i))=_
   rw [YtjghikkboekonaaGreatDoor.add_at,← Nat.add_assoc]
   exact this
theorem rows_at {TE:Nat} {w:World} {A:Option Addr} {xs:List (List α)} (h:Kd.C (Kd.slice TE K) w A xs.length xs) (i:Nat) (hi:i<xs.length) :
  ∃ ad A0 c0,A=some ad∧w.cell? (ad.add i)=some (.slice A0 xs[i].length c0)∧xs[i].length≤c0∧Kd.C K w A0 xs[i].length xs[i]:=by
 obtain ⟨ad,c,e,_,hK,hc0⟩:=Kd.C_get h ([]:List α) (i:Int) (by omega) (by omega)
 have hc:∀ j u,c[j]?=some u→w.cell? (ad.add (i * 1 + j))=some u:=hc0
 have hd:xs.getD ((i:Nat):Int).toNat []=xs[i]:=by
  rw [show ((i:Nat):Int).toNat=i from rfl,List.getD_eq_getElem?_getD,List.getElem?_eq_getElem hi];rfl
 rw [hd] at hK
 obtain ⟨A0,c0,rfl,l0,g0⟩:=hK
 exact ⟨ad,A0,c0,e,by have hq:=hc 0 _ rfl;rwa [Nat.mul_one,Nat.add_zero] at hq,l0,g0⟩
theorem rows_block {TE T:Nat} {w:World} {g:Nat} {vs:List SlW} {xs:List (List α)} (h:w.heap[g]?=some (.cells (vs.map fun x=>Value.slice x.1 x.2.1 x.2.2).toArray T (0,0))) (hm:xs.length≤9223372036854775807)
  (hx:RowsAt K w vs xs):Kd.C (Kd.slice TE K) w (some ⟨g,0,none⟩) xs.length xs:=by
 refine ⟨rfl,hm,fun _=>⟨_,rfl,fun j p hp=>?_⟩⟩
 obtain ⟨A,c,hv,hc,hk⟩:=hx.2 j p hp
 refine ⟨[.slice A p.length c],rfl,⟨A,c,rfl,hc,hk⟩,fun i u hu=>?_⟩
 have e0:i=0:=by
  apply Classical.byContradiction
  intro hne
  rw [List.getElem?_eq_none (by simp;omega)] at hu
  cases hu
 subst e0
 obtain rfl:=Option.some.inj hu
 show w.cell? ((⟨g,0,none⟩:Addr).add (j * 1 + 0))=_
 rw [YtjghikkboekonaaGreatDoor.add_at,Nat.zero_add,Nat.mul_one,Nat.add_zero,pbc h]
 simp [hv]
theorem ownW_far {base T:Nat} {w:World} {v:Value} {us:List SlW} (h:Owr encW T 1 base w v us):∀ j,v.ownBlock=some j→base≤j:=by
 intro j hj
 rcases h.2 with ⟨hv,_⟩|⟨g,cap,cur,hv,hg,_⟩
 ·subst hv;cases hj
 ·subst hv
  have:g=j:=Option.some.inj hj
  omega
end
section
variable {β:Type} {enc:β→List Value} {T T' k base:Nat}
theorem own_lower {b:Nat} {w:World} {v:Value} {l:List β} (h:Owr enc T k base w v l) (hb:b≤base):Owr enc T k b w v l:=by
 refine ⟨h.1,?_⟩
 rcases h.2 with h0|⟨g,cap,cur,hv,hg,rest⟩
 ·exact .inl h0
 ·exact .inr ⟨g,cap,cur,hv,Nat.le_trans hb hg,rest⟩
theorem own_off {b b':Nat} {w:World} {v v':Value} {l:List β} {us:List SlW} (hT:T≠T') (h:Owr enc T k b w v l) (h1:Owr encW T' 1 b' w v' us):v.ownBlock=none∨v.ownBlock≠v'.ownBlock:=by
 rcases h.2 with ⟨hv,_⟩|⟨g,cap,cur,hv,hg,hgg,_⟩
 ·subst hv;exact .inl rfl
 ·rcases h1.2 with ⟨hv1,_⟩|⟨g1,cap1,cur1,hv1,hg1,hgg1,_⟩
  ·subst hv;subst hv1;exact .inr (fun h=>by cases h)
  ·subst hv;subst hv1
   refine .inr fun h=>?_
   have e:g=g1:=Option.some.inj h
   subst e
   rw [hgg] at hgg1
   have:=Option.some.inj hgg1
   simp only [Obj.cells.injEq] at this
   exact hT this.2.1
structure RowsO (enc:β→List Value) (T k T' base:Nat) (w:World) (out:Value) (us:List SlW) (ts:List (List β)):Prop where
 own:Owr encW T' 1 base w out us
 len:us.length=ts.length
 rows:∀ (j:Nat) x t,us[j]?=some x→ts[j]?=some t→x.2.1=t.length∧Owr enc T k base w (.slice x.1 x.2.1 x.2.2) t
theorem RowsO.nil (w:World):RowsO enc T k T' base w (.slice none 0 0) [] []:=⟨Owr.nil _ _ _ _ _,rfl,fun j x t h=>by simp at h⟩
theorem RowsO.ext {w w':World} {out:Value} {us:List SlW} {ts:List (List β)} (h:RowsO enc T k T' base w out us ts) (hb:Below w.heap.size w w'):RowsO enc T k T' base w' out us ts :=
 ⟨h.own.ext hb,h.len,fun j x t h1 h2=>⟨(h.rows j x t h1 h2).1,(h.rows j x t h1 h2).2.ext hb⟩⟩
theorem RowsO.low {b:Nat} {w:World} {out:Value} {us:List SlW} {ts:List (List β)} (h:RowsO enc T k T' base w out us ts) (hb:b≤base):RowsO enc T k T' b w out us ts :=
 ⟨own_lower h.own hb,h.len,fun j x t h1 h2=>⟨(h.rows j x t h1 h2).1,own_lower (h.rows j x t h1 h2).2 hb⟩⟩
theorem RowsO.snoc {w w':World} {out out':Value} {us:List SlW} {ts:List (List β)} (hT:T≠T') (h:RowsO enc T k T' base w out us ts) {A:Option Addr} {n c:Nat} {t:List β} (hn:n=t.length) (hx:Owr enc T k base w (.slice A n c) t)
  (ho:Owr encW T' 1 base w' out' (us ++ [(A,n,c)])) (hg:w.grownBy w' out.ownBlock):RowsO enc T k T' base w' out' (us ++ [(A,n,c)]) (ts ++ [t]):=by
 refine ⟨ho,by rw [List.length_append,List.length_append,h.len];rfl,fun j x u h1 h2=>?_⟩
 by_cases hj:j<us.length
 ·rw [List.getElem?_append_left hj] at h1
  rw [List.getElem?_append_left (by rw [← h.len];exact hj)] at h2
  obtain ⟨r1,r2⟩:=h.rows j x u h1 h2
  exact ⟨r1,r2.kept hg (own_off hT r2 h.own)⟩
 ·rw [List.getElem?_append_right (by omega)] at h1
  rw [List.getElem?_append_right (by have:=h.len;omega)] at h2
  have e:j - us.length=0:=by
   apply Classical.byContradiction
   intro hne
   rw [List.getElem?_eq_none (by simp;omega)] at h1
   cases h1
  rw [e] at h1
  rw [show j - ts.length=0 from by have:=h.len;omega] at h2
  obtain rfl:=Option.some.inj h1
  obtain rfl:=Option.some.inj h2
  exact ⟨hn,hx.kept hg (own_off hT hx h.own)⟩
theorem RowsO.at_ {α:Type} {K:Kd α} {f:β→α} {w:World} {out:Value} {us:List SlW} {ts:List (List β)} (h:RowsO enc T k T' base w out us ts)
  (hC:∀ t ∈ ts,∀ v,Owr enc T k base w v t→∃ A c,v=.slice A (t.map f).length c∧(t.map f).length≤c∧Kd.C K w A (t.map f).length (t.map f)):RowsAt K w us (ts.map (List.map f)):=⟨by rw [List.length_map];exact h.len,fun j p hp=>by
 rw [List.getElem?_map] at hp
 obtain ⟨t,ht,rfl⟩:=Option.map_eq_some_iff.1 hp
 have hj:j<us.length:=by rw [h.len];exact (List.getElem?_eq_some_iff.1 ht).1
 obtain ⟨r1,r2⟩:=h.rows j us[j] t (List.getElem?_eq_getElem hj) ht
 obtain ⟨A,c,hv,hc,hk⟩:=hC t (List.mem_of_getElem? ht) _ r2
 simp only [Value.slice.injEq] at hv
 obtain ⟨h1,h2,h3⟩:=hv
 refine ⟨A,c,?_,hc,hk⟩
 rw [List.getElem?_eq_getElem hj,← h1,← h2,← h3]⟩
end
end Go.Proofs.Zq
end
section
namespace Go.Proofs.Zq
open Go.RowKit Go.WideMaps Go.Maps Go.Proofs.YtjghikkboekonaaGreatDoor Go.Proofs.Zw.PrintWords Go.Proofs.Zw.PrintLast Go.Proofs.Zw.PrintMore
open Go.Proofs.Zt (getL bothM bothL allM rightT RightT parM PS)
theorem es_at {w:World} {A:Option Addr} {xs:List (List S32)} (h:Kd.C (Kd.slice 32 k32) w A xs.length xs) (i:Nat) (hi:i<xs.length) :
  ∃ ad A0 c0,A=some ad∧w.cell? (ad.add i)=some (.slice A0 xs[i].length c0)∧xs[i].length≤c0∧Kd.C k32 w A0 xs[i].length xs[i]:=by
 obtain ⟨ad,c,e,_,hK,hc0⟩:=Kd.C_get h ([]:List S32) (i:Int) (by omega) (by omega)
 have hc:∀ j u,c[j]?=some u→w.cell? (ad.add (i * 1 + j))=some u:=hc0
 have hd:xs.getD ((i:Nat):Int).toNat []=xs[i]:=by
  rw [show ((i:Nat):Int).toNat=i from rfl,List.getD_eq_getElem?_getD,List.getElem?_eq_getElem hi];rfl
 rw [hd] at hK
 obtain ⟨A0,c0,rfl,l0,g0⟩:=hK
 exact ⟨ad,A0,c0,e,by have hq:=hc 0 _ rfl;rwa [Nat.mul_one,Nat.add_zero] at hq,l0,g0⟩
theorem both1_calls (w:World) (hG:GL w) (A:Option Addr) (c:Nat) (l:List S32) (hr:Kd.C k32 w A l.length l) (hc:l.length≤c) (hf:rowFits' l) :
  Calls Tryz.prog 39 #[.slice A l.length c] w fun e w'=>e=.returned (.bool (!rightT Y (l.map enOf)))∧Below w.heap.size w w':=by
 have HC:=pH (tright_calls w hG A c l hr hc hf.1 hf.2)
 clear hr hc hf
 go_enter Tryz.func39,Tryz.ntmps39
 go_wp2_with fail
 refine HC.out.mono ?_
 rintro e w1 ⟨rfl,hb⟩
 have HB:=pH hb
 clear hb
 go_wp2_with fail
 go_ret
 exact ⟨rfl,HB.out⟩
set_option maxRecDepth 100000 in
theorem notree_calls (w:World) (hG:GL w) (A:Option Addr) (c:Nat) (xs:List (List S32)) (hS:Kd.C (Kd.slice 32 k32) w A xs.length xs) (hn:xs.length≤1000000) (hf:∀ l ∈ xs,rowFits' l) :
  Calls Tryz.prog 73 #[.slice A xs.length c,.func (.func 39) #[] #[]] w fun e w'=>∃ r:Int,e=.returned (.int .i64 r)∧((r = -1∧∀ l ∈ xs,rightT Y (l.map enOf)=true)∨(0≤r∧∃ l ∈ xs,rightT Y (l.map enOf)=false))∧Below w.heap.size w w':=by
 have HS:=pH hS
 have HN:=pH hn
 have HF:=pH hf
 clear hS hn hf
 go_enter Tryz.func73,Tryz.ntmps73
 go_wp2
 go_loopg [8] (xs.length + 1) (fun gq v wr=>∃ i:Nat,v=.int .i64 i∧xs.length<gq + i∧Hid (i≤xs.length)∧Hid (∀ l ∈ xs.take i,rightT Y (l.map enOf)=true)∧Hid (Below w.heap.size w wr))
 case atStart=>exact ⟨0,rfl,by omega,pH (by omega),pH (fun l h=>by simp at h),pH (Below.refl _ _)⟩
 case round =>
  obtain ⟨i,rfl,hgi,HI,HT,HB⟩:=hrel
  by_cases hi:i<xs.length
  ·cases gk with
   | zero=>omega
   | succ g1 =>
    obtain ⟨ad,A1,c1,rfl,hc,hl1,hk1⟩:=es_at HS.out i hi
    have HC:=pH (both1_calls wr (hG.ext HB.out) A1 c1 xs[i] (Kd.C_below hk1 HB.out) hl1 (HF.out _ (List.getElem_mem hi)))
    have q1:=pz25 HB.out hc
    have HII:Hid (i + 1≤xs.length):=pH hi
    have hnn:=HN.out
    clear hc hl1 hk1
    go_wp2_with fail
    refine HC.out.mono ?_
    rintro x w2 ⟨rfl,hb⟩
    have HB2:=pH (pbt HB.out hb)
    clear hb q1 HC
    cases hr:rightT Y (xs[i].map enOf) with
    | false =>
     have HX:Hid (∃ l ∈ xs,rightT Y (l.map enOf)=false):=pH ⟨_,List.getElem_mem hi,hr⟩
     go_wp2_with fail
     go_ret
     exact ⟨_,rfl,.inr ⟨by omega,HX.out⟩,HB2.out⟩
    | true =>
     have HT2:Hid (∀ l ∈ xs.take (i + 1),rightT Y (l.map enOf)=true):=pH (fun l hl=>by
      rw [List.take_succ_eq_append_getElem hi] at hl
      rcases List.mem_append.1 hl with h|h
      ·exact HT.out l h
      ·rw [List.mem_singleton.1 h];exact hr)
     clear hr
     go_wp2_with fail
     go_roundg g1
     case measure=>omega
     case rel=>exact ⟨i + 1,by go_num,by omega,HII,HT2,HB2⟩
  ·have he:i=xs.length:=by have:=HI.out;omega
   subst he
   go_wp2_with fail
   go_ret
   exact ⟨-1,rfl,.inl ⟨rfl,by have:=HT.out;rwa [List.take_of_length_le (Nat.le_refl _)] at this⟩,HB.out⟩
theorem anyno_calls (w:World) (hG:GL w) (A:Option Addr) (c:Nat) (xs:List (List S32)) (hS:Kd.C (Kd.slice 32 k32) w A xs.length xs) (hn:xs.length≤1000000) (hf:∀ l ∈ xs,rowFits' l) :
  Calls Tryz.prog 38 #[.slice A xs.length c,.func (.func 39) #[] #[]] w fun e w'=>e=.returned (.bool (!(xs.map (List.map enOf)).all (rightT Y)))∧Below w.heap.size w w':=by
 have HC:=pH (notree_calls w hG A c xs hS hn hf)
 clear hS hn hf
 go_enter Tryz.func38,Tryz.ntmps38
 go_wp2_with fail
 refine HC.out.mono ?_
 rintro e w1 ⟨r,rfl,hr,hb⟩
 have HB:=pH hb
 clear hb HC
 rcases hr with ⟨rfl,hall⟩|⟨h0,l,hl,hno⟩
 ·have HA:Hid ((xs.map (List.map enOf)).all (rightT Y)=true):=pH (by rw [List.all_eq_true];intro x hx;obtain ⟨l,hl,rfl⟩:=List.mem_map.1 hx;exact hall l hl)
  clear hall
  go_wp2_with fail
  go_ret
  exact ⟨by rw [HA.out];rfl,HB.out⟩
 ·have HA:Hid ((xs.map (List.map enOf)).all (rightT Y)=false):=pH (by rw [List.all_eq_false];exact ⟨_,List.mem_map_of_mem hl,by rw [hno];simp⟩)
  have hq:decide ((0:Int)≤r)=true:=by simpa using h0
  clear hl hno
  go_wp2_with fail
  go_ret
  exact ⟨by rw [HA.out];rfl,HB.out⟩
def cntT (ts:List (List (Str×Nd))) (e:Str×Nd):Nat:=(ts.map (List.count e)).sum
theorem count_right {t:List (Str×Nd)} (h:RightT Y t) (e:Str×Nd):t.count e=if getL t e.1=some e.2 then 1 else 0:=by
 have hnd:t.Nodup:=(Zt.srt_ne h.srt).imp fun hne e=>hne (by rw [e])
 by_cases hm:e ∈ t
 ·rw [if_pos (h.srt.get hm),hnd.count,if_pos hm]
 ·rw [if_neg (fun hg=>hm (Zt.pz27 hg)),hnd.count,if_neg hm]
theorem cnt_le (ts:List (List (Str×Nd))) (h:∀ t ∈ ts,RightT Y t) (e:Str×Nd):cntT ts e≤ts.length:=by
 unfold cntT
 induction ts with
 | nil=>simp
 | cons t r ih =>
  have:=ih (fun x hx=>h x (by simp [hx]))
  rw [List.map_cons,List.sum_cons,List.length_cons,count_right (h t (by simp))]
  split <;> omega
theorem cnt_all (ts:List (List (Str×Nd))) (h:∀ t ∈ ts,RightT Y t) (e:Str×Nd):((cntT ts e:Int) == (ts.length:Int))=allM ts e:=by
 have:cntT ts e=ts.length↔allM ts e=true:=by
  unfold allM
  induction ts with
  | nil=>simp [cntT]
  | cons t r ih =>
   have h1:=ih (fun x hx=>h x (by simp [hx]))
   have h2:=cnt_le r (fun x hx=>h x (by simp [hx])) e
   have h3:cntT (t :: r) e=t.count e + cntT r e:=by simp [cntT]
   rw [h3,count_right (h t (by simp)),List.length_cons,List.all_cons,Bool.and_eq_true,← h1,decide_eq_true_eq]
   by_cases hg:getL t e.1=some e.2
   ·rw [if_pos hg];simp [hg];omega
   ·rw [if_neg hg];simp [hg];omega
 rw [Bool.eq_iff_iff,← this]
 simp;omega
theorem cnt_step (xs:List (List S32)) (i:Nat) (hi:i<xs.length) (x:Str×Nd):cntT ((xs.map (List.map enOf)).take (i + 1)) x=cntT ((xs.map (List.map enOf)).take i) x + (xs[i].map enOf).count x:=by
 unfold cntT
 rw [List.take_succ_eq_append_getElem (by simpa using hi),List.map_append,List.sum_append,List.getElem_map]
 simp
theorem count_step (l:List S32) (j:Nat) (hj:j<l.length) (x:Str×Nd):((l.map enOf).take (j + 1)).count x=((l.map enOf).take j).count x + if x=enOf l[j] then 1 else 0:=by
 rw [List.take_succ_eq_append_getElem (by simpa using hj),List.count_append,List.getElem_map,List.count_singleton]
 by_cases hxe:x=enOf l[j]
 ·simp [hxe]
 ·have:¬ enOf l[j]=x:=fun h=>hxe h.symm
  simp [hxe,this]
theorem cnt_bound (ts:List (List (Str×Nd))) (e:Str×Nd) (b:Nat) (h:∀ t ∈ ts,t.length≤b):cntT ts e≤ts.length * b:=by
 unfold cntT
 induction ts with
 | nil=>simp
 | cons t r ih =>
  have h1:=ih (fun x hx=>h x (by simp [hx]))
  have h2:=h t (by simp)
  have h3:t.count e≤t.length:=List.count_le_length
  rw [List.map_cons,List.sum_cons,List.length_cons,Nat.succ_mul]
  omega
def keptF (out:List (Str×Nd)) (key:Str):Nat:=if key=[]∨(getL out key).isSome=true then 1 else 0
theorem kept_nil (key:Str):keptF [] key=if key == [] then 1 else (fun _=>0) key:=by
 unfold keptF
 by_cases h:key=[]
 ·simp [h]
 ·simp [h,getL]
theorem kept_snoc (out:List (Str×Nd)) (e:Str×Nd) (key:Str):keptF (out ++ [e]) key=if key == e.1 then 1 else keptF out key:=by
 unfold keptF
 rw [Zt.getL_append]
 by_cases h:key=e.1
 ·subst h
  cases getL out e.1 <;> simp [getL]
 ·have h':¬ e.1=key:=fun e=>h e.symm
  cases getL out key <;> simp [getL,h,h']
theorem kept_pos (out:List (Str×Nd)) (key:Str):decide ((0:Int)<(keptF out key:Int))=(decide (key=[]) || (getL out key).isSome):=by
 unfold keptF
 by_cases h:key=[]
 ·simp [h]
 ·cases getL out key <;> simp [h]
theorem EnMap.grown {w w':World} {b n:Nat} {f:Str×Nd→Nat} {row:Option Nat} (h:EnMap w b n f) (hg:w.grownBy w' row) (hne:some b≠row):EnMap w' b n f :=
 let ⟨D,h1,h2,h3⟩:=h;⟨D,h1.kept hg hne,h2,h3⟩
theorem cntMap_grown {w w':World} {b n:Nat} {f:Str→Nat} {row:Option Nat} (h:CntMap w b n f) (hg:w.grownBy w' row) (hne:some b≠row):CntMap w' b n f :=
 let ⟨D,h1,h2,h3⟩:=h;⟨D,h1.kept hg hne,h2,h3⟩
theorem EnMap.congr {w:World} {b n:Nat} {f g:Str×Nd→Nat} (h:EnMap w b n f) (e:∀ x,g x=f x):EnMap w b n g:=by rw [show g=f from funext e];exact h
theorem cnt_more {w:World} {b n:Nat} {f:Str→Nat} (h:CntMap w b n f):CntMap w b (n + 1) f:=let ⟨D,h1,h2,h3⟩:=h;⟨D,h1.mono (Nat.le_succ n),h2,h3⟩
theorem ens_drop (l:List S32) (i:Nat) (hi:i<l.length):(l.map enOf).drop i=enOf l[i] :: (l.map enOf).drop (i + 1):=by
 rw [List.drop_eq_getElem_cons (by simpa using hi),List.getElem_map]
theorem own_eweaken {base0 base:Nat} {w:World} {v:Value} {l:List (Str×Nd)} (h:Owr eCells 32 11 base w v l) (hb:base0≤base):Owr eCells 32 11 base0 w v l:=by
 refine ⟨h.1,?_⟩
 rcases h.2 with h|⟨g,cap,cur,h1,h2,h3⟩
 ·exact .inl h
 ·exact .inr ⟨g,cap,cur,h1,Nat.le_trans hb h2,h3⟩
set_option maxRecDepth 100000 in
set_option maxHeartbeats 16000000 in
theorem both_calls (w:World) (hG:GL w) (A:Option Addr) (c:Nat) (xs:List (List S32)) (hS:Kd.C (Kd.slice 32 k32) w A xs.length xs) (hn:xs.length≤100) (hf:∀ l ∈ xs,rowFits' l) (hok:∀ l ∈ xs,∀ x ∈ l,EnOk (enOf x)) :
  Calls Tryz.prog 16 #[.slice A xs.length c] w fun e w'=>∃ v:Value,e=.returned v∧Owr eCells 32 11 w.heap.size w' v (bothM Y (xs.map (List.map enOf)))∧Below w.heap.size w w':=by
 have HS:=pH hS
 have HN:=pH hn
 have HF:=pH hf
 have HOK:=pH hok
 have HC:=pH (anyno_calls w hG A c xs hS (by omega) hf)
 clear hS hf hok
 have hmm:=@run_makeMap Tryz.prog
 have h49:=Tryz.underlying32
 obtain ⟨i0,hi,hz0,hz1,hz2⟩:=info_parts info_en
 have HI0:=pH hi
 have HZ0:=pH hz0
 have HZ1:=pH hz1
 have HZ2:=pH hz2
 clear hi hz0 hz1 hz2
 obtain ⟨res,hres⟩:∃ res,res=bothM Y (xs.map (List.map enOf)):=⟨_,rfl⟩
 have HRES:=pH hres
 rw [← hres]
 clear hres
 by_cases hx0:xs=[]
 ·subst hx0
  have HE:Hid (res=[]):=pH HRES.out
  clear HC
  go_enter Tryz.func16,Tryz.ntmps16
  go_wp2_with fail
  go_ret
  exact ⟨_,rfl,by rw [HE.out];exact Owr.nil _ _ _ _ _,Below.refl _ _⟩
 have hlen0:0<xs.length:=List.length_pos_iff.2 hx0
 have hq0:((xs.length:Int) == 0)=false:=by simp;omega
 go_enter Tryz.func16,Tryz.ntmps16
 go_wp2_with fail
 refine HC.out.mono ?_
 rintro e w1 ⟨rfl,hb1⟩
 have HB1:=pH hb1
 clear hb1 HC
 cases hall:(xs.map (List.map enOf)).all (rightT Y) with
 | false =>
  have HE:Hid (res=[]):=pH (by
   rw [HRES.out]
   cases hxs:xs.map (List.map enOf) with
   | nil=>rfl
   | cons t r=>rw [hxs] at hall;unfold bothM;simp only [hall];rfl)
  go_wp2_with fail
  go_ret
  exact ⟨_,rfl,by rw [HE.out];exact Owr.nil _ _ _ _ _,HB1.out⟩
 | true =>
 have HRT:Hid (∀ t ∈ xs.map (List.map enOf),RightT Y t):=pH (fun t ht=>(Zt.pz39 Y).1 (List.all_eq_true.1 hall t ht))
 obtain ⟨t0,rest0,hxs⟩:∃ t0 r,xs=t0 :: r:=by cases xs with|nil=>exact absurd rfl hx0|cons a b=>exact ⟨a,b,rfl⟩
 have HE:Hid (res=bothL PS (allM (xs.map (List.map enOf))) [] (t0.map enOf)):=pH (by
  rw [HRES.out]
  rw [hxs,List.map_cons] at hall ⊢
  unfold bothM
  simp only [hall]
  rfl)
 have HXS:=pH hxs
 clear hall HRES hxs
 have HMK:Hid (EnMap (w1.alloc (.map #[] 0)) w1.heap.size 0 (fun _=>0)):=pH (EnMap.made w1)
 have HBA:Hid (Below w.heap.size w (w1.alloc (.map #[] 0))):=pH (HB1.out.alloc HB1.out.size _)
 obtain ⟨gm,hgm⟩:∃ gm,gm=w1.heap.size:=⟨_,rfl⟩
 have HBM:Hid (w.heap.size≤gm):=pH (by rw [hgm];exact HB1.out.size)
 rw [← hgm] at HMK
 go_wp2
 rw [← hgm]
 clear hgm
 generalize w1.alloc (.map #[] 0)=w2 at HMK HBA ⊢
 clear HB1
 have HRL:Hid (∀ l ∈ xs,l.length≤1000000):=pH (fun l hl=>(HF.out l hl).2)
 go_loopg [22] (xs.length + 1) (fun gq v wr=>∃ i:Nat,v=.int .i64 i∧xs.length<gq + i∧Hid (i≤xs.length)∧Hid (EnMap wr gm (i * 1000000) (cntT ((xs.map (List.map enOf)).take i)))∧Hid (Below w.heap.size w wr))
 case atStart=>exact ⟨0,rfl,by omega,pH (by omega),pH (HMK.out.congr (fun x=>by simp [cntT])),HBA⟩
 case round =>
  clear HMK HBA hmm
  obtain ⟨i,rfl,hgi,HI,HM,HB⟩:=hrel
  by_cases hi:i<xs.length
  ·cases gk with
   | zero=>omega
   | succ g1 =>
    obtain ⟨ad,A1,c1,rfl,hc,hl1,hk1⟩:=es_at HS.out i hi
    have q1:=pz25 HB.out hc
    have HK1:=pH hk1
    have HXI:=pH (HRL.out _ (List.getElem_mem hi))
    have HOI:=pH (HOK.out _ (List.getElem_mem hi))
    have hst:=cnt_step xs i hi
    have HBD:Hid (∀ x,cntT ((xs.map (List.map enOf)).take i) x≤100 * 1000000):=pH (fun x=>by
     refine Nat.le_trans (cnt_bound _ x 1000000 (fun t ht=>?_)) (Nat.mul_le_mul_right _ ?_)
     ·obtain ⟨l,hl,rfl⟩:=List.mem_map.1 (List.mem_of_mem_take ht)
      rw [List.length_map];exact HRL.out l hl
     ·rw [List.length_take];omega)
    have HST:=pH hst
    clear hst
    obtain ⟨l,hl⟩:∃ l,l=xs[i]:=⟨_,rfl⟩
    rw [← hl] at q1 HK1 HXI HOI HST
    have HII:Hid (i + 1≤xs.length):=pH hi
    obtain ⟨F,hF⟩:∃ F,F=cntT ((xs.map (List.map enOf)).take i):=⟨_,rfl⟩
    obtain ⟨F',hF'⟩:∃ F,F=cntT ((xs.map (List.map enOf)).take (i + 1)):=⟨_,rfl⟩
    rw [← hF] at HM HBD HST
    rw [← hF'] at HST
    have HF':=pH hF'
    clear hl hF hF' hc hl1 hk1
    have hnn:=HN.out
    have hli:=HXI.out
    go_wp2_with fail
    clear q1
    go_loopg [28] (l.length + 1) (fun gq v wq=>∃ j:Nat,v=.int .i64 j∧l.length<gq + j∧Hid (j≤l.length)∧Hid (EnMap wq gm (i * 1000000 + j) (fun x=>F x + ((l.map enOf).take j).count x))∧Hid (Below w.heap.size w wq))
    case atStart=>exact ⟨0,rfl,by omega,pH (by omega),pH (by rw [Nat.add_zero];exact HM.out.congr (fun x=>by simp)),HB⟩
    case round =>
     clear HM HB
     obtain ⟨j,rfl,hgj,HJ,HM,HB⟩:=hrel
     by_cases hj:j<l.length
     ·cases gk with
      | zero=>omega
      | succ g2 =>
       obtain ⟨ae,rfl,hat⟩:=e_at HK1.out j hj
       have HAT:=pH (hat.below HB.out)
       have HEO:=pH (HOI.out _ (List.getElem_mem hj))
       have hs2:=count_step l j hj
       have hcl:∀ x,((l.map enOf).take j).count x≤1000000:=fun x=>Nat.le_trans List.count_le_length (by rw [List.length_take];have:=HXI.out;simp;omega)
       obtain ⟨e,hee⟩:∃ e,e=enOf l[j]:=⟨_,rfl⟩
       rw [← hee] at HAT HEO hs2
       have HJJ:Hid (j + 1≤l.length):=pH hj
       have HS2:=pH hs2
       have HCL:=pH hcl
       clear hat hs2 hcl hee
       have HBMW:Hid (gm<wr.heap.size):=pH HM.out.lt
       go_upto_region 10 with (first|((with_reducible refine pz10 (N:=31) rfl ?_);refine pz12 rfl 32 _ rfl _ rfl (eCells e) _ HAT.out h49 rfl rfl ?_)|((with_reducible refine pz10 (N:=7) rfl ?_);refine pz24 rfl (N:=7) rfl (cs:=enZero) (t:=32) ?hr ?_;(case hr=>first|(go_simp;done)|(go_simp;rfl));intro g7 hg w5 hb2 hbl2;have HGE_g7:Hid (wr.heap.size≤g7):=pH (by rw [hg];exact Nat.le_refl _);have HB_g7:=pH hb2;have HBL_g7:=pH hbl2;have HGB:Hid (wr.heap.size≤g7):=pH (by rw [hg];exact Nat.le_refl _);clear hg hb2 hbl2)|((with_reducible refine pz28 (t:=32) (p:=7) rfl ?_);refine pz22 rfl rfl 32 _ _ rfl g7 (eCells e).toArray rfl rfl 32 enZero HB_g7.out rfl rfl (eCells_all _) ?_;intro w6 hb3 hg3;have HC_g7:=pH hb3;have HBW_g7:Hid (Below wr.heap.size wr w6):=pH (HBL_g7.out.grown hg3 HBL_g7.out.size (fun j hj=>by cases hj;exact HGE_g7.out));clear hb3 hg3 HB_g7 HBL_g7 HGE_g7))
       have HM6:=pH (HM.out.ext HBW_g7.out)
       have HB6:=pH (pbt HB.out HBW_g7.out)
       clear HM HAT
       obtain ⟨m0,hm0⟩:∃ m,m=F e + ((l.map enOf).take j).count e:=⟨_,rfl⟩
       have hmb:m0≤101 * 1000000:=by have h1:=HBD.out e;have h2:=HCL.out e;omega
       have HLK:Hid ((Instr.lookup 69 (.map (some gm)) (enVal e) false).run Tryz.prog w6.drew=.ok (.int .i64 m0) w6.drew):=pH (by rw [hm0];exact HM6.out.drew.look HEO.out)
       obtain ⟨v0,st,w7,hent,hm7,hg7,w8,hsto,hm8,hg8⟩:=HM6.out.drew.entry (by have:=HXI.out;omega) HEO.out (by show F e + ((l.map enOf).take j).count e≤_;omega)
       have HLK7:Hid ((Instr.lookup 69 (.map (some gm)) (enVal e) false).run Tryz.prog w7=.ok (.int .i64 m0) w7):=pH (by rw [hm0];exact hm7.look HEO.out)
       have HC7:Hid (w7.heap[g7]?=some (.cells (eCells e).toArray 32 (0,0))):=pH ((hg7.block g7 (Go.Proofs.Zw.PrintWords.blk_lt HC_g7.out) (fun h=>by cases h;have h1:=HGB.out;have h2:=HBMW.out;omega)).trans HC_g7.out)
       have HAG:Hid (∀ w',(w'=w6.drew∨w'=w7)→LiesAt w' ⟨g7,0,none⟩ (eCells e)):=pH (fun w' hb=>hb.elim (fun h=>by rw [h];exact pz26 (w:=w6.drew) HC_g7.out) (fun h=>by rw [h];exact pz26 HC7.out))
       have hm0':F e + ((l.map enOf).take j).count e=m0:=hm0.symm
       rw [hm0'] at hsto
       rw [show ((m0 + 1:Nat):Int)=(m0:Int) + 1 from by omega] at hsto
       have hw1:Go.RowKit.wrap64 ((m0:Int) + 1)=((m0 + 1:Nat):Int):=by rw [wrap_in (by omega) (by omega)];omega
       have HENT:=pH hent
       have HSTO:=pH hsto
       have HM8:Hid (EnMap w8 gm (i * 1000000 + (j + 1)) (fun x=>F x + ((l.map enOf).take (j + 1)).count x)):=pH (by rw [← Nat.add_assoc];exact hm8.congr (fun x=>by
        rw [HS2.out x]
        show _=if x=e then F e + ((l.map enOf).take j).count e + 1 else F x + ((l.map enOf).take j).count x
        by_cases hxe:x=e
        ·subst hxe;rw [if_pos rfl,if_pos rfl];omega
        ·rw [if_neg hxe,if_neg hxe];omega))
       have HB8:Hid (Below w.heap.size w w8):=pH (HB6.out.drew.grown hg8 HB6.out.size (fun k hk=>by cases hk;exact HBM.out))
       clear hent hsto hm8 hg8 hm0' hm0 HM6 HB6 HB
       refine start_ (n:=7) (S:=fun w'=>w'=w6.drew∨w'=w7) (ds:=[6]) (ms 7 0) (by kernel_rfl) rfl rfl (.inl rfl) (fun hHeld=>?_)
       refine pW ?_ rfl rfl (by kernel_rfl) (fun _ _ _=>id) (by rfl) ?_ ?_ ?_ ?_;rotate_left;(intro w';go_simp;with_reducible rfl);rotate_left;(simp only [aP,i64_w,i32_w];rfl)
       refine take_ (i:=1) (N:=some 33) (v:=.agg (eCells e).toArray) (a':=?_) (ms 7 2) rfl rfl (by kernel_rfl) (fun _ _ _ h=>h) (yi_agg (by rfl) 32 _ rfl _ rfl _ _ HAG.out h49 rfl rfl) hHeld ?_ ?_;rotate_left;(simp only [aP,i64_w,i32_w];rfl)
       refine two_ (i:=2) (j:=4) (Ni:=some 34) (Nj:=some 36) (ms 7 3) (bm 7 19) rfl rfl rfl rfl (by kernel_rfl) (by decide) (by decide) (fun K hK=>?_) (fun K hK=>?_)
       ·refine value_ (v:=.int .i64 m0) (w1:=w6.drew) (by rfl) rfl (by have hlk:=HLK.out;go_simp) ?_
        refine hK.out _ _ (.inl rfl) (fun hHeld=>?_)
        clear hK K
        refine norm_ (a':=?_) ?_ ?_
        rotate_left
        ·show Act.put _ (some 34) _=_
         (simp only [aP,i64_w,i32_w];rfl)
        refine pW ?_ rfl rfl (by kernel_rfl) (fun _ _ _=>id) (by rfl) ?_ ?_ ?_ ?_;rotate_left;(intro w';go_simp;with_reducible rfl);rotate_left;(simp only [aP,i64_w,i32_w];rfl)
        refine one_ (i:=4) (N:=some 36) (ms 7 5) rfl rfl (by kernel_rfl) (by decide) (fun K hK=>?_)
        refine value_ (v:=.tuple #[v0,.int .i64 st]) (w1:=w7) (by rfl) rfl (by have hent:=HENT.out;go_simp) ?_
        refine hK.out _ _ (.inr rfl) (fun hHeld=>?_)
        clear hK K
        refine norm_ (a':=?_) ?_ ?_
        rotate_left
        ·show Act.put _ (some 36) _=_
         (simp only [aP,i64_w,i32_w];rfl)
        refine pW ?_ rfl rfl (by kernel_rfl) (fun _ _ _=>id) (by rfl) ?_ ?_ ?_ ?_;rotate_left;(intro w';go_simp;with_reducible rfl);rotate_left;(simp only [aP,i64_w,i32_w];rfl)
        refine last_ (i:=6) (N:=none) (ms 7 7) rfl rfl (by kernel_rfl) (by decide) (fun K hK=>?_)
        refine skip_ (w1:=w8) (by rfl) rfl (by have hsto:=HSTO.out;go_simp) ?_
        refine hK.out _ _ ?_
        clear hK K
        refine done_ (by kernel_rfl) ?_
        go_wp2_with fail
        go_roundg g2
        case measure=>omega
        case rel=>exact ⟨j + 1,by go_num,by omega,HJJ,HM8,HB8⟩
       ·refine value_ (v:=.tuple #[v0,.int .i64 st]) (w1:=w7) (by rfl) rfl (by have hent:=HENT.out;go_simp) ?_
        refine hK.out _ _ (.inr rfl) (fun hHeld=>?_)
        clear hK K
        refine norm_ (a':=?_) ?_ ?_
        rotate_left
        ·show Act.put _ (some 36) _=_
         (simp only [aP,i64_w,i32_w];rfl)
        (refine pU 5 37 ?_ (bm 7 51) rfl rfl (by kernel_rfl) (fun _ _ _=>id) (by rfl) ?_ ?_ ?_ ?_;rotate_left;(intro w';go_simp;with_reducible rfl);rotate_left;(simp only [aP,i64_w,i32_w];rfl))
        refine one_ (i:=2) (N:=some 34) (bm 7 55) rfl rfl (by kernel_rfl) (by decide) (fun K hK=>?_)
        refine value_ (v:=.int .i64 m0) (w1:=w7) (by rfl) rfl (by have hlk:=HLK7.out;go_simp) ?_
        refine hK.out _ _ (.inr rfl) (fun hHeld=>?_)
        clear hK K
        refine norm_ (a':=?_) ?_ ?_
        rotate_left
        ·show Act.put _ (some 34) _=_
         (simp only [aP,i64_w,i32_w];rfl)
        (refine pU 3 35 ?_ (ms 7 6) rfl rfl (by kernel_rfl) (fun _ _ _=>id) (by rfl) ?_ ?_ ?_ ?_;rotate_left;(intro w';go_simp;with_reducible rfl);rotate_left;(simp only [aP,i64_w,i32_w];rfl))
        refine last_ (i:=6) (N:=none) (ms 7 7) rfl rfl (by kernel_rfl) (by decide) (fun K hK=>?_)
        refine skip_ (w1:=w8) (by rfl) rfl (by have hsto:=HSTO.out;go_simp) ?_
        refine hK.out _ _ ?_
        clear hK K
        refine done_ (by kernel_rfl) ?_
        go_wp2_with fail
        go_roundg g2
        case measure=>omega
        case rel=>exact ⟨j + 1,by go_num,by omega,HJJ,HM8,HB8⟩
     ·have he:j=l.length:=by have:=HJ.out;omega
      subst he
      have HMN:Hid (EnMap wr gm ((i + 1) * 1000000) (cntT ((xs.map (List.map enOf)).take (i + 1)))):=pH (by
       rw [← HF'.out]
       refine (HM.out.mono (by have:=HXI.out;omega)).congr (fun x=>?_)
       rw [HST.out x,List.take_of_length_le (by simp)])
      clear HM
      go_wp2_with fail
      go_roundg g1
      case measure=>omega
      case rel=>exact ⟨i + 1,by go_num,by omega,HII,HMN,HB⟩
  ·have he:i=xs.length:=by have:=HI.out;omega
   subst he
   have HMC:Hid (EnMap wr gm (xs.length * 1000000) (cntT (xs.map (List.map enOf)))):=pH (by have:=HM.out;rwa [List.take_of_length_le (by simp)] at this)
   have HBMW:Hid (gm<wr.heap.size):=pH HM.out.lt
   clear HM HI hgi hi
   obtain ⟨ad,A1,c1,rfl,hc,hl1,hk1⟩:=es_at HS.out 0 hlen0
   have ht0:xs[0]=t0:=by simp [HXS.out]
   rw [ht0] at hc hl1 hk1
   have HC0:=pH hc
   have HK1:=pH hk1
   clear hc hl1 hk1 ht0
   have hnn:=HN.out
   obtain ⟨bk,hbk⟩:∃ bk,bk=wr.heap.size:=⟨_,rfl⟩
   have hmm:=@run_makeMap Tryz.prog
   go_wp2_with (first|(refine wpList_cnt_in rfl rfl _ _ _ rfl wr.heap.size 0 _ rfl (CntMap.made wr) (by omega) [] 1 rfl rfl (by simp) (by omega) _ kept_nil ?_))
   intro w3 hm3 hg3
   rw [← hbk] at hm3 hg3 ⊢
   have HKP:Hid (CntMap w3 bk 1 (keptF [])):=pH hm3
   have HB3:Hid (Below w.heap.size w w3):=pH ((HB.out.alloc HB.out.size _).grown hg3 (by have:=HB.out.size;simp;omega) (fun j hj=>by cases hj;rw [hbk];exact HB.out.size))
   have HM3:Hid (EnMap w3 gm (xs.length * 1000000) (cntT (xs.map (List.map enOf)))):=pH ((HMC.out.ext (pbn wr _)).grown hg3 (fun h=>by cases h;have:=HBMW.out;omega))
   have HBK3:Hid (bk<w3.heap.size):=pH hm3.lt
   have HBM3:Hid (gm<w3.heap.size):=pH HM3.out.lt
   have HBKW:Hid (w.heap.size≤bk):=pH (by rw [hbk];exact HB.out.size)
   have HBNE:Hid (gm≠bk):=pH (by rw [hbk];exact Nat.ne_of_lt HBMW.out)
   clear hm3 hg3 hbk HMC HB HBMW
   have q0:=pz25 HB3.out HC0.out
   have h0a:ad.add 0=ad:=by cases ad;rfl
   rw [h0a] at q0
   go_wp2_with fail
   clear q0 h0a
   obtain ⟨T,hT⟩:∃ T,T=t0.map enOf:=⟨_,rfl⟩
   rw [← hT] at HE
   have HT:=pH hT
   have HTL:Hid (T.length=t0.length):=pH (by rw [hT,List.length_map])
   have hmem:t0 ∈ xs:=by rw [HXS.out];simp
   have HTB:Hid (t0.length≤1000000):=pH (HRL.out _ hmem)
   have HTO:=pH (HOK.out _ hmem)
   have HTF:=pH (HF.out _ hmem).1
   clear hT hmem
   have htb:=HTB.out
   go_loopg [8,46] (t0.length + 1) (fun gq v u wr=>∃ (i:Nat) (out:List (Str×Nd)),u=.int .i64 i∧t0.length<gq + i∧Hid (i≤t0.length)∧Hid (out.length≤i)∧Hid (res=bothL PS (allM (xs.map (List.map enOf))) out (T.drop i))∧Hid (Owr eCells 32 11 w3.heap.size wr v out) ∧
    Hid (EnMap wr gm (xs.length * 1000000) (cntT (xs.map (List.map enOf))))∧Hid (CntMap wr bk (i + 1) (keptF out))∧Hid (Below w.heap.size w wr)∧Hid (w3.heap.size≤wr.heap.size))
   case atStart=>exact ⟨0,[],rfl,by omega,pH (by omega),pH (by simp),pH (by rw [List.drop_zero];exact HE.out),pH (Owr.nil _ _ _ _ _),HM3,HKP,HB3,pH (Nat.le_refl _)⟩
   case round =>
    clear HM3 HKP HB3 HE
    obtain ⟨i,out,rfl,hgi,HI,HOL,HE,HO,HM,HKP,HB,HSZ⟩:=hrel
    by_cases hi:i<t0.length
    ·cases gk with
     | zero=>omega
     | succ g1 =>
      obtain ⟨ae,rfl,hat⟩:=e_at HK1.out i hi
      have HAT:=pH (hat.below HB.out)
      have HEO:=pH (HTO.out _ (List.getElem_mem hi))
      have HEF:=pH (fits_get HTF.out (List.mem_map_of_mem (f:=enOf) (List.getElem_mem hi)))
      have hdr:=ens_drop t0 i hi
      obtain ⟨e,hee⟩:∃ e,e=enOf t0[i]:=⟨_,rfl⟩
      rw [← hee] at HAT HEO HEF hdr
      rw [← HT.out] at hdr
      have hE2:=HE.out
      rw [hdr] at hE2
      have HE2:Hid (res=bothL PS (allM (xs.map (List.map enOf))) (if allM (xs.map (List.map enOf)) e && (decide (parM e.1=[]) || (getL out (parM e.1)).isSome) then out ++ [e] else out) (T.drop (i + 1))):=pH hE2
      have HII:Hid (i + 1≤t0.length):=pH hi
      clear hat hee hdr hE2 HE
      have hcq:=cnt_all (xs.map (List.map enOf)) HRT.out e
      rw [List.length_map] at hcq
      obtain ⟨CF,hCF⟩:∃ CF,CF=cntT (xs.map (List.map enOf)):=⟨_,rfl⟩
      rw [← hCF] at HM hcq
      obtain ⟨ab,hab⟩:∃ b,b=allM (xs.map (List.map enOf)) e:=⟨_,rfl⟩
      rw [← hab] at hcq HE2
      have hkq:=kept_pos out (parM e.1)
      obtain ⟨kb,hkb⟩:∃ b,b=(decide (parM e.1=[]) || (getL out (parM e.1)).isSome):=⟨_,rfl⟩
      rw [← hkb] at hkq HE2
      have HKQ:=pH hkq
      have HCF:=pH hCF
      clear hCF hab hkb hkq
      have HGLT:Hid (gm<wr.heap.size∧bk<wr.heap.size):=pH ⟨HM.out.lt,HKP.out.lt⟩
      go_upto_region 18 with (first|((with_reducible refine pz10 (N:=49) rfl ?_);refine pz12 rfl 32 _ rfl _ rfl (eCells e) _ HAT.out h49 rfl rfl ?_)|((with_reducible refine pz10 (N:=11) rfl ?_);refine pz24 rfl (N:=11) rfl (cs:=enZero) (t:=32) ?hr ?_;(case hr=>first|(go_simp;done)|(go_simp;rfl));intro g11 hg w5 hb2 hbl2;have HGE_g11:Hid (wr.heap.size≤g11):=pH (by rw [hg];exact Nat.le_refl _);have HB_g11:=pH hb2;have HBL_g11:=pH hbl2;have HGB:Hid (wr.heap.size≤g11):=pH (by rw [hg];exact Nat.le_refl _);clear hg hb2 hbl2)|((with_reducible refine pz28 (t:=32) (p:=11) rfl ?_);refine pz22 rfl rfl 32 _ _ rfl g11 (eCells e).toArray rfl rfl 32 enZero HB_g11.out rfl rfl (eCells_all _) ?_;intro w6 hb3 hg3;have HC_g11:=pH hb3;have HBW_g11:Hid (Below wr.heap.size wr w6):=pH (HBL_g11.out.grown hg3 HBL_g11.out.size (fun j hj=>by cases hj;exact HGE_g11.out));clear hb3 hg3 HB_g11 HBL_g11 HGE_g11))
      have hlk:=(HM.out.ext HBW_g11.out).look HEO.out
      have HB6:=pH (pbt HB.out HBW_g11.out)
      have q6:=(pz26 HC_g11.out) 0 _ rfl
      simp only [Addr.add_mid,Nat.zero_add] at q6
      cases ab with
      | false =>
       go_wp2_with ((with_reducible refine pz10 (N:=51) rfl ?_);refine pz12 rfl 32 _ rfl _ rfl (eCells e) _ (pz26 HC_g11.out) h49 rfl rfl ?_)
       go_roundg g1
       case measure=>omega
       case rel=>exact ⟨i + 1,out,by go_num,by omega,HII,pH (by have:=HOL.out;omega),pH (by rw [HE2.out];rfl),pH (HO.out.ext HBW_g11.out),pH (by rw [← HCF.out];exact HM.out.ext HBW_g11.out),pH (cnt_more (HKP.out.ext HBW_g11.out)),HB6,pH (Nat.le_trans HSZ.out HBW_g11.out.size)⟩
      | true =>
       go_wp2_with ((with_reducible refine pz10 (N:=51) rfl ?_);refine pz12 rfl 32 _ rfl _ rfl (eCells e) _ (pz26 HC_g11.out) h49 rfl rfl ?_)
       refine (par_c w6 e.1 HEF.out.1).mono ?_
       rintro x w7 ⟨rfl,hb7⟩
       have HBW7:Hid (Below wr.heap.size wr w7):=pH (pbt HBW_g11.out hb7)
       have HB7:=pH (pbt HB6.out hb7)
       have HC7:=pH (pz11 HC_g11.out hb7)
       clear hb7 hlk q6 HBW_g11 HC_g11 HB6 HB
       have hlk:=(HKP.out.ext HBW7.out).look (s:=parM e.1) (by have:=(part_len e.1).1;have:=HEF.out.1;omega)
       have hkq:decide (0<keptF out (parM e.1))=kb:=by rw [← HKQ.out];exact decide_eq_decide.2 (by omega)
       cases kb with
       | false =>
        go_wp2_with fail
        go_roundg g1
        case measure=>omega
        case rel=>exact ⟨i + 1,out,by go_num,by omega,HII,pH (by have:=HOL.out;omega),pH (by rw [HE2.out];rfl),pH (HO.out.ext HBW7.out),pH (by rw [← HCF.out];exact HM.out.ext HBW7.out),pH (cnt_more (HKP.out.ext HBW7.out)),HB7,pH (Nat.le_trans HSZ.out HBW7.out.size)⟩
       | true =>
        have HO7:=pH (HO.out.ext HBW7.out)
        have HM7:=pH (HM.out.ext HBW7.out)
        have HKP7:=pH (HKP.out.ext HBW7.out)
        have HOL2:=HOL.out
        go_wp2_with (first|((with_reducible refine pz10 (N:=65) rfl ?_);refine pz12 rfl 32 _ rfl _ rfl (eCells e) _ (pz26 HC7.out) h49 rfl rfl ?_)|((with_reducible refine pz10 (N:=66) rfl ?_);refine pz34 rfl (N:=66) rfl (cs:=(eCells e).toArray) (t:=32) (n:=1) (by kernel_rfl) ?_;intro gr hg wq hb hbl;have HBR:=pH hb;have HBLR:=pH hbl;clear hg hb hbl)|(at_builtin;refine pz33 rfl _ _ 22 rfl w3.heap.size 32 11 120 i0 (.agg enZero) Tryz.underlying22 HI0.out HZ0.out HZ1.out HZ2.out rfl (by decide) eCells_len eCells_one _ out rfl (HO7.out.ext HBLR.out) e gr 1 rfl ?c1 ?c2 ?c3 ?c4 ?_))
        case c1=>intro j u hu;rw [pbc HBR.out j];simpa using hu
        case c2=>unfold maxLen;omega
        case c3=>omega
        case c4=>exact Nat.le_trans (Nat.le_trans HSZ.out HBW7.out.size) HBLR.out.size
        intro v' w9 ho' hg'
        have hown:∀ j,_:=fun j hj=>World.ownsRow.lt (HO7.out.ext HBLR.out) j hj
        have HB9:Hid (Below w.heap.size w w9):=pH ((pbt HB7.out HBLR.out).grown hg' (pbt HB7.out HBLR.out).size (fun j hj=>by have:=(hown j hj).1;have:=HBK3.out;have:=HBKW.out;omega))
        have HM9:Hid (EnMap w9 gm (xs.length * 1000000) CF):=pH ((HM7.out.ext HBLR.out).grown hg' (fun h=>by have:=(hown gm h.symm).1;have:=HBM3.out;omega))
        have HKP9:Hid (CntMap w9 bk (i + 1) (keptF out)):=pH (cntMap_grown (HKP7.out.ext HBLR.out) hg' (fun h=>by have:=(hown bk h.symm).1;have:=HBK3.out;omega))
        have HSZ9:Hid (w3.heap.size≤w9.heap.size):=pH (Nat.le_trans (Nat.le_trans (Nat.le_trans HSZ.out HBW7.out.size) HBLR.out.size) hg'.size)
        have HC9:Hid (w9.heap[g11]?=some (.cells (eCells e).toArray 32 (0,0))):=pH ((hg'.block g11 (Go.Proofs.Zw.PrintWords.blk_lt (pz11 HC7.out HBLR.out)) (fun h=>by have h1:=(World.ownsRow.lt HO.out g11 h.symm).2;have h2:=HGB.out;omega)).trans (pz11 HC7.out HBLR.out))
        have HO9:=pH ho'
        have q9:=(pz26 HC9.out) 0 _ rfl
        simp only [Addr.add_mid,Nat.zero_add] at q9
        clear ho' hg' hown hlk
        go_wp2_with (first|(at_mapUpdate;refine wpList_cnt_up rfl rfl _ _ _ rfl bk (i + 1) _ rfl HKP9.out (by omega) e.1 1 rfl rfl (by have:=HEF.out.1;omega) (by omega) _ (kept_snoc out e) ?_;intro w10 hm10 hg10;have HKP10:=pH hm10;have HG10:=pH hg10;clear hm10 hg10))
        go_roundg g1
        case measure=>omega
        case rel=>exact ⟨i + 1,out ++ [e],by go_num,by omega,HII,pH (by rw [List.length_append];simp;omega),pH (by rw [HE2.out];rfl),pH (HO9.out.kept HG10.out (.inr (fun h=>by have:=(World.ownsRow.lt HO9.out bk h).1;have:=HBK3.out;omega))),pH (by rw [← HCF.out];exact HM9.out.grown HG10.out (fun h=>by cases h;exact HBNE.out rfl)),HKP10,pH (HB9.out.grown HG10.out HB9.out.size (fun j hj=>by cases hj;exact HBKW.out)),pH (Nat.le_trans HSZ9.out HG10.out.size)⟩
    ·have he:i=t0.length:=by have:=HI.out;omega
     subst he
     have HEE:Hid (res=out):=pH (by rw [HE.out,List.drop_eq_nil_of_le (by rw [HTL.out];exact Nat.le_refl _)];rfl)
     go_wp2_with fail
     go_ret
     refine ⟨_,rfl,?_,HB.out⟩
     rw [HEE.out]
     exact own_eweaken HO.out (by have h1:=HBK3.out;have h2:=HBKW.out;omega)
end Go.Proofs.Zq
end
section
namespace Go.Proofs.Zq
open Go.RowKit Go.WideMaps Go.Maps Go.Proofs.YtjghikkboekonaaGreatDoor Go.Proofs.Zw.PrintWords Go.Proofs.Zw.PrintLast Go.Proofs.Zw.PrintMore
section
variable {T:TypeId}
theorem NdMap.lookT (hT:Tryz.prog.underlying T=some (.map 9 28)) {w:World} {b n:Nat} {f:Str→Option Nd} (h:NdMap w b n f) {s:Str} (hs:s.length≤1000000000) :
  (Instr.lookup T (.map (some b)) (S s) true).run Tryz.prog w=.ok (.tuple #[ndVal ((f s).getD zeroN),.bool (f s).isSome]) w:=by
 obtain ⟨D,h1,h2⟩:=h
 obtain ⟨v,ps,hrun,hv⟩:=h1.look_ok strLaw hT (zeroNd w) (Rn_val zeroN) (keyStr hs)
 obtain ⟨m,rfl⟩:=Rn_inv hv
 rw [Rn_val,h2] at hv
 rw [hrun,NdMap.has h2]
 cases hf:f s with
 | none=>rw [hf] at hv;simp only [Option.some.injEq,Prod.mk.injEq,DataW.held.injEq] at hv;rw [hv.1];rfl
 | some x=>rw [hf] at hv;simp only [Option.some.injEq,Prod.mk.injEq,DataW.held.injEq] at hv;rw [hv.1];rfl
variable {P:Program} {w:World} {ops:Array Oper} {rest:List Oper} {o:Oper} {a:Act} {Q:Exit→Act→World→Prop}
theorem wpList_nd_upT (hT:Tryz.prog.underlying T=some (.map 9 28)) (hP:P=Tryz.prog) (hg:o.guard=none) (m x v:Operand) (hop:o.op=Op.mapUpdate T m x v) (b n:Nat) (f:Str→Option Nd) (hm:a.eval m=.map (some b)) (hown:NdMap w b n f) (hn:n≤1000000000)
  (s:Str) (c:Nd) (hx:a.eval x=S s) (hv:a.eval v=ndVal c) (hs:s.length≤1000000000) (f':Str→Option Nd) (hf:∀ key,f' key=if key=s then some c else f key)
  (hK:∀ w',NdMap w' b (n + 1) f'→w.grownBy w' (some b)→wpList P ops Q rest (a.put o.dst undef) w'):wpList P ops Q (o :: rest) a w:=by
 subst hP
 obtain ⟨D,h1,h2⟩:=hown
 refine wpList_mapUpdate_own _ hg m x v _ hop 9 28 strLaw hT _ b n D hm h1 (by unfold maxLen;omega) _ _ _ hx hv (keyStr hs) _ [] (Rn_val c) ?_
 intro w' h1' hg'
 refine hK w' ⟨_,h1',fun key z=>?_⟩ hg'
 rw [hf key]
 by_cases hk:key=s
 ·subst hk
  rw [atKey_put_same h1.isMap (by trivial),if_pos rfl]
 ·rw [atKey_put_other (by simpa using hk),h2,if_neg hk]
end
end Go.Proofs.Zq
end
section
namespace Go.Proofs.Zq
open Go.RowKit Go.WideMaps Go.Maps Go.Proofs.YtjghikkboekonaaGreatDoor Go.Proofs.Zw.PrintWords Go.Proofs.Zw.PrintLast Go.Proofs.Zw.PrintMore
open Go.Proofs.Zt (getL)
set_option maxRecDepth 100000 in
set_option maxHeartbeats 4000000 in
theorem index_calls (w:World) (A:Option Addr) (c:Nat) (l:List S32) (hr:Kd.C k32 w A l.length l) (hd:(l.map enOf).Pairwise fun a b=>a.1≠b.1) (hfit:rowFits (l.map enOf)=true) (hl:l.length≤1000000) :
  Calls Tryz.prog 42 #[.slice A l.length c] w fun e w'=>∃ b,e=.returned (.map (some b))∧w.heap.size≤b∧NdMap w' b l.length (getL (l.map enOf))∧Below w.heap.size w w':=by
 have HR:=pH hr
 have HF:=pH hfit
 have HL:=pH hl
 have HD:=pH hd
 clear hr hfit hl hd
 have hmm:=@run_makeMap Tryz.prog
 have HM2:Hid (NdMap (w.alloc (.map #[] 0)) w.heap.size 0 (fun _=>none)):=pH (NdMap.made w)
 have HB3:Hid (Below w.heap.size w (w.alloc (.map #[] 0))):=pH ((Below.refl w.heap.size w).alloc (Nat.le_refl _) _)
 obtain ⟨bm,hbm⟩:∃ bm,bm=w.heap.size:=⟨_,rfl⟩
 have HBM:Hid (w.heap.size≤bm):=pH (by rw [hbm];exact Nat.le_refl _)
 go_enter Tryz.func42,Tryz.ntmps42
 go_wp2
 rw [← hbm] at HM2 ⊢
 clear hbm
 generalize w.alloc (.map #[] 0)=w3 at HM2 HB3 ⊢
 clear hmm
 have h49:=Tryz.underlying32
 have h31:=Tryz.underlying28
 go_loopg [9] (l.length + 1) (fun g v wr=>∃ i:Nat,v=.int .i64 i∧l.length<g + i∧Hid (i≤l.length)∧Hid (NdMap wr bm i (getL ((l.map enOf).take i)))∧Hid (Below w.heap.size w wr))
 case atStart=>exact ⟨0,rfl,by omega,pH (by omega),pH (by rw [List.take_zero];exact HM2.out),HB3⟩
 case round =>
  obtain ⟨i,rfl,hgi,HI,HM,HB⟩:=hrel
  by_cases hi:i<l.length
  ·cases gk with
   | zero=>omega
   | succ g1 =>
    obtain ⟨ad,rfl,hat⟩:=e_at HR.out i hi
    have HAT:=pH (hat.below HB.out)
    clear hat
    have HEF:=pH (fits_get HF.out (List.mem_map_of_mem (f:=enOf) (List.getElem_mem hi)))
    have hst:=getL_step HD.out i (by simpa using hi)
    rw [List.getElem_map] at hst
    obtain ⟨e,hee⟩:∃ e,e=enOf l[i]:=⟨_,rfl⟩
    rw [← hee] at HAT HEF hst
    have HST:=pH hst
    clear hst hee
    have HLL:=HL.out
    go_wp2_with (first|((with_reducible refine pz10 (N:=12) rfl ?_);refine pz12 rfl 32 _ rfl _ rfl (eCells e) _ HAT.out h49 rfl rfl ?_)|((with_reducible refine pz10 (N:=5) rfl ?_);refine pz24 rfl (N:=5) rfl (cs:=enZero) (t:=32) ?hr ?_;(case hr=>first|(go_simp;done)|(go_simp;rfl));intro g hg w4 hb2 hbl2;have HGE:Hid (w.heap.size≤g):=pH (by rw [hg];exact HB.out.size);have HGW:Hid (wr.heap.size≤g):=pH (by rw [hg];exact Nat.le_refl _);have HB4:=pH hb2;have HBL4:=pH hbl2;clear hg hb2 hbl2)|((with_reducible refine pz28 (t:=32) (p:=5) rfl ?_);refine pz22 rfl rfl 32 _ _ rfl g (eCells e).toArray rfl rfl 32 enZero HB4.out rfl rfl (eCells_all _) ?_;intro w5 hb3 hg3;have q0:=(pz26 hb3) 0 _ rfl;simp only [Addr.add_mid,Nat.zero_add] at q0;have HE5:=pH hb3;have HN5:Hid (LiesAt w5 ⟨g,1,none⟩ (pz18 e.2)):=pH (fun j v hv=>(by have:=(pz26 hb3) (1 + j) v (by rw [Nat.add_comm];exact hv);rw [Addr.add_mid,Nat.zero_add] at this;rw [Addr.add_mid];exact this));have HBW5:Hid (Below wr.heap.size wr w5):=pH (HBL4.out.grown hg3 HBL4.out.size (fun j hj=>by cases hj;exact HGW.out));have HB5:Hid (Below w.heap.size w w5):=pH (pbt HB.out HBW5.out);clear hb3 hg3)|((with_reducible refine pz10 (N:=17) rfl ?_);refine pz12 rfl 28 _ rfl _ rfl (pz18 e.2) _ HN5.out h31 rfl rfl ?_)|(at_mapUpdate;refine wpList_nd_upT Tryz.underlying72 rfl rfl _ _ _ rfl bm i _ rfl (HM.out.ext HBW5.out) (by have:=HL.out;omega) e.1 e.2 rfl rfl (by have:=HEF.out.1;omega) _ HST.out ?_;intro w6 hm6 hg6;have HM6:=pH hm6;have HB6:Hid (Below w.heap.size w w6):=pH (HB5.out.grown hg6 HB5.out.size (fun j hj=>by cases hj;exact HBM.out));clear hm6 hg6 q0))
    have HII:Hid (i + 1≤l.length):=pH hi
    go_roundg g1
    case measure=>omega
    case rel=>exact ⟨i + 1,by go_num,by omega,HII,HM6,HB6⟩
  ·have he:i=l.length:=by have:=HI.out;omega
   subst he
   go_wp2_with fail
   go_ret
   exact ⟨bm,rfl,HBM.out,by have:=HM.out;rwa [List.take_of_length_le (by simp)] at this,HB.out⟩
end Go.Proofs.Zq
end
section
namespace Go.Proofs.YtjghikkboekonaaGreatDoor
def _root_.Go.GStep.Dr (d:Nat):GStep→Prop
 | .go _ w _=>d≤w.drawn
 | .comm _ _ _ _ w _=>d≤w.drawn
 | .spawn _ _ w _=>d≤w.drawn
 | .count _ w _=>d≤w.drawn
 | .timer _ _ w _=>d≤w.drawn
 | .alone _ _ w _=>d≤w.drawn
 | .newcoro _ _ _ w _=>d≤w.drawn
 | .coroswitch _ _ _ w _=>d≤w.drawn
 | .collect _ w _=>d≤w.drawn
 | .watch _ w _=>d≤w.drawn
 | .ended _ _ _=>True
def _root_.Go.Stepped.Dr (d:Nat):Stepped→Prop
 | .next m=>d≤m.world.drawn
 | .ended _ _=>True
def _root_.Go.Result.Dr {α:Type} (d:Nat):Result α→Prop
 | .ok _ w=>d≤w.drawn
 | .halt _ w=>d≤w.drawn
def _root_.Go.Move.Dr (d:Nat):Move→Prop
 | .goroutine m _=>d≤m.world.drawn
 | .machine s _=>s.Dr d
theorem dr_after {d:Nat} {es:Array Event} {s:GStep} (h:s.Dr d):(s.after es).Dr d:=by cases s <;> exact h
theorem dr_ask {α:Type} (a:Ask α):∀ (w:World) (d:Nat),d≤w.drawn→d≤(w.ask a).2.drawn:=by
 induction a with
 | done a=>intro w d h;exact h
 | ask what range k ih =>
  intro w d h
  unfold World.ask
  dsimp only
  split
  ·exact ih _ _ _ h
  ·exact ih _ _ _ (Nat.le_trans h (Nat.le_succ _))
theorem dr_sys {w:World} {d:Nat} (c:Sys) (h:d≤w.drawn):d≤(w.sys c).2.drawn:=by
 unfold World.sys
 have:=dr_ask (Kernel.perform c w.os) w d h
 split
 ·exact h
 ·rename_i r os w' e
  rw [e] at this
  exact this
theorem dr_freeze (w:World) (a:Addr) (n:Nat):(w.freeze a n).drawn=w.drawn:=by unfold World.freeze;split <;> rfl
theorem dr_view {p:Program} {w w':World} {at_:Addr} {u:TypeId} {k:Addr} {v:Value} {b:Bool} {l:List Addr} (h:w.viewStore p at_ u k v b=.ok (w',l)):w'.drawn=w.drawn:=by
 unfold World.viewStore at h
 simp only [bind,Except.bind,pure,Except.pure,throw,throwThe,MonadExceptOf.throw] at h
 repeat' split at h
 all_goals first|cases h|skip
 all_goals rfl
theorem dr_store {p:Program} {w w':World} {a:Addr} {v:Value} {b:Bool} {l:List Addr} (h:w.farStore p a v b=.ok (w',l)):w'.drawn=w.drawn:=by
 unfold World.farStore at h
 split at h
 ·split at h
  ·rename_i hv
   injection h with h
   subst h
   exact dr_view hv
  ·cases h
 ·cases h
theorem dr_run {α:Type} (p:Program) (s:Sem α):∀ (w:World) (d:Nat),d≤w.drawn→(s.run p w).Dr d:=by
 induction s with
 | pure a=>intro w d h;exact h
 | load m a k ih =>
  intro w d h
  unfold Sem.run
  repeat' split
  all_goals first|exact ih _ _ _ h|exact h
 | store m a v k ih =>
  intro w d h
  cases v <;> simp only [Sem.run]
  all_goals first|exact h|skip
  all_goals
   repeat' split
   all_goals first|exact h|exact ih _ _ h|(rename_i e;exact ih _ _ (by rw [dr_store e];exact h))
 | new o k ih=>intro w d h;exact ih _ _ _ h
 | shape r k ih=>intro w d h;exact ih _ _ _ h
 | freeze a n k ih=>intro w d h;exact ih _ _ (by rw [dr_freeze];exact h)
 | frozen a k ih=>intro w d h;exact ih _ _ _ h
 | getObj r k ih =>
  intro w d h
  unfold Sem.run
  repeat' split
  all_goals first|exact ih _ _ _ h|exact h
 | setObj r o k ih =>
  intro w d h
  unfold Sem.run
  repeat' split
  all_goals first|exact ih _ _ h|exact h
 | choose q k ih =>
  intro w d h
  unfold Sem.run
  split
  ·exact ih _ _ _ h
  ·exact ih _ _ _ (Nat.le_trans h (Nat.le_succ _))
 | sys c k ih=>intro w d h;exact ih _ _ _ (dr_sys c h)
 | program k ih=>intro w d h;exact ih _ _ _ h
 | mark m k ih=>intro w d h;exact ih _ _ h
 | halt x=>intro w d h;exact h
theorem dr_runT {α:Type} (p:Program) (s:Sem α):∀ (w:World) (es:Array Event) (d:Nat),d≤w.drawn→(s.runT p w es).1.Dr d:=by
 induction s with
 | pure a=>intro w es d h;exact h
 | load m a k ih =>
  intro w es d h
  unfold Sem.runT
  repeat' split
  all_goals first|exact ih _ _ _ _ h|exact h
 | store m a v k ih =>
  intro w es d h
  cases v <;> simp only [Sem.runT]
  all_goals first|exact h|skip
  all_goals
   repeat' split
   all_goals first|exact h|exact ih _ _ _ h|(rename_i e;exact ih _ _ _ (by rw [dr_store e];exact h))
 | new o k ih=>intro w es d h;exact ih _ _ _ _ h
 | shape r k ih=>intro w es d h;exact ih _ _ _ _ h
 | freeze a n k ih=>intro w es d h;exact ih _ _ _ (by rw [dr_freeze];exact h)
 | frozen a k ih=>intro w es d h;exact ih _ _ _ _ h
 | getObj r k ih =>
  intro w es d h
  unfold Sem.runT
  repeat' split
  all_goals first|exact ih _ _ _ _ h|exact h
 | setObj r o k ih =>
  intro w es d h
  unfold Sem.runT
  repeat' split
  all_goals first|exact ih _ _ _ h|exact h
 | choose q k ih =>
  intro w es d h
  unfold Sem.runT
  split
  ·exact ih _ _ _ _ h
  ·exact ih _ _ _ _ (Nat.le_trans h (Nat.le_succ _))
 | sys c k ih=>intro w es d h;exact ih _ _ _ _ (dr_sys c h)
 | program k ih=>intro w es d h;exact ih _ _ _ _ h
 | mark m k ih=>intro w es d h;exact ih _ _ _ h
 | halt x=>intro w es d h;exact h
theorem dr_ok {α:Type} {p:Program} {s:Sem α} {w w':World} {a:α} {d:Nat} (hd:d≤w.drawn) (h:s.run p w=.ok a w'):d≤w'.drawn:=by
 have:=dr_run p s w d hd
 rw [h] at this
 exact this
theorem dr_okT {α:Type} {p:Program} {s:Sem α} {w w':World} {a:α} {d:Nat} {es:Array Event} (hd:d≤w.drawn) (h:(s.runT p w es).1=.ok a w'):d≤w'.drawn:=by
 have:=dr_runT p s w es d hd
 rw [h] at this
 exact this
theorem dr_haltT {α:Type} {p:Program} {s:Sem α} {w w':World} {a:Halt} {d:Nat} {es:Array Event} (hd:d≤w.drawn) (h:(s.runT p w es).1=.halt a w'):d≤w'.drawn:=by
 have:=dr_runT p s w es d hd
 rw [h] at this
 exact this
theorem dr_okP {α:Type} {p:Program} {s:Sem α} {w w':World} {a:α} {d:Nat} {es es':Array Event} (hd:d≤w.drawn) (h:s.runT p w es=(.ok a w',es')):d≤w'.drawn:=by
 have:=dr_runT p s w es d hd
 rw [h] at this
 exact this
theorem dr_haltP {α:Type} {p:Program} {s:Sem α} {w w':World} {a:Halt} {d:Nat} {es es':Array Event} (hd:d≤w.drawn) (h:s.runT p w es=(.halt a w',es')):d≤w'.drawn:=by
 have:=dr_runT p s w es d hd
 rw [h] at this
 exact this
theorem dr_halt {α:Type} {p:Program} {s:Sem α} {w w':World} {a:Halt} {d:Nat} (hd:d≤w.drawn) (h:s.run p w=.halt a w'):d≤w'.drawn:=by
 have:=dr_run p s w d hd
 rw [h] at this
 exact this
theorem dr_endWith {w:World} {d:Nat} (fd:Nat) (t:ByteArray) (o:Outcome):(endWith w fd t o).Dr d:=by
 unfold endWith
 dsimp only
 repeat' split
 all_goals trivial
theorem dr_throwE {w w':World} {d:Nat} {fr:Frame} {m:String} {g:Goroutine} {es:Array Event} (h:d≤w.drawn) (e:endThrow fr m w=.go g w' es):d≤w'.drawn:=by
 unfold endThrow dieOf at e
 dsimp only at e
 injection e with _ e _
 rw [← e];exact h
theorem dr_endThrow {w:World} {d:Nat} (h:d≤w.drawn) (fr:Frame) (m:String):(endThrow fr m w).Dr d:=h
theorem dr_endPrinting {w:World} {d:Nat} (h:d≤w.drawn) (p:Program) (fr:Frame) (v:Value):(endPrinting p fr v w).Dr d:=by
 unfold endPrinting
 dsimp only
 split
 ·exact h
 ·trivial
theorem dr_endFatal {w:World} {d:Nat} (h:d≤w.drawn) (p:Program) (fr:Frame) (cs:List Frame) (dy:Option Dying) (m:String):(endFatal p fr cs dy m w).Dr d:=by
 unfold endFatal
 dsimp only
 split
 ·rename_i e;exact dr_ok h e
 ·trivial
 ·trivial
theorem dr_writeOn {w:World} {d:Nat} (h:d≤w.drawn) (p:Program) (fr:Frame) (dy:Dying) (f:Fatal):(writeOn p fr dy f w).Dr d:=by
 unfold writeOn
 dsimp only
 split
 ·trivial
 ·split
  ·rename_i e;exact dr_okP h e
  ·rename_i e;exact dr_haltP h e
  ·trivial
  ·trivial
theorem dr_die {w:World} {d:Nat} (h:d≤w.drawn) (p:Program) (fr:Frame) (dy:Dying):(die p fr dy w).Dr d:=by
 unfold die
 split
 ·exact dr_writeOn h _ _ _ _
 ·split
  ·split
   ·exact h
   ·exact dr_endWith _ _ _
  ·dsimp only
   split
   ·exact h
   ·split
    ·rename_i e;exact dr_ok h e
    ·trivial
   ·refine dr_after ?_
    split <;> rename_i e <;> first|trivial|exact dr_okT h e|exact dr_endPrinting (dr_haltT h e) _ _ _
   ·trivial
theorem dr_early {w:World} {d:Nat} (h:d≤w.drawn) (p:Program) (fr:Frame) (cs:List Frame) (dy:Option Dying) (g:Nat):(early p fr cs dy g w).Dr d:=by
 have hn:∀ w:World,d≤w.drawn→(match w.heap[g]? with
  | some (.pending c elem)=>GStep.go { frame:=fr,callers:=cs,status:=.running,dying:=dy } { w with heap:=w.heap.setIfInBounds g (.cells c elem) }
  | _ => .ended (.stuck "early: the variable does not wait" (fr.pos p)) w).Dr d := by
  intro w h
  split
  ·exact h
  ·trivial
 unfold early
 dsimp only
 split
 ·exact hn _ h
 ·split
  ·trivial
  ·split
   ·exact hn _ h
   ·split
    ·exact hn _ h
    ·split
     ·trivial
     ·exact h
     ·trivial
     ·exact hn _ h
     ·split
      ·exact h
      ·split
       ·exact hn _ h
       ·split
        ·rename_i e;exact hn _ (dr_ok h e)
        ·rename_i e;exact dr_ok h e
        ·trivial
theorem dr_return {w:World} {d:Nat} (h:d≤w.drawn) (p:Program) (main:Bool) (fr:Frame) (cs:List Frame) (dy:Option Dying) (v:Value):(doReturn p main fr cs dy v w).Dr d:=by
 unfold doReturn
 repeat' split
 all_goals first|exact h|trivial
theorem dr_deferred {w:World} {d:Nat} (h:d≤w.drawn) (p:Program) (fr:Frame) (cs:List Frame) (dy:Option Dying) (x:Deferred):(callDeferred p fr cs dy x w).Dr d:=by
 unfold callDeferred
 refine iteInduction (motive:=GStep.Dr d) (fun _=>trivial) (fun _=>?_)
 ·dsimp only
  refine dr_after ?_
  have:=dr_runT p (invoke x.target x.args) w #[] d h
  split <;> rename_i e <;> first|trivial|skip
  all_goals rw [e] at this
  all_goals first|exact this|exact dr_endFatal this _ _ _ _ _|exact dr_endThrow this _ _|(split <;> exact this)
theorem dr_unwind {w:World} {d:Nat} (h:d≤w.drawn) (p:Program) (main:Bool) (fr:Frame) (cs:List Frame) (dy:Option Dying):(unwind p main fr cs dy w).Dr d:=by
 unfold unwind
 split
 ·dsimp only
  refine dr_after ?_
  split <;> rename_i e
  ·exact dr_okT h e
  ·trivial
 ·exact dr_deferred h _ _ _ _ _
 ·split
  ·trivial
  ·split
   ·trivial
   ·split
    ·exact h
    ·split
     ·split
      ·exact h
      ·split
       ·rename_i e;exact dr_ok h e
       ·trivial
       ·trivial
     ·split
      ·exact dr_endPrinting h _ _ _
      ·trivial
  ·split
   ·exact dr_return h _ _ _ _ _ _
   ·dsimp only
    refine dr_after ?_
    split <;> rename_i e
    ·exact dr_return (dr_okT h e) _ _ _ _ _ _
    ·trivial
    ·trivial
theorem dr_apply {w:World} {d:Nat} (h:d≤w.drawn) (p:Program) (listen:Bool) (fr:Frame) (cs:List Frame) (dy:Option Dying) (s:Sem Next):(stepG.apply p listen fr cs dy s w).Dr d:=by
 unfold stepG.apply
 dsimp only
 have hr:∀ es,(if listen=true then s.runT p w es else (s.run p w,es)).1.Dr d:=by
  intro es
  split
  ·exact dr_runT p s w es d h
  ·exact dr_run p s w d h
 have:=hr #[]
 refine dr_after ?_
 split <;> rename_i e <;> first|trivial|skip
 all_goals rw [e] at this
 all_goals first|exact this|exact dr_endFatal this _ _ _ _ _|exact dr_endThrow this _ _|exact dr_early this _ _ _ _ _|((repeat' split) <;> first|exact this|exact dr_endThrow this _ _)
theorem dr_oper {w:World} {d:Nat} (h:d≤w.drawn) (p:Program) (listen:Bool) (fr:Frame) (cs:List Frame) (dy:Option Dying):(stepG.oper p listen fr cs dy w).Dr d:=by
 unfold stepG.oper
 split
 ·trivial
 ·split
  ·exact dr_apply h _ _ _ _ _ _
  ·exact dr_apply h _ _ _ _ _ _
theorem dr_exec {w:World} {d:Nat} (h:d≤w.drawn) (p:Program) (main listen:Bool) (fr:Frame) (cs:List Frame) (dy:Option Dying):(stepG.exec p main listen fr cs dy w).Dr d:=by
 unfold stepG.exec
 dsimp only
 split
 all_goals first|exact h|trivial|exact dr_apply h _ _ _ _ _ _|skip
 all_goals try (refine dr_after ?_;split <;> rename_i e <;> first|trivial|exact dr_apply (dr_okT h e) _ _ _ _ _ _|exact dr_okT h e|exact dr_haltT h e)
 all_goals try simp only [Option.elim]
 all_goals
  repeat' first|exact h|trivial|exact dr_apply h _ _ _ _ _ _|exact dr_oper h _ _ _ _ _|refine dr_after ?_|split
 all_goals try (rename_i e;first|exact dr_return (dr_okT h e) _ _ _ _ _ _|exact dr_apply (dr_okT h e) _ _ _ _ _ _|exact dr_okT h e|exact dr_haltT h e|exact dr_ok h e)
theorem dr_stepG {w:World} {d:Nat} (h:d≤w.drawn) (p:Program) (main:Bool) (g:Goroutine) (listen:Bool):(stepG p main g w listen).Dr d:=by
 unfold stepG
 dsimp only
 split
 ·exact dr_die h _ _ _
 ·exact dr_exec h _ _ _ _ _ _
 ·exact dr_unwind h _ _ _ _ _
theorem dr_comm {w:World} {d:Nat} (h:d≤w.drawn) (p:Program) (rest:Rest) (gs:Array Goroutine) (i:Nat) (g:Goroutine) (cases:Array CommCase) (b:Bool) (sh:CommShape):(communicate p rest gs i g cases b sh w).1.Dr d:=by
 unfold communicate
 dsimp only
 split
 ·trivial
 ·split
  ·split
   ·split
    ·rename_i e
     unfold waitingAt at e
     split at e
     ·split at e
      ·obtain rfl:=Option.some.inj e;exact h
      ·cases e
     ·obtain rfl:=Option.some.inj e;exact h
    ·trivial
   ·exact h
  ·split
   ·trivial
   ·rename_i e
    have:=dr_ok h e
    split
    ·split
     ·rename_i e;exact dr_halt this e
     ·trivial
    ·exact this
    ·exact this
    ·split
     ·exact this
     ·split
      ·rename_i e;have h2:=dr_ok this e;exact h2
      ·trivial
    ·exact this
    ·exact this
    ·trivial
theorem dr_look {w:World} {d:Nat} (h:d≤w.drawn) (p:Program) (gs:Array Goroutine) (rest:Rest):(look p gs rest w).Dr d:=by
 unfold look
 split
 ·dsimp only
  split
  ·trivial
  ·split
   ·trivial
   ·split
    ·rename_i e;have h2:=dr_ok h e;exact h2
    ·trivial
    ·trivial
 ·trivial
theorem dr_serve {m:Machine} {d:Nat} (h:d≤m.world.drawn) (p:Program) (k:Nat):(serve p m k).Dr d:=by
 unfold serve
 split
 ·trivial
 ·exact h
 ·dsimp only
  split
  ·trivial
  ·exact h
theorem dr_drain (w:World) (c:Nat):(drain w c).2.drawn=w.drawn:=by
 unfold drain
 split <;> rfl
theorem dr_retime {m:Machine} {d:Nat} (h:d≤m.world.drawn) (k:Nat) (t:Timer) (a b:Nat):d≤(retime m k t a b).2.world.drawn:=by
 unfold retime
 split
 rename_i e
 split at e
 ·rename_i c _
  have:=dr_drain m.world c
  rw [e] at this
  exact Nat.le_trans h (Nat.le_of_eq this.symm)
 ·obtain ⟨_,rfl⟩:=Prod.mk.inj e
  exact h
theorem dr_named {m m':Machine} {d:Nat} {v:Value} (var:Addr) (f:Nat→Timer→Value×Machine) (hf:∀ k t,d≤(f k t).2.world.drawn) (e:timerOp.named m var f=.ok (v,m')):d≤m'.world.drawn:=by
 unfold timerOp.named at e
 split at e
 ·rename_i k _
  injection e with e
  have:=hf k (m.rest.timers.getD k default)
  rw [e] at this
  exact this
 ·cases e
theorem dr_timer {m m':Machine} {d:Nat} {v:Value} (h:d≤m.world.drawn) (op:TimerOp) (e:timerOp m op=.ok (v,m')):d≤m'.world.drawn:=by
 unfold timerOp at e
 split at e
 ·split at e
  ·injection e with e;obtain ⟨_,rfl⟩:=Prod.mk.inj e;exact h
  ·split at e
   ·split at e
    ·cases e
    ·injection e with e;obtain ⟨_,rfl⟩:=Prod.mk.inj e;exact h
   ·cases e
 ·exact dr_named _ _ (fun k t=>dr_retime h _ _ _ _) e
 ·split at e
  ·rename_i e2
   unfold timerOp.opened at e2
   refine dr_named _ _ (fun k t=>dr_retime ?_ _ _ _ _) e
   split at e2
   ·split at e2
    ·obtain rfl:=Option.some.inj e2;exact h
    ·cases e2
   ·obtain rfl:=Option.some.inj e2;exact h
  ·cases e
 ·dsimp only at e
  injection e with e;obtain ⟨_,rfl⟩:=Prod.mk.inj e;exact h
theorem dr_runG {m:Machine} {d:Nat} (h:d≤m.world.drawn) (p:Program) (i:Nat) (listen:Bool):(runT p m i listen).1.Dr d:=by
 unfold runT
 dsimp only
 have hs:=dr_stepG h p (i == 0) (m.gs.swapAt! i { (default:Goroutine) with status:=.finished }).1 listen
 split <;> rename_i e <;> first|trivial|skip
 all_goals rw [e] at hs
 ·exact dr_comm hs _ _ _ _ _ _ _ _
 ·exact hs
 ·exact hs
 ·split
  ·trivial
  ·exact hs
 ·exact hs
 ·exact dr_look hs _ _ _
 ·exact hs
 ·exact hs
 ·dsimp only
  split
  ·exact hs
  ·split
   ·rename_i e;exact dr_throwE hs e
   ·trivial
  ·trivial
 ·dsimp only
  split
  ·rename_i e;have h2:=dr_timer (m:={ world:=_,gs:=_,rest:=_ }) hs _ e;exact h2
  ·split
   ·rename_i e;exact dr_throwE hs e
   ·trivial
  ·trivial
  ·trivial
theorem dr_askOn {m:Machine} {d:Nat} (h:d≤m.world.drawn) (p:Program):(askOn p m).Dr d:=by
 have hp:∀ m':Machine,d≤m'.world.drawn→(match (choose (.sched (runnable m.gs m.world.os.mono).length)).run p m'.world with
   | .halt _ w => Move.machine (.ended (.stuck "sched" "") w)
   | .ok k world =>
    if (runnable m.gs m.world.os.mono).length≤1 then .goroutine { m' with world } ((runnable m.gs m.world.os.mono).getD k 0) else
    match (choose (.extern "sched.slice" 65536)).run p world with
    | .halt _ w => .machine (.ended (.stuck "sched.slice" "") w)
    | .ok n world=>.goroutine { m' with world,rest:={ m'.rest with slice:=if n=0 then none else some ((runnable m.gs m.world.os.mono).getD k 0,n) } } ((runnable m.gs m.world.os.mono).getD k 0)).Dr d:=by
  intro m' h'
  split
  ·trivial
  ·rename_i e
   have:=dr_ok h' e
   split
   ·exact this
   ·split
    ·trivial
    ·rename_i e;exact dr_ok this e
 unfold askOn
 dsimp only
 split
 ·trivial
 ·rename_i e
  have h1:=dr_ok h e
  clear e
  split
  ·exact dr_serve (m:={ m with world:=_ }) h1 _ _
  ·split
   ·split
    ·exact h1
    ·split
     ·exact h1
     ·split
      ·trivial
      ·trivial
   ·split
    ·exact hp { m with world:=_ } h1
    ·split
     ·trivial
     ·rename_i e;have h2:=dr_ok h1 e;exact hp { m with world:=_ } h2
     ·rename_i e;have h2:=dr_ok h1 e;exact h2
     ·rename_i e;have h2:=dr_ok h1 e;exact hp (Machine.advanceTo { m with world:=_ } _) h2
theorem dr_askM {m:Machine} {d:Nat} (h:d≤m.world.drawn) (p:Program):(ask p m).Dr d:=by
 unfold ask
 split
 ·split
  ·trivial
  ·rename_i e
   have h1:=dr_ok h e
   have:=dr_look h1 p m.gs m.rest
   split
   ·rename_i e;rw [e] at this;exact dr_askOn this _
   ·exact this
  ·rename_i e;have h2:=dr_ok h e;exact dr_askOn (m:={ m with world:=_ }) h2 _
 ·exact dr_askOn h _
theorem dr_move {m:Machine} {d:Nat} (h:d≤m.world.drawn) (p:Program):(move p m).Dr d:=by
 unfold move
 split
 ·split
  ·exact h
  ·trivial
 ·split
  ·split
   ·exact h
   ·exact dr_askM (m:={ m with rest:={ m.rest with slice:=none } }) h p
  ·exact dr_askM h _
theorem dr_step {m:Machine} {d:Nat} (h:d≤m.world.drawn) (p:Program):(step p m).Dr d:=by
 unfold step stepT
 have:=dr_move h p
 split <;> rename_i e <;> rw [e] at this
 ·exact dr_runG this _ _ _
 ·exact this
theorem dr_runN {p:Program} {d:Nat}:∀ (n:Nat) (m:Machine),d≤m.world.drawn→(runN p n m).Dr d
 | 0,_,h=>h
 | n + 1,m,h=>by
  unfold runN
  have:=dr_step h p
  split
  ·rename_i e;rw [e] at this;exact dr_runN n _ this
  ·exact this
theorem dr_steps {p:Program} {m m':Machine} (h:Steps p m m'):m.world.drawn≤m'.world.drawn:=by
 obtain ⟨n,hn⟩:=h
 have:=dr_runN (p:=p) (d:=m.world.drawn) n m (Nat.le_refl _)
 rw [hn] at this
 exact this
theorem calls_drawn {p:Program} {f:FuncId} {args:Array Value} {w:World} {R:Ending→World→Prop} (h:Calls p f args w R):Calls p f args w fun e w'=>R e w'∧(e≠.outgrown→w.drawn≤w'.drawn):=by
 intro cs
 obtain ⟨e,w',fr,hR,hc,hf,hl⟩:=h cs
 refine ⟨e,w',fr,⟨hR,fun he=>?_⟩,hc,hf,hl⟩
 cases e with
 | outgrown=>exact absurd rfl he
 | returned v=>exact dr_steps hc
 | panicked c=>exact dr_steps hc
end Go.Proofs.YtjghikkboekonaaGreatDoor
end
section
namespace Go.Proofs
open Go.Shelf
def Tryz.laySortC_ren:Go.Shelf.Ren:=⟨fun|6=>43|15=>76|14=>75|28=>119|29=>120|20=>111|21=>112|22=>113|23=>114|24=>115|25=>116|26=>117|27=>118|46=>149|47=>150|48=>151|49=>152|50=>153|57=>182|n=>n,fun|22=>35|24=>57|25=>76|3=>3|39=>113|0=>0|53=>138|55=>140|4=>4|46=>131|45=>130|50=>135|5=>5|9=>9|66=>157|70=>161|76=>188|77=>189|n=>n,fun|n=>n⟩
theorem Tryz.laySortC:Go.Proofs.SlLaysF0.n6 Tryz.prog Tryz.laySortC_ren:={
 mixed:=by kernel_rfl
 f6:=⟨Tryz.f43.name,by decide,Tryz.func43.trans (congrArg some (by kernel_rfl))⟩
 f14:=⟨Tryz.f75.name,by decide,Tryz.func75.trans (congrArg some (by kernel_rfl))⟩
 f15:=Tryz.func76.trans (congrArg some (by kernel_rfl))
 f20:=⟨Tryz.f111.name,by decide,Tryz.func111.trans (congrArg some (by kernel_rfl))⟩
 f21:=⟨Tryz.f112.name,by decide,Tryz.func112.trans (congrArg some (by kernel_rfl))⟩
 f22:=⟨Tryz.f113.name,by decide,Tryz.func113.trans (congrArg some (by kernel_rfl))⟩
 f23:=⟨Tryz.f114.name,by decide,Tryz.func114.trans (congrArg some (by kernel_rfl))⟩
 f24:=⟨Tryz.f115.name,by decide,Tryz.func115.trans (congrArg some (by kernel_rfl))⟩
 f25:=⟨Tryz.f116.name,by decide,Tryz.func116.trans (congrArg some (by kernel_rfl))⟩
 f26:=⟨Tryz.f117.name,by decide,Tryz.func117.trans (congrArg some (by kernel_rfl))⟩
 f27:=⟨Tryz.f118.name,by decide,Tryz.func118.trans (congrArg some (by kernel_rfl))⟩
 f28:=Tryz.func119.trans (congrArg some (by kernel_rfl))
 f29:=Tryz.func120.trans (congrArg some (by kernel_rfl))
 f46:=⟨Tryz.f149.name,by decide,Tryz.func149.trans (congrArg some (by kernel_rfl))⟩
 f47:=Tryz.func150.trans (congrArg some (by kernel_rfl))
 f48:=Tryz.func151.trans (congrArg some (by kernel_rfl))
 f49:=⟨Tryz.f152.name,by decide,Tryz.func152.trans (congrArg some (by kernel_rfl))⟩
 f50:=⟨Tryz.f153.name,by decide,Tryz.func153.trans (congrArg some (by kernel_rfl))⟩
 f57:=⟨Tryz.f182.name,by decide,Tryz.func182.trans (congrArg some (by kernel_rfl))⟩
 t0:=Tryz.underlying0
 a0:=Tryz.isAgg0
 z0:=Tryz.sizeOf0
 v0:=Tryz.zeroValue0
 t3:=Tryz.underlying3
 a3:=Tryz.isAgg3
 z3:=Tryz.sizeOf3
 v3:=Tryz.zeroValue3
 t4:=Tryz.underlying4
 a4:=Tryz.isAgg4
 z4:=Tryz.sizeOf4
 v4:=Tryz.zeroValue4
 t5:=Tryz.underlying5
 a5:=Tryz.isAgg5
 z5:=Tryz.sizeOf5
 v5:=Tryz.zeroValue5
 t9:=Tryz.underlying9
 a9:=Tryz.isAgg9
 z9:=Tryz.sizeOf9
 v9:=Tryz.zeroValue9
 t22:=Tryz.underlying35
 a22:=Tryz.isAgg35
 z22:=Tryz.sizeOf35
 v22:=Tryz.zeroValue35
 t25:=Tryz.underlying76
 a25:=Tryz.isAgg76
 z25:=Tryz.sizeOf76
 v25:=Tryz.zeroValue76
 t39:=Tryz.underlying113
 a39:=Tryz.isAgg113
 z39:=Tryz.sizeOf113
 v39:=Tryz.zeroValue113
 t45:=Tryz.underlying130
 a45:=Tryz.isAgg130
 z45:=Tryz.sizeOf130
 v45:=Tryz.zeroValue130
 t46:=Tryz.underlying131
 a46:=Tryz.isAgg131
 z46:=Tryz.sizeOf131
 v46:=Tryz.zeroValue131
 t50:=Tryz.underlying135
 a50:=Tryz.isAgg135
 z50:=Tryz.sizeOf135
 v50:=Tryz.zeroValue135
 t53:=Tryz.underlying138
 a53:=Tryz.isAgg138
 z53:=Tryz.sizeOf138
 v53:=Tryz.zeroValue138
 t55:=Tryz.underlying140
 a55:=Tryz.isAgg140
 z55:=Tryz.sizeOf140
 v55:=Tryz.zeroValue140
 t66:=Tryz.underlying157
 a66:=Tryz.isAgg157
 z66:=Tryz.sizeOf157
 v66:=Tryz.zeroValue157
 t70:=Tryz.underlying161
 a70:=Tryz.isAgg161
 z70:=Tryz.sizeOf161
 v70:=Tryz.zeroValue161
 t76:=Tryz.underlying188
 a76:=Tryz.isAgg188
 z76:=Tryz.sizeOf188
 v76:=Tryz.zeroValue188
 t77:=Tryz.underlying189
 a77:=Tryz.isAgg189
 z77:=Tryz.sizeOf189
 v77:=Tryz.zeroValue189 }
end Go.Proofs
end
section
namespace Go.Proofs.Zq
open Go.RowKit Go.WideMaps Go.Maps Go.Sort Go.Proofs.YtjghikkboekonaaGreatDoor Go.Proofs.Zw.PrintWords Go.Proofs.Zw.PrintLast Go.Proofs.Zw.PrintMore
open Go.Proofs.Zt (Ch)
theorem laid_of {w w':World} (hb:Below w.heap.size w w') (hd:w.drawn≤w'.drawn):∃ q os,w'=grow (w.drewN q) os:=by
 refine ⟨w'.drawn - w.drawn,w'.heap.extract w.heap.size w'.heap.size,?_⟩
 obtain ⟨h,t,d,o,u⟩:=w
 obtain ⟨h',t',d',o',u'⟩:=w'
 obtain ⟨e1,e2,e3,e4,e5⟩:=hb
 dsimp only at e1 e2 e3 e4 e5 hd
 subst e1 e2 e3
 simp only [grow,World.drewN,World.mk.injEq,true_and,and_true]
 refine ⟨?_,by omega⟩
 apply Array.ext_getElem?
 intro i
 by_cases hi:i<h.size
 ·rw [Array.getElem?_append_left hi];exact e5 i hi
 ·rw [Array.getElem?_append_right (by omega),Array.getElem?_extract]
  by_cases hj:i<h'.size
  ·rw [if_pos (by omega)];congr 1;omega
  ·rw [if_neg (by omega),Array.getElem?_eq_none (by omega)]
theorem calls_laid {P:Program} {f:FuncId} {args:Array Value} {w:World} {v:Value} (h:Calls P f args w fun e w'=>e=.returned v∧Below w.heap.size w w'):Calls P f args w fun e w'=>e=.returned v∧∃ q os,w'=grow (w.drewN q) os:=by
 refine (calls_drawn h).mono ?_
 rintro e w' ⟨⟨rfl,hb⟩,hd⟩
 exact ⟨rfl,laid_of hb (hd (by simp))⟩
theorem flatK_list {α:Type} [Inhabited α] {enc:α→List Value} {k:Nat} (hk:∀ x,(enc x).length=k) (d:Array α):(flatK enc k d).toList=flat enc d.toList:=by
 apply List.ext_getElem?
 intro t
 have hl:(flat enc d.toList).length=d.size * k:=by rw [flat_length hk,Array.length_toList]
 have hs:(flatK enc k d).size=d.size * k:=size_flatK enc k d
 by_cases ht:t<d.size * k
 ·have k0:0<k:=by
   rcases Nat.eq_zero_or_pos k with h|h
   ·rw [h] at ht;omega
   ·exact h
  have h1:t / k<d.size:=Nat.div_lt_of_lt_mul (by rwa [Nat.mul_comm] at ht)
  have h2:t % k<(enc d[t / k]).length:=by rw [hk];exact Nat.mod_lt _ k0
  have e1:=flat_at hk d.toList (t / k) (t % k) d[t / k] ((enc d[t / k])[t % k]) (by rw [List.getElem?_eq_getElem (by simpa using h1)];simp) (List.getElem?_eq_getElem h2)
  rw [Nat.div_add_mod'] at e1
  rw [e1,Array.getElem?_toList,Array.getElem?_eq_getElem (by omega)]
  have e2:=get_flatK enc k d t ht
  rw [getElem!_pos (flatK enc k d) t (by omega)] at e2
  rw [e2,getElem!_pos d (t / k) h1,getElem!_pos (enc d[t / k]) (t % k) h2]
 ·rw [List.getElem?_eq_none (by rw [Array.length_toList];omega),List.getElem?_eq_none (by omega)]
theorem chC_len (e:Ch Str Nd):(pz13 e).length=12:=rfl
theorem chC_one (e:Ch Str Nd):∀ u ∈ pz13 e,u.oneCell'=true:=by
 intro u hu
 simp only [pz13,pz18,List.mem_cons,List.not_mem_nil,or_false] at hu
 rcases hu with rfl|rfl|rfl|rfl|rfl|rfl|rfl|rfl|rfl|rfl|rfl|rfl <;> rfl
abbrev ShC:={c:Ch Str Nd // c.path.length≤1000000}
instance:Inhabited ShC:=⟨⟨⟨[],0,zeroN⟩,by simp⟩⟩
def encC (x:ShC):List Value:=pz13 x.1
theorem encC_len (x:ShC):(encC x).length=12:=chC_len x.1
theorem encC_one (x:ShC):∀ v ∈ encC x,v.oneCell'=true:=chC_one x.1
theorem below_sorted {w w0:World} {g:Nat} (hg:w0.heap.size≤g) (hb:Below w0.heap.size w0 w) (m:Nat) (dk:Array ShC) (os:Array Obj):Below w0.heap.size w0 (sortWorldK encC 12 w g 0 m dk os):=by
 have h1:Below w0.heap.size w0 (putRow id (Sort.ahead w m) g 0 (flatK encC 12 dk)):=Go.Lib.below_putRow hb hg
 refine ⟨h1.os,h1.tape,h1.output,?_,fun k hk=>?_⟩
 ·refine Nat.le_trans h1.size ?_
  show (putRow id (Sort.ahead w m) g 0 (flatK encC 12 dk)).heap.size≤(grow (putRow id (Sort.ahead w m) g 0 (flatK encC 12 dk)) os).heap.size
  simp [grow]
 ·rw [← h1.block k hk]
  show ((putRow id (Sort.ahead w m) g 0 (flatK encC 12 dk)).heap ++ os)[k]?=_
  rw [Array.getElem?_append_left (by have:=h1.size;omega)]
theorem sortC_calls (gf:FuncId) (cf:ShC→ShC→Int) (hO:SWO (ltOf cf)) (eg:∀ args w,(callFunc gf args).run Tryz.prog w=.ok (.enter gf args) w) (w w0:World) (hb:Below w0.heap.size w0 w)
  (hcmp:∀ w1,Below w0.heap.size w0 w1→∀ x y:ShC,Calls Tryz.prog gf #[.agg (pz13 x.1).toArray,.agg (pz13 y.1).toArray] w1 fun e w2=>e=.returned (.int .i64 (cf x y))∧Below w1.heap.size w1 w2)
  (v:Value) (l:List ShC) (hown:Owr pz13 57 12 w0.heap.size w v (l.map (·.1))) (hlen:l.length≤100000000) :
  Calls Tryz.prog 43 #[v,.func (.func gf) #[] #[]] w fun e w'=>e=.returned (.tuple #[])∧∃ l':List ShC,l'.Perm l∧(l'.Pairwise fun a b=>¬ cf b a<0)∧Owr pz13 57 12 w0.heap.size w' v (l'.map (·.1))∧Below w0.heap.size w0 w':=by
 rcases hown.2 with ⟨rfl,h0⟩|⟨g,cap,cur,rfl,hg,hblk,hcap,hcm,hcs,hcur⟩
 ·obtain rfl:l=[]:=by rw [List.length_map] at h0;exact List.length_eq_zero_iff.1 h0
  refine (AnyF.slices_SortFunc_none (P:=Tryz.prog) (ρ:=Tryz.laySortC_ren) { Tryz.laySortC with } none 0 _ w).mono ?_
  rintro e w' ⟨rfl,rfl⟩
  exact ⟨rfl,[],List.Perm.refl _,List.Pairwise.nil,hown,hb⟩
 ·have hgl:g<w.heap.size:=Go.Proofs.Zw.PrintWords.blk_lt hblk
  have hfl:flat pz13 (l.map (·.1))=(flatK encC 12 l.toArray).toList:=by
   rw [flatK_list encC_len]
   show (l.map (·.1)).flatMap pz13=l.flatMap encC
   rw [List.flatMap_map];rfl
  have hll:(l.map (·.1)).length=l.length:=List.length_map _
  have hH:HoldsK encC 12 w g 0 l.toArray:=by
   intro j hj
   have hj':j<l.length * 12:=by rw [size_flatK] at hj;simpa using hj
   refine ⟨?_,Go.Proofs.Zw.PrintWords.pz7 hblk _⟩
   rw [Nat.zero_add,Go.Proofs.Zw.PrintWords.blk_cell hblk j]
   have h2:(cur.toList.take ((l.map (·.1)).length * 12))[j]?=(flat pz13 (l.map (·.1)))[j]?:=by rw [hcur]
   rw [List.getElem?_take_of_lt (by rw [hll];exact hj'),hfl] at h2
   rw [Array.getElem?_toList,Array.getElem?_toList,Array.getElem?_eq_getElem hj] at h2
   rw [getElem!_pos _ j hj]
   exact h2
  have hcall:=AnyQ.slices_SortFunc (P:=Tryz.prog) (ρ:=Tryz.laySortC_ren) Tryz.laySortC 12 (fun w=>by kernel_rfl) (fun w=>by kernel_rfl) encC encC_len encC_one cf hO gf #[] g 0 cap l.toArray w eg
   (fun m os dk hs x y=>calls_laid (hcmp _ (below_sorted hg hb m dk os) x y)) hH hgl (by simp;omega)
  have hsz:l.toArray.size=(l.map (·.1)).length:=by simp
  rw [hsz] at hcall
  refine hcall.mono ?_
  rintro e w' ⟨rfl,d',n,os,hp,hs,rfl⟩
  obtain ⟨hp1,_,hp3⟩:=hp
  have hd:d'.size=l.length:=by rw [hp1];simp
  have hperm:d'.toList.Perm l:=by
   have e1:d'.extract 0 (l.map (·.1)).length=d':=by rw [hll,← hd];simp
   have e2:l.toArray.extract 0 (l.map (·.1)).length=l.toArray:=by rw [hll];simp
   rw [e1,e2] at hp3
   exact hp3
  refine ⟨rfl,d'.toList,hperm,?_,?_,below_sorted hg hb n d' os⟩
  ·rw [List.pairwise_iff_getElem]
   intro i j hi hj hij
   have:=hs i j (Nat.zero_le _) hij (by rw [hll];rw [Array.length_toList] at hj;omega)
   have hi':i<d'.size:=by simpa using hi
   have hj':j<d'.size:=by simpa using hj
   rw [getElem!_pos d' i hi',getElem!_pos d' j hj'] at this
   simpa using of_decide_eq_false (p:=cf d'[j] d'[i]<0) this
  ·have hw:sortWorldK encC 12 w g 0 n d' os=grow ((w.drewN n).setCells g 0 (flat pz13 (d'.toList.map (·.1)))) os:=by
    have hfl':flat pz13 (d'.toList.map (·.1))=(flatK encC 12 d').toList:=by
     rw [flatK_list encC_len]
     show (d'.toList.map (·.1)).flatMap pz13=d'.toList.flatMap encC
     rw [List.flatMap_map];rfl
    have:=Go.Lib.sorted_world id w g 0 n (flatK encC 12 l.toArray) (flatK encC 12 d').toList os hH (by simp [hd])
    rw [List.map_id] at this
    rw [hfl',← this]
    show grow (putRow id _ g 0 (flatK encC 12 d')) os=_
    rw [Array.toArray_toList]
   rw [hw]
   have hfll:(flat pz13 (d'.toList.map (·.1))).length=l.length * 12:=by rw [flat_length chC_len,List.length_map,Array.length_toList,hd]
   have hcap':l.length≤cap:=by rw [hll] at hcap;exact hcap
   obtain ⟨cur',q1,q2,q3⟩:=setCells_row (flat pz13 (d'.toList.map (·.1))) 0 (w.drewN n) cur hblk (by rw [hfll];omega)
   have hlen':(d'.toList.map (·.1)).length=(l.map (·.1)).length:=by rw [List.length_map,List.length_map,hperm.length_eq]
   rw [← hlen']
   refine own_mk chC_len (cur:=cur') hg ?_ (by rw [hlen'];exact hcap) hcm (q2.trans hcs) ?_
   ·show ((((w.drewN n).setCells g 0 _).heap) ++ os)[g]?=_
    rw [Array.getElem?_append_left (Go.Proofs.Zw.PrintWords.blk_lt q1)]
    exact q1
   ·rw [q3,hlen',hll]
    simp only [List.take_zero,List.nil_append]
    rw [List.take_append_of_le_length (by rw [hfll];exact Nat.le_refl _),List.take_of_length_le (by rw [hfll];exact Nat.le_refl _)]
end Go.Proofs.Zq
end
section
namespace Go.Proofs.Zq
open Go.RowKit Go.Proofs.YtjghikkboekonaaGreatDoor Go.Proofs.Zw.PrintWords Go.Proofs.Zw.PrintLast Go.Proofs.Zw.PrintMore
theorem nd_eq (n m:Nd):(n.kind == m.kind && (n.mode == m.mode && (n.uid == m.uid && (n.gid == m.gid && (n.mtime == m.mtime && (n.link == m.link && (n.data == m.data && (n.major == m.major && (n.minor == m.minor && n.attrs == m.attrs)))))))))=decide (n=m):=by
 obtain ⟨a1,a2,a3,a4,a5,a6,a7,a8,a9,a10⟩:=n
 obtain ⟨b1,b2,b3,b4,b5,b6,b7,b8,b9,b10⟩:=m
 simp only [Nd.mk.injEq]
 rw [Bool.eq_iff_iff]
 simp
theorem eqNg (d:Nat) (w:World) (n m:Nd):(Op.equalIn (d + 2) 28 (.agg (pz18 n).toArray) (.agg (pz18 m).toArray)).run Tryz.prog w=.ok (decide (n=m)) w:=by
 have h:=eqA28 d w n.kind m.kind n.mode m.mode n.uid m.uid n.gid m.gid n.mtime m.mtime (B n.link) (B m.link) (B n.data) (B m.data) n.major m.major n.minor m.minor (B n.attrs) (B m.attrs)
 rw [← nd_eq]
 simp only [toList_B] at h ⊢
 exact h
theorem eqEg (d:Nat) (w:World) (a b:Str×Nd):(Op.equalIn (d + 3) 32 (.agg (eCells a).toArray) (.agg (eCells b).toArray)).run Tryz.prog w=.ok (decide (a=b)) w:=by
 obtain ⟨p,n⟩:=a
 obtain ⟨q,m⟩:=b
 have h:=eqA32 d w (B p) (B q) n.kind m.kind n.mode m.mode n.uid m.uid n.gid m.gid n.mtime m.mtime (B n.link) (B m.link) (B n.data) (B m.data) n.major m.major n.minor m.minor (B n.attrs) (B m.attrs)
 have e:decide ((p,n)=(q,m))=(p == q && decide (n=m)):=by rw [Bool.eq_iff_iff];simp
 rw [e,← nd_eq]
 simp only [toList_B] at h ⊢
 exact h
end Go.Proofs.Zq
end
section
namespace Go.Proofs.Zq
open Go.RowKit Go.WideMaps Go.Maps Go.Proofs.YtjghikkboekonaaGreatDoor Go.Proofs.Zw.PrintWords Go.Proofs.Zw.PrintLast Go.Proofs.Zw.PrintMore
open Go.Proofs.Zt (getL folderL PS parM rightT RightT diffM diffC sortL lessC lessM keyM Ch)
attribute [local go_sem high] eqNg
def goesB (b:List (Str×Nd)) (e:Str×Nd):Bool:=(getL b e.1).isNone && folderL PS Y.dir b (parM e.1)
def setB (a:List (Str×Nd)) (e:Str×Nd):Bool:=decide (getL a e.1≠some e.2)
def dA (b l:List (Str×Nd)):List (Ch Str Nd):=(l.filter (goesB b)).map fun e=>⟨e.1,1,zeroN⟩
def dB (a l:List (Str×Nd)):List (Ch Str Nd):=(l.filter (setB a)).map fun e=>⟨e.1,0,e.2⟩
theorem diffC_parts (a b:List (Str×Nd)):diffC Y a b=dA b a ++ dB a b:=rfl
theorem dA_step (b l:List (Str×Nd)) (i:Nat) (hi:i<l.length):dA b (l.take (i + 1))=dA b (l.take i) ++ if goesB b l[i]=true then [⟨l[i].1,1,zeroN⟩] else []:=by
 unfold dA
 rw [List.take_succ_eq_append_getElem hi,List.filter_append,List.map_append]
 cases h:goesB b l[i] <;> simp [h]
theorem dB_step (a l:List (Str×Nd)) (i:Nat) (hi:i<l.length):dB a (l.take (i + 1))=dB a (l.take i) ++ if setB a l[i]=true then [⟨l[i].1,0,l[i].2⟩] else []:=by
 unfold dB
 rw [List.take_succ_eq_append_getElem hi,List.filter_append,List.map_append]
 cases h:setB a l[i] <;> simp [h]
theorem dA_len (b l:List (Str×Nd)):(dA b l).length≤l.length:=by unfold dA;rw [List.length_map];exact List.length_filter_le _ _
theorem dB_len (a l:List (Str×Nd)):(dB a l).length≤l.length:=by unfold dB;rw [List.length_map];exact List.length_filter_le _ _
theorem diffC_short {a b:List (Str×Nd)} (ha:rowFits a=true) (hb:rowFits b=true):∀ c ∈ diffC Y a b,c.path.length≤1000000:=by
 intro c hc
 rcases (Zt.mem_diffC c).1 hc with ⟨e,h1,_,_,rfl⟩|⟨e,h1,_,rfl⟩
 ·exact (fits_get ha h1).1
 ·exact (fits_get hb h1).1
theorem info_ch:(Tryz.prog.info? 57).map (fun i=>(i.zero,i.size,i.bytes))=some (some (.agg chZero),12,128):=by kernel_rfl
theorem own_chweaken {base0 base:Nat} {w:World} {v:Value} {l:List (Ch Str Nd)} (h:Owr pz13 57 12 base w v l) (hb:base0≤base):Owr pz13 57 12 base0 w v l:=by
 refine ⟨h.1,?_⟩
 rcases h.2 with h|⟨g,cap,cur,h1,h2,h3⟩
 ·exact .inl h
 ·exact .inr ⟨g,cap,cur,h1,Nat.le_trans hb h2,h3⟩
def cfD (x y:ShC):Int:=if lessC x.1 y.1=true then -1 else 1
theorem swo_D:Go.Sort.SWO (ltOf cfD):=by
 have hl:∀ x y:ShC,ltOf cfD x y=lessC x.1 y.1:=by
  intro x y
  unfold ltOf cfD
  cases lessC x.1 y.1 <;> rfl
 refine ⟨fun x=>?_,fun x y z h1 h2=>?_,fun x y z h1 h2=>?_⟩
 ·rw [hl]
  cases h:lessC x.1 x.1 with
  | false=>rfl
  | true=>exact absurd h (Zt.lessC_ord.irrefl _ trivial)
 ·rw [hl] at *
  exact Zt.lessC_ord.trans _ _ _ trivial trivial trivial h1 h2
 ·rw [hl] at *
  unfold lessC lessM at *
  have h1:¬ Zt.cmpM (keyM x.1) (keyM y.1)<0:=of_decide_eq_false h1
  have h2:¬ Zt.cmpM (keyM y.1) (keyM z.1)<0:=of_decide_eq_false h2
  refine decide_eq_false fun h3=>?_
  have a1:=Zt.cmpM_anti (keyM x.1) (keyM y.1)
  have a2:=Zt.cmpM_anti (keyM y.1) (keyM z.1)
  by_cases e1:Zt.cmpM (keyM x.1) (keyM y.1)=0
  ·rw [Zt.cmpM_eq e1] at h3;exact h2 h3
  ·by_cases e2:Zt.cmpM (keyM y.1) (keyM z.1)=0
   ·rw [← Zt.cmpM_eq e2] at h3;exact h1 h3
   ·have:=Zt.cmpM_trans (a:=keyM z.1) (b:=keyM y.1) (c:=keyM x.1) (by omega) (by omega)
    have a3:=Zt.cmpM_anti (keyM x.1) (keyM z.1)
    omega
set_option maxRecDepth 100000 in
theorem cmpD_calls (w:World) (hG:GL w) (x y:ShC):Calls Tryz.prog 44 #[.agg (pz13 x.1).toArray,.agg (pz13 y.1).toArray] w fun e w'=>e=.returned (.int .i64 (cfD x y))∧Below w.heap.size w w':=by
 have h33:=Tryz.underlying57
 have HX:=pH x.2
 have HY:=pH y.2
 have HCF:Hid (cfD x y=if lessM (Zt.tarM x.1.op x.1.path) (Zt.tarM y.1.op y.1.path)=true then -1 else 1):=pH rfl
 generalize cfD x y=r at HCF
 obtain ⟨a,ha⟩:∃ a,a=x.1:=⟨_,rfl⟩
 obtain ⟨b,hb⟩:∃ b,b=y.1:=⟨_,rfl⟩
 rw [← ha] at HX HCF ⊢
 rw [← hb] at HY HCF ⊢
 clear ha hb x y
 go_enter Tryz.func44,Tryz.ntmps44
 go_wp2_with (first|((with_reducible refine pz10 (N:=2) rfl ?_);refine pz24 rfl (N:=2) rfl (cs:=(pz13 a).toArray) (t:=57) ?hr ?_;(case hr=>first|(go_simp;done)|(go_simp;rfl));intro g2 hg w2 hb2 hbl2;have HC2:=pH hb2;have HBL2:=pH hbl2;clear hg hb2 hbl2)|((with_reducible refine pz10 (N:=3) rfl ?_);refine pz24 rfl (N:=3) rfl (cs:=(pz13 b).toArray) (t:=57) ?hr ?_;(case hr=>first|(go_simp;done)|(go_simp;rfl));intro g3 hg w3 hb2 hbl2;have HC3:=pH hb2;have HC23:=pH (pz11 HC2.out hbl2);have HBL3:=pH (pbt HBL2.out hbl2);clear hg hb2 hbl2)|((with_reducible refine pz10 (N:=5) rfl ?_);refine pz12 rfl 57 _ rfl _ rfl (pz13 a) _ (pz26 HC23.out) h33 rfl rfl ?_)|((with_reducible refine pz10 (N:=6) rfl ?_);refine pz12 rfl 57 _ rfl _ rfl (pz13 b) _ (pz26 HC3.out) h33 rfl rfl ?_))
 refine (less_calls w3 (hG.ext HBL3.out) a b HX.out HY.out).mono ?_
 rintro e w4 ⟨rfl,hb4⟩
 have HB4:=pH (pbt HBL3.out hb4)
 clear hb4
 cases hl:lessM (Zt.tarM a.op a.path) (Zt.tarM b.op b.path) with
 | true =>
  have HR:Hid (r = -1):=pH (by rw [HCF.out,hl];rfl)
  go_wp2_with fail
  go_ret
  exact ⟨by rw [HR.out];rfl,HB4.out⟩
 | false =>
  have HR:Hid (r=1):=pH (by rw [HCF.out,hl];rfl)
  go_wp2_with fail
  go_ret
  exact ⟨by rw [HR.out];rfl,HB4.out⟩
theorem sort_diff {a b:List (Str×Nd)} (ha:RightT Y a) (hb:RightT Y b) {l l':List ShC} (hl:l.map (·.1)=diffC Y a b) (hp:l'.Perm l) (hs:l'.Pairwise fun x y=>¬ cfD y x<0):l'.map (·.1)=sortL lessC [] (diffC Y a b):=by
 refine Zt.sortL_unique (Zt.diffC_keys ha hb) ?_ ?_
 ·rw [← hl];exact (hp.map _).symm
 ·refine List.pairwise_map.2 (hs.imp fun {x y} h h2=>h ?_)
  unfold cfD
  rw [if_pos h2]
  decide
set_option maxRecDepth 100000 in
set_option maxHeartbeats 16000000 in
theorem diff_calls (w:World) (hG:GL w) (A0:Option Addr) (c0:Nat) (l0:List S32) (hr0:Kd.C k32 w A0 l0.length l0) (hc0:l0.length≤c0) (hf0:rowFits' l0)
  (A1:Option Addr) (c1:Nat) (l1:List S32) (hr1:Kd.C k32 w A1 l1.length l1) (hc1:l1.length≤c1) (hf1:rowFits' l1) :
  Calls Tryz.prog 20 #[.slice A0 l0.length c0,.slice A1 l1.length c1] w fun e w'=>∃ v:Value,e=.returned (.tuple #[v,.bool (diffM Y (l0.map enOf) (l1.map enOf)).2]) ∧
   Owr pz13 57 12 w.heap.size w' v (diffM Y (l0.map enOf) (l1.map enOf)).1∧Below w.heap.size w w':=by
 have HR0:=pH hr0
 have HR1:=pH hr1
 have HC0:=pH hc0
 have HC1:=pH hc1
 have HF0:=pH hf0
 have HF1:=pH hf1
 clear hr0 hr1 hc0 hc1 hf0 hf1
 obtain ⟨i0,hi,hz0,hz1,hz2⟩:=info_parts info_ch
 have HI0:=pH hi
 have HZ0:=pH hz0
 have HZ1:=pH hz1
 have HZ2:=pH hz2
 clear hi hz0 hz1 hz2
 obtain ⟨res,hres⟩:∃ res,res=diffM Y (l0.map enOf) (l1.map enOf):=⟨_,rfl⟩
 have HRES:=pH hres
 rw [← hres]
 clear hres
 have h49:=Tryz.underlying32
 have h31:=Tryz.underlying28
 go_enter Tryz.func20,Tryz.ntmps20
 go_wp2_with fail
 refine (tright_calls w hG A0 c0 l0 HR0.out HC0.out HF0.out.1 HF0.out.2).mono ?_
 rintro e w1 ⟨rfl,hb1⟩
 have HB1:=pH hb1
 clear hb1
 cases ht0:rightT Y (l0.map enOf) with
 | false =>
  have HE:Hid (res=([],false)):=pH (by rw [HRES.out];unfold diffM;rw [ht0];rfl)
  go_wp2_with fail
  all_goals
   go_ret2
   exact ⟨_,by rw [HE.out];rfl,by rw [HE.out];exact Owr.nil _ _ _ _ _,HB1.out⟩
 | true =>
 go_wp2_with fail
 refine (tright_calls w1 (hG.ext HB1.out) A1 c1 l1 (Kd.C_below HR1.out HB1.out) HC1.out HF1.out.1 HF1.out.2).mono ?_
 rintro e w2 ⟨rfl,hb2⟩
 have HB2:=pH (pbt HB1.out hb2)
 clear hb2 HB1
 cases ht1:rightT Y (l1.map enOf) with
 | false =>
  have HE:Hid (res=([],false)):=pH (by rw [HRES.out];unfold diffM;rw [ht0,ht1];rfl)
  go_wp2_with fail
  all_goals
   go_ret2
   exact ⟨_,by rw [HE.out];rfl,by rw [HE.out];exact Owr.nil _ _ _ _ _,HB2.out⟩
 | true =>
 have HT0:=pH ((Zt.pz39 Y).1 ht0)
 have HT1:=pH ((Zt.pz39 Y).1 ht1)
 have HE:Hid (res=(sortL lessC [] (diffC Y (l0.map enOf) (l1.map enOf)),true)):=pH (by rw [HRES.out];unfold diffM;rw [ht0,ht1];rfl)
 clear ht0 ht1 HRES
 go_wp2_with fail
 refine (index_calls w2 A0 c0 l0 (Kd.C_below HR0.out HB2.out) (Zt.srt_ne HT0.out.srt) HF0.out.1 HF0.out.2).mono ?_
 rintro e w3 ⟨ba,rfl,_,hma,hb3⟩
 have HMA:=pH hma
 have HB3:=pH (pbt HB2.out hb3)
 clear hma hb3 HB2
 go_wp2_with fail
 refine (index_calls w3 A1 c1 l1 (Kd.C_below HR1.out HB3.out) (Zt.srt_ne HT1.out.srt) HF1.out.1 HF1.out.2).mono ?_
 rintro e w4 ⟨bb,rfl,_,hmb,hb4⟩
 have HMB:=pH hmb
 have HMA4:=pH (HMA.out.ext hb4)
 have HB4:=pH (pbt HB3.out hb4)
 have HK0:=pH (Kd.C_below HR0.out HB4.out)
 have HK1:=pH (Kd.C_below HR1.out HB4.out)
 clear hmb hb4 HB3 HMA HR0 HR1
 have hl0:=HF0.out.2
 have hl1:=HF1.out.2
 go_wp2_with fail
 go_loopg [8,34] (l0.length + 1) (fun gq v8 v34 wr=>∃ i:Nat,v34=.int .i64 i∧l0.length<gq + i∧Hid (i≤l0.length)∧Hid (Owr pz13 57 12 w4.heap.size wr v8 (dA (l1.map enOf) ((l0.map enOf).take i)))∧Hid (Below w4.heap.size w4 wr))
 case atStart=>exact ⟨0,rfl,by omega,pH (by omega),pH (by rw [List.take_zero];exact Owr.nil _ _ _ _ _),pH (Below.refl _ _)⟩
 case round =>
  obtain ⟨i,rfl,hgi,HI,HO,HB⟩:=hrel
  by_cases hi:i<l0.length
  ·cases gk with
   | zero=>omega
   | succ g1 =>
    obtain ⟨ad,rfl,hat⟩:=e_at HK0.out i hi
    have HAT:=pH (hat.below HB.out)
    clear hat
    have HEF:=pH (fits_get HF0.out.1 (List.mem_map_of_mem (f:=enOf) (List.getElem_mem hi)))
    have hst:=dA_step (l1.map enOf) (l0.map enOf) i (by simpa using hi)
    have hdl:=dA_len (l1.map enOf) ((l0.map enOf).take i)
    rw [List.length_take,List.length_map] at hdl
    rw [List.getElem_map] at hst
    obtain ⟨e,hee⟩:∃ e,e=enOf l0[i]:=⟨_,rfl⟩
    rw [← hee] at HAT HEF hst
    obtain ⟨rw0,hrw0⟩:∃ r,r=dA (l1.map enOf) ((l0.map enOf).take i):=⟨_,rfl⟩
    rw [← hrw0] at HO hst hdl
    have HST:=pH hst
    have HDL:Hid (rw0.length≤1000000):=pH (by omega)
    have HII:Hid (i + 1≤l0.length):=pH hi
    clear hst hee hrw0 hdl
    obtain ⟨fb,hfb⟩:∃ f,f=getL (l1.map enOf):=⟨_,rfl⟩
    have HGB:Hid (goesB (l1.map enOf) e=(!(fb e.1).isSome && ((parM e.1).isEmpty || ((fb (parM e.1)).isSome && ((fb (parM e.1)).getD zeroN).kind == 1)))):=pH (by
     rw [hfb];unfold goesB folderL
     have h1:decide (parM e.1=PS.root)=(parM e.1).isEmpty:=by show decide (parM e.1=[])=_;cases parM e.1 <;> rfl
     rw [h1]
     cases getL (l1.map enOf) e.1 <;> cases getL (l1.map enOf) (parM e.1) <;> simp [Y]
     rfl)
    have HM:=pH (HMB.out.ext HB.out)
    rw [← hfb] at HM
    clear hfb
    go_wp2_with (first|((with_reducible refine pz10 (N:=37) rfl ?_);refine pz12 rfl 32 _ rfl _ rfl (eCells e) _ HAT.out h49 rfl rfl ?_)|((with_reducible refine pz10 (N:=10) rfl ?_);refine pz24 rfl (N:=10) rfl (cs:=enZero) (t:=32) ?hr ?_;(case hr=>first|(go_simp;done)|(go_simp;rfl));intro g10 hg w5 hb2 hbl2;have HGE_g10:Hid (wr.heap.size≤g10):=pH (by rw [hg];exact Nat.le_refl _);have HB_g10:=pH hb2;have HBL_g10:=pH hbl2;clear hg hb2 hbl2)|((with_reducible refine pz28 (t:=32) (p:=10) rfl ?_);refine pz22 rfl rfl 32 _ _ rfl g10 (eCells e).toArray rfl rfl 32 enZero HB_g10.out rfl rfl (eCells_all _) ?_;intro w6 hb3 hg3;have HC_g10:=pH hb3;have HBW_g10:Hid (Below wr.heap.size wr w6):=pH (HBL_g10.out.grown hg3 HBL_g10.out.size (fun j hj=>by cases hj;exact HGE_g10.out));clear hb3 hg3 HB_g10 HBL_g10 HGE_g10;have q0:=(pz26 HC_g10.out) 0 _ rfl;simp only [Addr.add_mid,Nat.zero_add] at q0))
    refine (par_c w6 e.1 HEF.out.1).mono ?_
    rintro x w7 ⟨rfl,hb7⟩
    have HBW7:Hid (Below wr.heap.size wr w7):=pH (pbt HBW_g10.out hb7)
    have HE7:=pH (pz11 HC_g10.out hb7)
    clear hb7 q0
    have hlk:=(HM.out.ext HBW7.out).lookT Tryz.underlying72 (s:=parM e.1) (by have:=(part_len e.1).1;have:=HEF.out.1;omega)
    obtain ⟨v1,hv1⟩:∃ v,v=(fb (parM e.1)).getD zeroN:=⟨_,rfl⟩
    obtain ⟨i1,hi1⟩:∃ v,v=(fb (parM e.1)).isSome:=⟨_,rfl⟩
    obtain ⟨v2,hv2⟩:∃ v,v=(fb e.1).getD zeroN:=⟨_,rfl⟩
    obtain ⟨i2,hi2⟩:∃ v,v=(fb e.1).isSome:=⟨_,rfl⟩
    rw [← hv1,← hi1] at hlk HGB
    rw [← hi2] at HGB
    have HV2:=pH hv2
    have HI2:=pH hi2
    clear hv1 hi1 hv2 hi2
    go_upto_region 10 with (first|((with_reducible refine pz10 (N:=12) rfl ?_);refine pz24 rfl (N:=12) rfl (cs:=ndZero) (t:=28) ?hr ?_;(case hr=>first|(go_simp;done)|(go_simp;rfl));intro g12 hg w8 hb2 hbl2;have HGE_g12:Hid (w7.heap.size≤g12):=pH (by rw [hg];exact Nat.le_refl _);have HB_g12:=pH hb2;have HBL_g12:=pH hbl2;clear hg hb2 hbl2)|((with_reducible refine pz28 (t:=28) (p:=12) rfl ?_);refine pz22 rfl rfl 28 _ _ rfl g12 (pz18 v1).toArray rfl rfl 28 ndZero HB_g12.out rfl rfl (ndCells_all _) ?_;intro w9 hb3 hg3;have HC_g12:=pH hb3;have HBW_g12:Hid (Below w7.heap.size w7 w9):=pH (HBL_g12.out.grown hg3 HBL_g12.out.size (fun j hj=>by cases hj;exact HGE_g12.out));clear hb3 hg3 HB_g12 HBL_g12 HGE_g12))
    clear hlk
    have HBW9:Hid (Below wr.heap.size wr w9):=pH (pbt HBW7.out HBW_g12.out)
    have HE9:=pH (pz11 HE7.out HBW_g12.out)
    have q9:=(pz26 HE9.out) 0 _ rfl
    simp only [Addr.add_mid,Nat.zero_add] at q9
    have hlk:=(HM.out.ext HBW9.out).lookT Tryz.underlying72 (s:=e.1) (by have:=HEF.out.1;omega)
    rw [← HV2.out,← HI2.out] at hlk
    go_upto_region 11 with (first|((with_reducible refine pz10 (N:=14) rfl ?_);refine pz24 rfl (N:=14) rfl (cs:=ndZero) (t:=28) ?hr ?_;(case hr=>first|(go_simp;done)|(go_simp;rfl));intro g14 hg w10 hb2 hbl2;have HGE_g14:Hid (w9.heap.size≤g14):=pH (by rw [hg];exact Nat.le_refl _);have HB_g14:=pH hb2;have HBL_g14:=pH hbl2;clear hg hb2 hbl2)|((with_reducible refine pz28 (t:=28) (p:=14) rfl ?_);refine pz22 rfl rfl 28 _ _ rfl g14 (pz18 v2).toArray rfl rfl 28 ndZero HB_g14.out rfl rfl (ndCells_all _) ?_;intro w11 hb3 hg3;have HC_g14:=pH hb3;have HBW_g14:Hid (Below w9.heap.size w9 w11):=pH (HBL_g14.out.grown hg3 HBL_g14.out.size (fun j hj=>by cases hj;exact HGE_g14.out));clear hb3 hg3 HB_g14 HBL_g14 HGE_g14))
    clear hlk q9
    have HBW11:Hid (Below wr.heap.size wr w11):=pH (pbt HBW9.out HBW_g14.out)
    have HE11:=pH (pz11 HE9.out HBW_g14.out)
    have HV11:=pH (pz11 HC_g12.out HBW_g14.out)
    have q11:=(pz26 HV11.out) 0 _ rfl
    have qe:=(pz26 HE11.out) 0 _ rfl
    simp only [Addr.add_mid,Nat.zero_add] at q11 qe
    have HOW:=pH (HO.out.ext HBW11.out)
    have HBB:Hid (Below w4.heap.size w4 w11):=pH (pbt HB.out HBW11.out)
    clear HC_g12 HC_g14 HC_g10 HBW_g12 HBW_g14 HBW_g10 HE7 HE9 HBW7 HBW9 HV11 HV2 HI2 HAT HM HO HB
    generalize hcnd:goesB (l1.map enOf) e=cnd at HST HGB
    clear hcnd
    go_cut [67] (fun v wc=>v=.bool cnd∧wc=w11)
    case first =>
     cases i2 with
     | true =>
      go_wp2_with fail
      go_meet
      exact ⟨by rw [HGB.out];rfl,rfl⟩
     | false =>
      cases hpe:(parM e.1).isEmpty with
      | true =>
       have hp0:parM e.1=[]:=by simpa using hpe
       go_wp2_with fail
       go_meet
       exact ⟨by rw [HGB.out,hp0];rfl,rfl⟩
      | false =>
       cases i1 with
       | false =>
        go_wp2_with fail
        go_meet
        exact ⟨by rw [HGB.out,hpe];rfl,rfl⟩
       | true =>
        go_wp2_with fail
        go_meet
        exact ⟨by rw [HGB.out,hpe];simp,rfl⟩
    case rest =>
    obtain ⟨rfl,rfl⟩:=hcut
    cases cnd with
    | false =>
     go_wp2_with fail
     go_roundg g1
     case measure=>omega
     case rel=>exact ⟨i + 1,by go_num,by omega,HII,pH (by rw [HST.out];simpa using HOW.out),HBB⟩
    | true =>
     have HO:=HOW
     have hlen:=HDL.out
     go_wp2_with (first|((with_reducible refine pz10 (N:=71) rfl ?_);refine build_event rfl (N:=71) rfl 57 _ rfl (pz13 ⟨e.1,1,zeroN⟩).toArray (by kernel_rfl) ?_;go_frame)|((with_reducible refine pz10 (N:=72) rfl ?_);refine pz34 rfl (N:=72) rfl (cs:=(pz13 ⟨e.1,1,zeroN⟩).toArray) (t:=57) (n:=1) (by kernel_rfl) ?_;intro gr hg wq hb hbl;have HBR:=pH hb;have HBLR:=pH hbl;clear hg hb hbl;go_frame)|(at_builtin;refine pz33 rfl _ _ 35 rfl w4.heap.size 57 12 128 i0 (.agg chZero) Tryz.underlying35 HI0.out HZ0.out HZ1.out HZ2.out rfl (by decide) chC_len chC_one _ rw0 rfl (HO.out.ext HBLR.out) ⟨e.1,1,zeroN⟩ gr 1 rfl ?c1 ?c2 ?c3 ?c4 ?_))
     case c1=>intro j u hu;rw [pbc HBR.out j];simpa using hu
     case c2=>have:=HDL.out;unfold maxLen;omega
     case c3=>have:=HDL.out;omega
     case c4=>exact Nat.le_trans HBB.out.size HBLR.out.size
     intro v' w12 ho' hg'
     have HO7:Hid (Owr pz13 57 12 w4.heap.size w12 v' (dA (l1.map enOf) ((l0.map enOf).take (i + 1)))):=pH (by rw [HST.out];exact ho')
     have HB7:Hid (Below w4.heap.size w4 w12):=pH ((pbt HBB.out HBLR.out).grown hg' (Nat.le_trans HBB.out.size HBLR.out.size) (fun j hj=>(World.ownsRow.lt HO.out j hj).1))
     clear ho' hg'
     go_wp2_with fail
     go_roundg g1
     case measure=>omega
     case rel=>exact ⟨i + 1,by go_num,by omega,HII,HO7,HB7⟩
  ·have he:i=l0.length:=by have:=HI.out;omega
   subst he
   have ho1:=HO.out
   rw [List.take_of_length_le (by simp)] at ho1
   have HO1:=pH ho1
   clear ho1
   have hdA:=dA_len (l1.map enOf) (l0.map enOf)
   rw [List.length_map] at hdA
   obtain ⟨ra,hra⟩:∃ r,r=dA (l1.map enOf) (l0.map enOf):=⟨_,rfl⟩
   rw [← hra] at HO1 hdA
   have HRA:=pH hra
   have HDA:Hid (ra.length≤1000000):=pH (by omega)
   clear hra hdA HO HI hgi hi
   go_wp2_with fail
   go_loopg [8,77] (l1.length + 1) (fun gq v8 v77 wr=>∃ i:Nat,v77=.int .i64 i∧l1.length<gq + i∧Hid (i≤l1.length)∧Hid (Owr pz13 57 12 w4.heap.size wr v8 (ra ++ dB (l0.map enOf) ((l1.map enOf).take i)))∧Hid (Below w4.heap.size w4 wr))
   case atStart=>exact ⟨0,rfl,by omega,pH (by omega),pH (by rw [List.take_zero];show Owr _ _ _ _ _ _ (ra ++ []);rw [List.append_nil];exact HO1.out),HB⟩
   case round =>
    clear HO1 HB
    obtain ⟨i,rfl,hgi,HI,HO,HB⟩:=hrel
    by_cases hi:i<l1.length
    ·cases gk with
     | zero=>omega
     | succ g1 =>
      obtain ⟨ad,rfl,hat⟩:=e_at HK1.out i hi
      have HAT:=pH (hat.below HB.out)
      clear hat
      have HEF:=pH (fits_get HF1.out.1 (List.mem_map_of_mem (f:=enOf) (List.getElem_mem hi)))
      have hst:=dB_step (l0.map enOf) (l1.map enOf) i (by simpa using hi)
      have hdl:=dB_len (l0.map enOf) ((l1.map enOf).take i)
      rw [List.length_take,List.length_map] at hdl
      rw [List.getElem_map] at hst
      obtain ⟨e,hee⟩:∃ e,e=enOf l1[i]:=⟨_,rfl⟩
      rw [← hee] at HAT HEF hst
      obtain ⟨rw0,hrw0⟩:∃ r,r=ra ++ dB (l0.map enOf) ((l1.map enOf).take i):=⟨_,rfl⟩
      have hst2:ra ++ dB (l0.map enOf) ((l1.map enOf).take (i + 1))=rw0 ++ (if setB (l0.map enOf) e=true then [⟨e.1,0,e.2⟩] else []):=by rw [hst,hrw0,List.append_assoc]
      rw [← hrw0] at HO
      have HST:=pH hst2
      have HDL:Hid (rw0.length≤2000000):=pH (by rw [hrw0,List.length_append];have:=HDA.out;omega)
      have HII:Hid (i + 1≤l1.length):=pH hi
      clear hst hst2 hee hrw0 hdl
      obtain ⟨fa,hfa⟩:∃ f,f=getL (l0.map enOf):=⟨_,rfl⟩
      have HSB:Hid (setB (l0.map enOf) e=(!(fa e.1).isSome || !decide ((fa e.1).getD zeroN=e.2))):=pH (by
       rw [hfa];unfold setB
       cases getL (l0.map enOf) e.1 <;> simp)
      have HM:=pH (HMA4.out.ext HB.out)
      rw [← hfa] at HM
      clear hfa
      go_upto_region 17 with (first|((with_reducible refine pz10 (N:=80) rfl ?_);refine pz12 rfl 32 _ rfl _ rfl (eCells e) _ HAT.out h49 rfl rfl ?_)|((with_reducible refine pz10 (N:=17) rfl ?_);refine pz24 rfl (N:=17) rfl (cs:=enZero) (t:=32) ?hr ?_;(case hr=>first|(go_simp;done)|(go_simp;rfl));intro g17 hg w5 hb2 hbl2;have HGE_g17:Hid (wr.heap.size≤g17):=pH (by rw [hg];exact Nat.le_refl _);have HB_g17:=pH hb2;have HBL_g17:=pH hbl2;clear hg hb2 hbl2)|((with_reducible refine pz28 (t:=32) (p:=17) rfl ?_);refine pz22 rfl rfl 32 _ _ rfl g17 (eCells e).toArray rfl rfl 32 enZero HB_g17.out rfl rfl (eCells_all _) ?_;intro w6 hb3 hg3;have HC_g17:=pH hb3;have HBW_g17:Hid (Below wr.heap.size wr w6):=pH (HBL_g17.out.grown hg3 HBL_g17.out.size (fun j hj=>by cases hj;exact HGE_g17.out));clear hb3 hg3 HB_g17 HBL_g17 HGE_g17;have q0:=(pz26 HC_g17.out) 0 _ rfl;simp only [Addr.add_mid,Nat.zero_add] at q0))
      have hlk:=(HM.out.ext HBW_g17.out).lookT Tryz.underlying72 (s:=e.1) (by have:=HEF.out.1;omega)
      obtain ⟨v1,hv1⟩:∃ v,v=(fa e.1).getD zeroN:=⟨_,rfl⟩
      obtain ⟨i1,hi1⟩:∃ v,v=(fa e.1).isSome:=⟨_,rfl⟩
      rw [← hv1,← hi1] at hlk HSB
      clear hv1 hi1
      go_upto_region 18 with (first|((with_reducible refine pz10 (N:=18) rfl ?_);refine pz24 rfl (N:=18) rfl (cs:=ndZero) (t:=28) ?hr ?_;(case hr=>first|(go_simp;done)|(go_simp;rfl));intro g18 hg w7 hb2 hbl2;have HGE_g18:Hid (w6.heap.size≤g18):=pH (by rw [hg];exact Nat.le_refl _);have HB_g18:=pH hb2;have HBL_g18:=pH hbl2;clear hg hb2 hbl2)|((with_reducible refine pz28 (t:=28) (p:=18) rfl ?_);refine pz22 rfl rfl 28 _ _ rfl g18 (pz18 v1).toArray rfl rfl 28 ndZero HB_g18.out rfl rfl (ndCells_all _) ?_;intro w8 hb3 hg3;have HC_g18:=pH hb3;have HBW_g18:Hid (Below w6.heap.size w6 w8):=pH (HBL_g18.out.grown hg3 HBL_g18.out.size (fun j hj=>by cases hj;exact HGE_g18.out));clear hb3 hg3 HB_g18 HBL_g18 HGE_g18))
      clear hlk q0
      have HBW8:Hid (Below wr.heap.size wr w8):=pH (pbt HBW_g17.out HBW_g18.out)
      have HE8:=pH (pz11 HC_g17.out HBW_g18.out)
      have HEN:Hid (LiesAt w8 ⟨g17,1,none⟩ (pz18 e.2)):=pH (fun j v hv=>by
       have:=(pz26 HE8.out) (1 + j) v (by rw [Nat.add_comm];exact hv)
       rw [Addr.add_mid,Nat.zero_add] at this
       rw [Addr.add_mid];exact this)
      have HVN:=pH (pz26 HC_g18.out)
      have qe:=(pz26 HE8.out) 0 _ rfl
      simp only [Addr.add_mid,Nat.zero_add] at qe
      have HOW:=pH (HO.out.ext HBW8.out)
      have HBB:Hid (Below w4.heap.size w4 w8):=pH (pbt HB.out HBW8.out)
      clear HC_g17 HC_g18 HBW_g17 HBW_g18 HBW8 HAT HM HO HB HE8
      generalize hcnd:setB (l0.map enOf) e=cnd at HST HSB
      clear hcnd
      go_cut [95] (fun v wc=>v=.bool cnd∧wc=w8)
      case first =>
       cases i1 with
       | false =>
        go_wp2_with fail
        go_meet
        exact ⟨by rw [HSB.out];rfl,rfl⟩
       | true =>
        go_wp2_with (first|((with_reducible refine pz10 (N:=91) rfl ?_);refine pz12 rfl 28 _ rfl _ rfl (pz18 v1) _ HVN.out h31 rfl rfl ?_;go_frame)|((with_reducible refine pz10 (N:=93) rfl ?_);refine pz12 rfl 28 _ rfl _ rfl (pz18 e.2) _ HEN.out h31 rfl rfl ?_;go_frame))
        go_meet
        exact ⟨by rw [HSB.out];rfl,rfl⟩
      case rest =>
      obtain ⟨rfl,rfl⟩:=hcut
      cases cnd with
      | false =>
       go_wp2_with fail
       go_roundg g1
       case measure=>omega
       case rel=>exact ⟨i + 1,by go_num,by omega,HII,pH (by rw [HST.out];simpa using HOW.out),HBB⟩
      | true =>
       have HO:=HOW
       have hlen:=HDL.out
       go_wp2_with (first|((with_reducible refine pz10 (N:=100) rfl ?_);refine pz12 rfl 28 _ rfl _ rfl (pz18 e.2) _ HEN.out h31 rfl rfl ?_)|((with_reducible refine pz10 (N:=101) rfl ?_);refine build_event rfl (N:=101) rfl 57 _ rfl (pz13 ⟨e.1,0,e.2⟩).toArray (by kernel_rfl) ?_;go_frame)|((with_reducible refine pz10 (N:=102) rfl ?_);refine pz34 rfl (N:=102) rfl (cs:=(pz13 ⟨e.1,0,e.2⟩).toArray) (t:=57) (n:=1) (by kernel_rfl) ?_;intro gr hg wq hb hbl;have HBR:=pH hb;have HBLR:=pH hbl;clear hg hb hbl;go_frame)|(at_builtin;refine pz33 rfl _ _ 35 rfl w4.heap.size 57 12 128 i0 (.agg chZero) Tryz.underlying35 HI0.out HZ0.out HZ1.out HZ2.out rfl (by decide) chC_len chC_one _ rw0 rfl (HO.out.ext HBLR.out) ⟨e.1,0,e.2⟩ gr 1 rfl ?c1 ?c2 ?c3 ?c4 ?_))
       case c1=>intro j u hu;rw [pbc HBR.out j];simpa using hu
       case c2=>have:=HDL.out;unfold maxLen;omega
       case c3=>have:=HDL.out;omega
       case c4=>exact Nat.le_trans HBB.out.size HBLR.out.size
       intro v' w12 ho' hg'
       have HO7:Hid (Owr pz13 57 12 w4.heap.size w12 v' (ra ++ dB (l0.map enOf) ((l1.map enOf).take (i + 1)))):=pH (by rw [HST.out];exact ho')
       have HB7:Hid (Below w4.heap.size w4 w12):=pH ((pbt HBB.out HBLR.out).grown hg' (Nat.le_trans HBB.out.size HBLR.out.size) (fun j hj=>(World.ownsRow.lt HO.out j hj).1))
       clear ho' hg'
       go_wp2_with fail
       go_roundg g1
       case measure=>omega
       case rel=>exact ⟨i + 1,by go_num,by omega,HII,HO7,HB7⟩
    ·have he:i=l1.length:=by have:=HI.out;omega
     subst he
     have ho1:=HO.out
     rw [List.take_of_length_le (by simp),HRA.out,← diffC_parts] at ho1
     have HO1:=pH ho1
     clear ho1
     obtain ⟨lc,hlc⟩:∃ lc:List ShC,lc.map (·.1)=diffC Y (l0.map enOf) (l1.map enOf):=⟨(diffC Y (l0.map enOf) (l1.map enOf)).pmap (fun x h=>⟨x,h⟩) (diffC_short HF0.out.1 HF1.out.1),by rw [List.map_pmap];simp⟩
     have hll:lc.length≤2000000:=by
      have h1:lc.length=(diffC Y (l0.map enOf) (l1.map enOf)).length:=by rw [← hlc,List.length_map]
      have h2:=dA_len (l1.map enOf) (l0.map enOf)
      have h3:=dB_len (l0.map enOf) (l1.map enOf)
      rw [diffC_parts,List.length_append] at h1
      rw [List.length_map] at h2 h3
      omega
     have HSRT:=pH (sortC_calls 44 cfD swo_D (fun args w=>enters_ Tryz.func44 (by kernel_rfl) rfl args w) wr w4 HB.out (fun w1 hb x y=>cmpD_calls w1 (hG.ext (pbt HB4.out hb)) x y) _ lc (by rw [hlc];exact HO1.out) (by omega))
     have HLC:=pH hlc
     clear HO HI hgi hi hlc hll
     go_wp2_with fail
     refine HSRT.out.mono ?_
     rintro e w13 ⟨rfl,l',hp,hs,ho,hb⟩
     have hso:=sort_diff HT0.out HT1.out HLC.out hp (hs.imp fun h=>Int.not_lt.2 h)
     rw [hso] at ho
     have HOF:=pH ho
     have HBF:=pH (pbt HB4.out hb)
     clear hp hs ho hb hso
     go_wp2_with fail
     go_ret2
     exact ⟨_,by rw [HE.out];rfl,by rw [HE.out];exact own_chweaken HOF.out HB4.out.size,HBF.out⟩
end Go.Proofs.Zq
end
section
namespace Go.Proofs.Zq
open Go.RowKit Go.WideMaps Go.Maps Go.Proofs.YtjghikkboekonaaGreatDoor Go.Proofs.Zw.PrintWords Go.Proofs.Zw.PrintLast Go.Proofs.Zw.PrintMore
attribute [local go_sem high] eqEg

end Go.Proofs.Zq
end
section
namespace Go.Proofs.Zq
open Go.RowKit Go.WideMaps Go.Maps Go.Proofs.YtjghikkboekonaaGreatDoor Go.Proofs.Zw.PrintWords Go.Proofs.Zw.PrintLast Go.Proofs.Zw.PrintMore
open Go.Proofs.Zt (applyM ontoGo ontoM treesGo Ch)
theorem s18_back (l:List (List (Ch Str Nd))):(l.map (List.map ofCh)).map (List.map chOf)=l:=by
 rw [List.map_map]
 exact (List.map_congr_left (fun x _=>chs_back x)).trans (List.map_id _)
theorem chs_C {w:World} {g:Nat} {l:List (Ch Str Nd)} (h:w.heap[g]?=some (.cells (flat pz13 l).toArray 57 (0,0))) (hl:l.length≤1000000):Kd.C k57 w (some ⟨g,0,none⟩) (l.map ofCh).length (l.map ofCh) :=
 ch_C (by rw [chs_back];exact row_of_block chCells_len (by unfold maxLen;omega) h) (by rw [List.length_map];omega)
section
variable {P:Program} {ops:Array Oper} {Q:Exit→Act→World→Prop}
end
end Go.Proofs.Zq
end
section
namespace Go.Proofs.Zq
open Go.RowKit Go.Proofs.Zw.PrintWords Go.Proofs.Zw.PrintLast Go.Proofs.Zw.PrintMore
open Go.Proofs.YtjghikkboekonaaGreatDoor (GL)
attribute [local go_sem] max2_int min2_int max_two min_two pz35 pz36 max_four min_four
theorem eqA57 (d:Nat) (w:World) (x0 y0:ByteArray) (x1 y1:Int) (x2 y2:Int) (x3 y3:Int) (x4 y4:Int) (x5 y5:Int) (x6 y6:Int) (x7 y7:ByteArray) (x8 y8:ByteArray) (x9 y9:Int) (x10 y10:Int) (x11 y11:ByteArray) :
  (Op.equalIn (d + 3) 57 (.agg #[.string x0,.int .i64 x1,.int .i64 x2,.int .i64 x3,.int .i64 x4,.int .i64 x5,.int .i64 x6,.string x7,.string x8,.int .i64 x9,.int .i64 x10,.string x11]) (.agg #[.string y0,.int .i64 y1,.int .i64 y2,.int .i64 y3,.int .i64 y4,.int .i64 y5,.int .i64 y6,.string y7,.string y8,.int .i64 y9,.int .i64 y10,.string y11])).run Tryz.prog w=.ok (x0.toList == y0.toList && (x1 == y1 && ((x2 == y2 && (x3 == y3 && (x4 == y4 && (x5 == y5 && (x6 == y6 && (x7.toList == y7.toList && (x8.toList == y8.toList && (x9 == y9 && (x10 == y10 && (x11.toList == y11.toList))))))))))))) w:=by
 refine eqA_of Tryz.underlying57 (by kernel_rfl) ?_
 refine eqf_cons (by rfl) (by go_simp;rfl) (by go_simp;rfl) (by go_simp) ?_
 refine eqf_cons (by rfl) (by go_simp;rfl) (by go_simp;rfl) (by go_simp) ?_
 exact eqf_last (by rfl) (by go_simp) (by go_simp) (eqA28 (d + 0) w _ _ _ _ _ _ _ _ _ _ _ _ _ _ _ _ _ _ _ _)
end Go.Proofs.Zq
end
section
namespace Go.Proofs.Zq
open Go.RowKit Go.WideMaps Go.Maps Go.Proofs.YtjghikkboekonaaGreatDoor Go.Proofs.Zw.PrintWords Go.Proofs.Zw.PrintLast Go.Proofs.Zw.PrintMore
open Go.Proofs.Zt (diffM bothM Ch)
theorem eqCg (d:Nat) (w:World) (a b:Ch Str Nd):(Op.equalIn (d + 3) 57 (.agg (pz13 a).toArray) (.agg (pz13 b).toArray)).run Tryz.prog w=.ok (decide (a=b)) w:=by
 obtain ⟨p,o,n⟩:=a
 obtain ⟨q,u,m⟩:=b
 have h:=eqA57 d w (B p) (B q) o u n.kind m.kind n.mode m.mode n.uid m.uid n.gid m.gid n.mtime m.mtime (B n.link) (B m.link) (B n.data) (B m.data) n.major m.major n.minor m.minor (B n.attrs) (B m.attrs)
 have e:decide ((⟨p,o,n⟩:Ch Str Nd)=⟨q,u,m⟩)=(p == q && (o == u && decide (n=m))):=by rw [Bool.eq_iff_iff];simp
 rw [e,← nd_eq]
 simp only [toList_B] at h ⊢
 exact h
attribute [local go_sem high] eqCg
def c19:List (Str×Nd):=[([97],zeroN)]
theorem own_spot {α:Type} {enc:α→List Value} {T k base:Nat} {w:World} {v:Value} {l:List α} (h:Owr enc T k base w v l) (n:Nat) (hn:l.length=n) (hl:0<n):∃ g c,v=.slice (some ⟨g,0,none⟩) n c∧n≤c∧∀ i u,(flat enc l)[i]?=some u→w.cell? ⟨g,i,none⟩=some u:=by
 subst hn
 have hh:=h
 rcases h.2 with ⟨_,h0⟩|⟨g,cap,cur,hv,_,_,h1,_⟩
 ·omega
 ·subst hv
  exact ⟨g,cap,rfl,h1,fun i u hu=>by have q:=World.ownsRow.cells hh rfl i u hu;rw [Addr.add_mid,Nat.zero_add] at q;exact q⟩
end Go.Proofs.Zq
end
section
namespace Go.Proofs.Zq
open Go.RowKit Go.Proofs.YtjghikkboekonaaGreatDoor Go.Proofs.Zw.PrintWords Go.Proofs.Zw.PrintLast Go.Proofs.Zw.PrintMore
open Go.Proofs.Zt (applyM diffM diffC sortL lessC RightT RightL rightT rightC Ch)
theorem own_chC {W:World} {nb:Nat} {v:Value} {l:List (Ch Str Nd)} (h:Owr pz13 57 12 nb W v l) (hl:l.length≤1000000):∃ A c,v=.slice A (l.map ofCh).length c∧(l.map ofCh).length≤c∧Kd.C k57 W A (l.map ofCh).length (l.map ofCh):=by
 obtain ⟨A,c,rfl,_,hc⟩:=Owr.val h
 exact ⟨A,c,by rw [List.length_map],by rw [List.length_map];exact hc,ch_C (by rw [chs_back];exact h.row chC_len) (by rw [List.length_map];omega)⟩
theorem diff_fits {a b:List (Str×Nd)} (ha:rowFits a=true) (hb:rowFits b=true):lyrFits (diffM Y a b).1=true∧(diffM Y a b).1.length≤1000000:=by
 by_cases h:(rightT Y a && rightT Y b)=true
 ·have e:diffM Y a b=(sortL lessC [] (diffC Y a b),true):=by unfold diffM;rw [if_pos h]
  rw [e]
  rw [Bool.and_eq_true] at h
  have hA:=(Zt.pz39 Y).1 h.1
  have hB:=(Zt.pz39 Y).1 h.2
  refine ⟨List.all_eq_true.2 fun c hc=>?_,?_⟩
  ·have hc':c ∈ diffC Y a b:=by have:=(Zt.sortL_perm lessC [] (diffC Y a b)).mem_iff.1 hc;simpa using this
   rcases (Zt.mem_diffC c).1 hc' with ⟨e,h1,_,_,rfl⟩|⟨e,h1,_,rfl⟩
   ·have:=(fits_get ha h1).1
    simp only [Bool.and_eq_true,decide_eq_true_eq]
    exact ⟨this,by show ndFits zeroN=true;rfl⟩
   ·have:=fits_get hb h1
    simp only [Bool.and_eq_true,decide_eq_true_eq]
    exact this
  ·rw [(Zt.sortL_perm lessC [] (diffC Y a b)).length_eq,List.nil_append,diffC_parts,List.length_append]
   have h1:=dA_len b a
   have h2:=dB_len a b
   have:=hA.len
   have:=hB.len
   omega
 ·have e:diffM Y a b=([],false):=by unfold diffM;rw [if_neg h]
  rw [e]
  exact ⟨rfl,by simp⟩
end Go.Proofs.Zq
end
section
namespace Go.Proofs.Zt
variable {ν:Type} [DecidableEq ν] {Y:Sys ν}
variable (Y) in
def putsDir (c:Ch Str ν):Bool:=decide (c.op=0) && Y.dir c.node
def dropAt (s:List (Lyr ν)) (i k:Nat):List (Lyr ν):=s.modify i fun l=>l.eraseIdx k
omit [DecidableEq ν] in
theorem dropAt_len (s:List (Lyr ν)) (i k:Nat):(dropAt s i k).length=s.length:=by unfold dropAt;simp
inductive Left (Y:Sys ν):Lyr ν→Lyr ν→Prop
 | nil:Left Y [] []
 | keep {c:Ch Str ν} {a b:Lyr ν} (h:Left Y a b):Left Y (c :: a) (c :: b)
 | drop {c:Ch Str ν} {a b:Lyr ν} (hc:putsDir Y c=false) (h:Left Y a b):Left Y a (c :: b)
omit [DecidableEq ν] in
theorem Left.refl (a:Lyr ν):Left Y a a:=by
 induction a with
 | nil=>exact .nil
 | cons c r ih=>exact .keep ih
omit [DecidableEq ν] in
theorem Left.erase {a b:Lyr ν} (h:Left Y a b) {k:Nat} {c:Ch Str ν} (hk:a[k]?=some c) (hc:putsDir Y c=false):Left Y (a.eraseIdx k) b:=by
 induction h generalizing k with
 | nil=>simp at hk
 | keep h ih =>
  cases k with
  | zero=>simp at hk;subst hk;exact .drop hc h
  | succ k=>rw [List.getElem?_cons_succ] at hk;rw [List.eraseIdx_cons_succ];exact .keep (ih hk)
 | drop hd _ ih=>exact .drop hd (ih hk)
def Lefts (Y:Sys ν) (x s:List (Lyr ν)):Prop:=x.length=s.length∧∀ (i:Nat) (a b:Lyr ν),x[i]?=some a→s[i]?=some b→Left Y a b
omit [DecidableEq ν] in
theorem Lefts.drop {x s:List (Lyr ν)} (h:Lefts Y x s) {i k:Nat} {l:Lyr ν} {c:Ch Str ν} (hl:x[i]?=some l) (hk:l[k]?=some c) (hc:putsDir Y c=false):Lefts Y (dropAt x i k) s:=by
 refine ⟨by rw [dropAt_len];exact h.1,fun j a b ha hb=>?_⟩
 unfold dropAt at ha
 rw [List.getElem?_modify] at ha
 by_cases hij:i=j
 ·subst hij
  rw [hl] at ha
  simp only [if_true,Option.map_eq_map,Option.map_some,Option.some.injEq] at ha
  subst ha
  exact (h.2 i l b hl hb).erase hk hc
 ·simp only [hij,if_false,Option.map_eq_map] at ha
  exact h.2 j a b (by simpa using ha) hb
variable (Y) in
def foldsGo (k:Nat):List (List (Lyr ν))→List (Row ν)×Nat×Int
 | []=>([],k,0)
 | s :: r=>if (ontoGo Y 0 [] s).2.2=0 then ((ontoGo Y 0 [] s).1 :: (foldsGo (k + 1) r).1,(foldsGo (k + 1) r).2) else ([],k,(ontoGo Y 0 [] s).2.2)
variable (Y) in
def extractM (ss:List (List (Lyr ν))):Lyr ν×List (Lyr ν)×Nat×Int :=
 if ss=[] then ([],[],0,1)
 else if (foldsGo Y 0 ss).2.2=0 then
  (allPuts (bothM Y (foldsGo Y 0 ss).1),(foldsGo Y 0 ss).1.map fun t=>(diffM Y (bothM Y (foldsGo Y 0 ss).1) t).1,ss.length,0)
 else ([],[],(foldsGo Y 0 ss).2.1,(foldsGo Y 0 ss).2.2)
theorem folds_spec {k:Nat} {ss:List (List (Lyr ν))} (h:(foldsGo Y k ss).2.2=0):(foldsGo Y k ss).1=ss.map (fun s=>(ontoGo Y 0 [] s).1)∧(∀ s ∈ ss,(ontoGo Y 0 [] s).2.2=0)∧∀ t ∈ (foldsGo Y k ss).1,RightT Y t:=by
 induction ss generalizing k with
 | nil=>exact ⟨rfl,by simp,by simp [foldsGo]⟩
 | cons s r ih =>
  unfold foldsGo at h ⊢
  split at h
  ·rename_i hc
   obtain ⟨h1,h2,h3⟩:=ih h
   rw [if_pos hc]
   refine ⟨by simp [h1],fun x hx=>?_,fun t ht=>?_⟩
   ·rcases List.mem_cons.1 hx with rfl|hx
    ·exact hc
    ·exact h2 x hx
   ·rcases List.mem_cons.1 ht with rfl|ht
    ·exact (onto_right right_nil hc).1
    ·exact h3 t ht
  ·rename_i hc
   exact absurd h hc
theorem diff_nothing {t:Row ν} (ht:RightT Y t):diffM Y [] t=(allPuts t,true):=by
 have h:=diff_right right_nil ht
 have e:diffM Y [] t=(sortL lessC [] (diffC Y [] t),true):=by
  unfold diffM
  rw [(pz39 Y).2 right_nil,(pz39 Y).2 ht];rfl
 rw [e]
 have:sortL lessC [] (diffC Y [] t)=allPuts t:=by
  refine h.1.ext (allPuts_right ht) fun c=>?_
  rw [(sortL_perm lessC [] _).mem_iff,List.nil_append,mem_diffC]
  unfold allPuts
  rw [List.mem_map]
  constructor
  ·rintro (⟨e,he,_⟩|⟨e,he,_,rfl⟩)
   ·cases he
   ·exact ⟨e,he,rfl⟩
  ·rintro ⟨e,he,rfl⟩
   exact .inr ⟨e,he,by simp [getL],rfl⟩
 rw [this]
end Go.Proofs.Zt
end
section
namespace Go.Proofs.Zt
variable {ν:Type} [DecidableEq ν] {Y:Sys ν}
theorem common_parts {ss:List (List (Lyr ν))} {base:Lyr ν} {rests:List (Lyr ν)} {n:Nat} (h:extractM Y ss=(base,rests,n,0)) :
  ∃ t r,ss.map (fun s=>(ontoGo Y 0 [] s).1)=t :: r∧(∀ x ∈ t :: r,RightT Y x)∧base=allPuts (bothM Y (t :: r))∧rests=(t :: r).map (fun x=>(diffM Y (bothM Y (t :: r)) x).1)∧n=ss.length:=by
 unfold extractM at h
 split at h
 ·simp at h
 ·rename_i hne
  split at h
  ·rename_i h0
   simp only [Prod.mk.injEq,and_true] at h
   obtain ⟨rfl,rfl,rfl⟩:=h
   obtain ⟨f1,f2,f3⟩:=folds_spec h0
   obtain ⟨t,r,hts⟩:∃ t r,(foldsGo Y 0 ss).1=t :: r:=by
    rw [f1]
    cases ss with
    | nil=>exact absurd rfl hne
    | cons s r=>exact ⟨_,_,rfl⟩
   rw [hts] at f1 f3 ⊢
   exact ⟨t,r,f1.symm,f3,rfl,rfl,rfl⟩
  ·simp only [Prod.mk.injEq] at h
   rename_i hn
   exact absurd h.2.2.2 hn
theorem common_puts {ss:List (List (Lyr ν))} {base:Lyr ν} {rests:List (Lyr ν)} {n:Nat} (h:extractM Y ss=(base,rests,n,0)) :
  RightL Y base∧(∀ c ∈ base,c.op=0)∧∀ l ∈ rests,∀ c ∈ l,c.op=0∧c ∉ base:=by
 obtain ⟨t,r,_,hr,rfl,rfl,_⟩:=common_parts h
 obtain ⟨h1,h2⟩:=both_spec hr
 refine ⟨allPuts_right h1,fun c hc=>?_,fun l hl c hc=>?_⟩
 ·unfold allPuts at hc
  obtain ⟨e,_,rfl⟩:=List.mem_map.1 hc
  rfl
 ·obtain ⟨x,hx,rfl⟩:=List.mem_map.1 hl
  have hall:∀ e ∈ bothM Y (t :: r),getL x e.1=some e.2:=fun e he=>((h2 e.1 e.2).1 (h1.srt.get he)).all (getL x) (List.mem_map_of_mem hx)
  have hd:diffM Y (bothM Y (t :: r)) x=(sortL lessC [] (diffC Y (bothM Y (t :: r)) x),true):=by
   unfold diffM
   rw [(pz39 Y).2 h1,(pz39 Y).2 (hr x hx)];rfl
  rw [hd,(sortL_perm lessC [] _).mem_iff,List.nil_append,mem_diffC] at hc
  rcases hc with ⟨e,he,hn,_⟩|⟨e,he,hn,rfl⟩
  ·rw [hall e he] at hn
   cases hn
  ·refine ⟨rfl,fun hb=>hn ?_⟩
   unfold allPuts at hb
   obtain ⟨e',he',heq⟩:=List.mem_map.1 hb
   have e1:e'.1=e.1:=congrArg Ch.path heq
   have e2:e'.2=e.2:=congrArg Ch.node heq
   rw [← e1,← e2]
   exact h1.srt.get he'
end Go.Proofs.Zt
end
section
namespace Go.Proofs.Zq
open Go.RowKit Go.WideMaps Go.Maps Go.Proofs.YtjghikkboekonaaGreatDoor Go.Proofs.Zw.PrintWords Go.Proofs.Zw.PrintLast Go.Proofs.Zw.PrintMore
open Go.Proofs.Zt (Ch getL applyM ontoM ontoGo rightT RightT bothM diffM extractM foldsGo allPuts)
def foldE (s:List (List S57)):List (Str×Nd)×Nat×Int:=ontoM Y [] (s.map (List.map chOf))
theorem ontoM_nil (S:List (List (Ch Str Nd))):ontoM Y ([]:List (Str×Nd)) S=ontoGo Y 0 [] S:=by
 unfold ontoM
 exact if_pos rfl
theorem folds_upto:∀ (a r:List (List (List (Ch Str Nd)))) (k:Nat),(∀ x ∈ a,(ontoGo Y 0 ([]:List (Str×Nd)) x).2.2=0)→foldsGo Y k (a ++ r)=(a.map (fun x=>(ontoGo Y 0 ([]:List (Str×Nd)) x).1) ++ (foldsGo Y (k + a.length) r).1,(foldsGo Y (k + a.length) r).2)
 | [],r,k,_=>rfl
 | x :: a,r,k,h=>by
  have h0:=h x List.mem_cons_self
  have ih:=folds_upto a r (k + 1) (fun y hy=>h y (List.mem_cons_of_mem _ hy))
  have e:foldsGo Y k (x :: (a ++ r))=((ontoGo Y 0 ([]:List (Str×Nd)) x).1 :: (foldsGo Y (k + 1) (a ++ r)).1,(foldsGo Y (k + 1) (a ++ r)).2):=by
   conv=>lhs;unfold foldsGo
   exact if_pos h0
  rw [List.cons_append,e,ih,show k + 1 + a.length=k + (x :: a).length from by simp;omega]
  rfl
theorem extract_stop {a r:List (List (List (Ch Str Nd)))} {x:List (List (Ch Str Nd))} (h:∀ x ∈ a,(ontoGo Y 0 ([]:List (Str×Nd)) x).2.2=0) (hx:(ontoGo Y 0 ([]:List (Str×Nd)) x).2.2≠0):extractM Y (a ++ x :: r)=([],[],a.length,(ontoGo Y 0 ([]:List (Str×Nd)) x).2.2):=by
 have h1:(foldsGo Y 0 (a ++ x :: r)).2=(a.length,(ontoGo Y 0 ([]:List (Str×Nd)) x).2.2):=by
  rw [folds_upto a (x :: r) 0 h]
  unfold foldsGo
  rw [if_neg hx,Nat.zero_add]
 unfold extractM
 rw [if_neg (by simp),if_neg (by rw [h1];exact hx),h1]
theorem extract_all {ss:List (List (List (Ch Str Nd)))} (h0:ss≠[]) (h:∀ x ∈ ss,(ontoGo Y 0 ([]:List (Str×Nd)) x).2.2=0) :
  extractM Y ss=(allPuts (bothM Y (ss.map fun x=>(ontoGo Y 0 ([]:List (Str×Nd)) x).1)),(ss.map fun x=>(ontoGo Y 0 ([]:List (Str×Nd)) x).1).map (fun t=>(diffM Y (bothM Y (ss.map fun x=>(ontoGo Y 0 ([]:List (Str×Nd)) x).1)) t).1),ss.length,0):=by
 have h1:=folds_upto ss [] 0 h
 rw [List.append_nil] at h1
 have h2:(foldsGo Y 0 ss).1=ss.map fun x=>(ontoGo Y 0 ([]:List (Str×Nd)) x).1:=by rw [h1];exact List.append_nil _
 have h3:(foldsGo Y 0 ss).2.2=0:=by rw [h1];rfl
 unfold extractM
 rw [if_neg h0,if_pos h3,h2]
theorem folds_right {s:List (List (Ch Str Nd))} (h:(ontoGo Y 0 ([]:List (Str×Nd)) s).2.2=0):RightT Y (ontoGo Y 0 ([]:List (Str×Nd)) s).1:=(Zt.onto_right Zt.right_nil h).1
theorem bothx_mem {t:List (Str×Nd)} {r:List (List (Str×Nd))} (h:∀ x ∈ t :: r,RightT Y x) {e:Str×Nd} (he:e ∈ bothM Y (t :: r)):getL t e.1=some e.2:=by
 obtain ⟨h1,h2⟩:=Zt.both_spec h
 exact ((h2 e.1 e.2).1 (h1.srt.get he)).all (getL t) (by simp)
theorem bothx_fits {t:List (Str×Nd)} {r:List (List (Str×Nd))} (h:∀ x ∈ t :: r,RightT Y x) (hf:rowFits t=true):rowFits (bothM Y (t :: r))=true:=by
 unfold rowFits at hf ⊢
 rw [List.all_eq_true] at hf ⊢
 intro e he
 exact hf e (Zt.pz27 (bothx_mem h he))
theorem info_tr:(Tryz.prog.info? 22).map (fun i=>(i.zero,i.size,i.bytes))=some (some (.slice none 0 0),1,24):=by kernel_rfl
theorem info_lr:(Tryz.prog.info? 35).map (fun i=>(i.zero,i.size,i.bytes))=some (some (.slice none 0 0),1,24):=by kernel_rfl
structure StkFits (s:List (List S57)):Prop where
 len:s.length≤1000000
 fits:∀ l ∈ s,lyrFits' l
 keys:∀ l ∈ s.map (List.map chOf),∀ c ∈ l,NdKey c.node
theorem StkFits.tree {s:List (List S57)} (h:StkFits s):rowFits' ((foldE s).1.map ofEn)∧∀ x ∈ (foldE s).1.map ofEn,EnOk (enOf x):=by
 have h1:=ontoM_fits (s.map (List.map chOf)) [] rfl (by simp) (s_fits h.fits)
 have h2:=key_fold (s.map (List.map chOf)) h.keys
 refine ⟨⟨by rw [ens_back];exact h1.1,by rw [List.length_map];exact h1.2⟩,fun x hx=>?_⟩
 obtain ⟨e,he,rfl⟩:=List.mem_map.1 hx
 rw [enOf_ofEn]
 exact key_ok (fits_get h1.1 he).1 (h2 e he)
abbrev TrO (w:World) (base:Nat) (v:Value) (us:List SlW) (ts:List (List (Str×Nd))):Prop:=RowsO eCells 32 11 22 base w v us ts
abbrev LrO (w:World) (base:Nat) (v:Value) (us:List SlW) (ls:List (List (Ch Str Nd))):Prop:=RowsO pz13 57 12 35 base w v us ls
set_option maxRecDepth 100000 in
set_option maxHeartbeats 4000000 in
theorem extract_calls (w:World) (hG:GL w) (A:Option Addr) (c:Nat) (ss:List (List (List S57))) (hS:Kd.C (Kd.slice 35 (Kd.slice 57 k57)) w A ss.length ss) (hn:ss.length≤100) (hf:∀ s ∈ ss,StkFits s) :
  Calls Tryz.prog 33 #[.slice A ss.length c] w fun e w'=>∃ (vb vr:Value) (us:List SlW),e=.returned (.tuple #[vb,vr,.int .i64 ((extractM Y (ss.map (List.map (List.map chOf)))).2.2.1:Int),.int .i64 (extractM Y (ss.map (List.map (List.map chOf)))).2.2.2]) ∧
   Owr pz13 57 12 w.heap.size w' vb (extractM Y (ss.map (List.map (List.map chOf)))).1∧LrO w' w.heap.size vr us (extractM Y (ss.map (List.map (List.map chOf)))).2.1∧Below w.heap.size w w':=by
 have HS:=pH hS
 have HN:=pH hn
 have HF:=pH hf
 obtain ⟨R,hR⟩:∃ R,R=extractM Y (ss.map (List.map (List.map chOf))):=⟨_,rfl⟩
 rw [← hR]
 have HR:=pH hR
 obtain ⟨i0,hi0,hz0,hz1,hz2⟩:=info_parts info_tr
 obtain ⟨j0,hj0,hy0,hy1,hy2⟩:=info_parts info_lr
 have HI:=pH hi0
 have HZ0:=pH hz0
 have HZ1:=pH hz1
 have HZ2:=pH hz2
 have HJ:=pH hj0
 have HY0:=pH hy0
 have HY1:=pH hy1
 have HY2:=pH hy2
 have h67:=Tryz.underlying67
 have h41:=Tryz.underlying41
 clear hS hn hf hR hi0 hz0 hz1 hz2 hj0 hy0 hy1 hy2
 by_cases hs0:ss=[]
 ·subst hs0
  have HE:Hid (R=([],[],0,1)):=pH HR.out
  go_enter Tryz.func33,Tryz.ntmps33
  go_wp2_with fail
  refine bodyPost_ret (v:=.tuple #[.slice none 0 0,.slice none 0 0,.int .i64 0,.int .i64 1]) (by simp [results,Tryz.f33,go_sem]) rfl ?_
  rw [HE.out]
  exact ⟨_,_,[],rfl,Owr.nil _ _ _ _ _,RowsO.nil _,Below.refl _ _⟩
 have hl0:0<ss.length:=List.length_pos_iff.2 hs0
 have HL0:=pH hl0
 have hq0:((ss.length:Int) == 0)=false:=by simp;omega
 go_enter Tryz.func33,Tryz.ntmps33
 go_wp2_with fail
 clear hq0 hl0 hs0
 go_loopg [6,25] (ss.length + 1) (fun gq v u wr=>∃ (i:Nat) (us:List SlW),u=.int .i64 i∧ss.length<gq + i∧Hid (i≤ss.length)∧Hid (∀ s ∈ ss.take i,(foldE s).2.2=0) ∧
  Hid (TrO wr w.heap.size v us ((ss.take i).map fun s=>(foldE s).1))∧Hid (Below w.heap.size w wr))
 case atStart=>exact ⟨0,[],rfl,by omega,pH (by omega),pH (fun s h=>by simp at h),pH (RowsO.nil _),pH (Below.refl _ _)⟩
 case round =>
  obtain ⟨i,us,rfl,hgi,HII0,HOK,HO,HB⟩:=hrel
  by_cases hi:i<ss.length
  ·cases gk with
   | zero=>omega
   | succ g1 =>
    obtain ⟨ad,A1,c1,rfl,hc,hl1,hk1⟩:=rows_at HS.out i hi
    have hm:=HF.out _ (List.getElem_mem hi)
    have cf:=fold_calls wr (hG.ext HB.out) A1 c1 ss[i] (Kd.C_below hk1 HB.out) hm.len hm.fits
    have htk:ss.take (i + 1)=ss.take i ++ [ss[i]]:=List.take_succ_eq_append_getElem hi
    have hst:(foldE ss[i]).2.2≠0→R=([],[],i,(foldE ss[i]).2.2):=fun h=>by
     have e0:ss=ss.take i ++ ss[i] :: ss.drop (i + 1):=(List.take_append_drop i ss).symm.trans (by rw [List.drop_eq_getElem_cons hi])
     have e:=congrArg (List.map (List.map (List.map chOf))) e0
     rw [List.map_append,List.map_cons] at e
     rw [HR.out,e]
     unfold foldE at h ⊢
     rw [ontoM_nil] at h ⊢
     rw [extract_stop (fun x hx=>?_) h,List.length_map,List.length_take,Nat.min_eq_left (by omega)]
     obtain ⟨s,hs,rfl⟩:=List.mem_map.1 hx
     have:=HOK.out s hs
     unfold foldE at this
     rwa [ontoM_nil] at this
    obtain ⟨X,hX⟩:∃ X,X=foldE ss[i]:=⟨_,rfl⟩
    have hX':ontoM Y ([]:List (Str×Nd)) (ss[i].map (List.map chOf))=X:=hX.symm
    rw [hX'] at cf
    rw [← hX] at hst
    have HX:Hid (foldE ss[i]=X):=pH hX.symm
    have CF:=pH cf
    have HST:=pH hst
    have HTK:=pH htk
    have q1:=pz25 HB.out hc
    have hnn:=HN.out
    obtain ⟨T,tn,te⟩:=X
    have HUL:Hid (us.length≤100):=pH (by rw [HO.out.len,List.length_map,List.length_take];omega)
    have HII:Hid (i + 1≤ss.length):=pH hi
    clear hc hl1 hk1 hm cf htk hst hX hX'
    go_wp2_with fail
    refine CF.out.mono ?_
    rintro x w2 ⟨v2,rfl,ho,hb⟩
    have HB2:=pH (pbt HB.out hb)
    obtain ⟨A2,n2,c2,hv2,hn2⟩:∃ A n c,v2=.slice A n c∧n=T.length:=by
     obtain ⟨A,c,h,_⟩:=Owr.val ho
     exact ⟨A,_,c,h,rfl⟩
    subst hv2
    have HN2:=pH hn2
    have HT2:=pH (own_lower ho HB.out.size)
    have HO2:=pH (HO.out.ext hb)
    clear ho hb hn2 CF HO HB q1
    by_cases hte:te=0
    ·subst hte
     have HOKN:Hid (∀ s ∈ ss.take (i + 1),(foldE s).2.2=0):=pH (fun s hs=>by
      rw [HTK.out] at hs
      rcases List.mem_append.1 hs with h|h
      ·exact HOK.out s h
      ·rw [List.mem_singleton.1 h,HX.out])
     have HMAP:Hid ((ss.take (i + 1)).map (fun s=>(foldE s).1)=(ss.take i).map (fun s=>(foldE s).1) ++ [T]):=pH (by rw [HTK.out,List.map_append,List.map_singleton,HX.out])
     clear HOK HST HTK HX
     have hul:=HUL.out
     go_wp2_with (first|((with_reducible refine pz10 (N:=42) rfl ?_);refine pz34 rfl (N:=42) rfl (cs:=(encW (A2,n2,c2)).toArray) (t:=22) (n:=1) (by kernel_rfl) ?_;intro gr hg wq hb hbl;have HBR:=pH hb;have HBLR:=pH hbl;clear hg hb hbl;go_frame)|(at_builtin;refine pz33 rfl _ _ 67 rfl w.heap.size 22 1 24 i0 (.slice none 0 0) h67 HI.out HZ0.out HZ1.out HZ2.out rfl (by decide) encW_len encW_one _ us rfl (HO2.out.own.ext HBLR.out) (A2,n2,c2) gr 1 rfl ?c1 ?c2 ?c3 ?c4 ?_))
     case c1=>intro j u hu;rw [pbc HBR.out j];simpa using hu
     case c2=>unfold maxLen;omega
     case c3=>omega
     case c4=>exact (pbt HB2.out HBLR.out).size
     intro v9 w9 ho' hg'
     have HB9:Hid (Below w.heap.size w w9):=pH ((pbt HB2.out HBLR.out).grown hg' (pbt HB2.out HBLR.out).size (fun j hj=>ownW_far HO2.out.own j hj))
     have HO9:Hid (TrO w9 w.heap.size v9 (us ++ [(A2,n2,c2)]) ((ss.take (i + 1)).map fun s=>(foldE s).1)):=pH (by rw [HMAP.out];exact (HO2.out.ext HBLR.out).snoc (by decide) HN2.out (HT2.out.ext HBLR.out) ho' hg')
     clear ho' hg' HO2 HT2 HBR HBLR HMAP HB2
     go_wp2_with fail
     go_roundg g1
     case measure=>omega
     case rel=>exact ⟨i + 1,_,by go_num,by omega,HII,HOKN,HO9,HB9⟩
    ·have hne:((te:Int) != 0)=true:=by simpa using hte
     have HE:=pH (HST.out hte)
     clear HST
     go_wp2_with fail
     refine bodyPost_ret (v:=.tuple #[.slice none 0 0,.slice none 0 0,.int .i64 i,.int .i64 te]) (by simp [results,Tryz.f33,go_sem]) rfl ?_
     rw [HE.out]
     exact ⟨_,_,[],rfl,Owr.nil _ _ _ _ _,RowsO.nil _,HB2.out⟩
  ·have he:i=ss.length:=by have:=HII0.out;omega
   subst he
   rw [List.take_of_length_le (Nat.le_refl _)] at HOK HO
   obtain ⟨ts,hts⟩:∃ ts,ts=ss.map (fun s=>(foldE s).1):=⟨_,rfl⟩
   rw [← hts] at HO
   have hne0:ss≠[]:=List.length_pos_iff.1 HL0.out
   have hgo:∀ s,ontoGo Y 0 ([]:List (Str×Nd)) (s.map (List.map chOf))=foldE s:=fun s=>(ontoM_nil _).symm
   have hmm:(ss.map (List.map (List.map chOf))).map (fun x=>(ontoGo Y 0 ([]:List (Str×Nd)) x).1)=ts:=by
    rw [hts,List.map_map]
    exact List.map_congr_left fun s _=>by rw [Function.comp,hgo]
   have hall:=extract_all (ss:=ss.map (List.map (List.map chOf))) (by simpa using hne0) (fun x hx=>by
    obtain ⟨s,hs,rfl⟩:=List.mem_map.1 hx
    rw [hgo]
    exact HOK.out s hs)
   rw [hmm,← HR.out,List.length_map] at hall
   have hrt:∀ t ∈ ts,RightT Y t∧rowFits' (t.map ofEn)∧∀ x ∈ t.map ofEn,EnOk (enOf x):=fun t ht=>by
    rw [hts] at ht
    obtain ⟨s,hs,rfl⟩:=List.mem_map.1 ht
    refine ⟨?_,(HF.out s hs).tree⟩
    have h:=HOK.out s hs
    rw [← hgo] at h ⊢
    exact folds_right h
   have htl:ts.length=ss.length:=by rw [hts,List.length_map]
   obtain ⟨t0,tr,htc⟩:∃ t r,ts=t :: r:=by
    cases ts with
    | nil=>exact absurd htl (by have:=HL0.out;simp;omega)
    | cons t r=>exact ⟨t,r,rfl⟩
   obtain ⟨BB,hBB⟩:∃ BB,BB=bothM Y ts:=⟨_,rfl⟩
   have hbr:RightT Y BB:=by rw [hBB,htc];exact (Zt.both_spec (by rw [← htc];exact fun x hx=>(hrt x hx).1)).1
   have hbf:rowFits BB=true:=by
    rw [hBB,htc]
    refine bothx_fits (by rw [← htc];exact fun x hx=>(hrt x hx).1) ?_
    have:=(hrt t0 (by rw [htc];simp)).2.1.1
    rwa [ens_back] at this
   rw [← hBB] at hall
   have HALL:=pH hall
   have HRT:=pH hrt
   have HTL:=pH htl
   have HBR:=pH hbr
   have HBF:=pH hbf
   have HBB:=pH hBB
   clear hts hne0 hgo hmm hall hrt htl htc hbr hbf hBB HOK HR
   have hra:RowsAt k32 wr us (ts.map (List.map ofEn)):=HO.out.at_ (fun t _ v h=>own_C h)
   obtain ⟨P,hP⟩:∃ P,P=ts.map (List.map ofEn):=⟨_,rfl⟩
   rw [← hP] at hra
   obtain ⟨At,ct,hv,hct,hkt⟩:=rows_own (TE:=32) HO.out.own hra
   subst hv
   have hpn:P.map (List.map enOf)=ts:=by
    rw [hP,List.map_map]
    exact (List.map_congr_left (fun x _=>ens_back x)).trans (List.map_id _)
   have hpl:P.length=ss.length:=by rw [hP,List.length_map,HTL.out]
   have hpt:∀ p ∈ P,∃ t ∈ ts,p=t.map ofEn:=fun p hp=>by
    rw [hP] at hp
    obtain ⟨t,ht,rfl⟩:=List.mem_map.1 hp
    exact ⟨t,ht,rfl⟩
   have cb:=both_calls wr (hG.ext HB.out) At ct P hkt (by rw [hpl];exact HN.out) (fun l hl=>by
    obtain ⟨t,ht,rfl⟩:=hpt l hl
    exact (HRT.out t ht).2.1) (fun l hl=>by
    obtain ⟨t,ht,rfl⟩:=hpt l hl
    exact (HRT.out t ht).2.2)
   rw [hpn,← HBB.out] at cb
   have CB:=pH cb
   have HKT:=pH hkt
   have HPN:=pH hpn
   have HPL:=pH hpl
   have HP:=pH hP
   clear hra hct cb hkt hpn hpl hpt hP HO
   go_wp2_with fail
   refine CB.out.mono ?_
   rintro x w3 ⟨v3,rfl,ho,hb⟩
   obtain ⟨A3,c3,hv3,hc3,hk3⟩:=own_C ho
   obtain ⟨Q,hQ⟩:∃ Q,Q=BB.map ofEn:=⟨_,rfl⟩
   rw [← hQ] at hv3 hc3 hk3
   subst hv3
   have HB3:=pH (pbt HB.out hb)
   have HKT3:=pH (Kd.C_below HKT.out hb)
   have hqn:Q.map enOf=BB:=by rw [hQ,ens_back]
   have hqf:rowFits' Q:=⟨by rw [hqn];exact HBF.out,by rw [hQ,List.length_map];have:=HBR.out.len;omega⟩
   have cd:=diff_calls w3 (hG.ext HB3.out) none 0 [] (Kd.C_nil _ _) (Nat.le_refl _) ⟨rfl,by simp⟩ A3 c3 Q hk3 hc3 hqf
   rw [hqn,show List.map enOf ([]:List S32)=[] from rfl,Zt.diff_nothing HBR.out] at cd
   have CD:=pH cd
   have HK3:=pH hk3
   have HC3:=pH hc3
   have HQN:=pH hqn
   have HQF:=pH hqf
   clear ho hb hc3 hk3 hQ hqn hqf cd CB HKT HB
   go_wp2_with fail
   refine CD.out.mono ?_
   rintro x w4 ⟨v4,rfl,ho,hb⟩
   have HB4:=pH (pbt HB3.out hb)
   have HKT4:=pH (Kd.C_below HKT3.out hb)
   have HK4:=pH (Kd.C_below HK3.out hb)
   have HO4:=pH (own_lower ho HB3.out.size)
   clear ho hb CD HKT3 HK3 HB3
   go_wp2_with fail
   go_loopg [15,54] (P.length + 1) (fun gq v u wr=>∃ (i:Nat) (us2:List SlW),u=.int .i64 i∧P.length<gq + i∧Hid (i≤P.length) ∧
    Hid (LrO wr w4.heap.size v us2 ((ts.take i).map fun t=>(diffM Y BB t).1))∧Hid (Below w4.heap.size w4 wr))
   case atStart=>exact ⟨0,[],rfl,by omega,pH (by omega),pH (RowsO.nil _),pH (Below.refl _ _)⟩
   case round =>
    obtain ⟨i,us2,rfl,hgi,HII0,HO,HB5⟩:=hrel
    have HBW:=pH (pbt HB4.out HB5.out)
    by_cases hi:i<P.length
    ·cases gk with
     | zero=>omega
     | succ g1 =>
      obtain ⟨ad,A5,c5,rfl,hc,hl5,hk5⟩:=rows_at (Kd.C_below HKT4.out HB5.out) i hi
      have hit:i<ts.length:=by rw [HTL.out,← HPL.out];exact hi
      have hpi:P[i].map enOf=ts[i]:=by
       have h:=congrArg (fun x=>x[i]?) HPN.out
       simp only [List.getElem?_map,List.getElem?_eq_getElem hi,List.getElem?_eq_getElem hit,Option.map_some] at h
       exact Option.some.inj h
      have hpf:rowFits' P[i]:=by
       have h:=(HRT.out ts[i] (List.getElem_mem hit)).2.1
       rwa [← hpi,ens_forth] at h
      have cf:=diff_calls wr (hG.ext HBW.out) A3 c3 Q (Kd.C_below HK4.out HB5.out) HC3.out HQF.out A5 c5 P[i] hk5 hl5 hpf
      rw [HQN.out,hpi] at cf
      obtain ⟨X,hX⟩:∃ X,X=diffM Y BB ts[i]:=⟨_,rfl⟩
      have htk:(ts.take (i + 1)).map (fun t=>(diffM Y BB t).1)=(ts.take i).map (fun t=>(diffM Y BB t).1) ++ [X.1]:=by rw [List.take_succ_eq_append_getElem hit,List.map_append,List.map_singleton,hX]
      rw [← hX] at cf
      have HUL:Hid (us2.length≤100):=pH (by rw [HO.out.len,List.length_map,List.length_take];have:=HTL.out;have:=HN.out;omega)
      obtain ⟨p5,hp5⟩:∃ p,p=P[i]:=⟨_,rfl⟩
      rw [← hp5] at cf hc
      have CF:=pH cf
      have HTK:=pH htk
      have q1:=hc
      have hnn:=HN.out
      have hpn:P.length≤100:=by rw [HPL.out];exact HN.out
      have HII:Hid (i + 1≤P.length):=pH hi
      clear hc hl5 hk5 hit hpi hpf cf hX htk hp5
      go_wp2_with fail
      refine CF.out.mono ?_
      rintro x w6 ⟨v6,rfl,ho,hb⟩
      have HB6:=pH (pbt HB5.out hb)
      have HBW6:=pH (pbt HBW.out hb)
      obtain ⟨A6,n6,c6,hv6,hn6⟩:∃ A n c,v6=.slice A n c∧n=X.1.length:=by
       obtain ⟨A,c,h,_⟩:=Owr.val ho
       exact ⟨A,_,c,h,rfl⟩
      subst hv6
      have HN6:=pH hn6
      have HT6:=pH (own_lower ho HB5.out.size)
      have HO6:=pH (HO.out.ext hb)
      have hul:=HUL.out
      clear ho hb hn6 CF HO HB5 HBW q1
      go_wp2_with (first|((with_reducible refine pz10 (N:=66) rfl ?_);refine pz34 rfl (N:=66) rfl (cs:=(encW (A6,n6,c6)).toArray) (t:=35) (n:=1) (by kernel_rfl) ?_;intro gr hg wq hb hbl;have HBR:=pH hb;have HBLR:=pH hbl;clear hg hb hbl;go_frame)|(at_builtin;refine pz33 rfl _ _ 41 rfl w4.heap.size 35 1 24 j0 (.slice none 0 0) h41 HJ.out HY0.out HY1.out HY2.out rfl (by decide) encW_len encW_one _ us2 rfl (HO6.out.own.ext HBLR.out) (A6,n6,c6) gr 1 rfl ?c1 ?c2 ?c3 ?c4 ?_))
      case c1=>intro j u hu;rw [pbc HBR.out j];simpa using hu
      case c2=>unfold maxLen;omega
      case c3=>omega
      case c4=>exact (pbt HB6.out HBLR.out).size
      intro v9 w9 ho' hg'
      have HB9:Hid (Below w4.heap.size w4 w9):=pH ((pbt HB6.out HBLR.out).grown hg' (pbt HB6.out HBLR.out).size (fun j hj=>ownW_far HO6.out.own j hj))
      have HO9:Hid (LrO w9 w4.heap.size v9 (us2 ++ [(A6,n6,c6)]) ((ts.take (i + 1)).map fun t=>(diffM Y BB t).1)):=pH (by rw [HTK.out];exact (HO6.out.ext HBLR.out).snoc (by decide) HN6.out (HT6.out.ext HBLR.out) ho' hg')
      clear ho' hg' HO6 HT6 HBR HBLR HTK HB6 HBW6
      go_wp2_with fail
      go_roundg g1
      case measure=>omega
      case rel=>exact ⟨i + 1,_,by go_num,by omega,HII,HO9,HB9⟩
    ·have he:i=P.length:=by have:=HII0.out;omega
     subst he
     rw [HPL.out,← HTL.out,List.take_of_length_le (Nat.le_refl _)] at HO
     go_wp2_with fail
     refine bodyPost_ret (v:=.tuple #[v4,u15,.int .i64 ss.length,.int .i64 0]) (by simp [results,Tryz.f33,go_sem]) rfl ?_
     rw [HALL.out]
     exact ⟨_,_,us2,rfl,HO4.out.ext HB5.out,HO.out.low HB4.out.size,HBW.out⟩
end Go.Proofs.Zq
end
