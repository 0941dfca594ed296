/- A part of a proof of DiffBothCardSaid of this seat: what its walks and its laws lean on; joined by a program of this repo (wip/pack.py) out of the texts XRowSet, XBoxA, Sym, Stb, Stb2, XAttrM, QUntarAttrs1, QSlicesIndexFuncPairAtUntarAttrs1, XDelP, QUntarAttrs2, QSlicesInsertionSortCmpFuncPairAtUntarAttrs2, QSlicesSwapRangeCmpFuncPairAtUntarAttrs2. -/
import Derived.Deep.MidRow
import Derived.Lib.SliceRun
import Derived.Test.YtjghikkboekonaaGreatDoorKAB
import Derived.Test.YtjghikkboekonaaGreatDoorKAC
import Derived.Test.YtjghikkboekonaaGreatDoorKAD
set_option linter.unusedSimpArgs false
set_option linter.unusedVariables false
section
namespace Go.Proofs.Zq
open Go.RowKit Go.Proofs.YtjghikkboekonaaGreatDoor Go.Proofs.Zw.PrintWords
section
variable {α:Type} {enc:α→List Value} {k:Nat}
theorem flat_take (hk:∀ x,(enc x).length=k):∀ (l:List α) (i:Nat),(flat enc l).take (i * k)=flat enc (l.take i)
 | [],i=>by simp [flat]
 | x :: r,0=>by simp [flat]
 | x :: r,i + 1=>by
  have e:flat enc (x :: r)=enc x ++ flat enc r:=rfl
  have e2:flat enc ((x :: r).take (i + 1))=enc x ++ flat enc (r.take i):=rfl
  rw [e,e2,List.take_append,hk,List.take_of_length_le (by rw [hk,Nat.succ_mul];omega),show (i + 1) * k - k=i * k from by rw [Nat.succ_mul];omega,flat_take hk r i]
theorem flat_drop (hk:∀ x,(enc x).length=k):∀ (l:List α) (i:Nat),(flat enc l).drop (i * k)=flat enc (l.drop i)
 | [],i=>by simp [flat]
 | x :: r,0=>by simp [flat]
 | x :: r,i + 1=>by
  have e:flat enc (x :: r)=enc x ++ flat enc r:=rfl
  rw [e,List.drop_append,hk,List.drop_eq_nil_of_le (by rw [hk,Nat.succ_mul];omega),show (i + 1) * k - k=i * k from by rw [Nat.succ_mul];omega,flat_drop hk r i]
  rfl
theorem flat_set (hk:∀ x,(enc x).length=k) (l:List α) (i:Nat) (hi:i<l.length) (x:α):flat enc (l.set i x)=(flat enc l).take (i * k) ++ enc x ++ (flat enc l).drop (i * k + k):=by
 rw [flat_take hk,show i * k + k=(i + 1) * k from by rw [Nat.succ_mul],flat_drop hk,List.set_eq_take_append_cons_drop,if_pos hi,flat_append,List.append_assoc]
 rfl
variable {T base g cap:Nat} {w:World}
theorem own_blk {xs:List α} (h:Owr enc T k base w (.slice (some ⟨g,0,none⟩) xs.length cap) xs) :
  ∃ cur:Array Value,base≤g∧w.heap[g]?=some (.cells cur T (0,0))∧xs.length≤cap∧cap≤maxLen∧cur.size=cap * k∧cur.toList.take (xs.length * k)=flat enc xs:=by
 rcases h.2 with ⟨hv,_⟩|⟨g',cap',cur,hv,hb,hg,h1,h2,h3,h4⟩
 ·cases hv
 ·cases hv
  exact ⟨cur,hb,hg,h1,h2,h3,h4⟩
theorem own_mk (hk:∀ x,(enc x).length=k) {xs:List α} {cur:Array Value} (hb:base≤g) (hg:w.heap[g]?=some (.cells cur T (0,0))) (h1:xs.length≤cap) (h2:cap≤maxLen) (h3:cur.size=cap * k) (h4:cur.toList.take (xs.length * k)=flat enc xs) :
  Owr enc T k base w (.slice (some ⟨g,0,none⟩) xs.length cap) xs:=⟨flat_length hk xs,.inr ⟨g,cap,cur,rfl,hb,hg,h1,h2,h3,h4⟩⟩
theorem own_there {xs:List α} (h:Owr enc T k base w (.slice (some ⟨g,0,none⟩) xs.length cap) xs) (o n:Nat) (hn:o + n≤cap * k):w.there g o n:=by
 obtain ⟨cur,_,hg,_,_,h3,_⟩:=own_blk h
 intro j hj
 refine ⟨?_,blk_free hg _⟩
 rw [YtjghikkboekonaaGreatDoor.blk_cell hg]
 simp;omega
theorem own_lies (hk:∀ x,(enc x).length=k) {xs:List α} (h:Owr enc T k base w (.slice (some ⟨g,0,none⟩) xs.length cap) xs) {i:Nat} (hi:i<xs.length):w.rangeAt g (i * k) (enc xs[i]):=by
 intro j v hv
 obtain ⟨b,o,ha,hc⟩:=h.row hk i _ (List.getElem?_eq_getElem hi)
 cases ha
 have:=hc j v hv
 rwa [Nat.zero_add] at this
theorem own_put (hk:∀ x,(enc x).length=k) {xs:List α} (h:Owr enc T k base w (.slice (some ⟨g,0,none⟩) xs.length cap) xs) {i:Nat} (hi:i<xs.length) (x:α) :
  Owr enc T k base (w.setCells g (i * k) (enc x)) (.slice (some ⟨g,0,none⟩) (xs.set i x).length cap) (xs.set i x):=by
 obtain ⟨cur,hb,hg,h1,h2,h3,h4⟩:=own_blk h
 have hik:i * k + k≤xs.length * k:=by rw [← Nat.succ_mul];exact Nat.mul_le_mul_right k hi
 have hck:xs.length * k≤cap * k:=Nat.mul_le_mul_right k h1
 obtain ⟨cur',q1,q2,q3⟩:=setCells_row (enc x) (i * k) w cur hg (by rw [hk];omega)
 refine own_mk hk hb q1 (by rw [List.length_set];exact h1) h2 (q2.trans h3) ?_
 rw [flat_set hk xs i hi x,q3,List.length_set,← h4,hk]
 apply List.ext_getElem?
 intro j
 have hcl:cur.toList.length=cap * k:=by rw [Array.length_toList];exact h3
 simp only [List.getElem?_append,List.getElem?_take,List.getElem?_drop,List.length_append,List.length_take,hk,hcl]
 repeat' split
 all_goals first|rfl|(exfalso;omega)|(congr 1;omega)|(rw [List.getElem?_eq_none (by omega)])
theorem own_cut (hk:∀ x,(enc x).length=k) {xs:List α} (h:Owr enc T k base w (.slice (some ⟨g,0,none⟩) xs.length cap) xs) {i:Nat} (hi:i≤xs.length) (vs:List Value) (hv:i * k + vs.length≤cap * k) :
  Owr enc T k base (w.setCells g (i * k) vs) (.slice (some ⟨g,0,none⟩) (xs.take i).length cap) (xs.take i):=by
 obtain ⟨cur,hb,hg,h1,h2,h3,h4⟩:=own_blk h
 have hik:i * k≤xs.length * k:=Nat.mul_le_mul_right k hi
 obtain ⟨cur',q1,q2,q3⟩:=setCells_row vs (i * k) w cur hg (by omega)
 refine own_mk hk hb q1 (by rw [List.length_take];omega) h2 (q2.trans h3) ?_
 have hcl:cur.toList.length=cap * k:=by rw [Array.length_toList];exact h3
 rw [List.length_take,Nat.min_eq_left hi,← flat_take hk,← h4,q3,List.take_take,Nat.min_eq_left hik,List.append_assoc,List.take_append_of_le_length (by rw [List.length_take];have:=Nat.mul_le_mul_right k h1;omega),List.take_take,Nat.min_eq_left (Nat.le_refl _)]
theorem setCells_grown (w:World) (g o:Nat) (vs:List Value):w.grownBy (w.setCells g o vs) (some g):=by
 obtain ⟨h1,h2,h3,h4⟩:=setCells_same g vs o w
 exact ⟨h1,h2,h3,by rw [h4];exact Nat.le_refl _,fun j _ hj=>setCells_far vs o j (fun e=>hj (by rw [e]))⟩
end
theorem grown_trans' {a b c:World} {row:Option Nat} (h:a.grownBy b row) (h2:b.grownBy c row):a.grownBy c row :=
 ⟨h2.os.trans h.os,h2.tape.trans h.tape,h2.output.trans h.output,Nat.le_trans h.size h2.size,fun i hi hn=>(h2.block i (Nat.lt_of_lt_of_le hi h.size) hn).trans (h.block i hi hn)⟩
theorem grown_below {a b c:World} {row:Option Nat} (h:a.grownBy b row) (h2:Below b.heap.size b c):a.grownBy c row:=grown_trans' h ⟨h2.os,h2.tape,h2.output,h2.size,fun k hk _=>h2.block k hk⟩
theorem zero_cells (z:Array Value) (n:Nat):(Builtin.zeroCells z n).toList.length=n * z.size:=by simp [Builtin.zeroCells]
theorem run_clear_row {P:Program} (w:World) (t e ty:TypeId) (z:Value) (ht:P.underlying t=some (.slice e)) (hv:∀ w,(zeroValue e).run P w=.ok z w) (h1:∀ v ∈ z.cells.toList,v.oneCell'=true) (b o n c:Nat) (hn:0<n) (hh:w.there b o (n * z.cells.size)) :
  (Builtin.clear_ #[t] ty #[.slice (some ⟨b,o,none⟩) n c]).run P w=.ok (.tuple #[]) (w.setCells b o (Builtin.zeroCells z.cells n).toList):=by
 have hst:=run_storeCells_cells (P:=P) b o (Builtin.zeroCells z.cells n).toList 0 w (fun j hj=>by rw [zero_cells] at hj;exact (hh j hj).1) (fun j hj=>by rw [zero_cells] at hj;exact (hh j hj).2) (by
  intro v hv'
  simp only [Builtin.zeroCells,Array.toList_map,List.mem_map] at hv'
  obtain ⟨i,hi,rfl⟩:=hv'
  have hi2:i<n * z.cells.size:=by simpa using hi
  have hz:0<z.cells.size:=by
   rcases Nat.eq_zero_or_pos z.cells.size with h|h
   ·rw [h] at hi2;omega
   ·exact h
  have hm:i % z.cells.size<z.cells.size:=Nat.mod_lt _ hz
  rw [getElem!_pos z.cells _ hm]
  exact h1 _ (Array.getElem_mem_toList hm))
 simp only [Nat.add_zero] at hst
 obtain ⟨m,rfl⟩:∃ m,n=m + 1:=⟨n - 1,by omega⟩
 simp [Builtin.clear_,run_underlying ht,hv,hst]
end Go.Proofs.Zq
end
section
namespace Go.Proofs.Zq
open Go.RowKit Go.WideMaps Go.Maps Go.Proofs.YtjghikkboekonaaGreatDoor Go.Proofs.Zw.PrintWords Go.Proofs.Zw.PrintLast Go.Proofs.Zw.PrintMore
section
variable {P:Program} {ops:Array Oper} {rest:List Oper} {o:Oper} {a:Act} {Q:Exit→Act→World→Prop} {W:World}
def LiesAt (w:World) (a:Addr) (cs:List Value):Prop:=∀ j v,cs[j]?=some v→w.cell? (a.add j)=some v
theorem LiesAt.below {w w1:World} {a:Addr} {cs:List Value} (h:LiesAt w a cs) (hb:Below w.heap.size w w1):LiesAt w1 a cs:=fun j v hv=>by
 have:=h j v hv
 exact (hb.cell (World.block_lt_of_cell? w _ this)).trans this
theorem wpList_load_agg (hw:Region.wanted o (yielded ops a.tmps)=true) (ty:TypeId) (x:Operand) (ho:o.op=.load ty x)
  (ad:Addr) (hx:a.eval x=.pointer (some ad)) (cs:List Value) (d:TypeDesc) (hc:LiesAt W ad cs)
  (hu:P.underlying ty=some d) (hd:d.isRow=true) (hi:(P.info? ty).map (·.size)=some cs.length)
  (h:wpList P ops Q rest (a.put o.dst (.agg cs.toArray)) W):wpList P ops Q (o :: rest) a W:=by
 unfold wpList
 rw [if_pos hw]
 refine Or.inl ?_
 unfold Oper.wp execOp
 have hl:(loadCells ad cs.length).run P W=.ok cs.toArray W:=run_loadCells_list (P:=P) W ad cs hc
 have hv:(loadVar ty ad).run P W=.ok (.agg cs.toArray) W:=by
  cases hq:P.info? ty with
  | none=>simp [hq] at hi
  | some i =>
   have hs:i.size=cs.length:=by simpa [hq] using hi
   have hagg:(isAgg ty).run P W=.ok true W:=by
    unfold isAgg
    rw [Sem.run_bind,run_underlying hu W]
    cases d <;> simp_all
   simp [loadVar,Sem.run_bind,hagg,sizeOf,typeInfo,hq,hs,hl]
 simp only [ho,hx,Instr.loadAt,Instr.sureAddr,Sem.run_bind,Sem.run_pure,Result.andThen_ok,hv]
 exact h
theorem wpList_store_agg (hgd:o.guard=none) (hN:o.dst=none) (ty:TypeId) (x y:Operand) (ho:o.op=.store ty x y)
  (g:Nat) (cells:Array Value) (hx:a.eval x=.pointer (some ⟨g,0,none⟩)) (hy:a.eval y=.agg cells)
  (t:TypeId) (old:Array Value) (hg:W.heap[g]?=some (.cells old t (0,0))) (hi:(P.info? ty).map (·.size)=some cells.size)
  (hold:old.size=cells.size) (h1:cells.all (·.oneCell')=true)
  (h:∀ w1,w1.heap[g]?=some (.cells cells t (0,0))→W.grownBy w1 (some g)→wpList P ops Q rest a w1):wpList P ops Q (o :: rest) a W:=by
 refine wpList_plain hgd fun K hK=>?_
 refine wp_store_row ty x y ho g cells hx hy t old hg hi hold h1 ?_
 rw [hN]
 exact hK _ _ (h _ (setRow_heap W g old cells t (0,0) hg) ⟨rfl,rfl,rfl,by simp,fun k _ hne=>setRow_other W g k cells (fun e=>hne (by rw [e]))⟩)
end
theorem lies_of {w:World} {g:Nat} {t:TypeId} {cs:List Value} (h:w.heap[g]?=some (.cells cs.toArray t (0,0))):LiesAt w ⟨g,0,none⟩ cs:=fun j v hv=>by
 rw [Addr.add_mid,Nat.zero_add,YtjghikkboekonaaGreatDoor.blk_cell h j]
 simpa using hv
end Go.Proofs.Zq
end
section
namespace Go.Proofs.Zt
variable {α:Type}
def InOrd (less:α→α→Bool) (f:Nat→α) (a m:Nat):Prop:=∀ i j,a≤i→i<j→j<m→less (f j) (f i)=false
structure Weak (less:α→α→Bool):Prop where
 trans:∀ a b c,less b a=false→less c b=false→less c a=false
 asymm:∀ a b,less a b=true→less b a=false
theorem Weak.refl {less:α→α→Bool} (h:Weak less) (a:α):less a a=false:=by
 cases e:less a a with
 | false=>rfl
 | true=>exact e.symm.trans (h.asymm a a e)
theorem InOrd.sub {less:α→α→Bool} {f:Nat→α} {a m b n:Nat} (h:InOrd less f a m) (h1:a≤b) (h2:n≤m):InOrd less f b n:=fun i j hi hij hj=>h i j (by omega) hij (by omega)
theorem InOrd.le {less:α→α→Bool} (hw:Weak less) {f:Nat→α} {a m:Nat} (h:InOrd less f a m) {i j:Nat} (hi:a≤i) (hij:i≤j) (hj:j<m):less (f j) (f i)=false:=by
 rcases Nat.lt_or_ge i j with h'|h'
 ·exact h i j hi h' hj
 ·have:i=j:=by omega
  subst this;exact hw.refl _
theorem InOrd.empty {less:α→α→Bool} {f:Nat→α} {a m:Nat} (h:m≤a + 1):InOrd less f a m:=fun i j _ _ _=>by omega
theorem InOrd.congr {less:α→α→Bool} {f g:Nat→α} {a m:Nat} (h:InOrd less f a m) (e:∀ i,a≤i→i<m→g i=f i):InOrd less g a m:=fun i j hi hij hj=>by rw [e i hi (by omega),e j (by omega) hj];exact h i j hi hij hj
theorem InOrd.join {less:α→α→Bool} {f:Nat→α} {a m b:Nat} (h1:InOrd less f a m) (h2:InOrd less f m b) (h:∀ i j,a≤i→i<m→m≤j→j<b→less (f j) (f i)=false):InOrd less f a b:=by
 intro i j hi hij hj
 by_cases c1:j<m
 ·exact h1 i j hi hij c1
 ·by_cases c2:i<m
  ·exact h i j hi c2 (by omega) hj
  ·exact h2 i j (by omega) hij hj
def rot (f:Nat→α) (a m e:Nat) (i:Nat):α:=if a≤i∧i<e then (if i<a + (e - m) then f (m + (i - a)) else f (i - (e - m))) else f i
theorem sym_mid {less:α→α→Bool} (hw:Weak less) {f:Nat→α} {a m b mid n s r0 s0:Nat} (ham:a<m) (hmb:m<b) (hmid:mid=(a + b) / 2) (hn:n=mid + m)
  (hs0:s0=if mid<m then n - b else a) (hr0:r0=if mid<m then mid else m) (h1:InOrd less f a m) (h2:InOrd less f m b) (hs:s0≤s) (hsr:s≤r0)
  (hlo:s0<s→less (f (n - 1 - (s - 1))) (f (s - 1))=false) (hhi:s<r0→less (f (n - 1 - s)) (f s)=true) :
  s≤m∧m≤n - s∧n - s≤b∧a≤s∧s≤mid∧mid≤n - s∧InOrd less (rot f s m (n - s)) a s∧InOrd less (rot f s m (n - s)) s mid∧InOrd less (rot f s m (n - s)) mid (n - s)∧InOrd less (rot f s m (n - s)) (n - s) b ∧
  ∀ i j,a≤i→i<mid→mid≤j→j<b→less (rot f s m (n - s) j) (rot f s m (n - s) i)=false:=by
 have b1:s≤m∧m≤n - s∧n - s≤b∧a≤s∧s≤mid∧mid≤n - s:=by
  subst hmid;subst hn
  split at hs0 <;> rename_i hc <;> (first|rw [if_pos hc] at hr0|rw [if_neg hc] at hr0)
  all_goals omega
 obtain ⟨c1,c2,c3,c4,c5,c6⟩:=b1
 have e1:∀ i,i<s→rot f s m (n - s) i=f i:=fun i hi=>by unfold rot;rw [if_neg (by omega)]
 have e2:∀ i,s≤i→i<mid→rot f s m (n - s) i=f (m + (i - s)):=fun i h1 h2=>by unfold rot;rw [if_pos (by omega),if_pos (by omega)]
 have e3:∀ i,mid≤i→i<n - s→rot f s m (n - s) i=f (i - (n - s - m)):=fun i h1 h2=>by unfold rot;rw [if_pos (by omega),if_neg (by omega)]
 have e4:∀ i,n - s≤i→rot f s m (n - s) i=f i:=fun i hi=>by unfold rot;rw [if_neg (by omega)]
 refine ⟨c1,c2,c3,c4,c5,c6,?_,?_,?_,?_,?_⟩
 ·exact (h1.sub (Nat.le_refl _) c1).congr fun i _ hi=>e1 i hi
 ·intro i j hi hij hj
  rw [e2 i hi (by omega),e2 j (by omega) hj]
  exact h2 _ _ (by omega) (by omega) (by omega)
 ·intro i j hi hij hj
  rw [e3 i hi (by omega),e3 j (by omega) hj]
  exact h1 _ _ (by omega) (by omega) (by omega)
 ·exact (h2.sub (by omega) (Nat.le_refl _)).congr fun i hi _=>e4 i hi
 ·
  have hA:∀ i j,a≤i→i<s→n - s≤j→j<b→less (f j) (f i)=false:=by
   intro i j hi hi2 hj hj2
   have hlt:s0<s:=by
    rcases Nat.lt_or_ge s0 s with h|h
    ·exact h
    ·exfalso
     have:s=s0:=by omega
     subst hmid;subst hn
     split at hs0 <;> omega
   have hp:=hlo hlt
   have:n - 1 - (s - 1)=n - s:=by omega
   rw [this] at hp
   have q1:=h1.le hw hi (show i≤s - 1 by omega) (by omega)
   have q2:=h2.le hw (show m≤n - s by omega) hj hj2
   exact hw.trans _ _ _ (hw.trans _ _ _ q1 hp) q2
  have hB:∀ i j,m≤i→i<n - s→s≤j→j<m→less (f j) (f i)=false:=by
   intro i j hi hi2 hj hj2
   have hlt:s<r0:=by
    rcases Nat.lt_or_ge s r0 with h|h
    ·exact h
    ·exfalso
     have:s=r0:=by omega
     subst hmid;subst hn
     split at hr0 <;> omega
   have hp:=hw.asymm _ _ (hhi hlt)
   have q1:=h2.le hw hi (show i≤n - 1 - s by omega) (by omega)
   have q2:=h1.le hw (show a≤s by omega) hj hj2
   exact hw.trans _ _ _ (hw.trans _ _ _ q1 hp) q2
  intro i j hi hi2 hj hj2
  by_cases u:i<s
  ·rw [e1 i u]
   by_cases v:j<n - s
   ·rw [e3 j hj v]
    exact h1.le hw hi (by omega) (by omega)
   ·rw [e4 j (by omega)]
    exact hA i j hi u (by omega) hj2
  ·rw [e2 i (by omega) hi2]
   by_cases v:j<n - s
   ·rw [e3 j hj v]
    exact hB _ _ (by omega) (by omega) (by omega) (by omega)
   ·rw [e4 j (by omega)]
    exact h2.le hw (by omega) (by omega) hj2
theorem sym_first {less:α→α→Bool} (hw:Weak less) {f g:Nat→α} {a b i:Nat} (h2:InOrd less f (a + 1) b) (hi:a + 1≤i) (hib:i≤b) (hlo:a + 1<i→less (f (i - 1)) (f a)=true) (hhi:i<b→less (f i) (f a)=false)
  (g1:∀ k,a≤k→k<i - 1→g k=f (k + 1)) (g2:g (i - 1)=f a) (g3:∀ k,i≤k→k<b→g k=f k):InOrd less g a b:=by
 have key1:∀ k,a + 1≤k→k<i→less (f a) (f k)=false:=fun k h1 h3=>by
  have hp:=hw.asymm _ _ (hlo (by omega))
  exact hw.trans _ _ _ (h2.le hw h1 (show k≤i - 1 by omega) (by omega)) hp
 have key2:∀ k,i≤k→k<b→less (f k) (f a)=false:=fun k h1 h3=>by
  exact hw.trans _ _ _ (hhi (by omega)) (h2.le hw hi h1 h3)
 intro x y hx hxy hy
 by_cases u:x<i - 1
 ·rw [g1 x hx u]
  by_cases v:y<i - 1
  ·rw [g1 y (by omega) v];exact h2 _ _ (by omega) (by omega) (by omega)
  ·by_cases w:y=i - 1
   ·subst w;rw [g2];exact key1 _ (by omega) (by omega)
   ·rw [g3 y (by omega) hy];exact h2.le hw (by omega) (by omega) hy
 ·by_cases w:x=i - 1
  ·subst w;rw [g2,g3 y (by omega) hy];exact key2 _ (by omega) hy
  ·rw [g3 x (by omega) (by omega),g3 y (by omega) hy];exact h2 _ _ (by omega) (by omega) hy
theorem sym_last {less:α→α→Bool} (hw:Weak less) {f g:Nat→α} {a m i:Nat} (h1:InOrd less f a m) (hi:a≤i) (him:i≤m) (hlo:a<i→less (f m) (f (i - 1))=false) (hhi:i<m→less (f m) (f i)=true)
  (g1:∀ k,a≤k→k<i→g k=f k) (g2:g i=f m) (g3:∀ k,i<k→k≤m→g k=f (k - 1)):InOrd less g a (m + 1):=by
 have key1:∀ k,a≤k→k<i→less (f m) (f k)=false:=fun k h2 h3=>hw.trans _ _ _ (h1.le hw h2 (show k≤i - 1 by omega) (by omega)) (hlo (by omega))
 have key2:∀ k,i≤k→k<m→less (f k) (f m)=false:=fun k h2 h3=>hw.trans _ _ _ (hw.asymm _ _ (hhi (by omega))) (h1.le hw hi h2 h3)
 intro x y hx hxy hy
 by_cases u:x<i
 ·rw [g1 x hx u]
  by_cases v:y<i
  ·rw [g1 y (by omega) v];exact h1 _ _ hx hxy (by omega)
  ·by_cases w:y=i
   ·subst w;rw [g2];exact key1 _ hx u
   ·rw [g3 y (by omega) (by omega)];exact h1.le hw hx (by omega) (by omega)
 ·by_cases w:x=i
  ·subst w;rw [g2,g3 y (by omega) (by omega)];exact key2 _ (by omega) (by omega)
  ·rw [g3 x (by omega) (by omega),g3 y (by omega) (by omega)];exact h1 _ _ (by omega) (by omega) (by omega)
end Go.Proofs.Zt
end
section
namespace Go.Proofs.Zt
abbrev Dp:=(Str×Str)×Nat
def lsD (x y:Dp):Bool:=decide (cmpS x.1.1 y.1.1<0) || (decide (x.1.1=y.1.1) && decide (x.2<y.2))
theorem cmpS_total {a b:Str} (h:¬ cmpS a b<0) (h2:a≠b):cmpS b a<0:=by
 have h3:=cmpS_anti a b
 have h4:cmpS a b≠0:=fun e=>h2 (cmpS_eq e)
 omega
theorem lsD_iff {x y:Dp}:lsD x y=true↔cmpS x.1.1 y.1.1<0∨(x.1.1=y.1.1∧x.2<y.2):=by simp [lsD]
theorem lsD_trans {x y z:Dp} (h1:lsD x y=true) (h2:lsD y z=true):lsD x z=true:=by
 rw [lsD_iff] at *
 rcases h1 with h1|⟨h1,g1⟩
 ·rcases h2 with h2|⟨h2,g2⟩
  ·exact .inl (cmpS_trans h1 h2)
  ·rw [← h2];exact .inl h1
 ·rcases h2 with h2|⟨h2,g2⟩
  ·rw [h1];exact .inl h2
  ·exact .inr ⟨h1.trans h2,by omega⟩
theorem lsD_irrefl (x:Dp):lsD x x=false:=by
 cases h:lsD x x with
 | false=>rfl
 | true =>
  rw [lsD_iff] at h
  rcases h with h|⟨_,h⟩
  ·rw [cmpS_refl] at h;omega
  ·omega
theorem lsD_tri (x y:Dp):lsD x y=true∨lsD y x=true∨(x.1.1=y.1.1∧x.2=y.2):=by
 rw [lsD_iff,lsD_iff]
 by_cases h:cmpS x.1.1 y.1.1<0
 ·exact .inl (.inl h)
 ·by_cases e:x.1.1=y.1.1
  ·rcases Nat.lt_trichotomy x.2 y.2 with g|g|g
   ·exact .inl (.inr ⟨e,g⟩)
   ·exact .inr (.inr ⟨e,g⟩)
   ·exact .inr (.inl (.inr ⟨e.symm,g⟩))
  ·exact .inr (.inl (.inl (cmpS_total h e)))
theorem lsD_alike {x y z:Dp} (h:x.1.1=y.1.1∧x.2=y.2):lsD x z=lsD y z∧lsD z x=lsD z y:=by unfold lsD;rw [h.1,h.2];exact ⟨rfl,rfl⟩
theorem lsD_weak:Weak lsD:=by
 refine ⟨fun a b c h1 h2=>?_,fun a b h=>?_⟩
 ·cases h:lsD c a with
  | false=>rfl
  | true =>
   rcases lsD_tri b a with q|q|q
   ·rw [q] at h1;cases h1
   ·rw [lsD_trans h q] at h2;cases h2
   ·rw [(lsD_alike q).2,h] at h2;cases h2
 ·cases h':lsD b a with
  | false=>rfl
  | true =>
   have:=lsD_trans h h'
   rw [lsD_irrefl] at this;cases this
theorem lsD_later {x y:Dp} (h:x.2<y.2):lsD y x=decide (cmpS y.1.1 x.1.1<0):=by
 unfold lsD
 have:decide (y.2<x.2)=false:=decide_eq_false (by omega)
 rw [this,Bool.and_false,Bool.or_false]
section
variable {α:Type}
def swp (f:Nat→α) (i j k:Nat):α:=if k=i then f j else if k=j then f i else f k
structure Mixed (f g:Nat→α) (a b:Nat):Prop where
 out:∀ i,i<a∨b≤i→g i=f i
 perm:((List.range' a (b - a)).map g).Perm ((List.range' a (b - a)).map f)
theorem Mixed.refl (f:Nat→α) (a b:Nat):Mixed f f a b:=⟨fun _ _=>rfl,List.Perm.refl _⟩
theorem Mixed.trans {f g h:Nat→α} {a b:Nat} (h1:Mixed f g a b) (h2:Mixed g h a b):Mixed f h a b:=⟨fun i hi=>(h2.out i hi).trans (h1.out i hi),h2.perm.trans h1.perm⟩
theorem Mixed.mem {f g:Nat→α} {a b:Nat} (h:Mixed f g a b) {i:Nat} (h1:a≤i) (h2:i<b):∃ j,a≤j∧j<b∧g i=f j:=by
 have:g i ∈ (List.range' a (b - a)).map f:=h.perm.mem_iff.1 (List.mem_map.2 ⟨i,by rw [List.mem_range'_1];omega,rfl⟩)
 obtain ⟨j,hj,e⟩:=List.mem_map.1 this
 rw [List.mem_range'_1] at hj
 exact ⟨j,by omega,by omega,e.symm⟩
theorem Mixed.wider {f g:Nat→α} {a b c d:Nat} (h:Mixed f g a b) (h1:c≤a) (h2:b≤d) (h3:a≤b):Mixed f g c d:=by
 refine ⟨fun i hi=>h.out i (by omega),?_⟩
 have e:List.range' c (d - c)=List.range' c (a - c) ++ (List.range' a (b - a) ++ List.range' b (d - b)):=by
  rw [show d - c=(a - c) + ((b - a) + (d - b)) from by omega,← List.range'_append_1,show c + (a - c)=a from by omega,← List.range'_append_1,show a + (b - a)=b from by omega]
 rw [e]
 simp only [List.map_append]
 have e1:(List.range' c (a - c)).map g=(List.range' c (a - c)).map f:=List.map_congr_left fun i hi=>h.out i (by rw [List.mem_range'_1] at hi;omega)
 have e2:(List.range' b (d - b)).map g=(List.range' b (d - b)).map f:=List.map_congr_left fun i hi=>h.out i (by rw [List.mem_range'_1] at hi;omega)
 rw [e1,e2]
 exact List.Perm.append_left _ (List.Perm.append_right _ h.perm)
theorem split_at {a b i:Nat} (h1:a≤i) (h2:i<b):List.range' a (b - a)=List.range' a (i - a) ++ i :: List.range' (i + 1) (b - (i + 1)):=by
 rw [show b - a=(i - a) + ((b - (i + 1)) + 1) from by omega,← List.range'_append_1,show a + (i - a)=i from by omega,List.range'_succ]
theorem swp_mixed (f:Nat→α) {a b i j:Nat} (h1:a≤i) (h2:i<b) (h3:a≤j) (h4:j<b):Mixed f (swp f i j) a b:=by
 refine ⟨fun k hk=>by unfold swp;rw [if_neg (by omega),if_neg (by omega)],?_⟩
 have key:∀ i j,a≤i→i<j→j<b→((List.range' a (b - a)).map (swp f i j)).Perm ((List.range' a (b - a)).map f):=by
  intro i j h1 h2 h4
  rw [split_at h1 (show i<b by omega),split_at (show i + 1≤j by omega) h4]
  simp only [List.map_append,List.map_cons]
  have e1:(List.range' a (i - a)).map (swp f i j)=(List.range' a (i - a)).map f:=List.map_congr_left fun k hk=>by rw [List.mem_range'_1] at hk;unfold swp;rw [if_neg (by omega),if_neg (by omega)]
  have e2:(List.range' (i + 1) (j - (i + 1))).map (swp f i j)=(List.range' (i + 1) (j - (i + 1))).map f:=List.map_congr_left fun k hk=>by rw [List.mem_range'_1] at hk;unfold swp;rw [if_neg (by omega),if_neg (by omega)]
  have e3:(List.range' (j + 1) (b - (j + 1))).map (swp f i j)=(List.range' (j + 1) (b - (j + 1))).map f:=List.map_congr_left fun k hk=>by rw [List.mem_range'_1] at hk;unfold swp;rw [if_neg (by omega),if_neg (by omega)]
  have e4:swp f i j i=f j:=by unfold swp;rw [if_pos rfl]
  have e5:swp f i j j=f i:=by unfold swp;rw [if_neg (by omega),if_pos rfl]
  rw [e1,e2,e3,e4,e5]
  refine List.Perm.append_left _ ?_
  refine (List.Perm.cons _ List.perm_middle).trans ?_
  refine (List.Perm.swap _ _ _).trans ?_
  exact List.Perm.cons _ List.perm_middle.symm
 rcases Nat.lt_trichotomy i j with h|h|h
 ·exact key i j h1 h h4
 ·subst h
  have:swp f i i=f:=by funext k;unfold swp;split <;> simp_all
  rw [this]
 ·have:swp f i j=swp f j i:=by
   funext k;unfold swp
   repeat' split
   all_goals first|rfl|(exfalso;omega)
  rw [this]
  exact key j i h3 h h2
def swR (f:Nat→α) (a b n k:Nat):α:=if a≤k∧k<a + n then f (b + (k - a)) else if b≤k∧k<b + n then f (a + (k - b)) else f k
theorem swR_zero (f:Nat→α) (a b:Nat):swR f a b 0=f:=by funext k;unfold swR;rw [if_neg (by omega),if_neg (by omega)]
theorem swR_step (f:Nat→α) {a b i:Nat} (h:a + (i + 1)≤b):swp (swR f a b i) (a + i) (b + i)=swR f a b (i + 1):=by
 funext k
 unfold swp swR
 repeat' split
 all_goals first|rfl|(exfalso;omega)|(congr 1;omega)
theorem rot_more (f:Nat→α) {m i j:Nat} (hi:i≤m) (h:j<i):rot (swR f (m - i) m j) (m - (i - j)) m (m + j)=rot f (m - i) m (m + j):=by
 funext k
 unfold rot swR
 by_cases h1:m - i≤k∧k<m + j
 ·rw [if_pos h1]
  by_cases h2:k<m - i + (m + j - m)
  ·rw [if_pos h2,if_neg (by omega),if_pos (by omega)]
  ·rw [if_neg h2,if_pos (by omega)]
   by_cases h3:k<m - (i - j) + (m + j - m)
   ·rw [if_pos h3,if_neg (by omega),if_pos (by omega)]
    congr 1;omega
   ·rw [if_neg h3,if_neg (by omega),if_neg (by omega)]
 ·rw [if_neg h1,if_neg (by omega),if_neg (by omega),if_neg (by omega)]
theorem rot_less (f:Nat→α) {m i j:Nat} (hi:i≤m) (h:i<j):rot (swR f (m - i) (m + j - i) i) (m - i) m (m + (j - i))=rot f (m - i) m (m + j):=by
 funext k
 unfold rot swR
 by_cases h1:m - i≤k∧k<m + j
 ·rw [if_pos h1]
  by_cases h2:k<m - i + (m + j - m)
  ·rw [if_pos h2]
   by_cases h3:k<m + (j - i)
   ·rw [if_pos (by omega)]
    by_cases h4:k<m - i + (m + (j - i) - m)
    ·rw [if_pos h4,if_neg (by omega),if_neg (by omega)]
    ·rw [if_neg h4,if_pos (by omega)]
     congr 1;omega
   ·exfalso;omega
  ·rw [if_neg h2,if_neg (by omega),if_neg (by omega),if_pos (by omega)]
   congr 1;omega
 ·rw [if_neg h1,if_neg (by omega),if_neg (by omega),if_neg (by omega)]
theorem rot_even (f:Nat→α) {m i:Nat} (hi:i≤m):swR f (m - i) m i=rot f (m - i) m (m + i):=by
 funext k
 unfold rot swR
 by_cases h1:m - i≤k∧k<m + i
 ·rw [if_pos h1]
  by_cases h2:k<m - i + (m + i - m)
  ·rw [if_pos h2,if_pos (by omega)]
  ·rw [if_neg h2,if_neg (by omega),if_pos (by omega)]
   congr 1;omega
 ·rw [if_neg h1,if_neg (by omega),if_neg (by omega)]
def mvd (f:Nat→α) (m i k:Nat):α:=if k<i∨m<k then f k else if k=i then f m else f (k - 1)
theorem mvd_same (f : Nat → α) (m : Nat) : mvd f m m = f := by funext k;unfold mvd;split;· rfl
                                                               · rename_i h;have:k=m:=by omega
                                                                 subst this;rw [if_pos rfl]
theorem mvd_step (f:Nat→α) {m i:Nat} (h1:0<i) (h2:i≤m):swp (mvd f m i) i (i - 1)=mvd f m (i - 1):=by
 funext k
 unfold swp mvd
 by_cases e1:k=i
 ·subst e1
  rw [if_pos rfl,if_pos (by omega),if_neg (by omega),if_neg (by omega)]
 ·rw [if_neg e1]
  by_cases e2:k=i - 1
  ·subst e2
   rw [if_pos rfl,if_neg (by omega),if_pos rfl,if_neg (by omega),if_pos rfl]
  ·rw [if_neg e2]
   by_cases e3:k<i∨m<k
   ·rw [if_pos e3,if_pos (by omega)]
   ·rw [if_neg e3,if_neg e1,if_neg (by omega),if_neg e2]
def mvu (f:Nat→α) (a i k:Nat):α:=if k<a∨i<k then f k else if k=i then f a else f (k + 1)
theorem mvu_same (f : Nat → α) (a : Nat) : mvu f a a = f := by funext k;unfold mvu;split;· rfl
                                                               · rename_i h;have:k=a:=by omega
                                                                 subst this;rw [if_pos rfl]
theorem mvu_step (f:Nat→α) {a i:Nat} (h:a≤i):swp (mvu f a i) i (i + 1)=mvu f a (i + 1):=by
 funext k
 unfold swp mvu
 by_cases e1:k=i
 ·subst e1
  rw [if_pos rfl,if_pos (by omega),if_neg (by omega),if_neg (by omega)]
 ·rw [if_neg e1]
  by_cases e2:k=i + 1
  ·subst e2
   rw [if_pos rfl,if_neg (by omega),if_pos rfl,if_neg (by omega),if_pos rfl]
  ·rw [if_neg e2]
   by_cases e3:k<a∨i<k
   ·rw [if_pos e3,if_pos (by omega)]
   ·rw [if_neg e3,if_neg e1,if_neg (by omega),if_neg e2]
end
structure Parts (f:Nat→Dp) (a m b:Nat):Prop where
 one:InOrd lsD f a m
 two:InOrd lsD f m b
 apart:∀ i j,a≤i→i<m→m≤j→j<b→(f i).2<(f j).2
structure Merged (f g:Nat→Dp) (a b:Nat):Prop where
 mixed:Mixed f g a b
 ord:InOrd lsD g a b
theorem Parts.congr {f g:Nat→Dp} {a m b:Nat} (h:Parts f a m b) (e:∀ i,a≤i→i<b→g i=f i) (h1:a≤m) (h2:m≤b):Parts g a m b :=
 ⟨h.one.congr fun i hi hm=>e i hi (by omega),h.two.congr fun i hi hm=>e i (by omega) hm,fun i j hi hm hj hb=>by rw [e i hi (by omega),e j (by omega) hb];exact h.apart i j hi hm hj hb⟩
theorem merge_join {f r g1 g2:Nat→Dp} {a m b mid n s r0 s0:Nat} (hp:Parts f a m b) (ham:a<m) (hmb:m<b) (hmid:mid=(a + b) / 2) (hn:n=mid + m)
  (hs0:s0=if mid<m then n - b else a) (hr0:r0=if mid<m then mid else m) (hs:s0≤s) (hsr:s≤r0)
  (hlo:s0<s→lsD (f (n - 1 - (s - 1))) (f (s - 1))=false) (hhi:s<r0→lsD (f (n - 1 - s)) (f s)=true)
  (hr:r=rot f s m (n - s)) (hrm:Mixed f r a b) :
  s≤m∧m≤n - s∧n - s≤b∧a≤s∧s≤mid∧mid≤n - s∧Parts r a s mid∧Parts r mid (n - s) b ∧
  ∀ g1 g2,Merged r g1 a mid→Merged g1 g2 mid b→Merged f g2 a b:=by
 subst hr
 obtain ⟨c1,c2,c3,c4,c5,c6,o1,o2,o3,o4,o5⟩:=sym_mid lsD_weak ham hmb hmid hn hs0 hr0 hp.one hp.two hs hsr hlo hhi
 have e1:∀ i,i<s→rot f s m (n - s) i=f i:=fun i hi=>by unfold rot;rw [if_neg (by omega)]
 have e2:∀ i,s≤i→i<mid→rot f s m (n - s) i=f (m + (i - s)):=fun i h1 h2=>by unfold rot;rw [if_pos (by omega),if_pos (by omega)]
 have e3:∀ i,mid≤i→i<n - s→rot f s m (n - s) i=f (i - (n - s - m)):=fun i h1 h2=>by unfold rot;rw [if_pos (by omega),if_neg (by omega)]
 have e4:∀ i,n - s≤i→rot f s m (n - s) i=f i:=fun i hi=>by unfold rot;rw [if_neg (by omega)]
 refine ⟨c1,c2,c3,c4,c5,c6,⟨o1,o2,?_⟩,⟨o3,o4,?_⟩,?_⟩
 ·intro i j hi hm hj hb
  rw [e1 i hm,e2 j hj hb]
  exact hp.apart _ _ hi (by omega) (by omega) (by omega)
 ·intro i j hi hm hj hb
  rw [e3 i hi hm,e4 j hj]
  exact hp.apart _ _ (by omega) (by omega) (by omega) hb
 ·intro g1 g2 m1 m2
  refine ⟨hrm.trans ((m1.mixed.wider (Nat.le_refl _) (by omega) (by omega)).trans (m2.mixed.wider (by omega) (Nat.le_refl _) (by omega))),?_⟩
  have q1:∀ i,i<mid→g2 i=g1 i:=fun i hi=>m2.mixed.out i (.inl hi)
  refine (m1.ord.congr fun i _ hi=>q1 i hi).join m2.ord fun i j hi hm hj hb=>?_
  rw [q1 i hm]
  obtain ⟨i',hi1,hi2,ei⟩:=m1.mixed.mem hi hm
  obtain ⟨j',hj1,hj2,ej⟩:=m2.mixed.mem hj hb
  rw [ei,ej,m1.mixed.out j' (.inr hj1)]
  exact o5 i' j' hi1 hi2 hj1 hj2
theorem merged_left {f:Nat→Dp} {a s b:Nat} (hp:Parts f a s b) (h:s=a∨s=b):Merged f f a b:=by
 refine ⟨Mixed.refl _ _ _,?_⟩
 rcases h with h|h
 ·subst h;exact hp.two
 ·subst h;exact hp.one
theorem merge_first {f:Nat→Dp} {a b i:Nat} (hp:Parts f a (a + 1) b) (hi:a + 1≤i) (hib:i≤b) (hlo:a + 1<i→lsD (f (i - 1)) (f a)=true) (hhi:i<b→lsD (f i) (f a)=false) (hm:Mixed f (mvu f a (i - 1)) a b):Merged f (mvu f a (i - 1)) a b:=by
 refine ⟨hm,sym_first lsD_weak hp.two hi hib hlo hhi (fun k h1 h2=>?_) ?_ (fun k h1 h2=>?_)⟩
 ·unfold mvu;rw [if_neg (by omega),if_neg (by omega)]
 ·unfold mvu;rw [if_neg (by omega),if_pos rfl]
 ·unfold mvu;rw [if_pos (by omega)]
theorem merge_last {f:Nat→Dp} {a m i:Nat} (h1:InOrd lsD f a m) (hi:a≤i) (him:i≤m) (hlo:a<i→lsD (f m) (f (i - 1))=false) (hhi:i<m→lsD (f m) (f i)=true):InOrd lsD (mvd f m i) a (m + 1):=by
 refine sym_last lsD_weak h1 hi him hlo hhi (fun k h1 h2=>?_) ?_ (fun k h1 h2=>?_)
 ·unfold mvd;rw [if_pos (by omega)]
 ·unfold mvd;rw [if_neg (by omega),if_pos rfl]
 ·unfold mvd;rw [if_neg (by omega),if_neg (by omega)]
def Fresh (f:Nat→Dp) (a b:Nat):Prop:=∀ i j,a≤i→i<j→j<b→(f i).2<(f j).2
def BlkOrd (f:Nat→Dp) (s lo hi:Nat):Prop:=∀ i j,lo≤i→i<j→j<hi→i / s=j / s→lsD (f j) (f i)=false
def BlkApart (f:Nat→Dp) (s lo n:Nat):Prop:=∀ i j,lo≤i→j<n→i / s<j / s→(f i).2<(f j).2
end Go.Proofs.Zt
end
section
namespace Go.Proofs.Zt
theorem div_at {s t i:Nat} (h1:s * t≤i) (h2:i<s * t + s):i / s=t:=by
 refine Nat.div_eq_of_lt_le ?_ ?_
 ·rw [Nat.mul_comm];exact h1
 ·rw [Nat.succ_mul,Nat.mul_comm];exact h2
theorem div_below {s t i:Nat} (hs:0<s) (h:i<s * t):i / s<t:=by rw [Nat.div_lt_iff_lt_mul hs,Nat.mul_comm];exact h
theorem div_above {s t i:Nat} (hs:0<s) (h:s * t≤i):t≤i / s:=by rw [Nat.le_div_iff_mul_le hs,Nat.mul_comm];exact h
structure StA (f g:Nat→Dp) (s a n:Nat):Prop where
 mixed:Mixed f g 0 n
 ord:BlkOrd g s 0 a
 apart:BlkApart g s 0 n
 rest:∀ i,a≤i→g i=f i
theorem StA.start {f:Nat→Dp} {s n:Nat} (h:Fresh f 0 n):StA f f s 0 n :=
 ⟨Mixed.refl _ _ _,fun i j _ _ hj _=>by omega,fun i j _ hj hd=>h i j (Nat.zero_le _) (by
  rcases Nat.lt_or_ge i j with q|q
  ·exact q
  ·have:=Nat.div_le_div_right (c:=s) q;omega) hj,fun _ _=>rfl⟩
theorem StA.fresh {f g:Nat→Dp} {s a n b:Nat} (h:StA f g s a n) (hf:Fresh f 0 n) (hb:b≤n):Fresh g a b:=fun i j hi hij hj=>by
 rw [h.rest i hi,h.rest j (by omega)];exact hf i j (Nat.zero_le _) hij (by omega)
theorem StA.step {f g g':Nat→Dp} {s t n b:Nat} (hs:0<s) (h:StA f g s (s * t) n) (hb:b≤s * t + s) (hab:s * t≤b) (hbn:b≤n) (hm:Merged g g' (s * t) b):StA f g' s b n:=by
 refine ⟨h.mixed.trans (hm.mixed.wider (Nat.zero_le _) hbn hab),fun i j hi hij hj hd=>?_,fun i j hi hj hd=>?_,fun i hi=>(hm.mixed.out i (.inr hi)).trans (h.rest i (by omega))⟩
 ·by_cases h1:j<s * t
  ·rw [hm.mixed.out i (.inl (by omega)),hm.mixed.out j (.inl h1)]
   exact h.ord i j hi hij h1 hd
  ·have h2:s * t≤i:=by
    rcases Nat.lt_or_ge i (s * t) with q|q
    ·have:=div_below hs q
     have:=div_above hs (show s * t≤j by omega)
     omega
    ·exact q
   exact hm.ord i j h2 hij hj
 ·have key:∀ k,∃ k',g' k=g k'∧k' / s=k / s∧(k<n→k' < n):=by
   intro k
   by_cases q:s * t≤k∧k<b
   ·obtain ⟨k',q1,q2,q3⟩:=hm.mixed.mem q.1 q.2
    exact ⟨k',q3,by rw [div_at q1 (by omega),div_at q.1 (by omega)],fun _=>by omega⟩
   ·exact ⟨k,hm.mixed.out k (by omega),rfl,id⟩
  obtain ⟨i',a1,a2,_⟩:=key i
  obtain ⟨j',b1,b2,b3⟩:=key j
  rw [a1,b1]
  exact h.apart i' j' (Nat.zero_le _) (b3 hj) (by omega)
structure StB (f g:Nat→Dp) (s a n:Nat):Prop where
 mixed:Mixed f g 0 n
 done:BlkOrd g (2 * s) 0 a
 ord:BlkOrd g s a n
 apart2:BlkApart g (2 * s) 0 n
 apart:BlkApart g s a n
theorem half_div {s i j:Nat} (hs:0<s) (h:i / (2 * s)<j / (2 * s)):i / s<j / s:=by
 rw [Nat.mul_comm,← Nat.div_div_eq_div_mul,← Nat.div_div_eq_div_mul] at h
 rcases Nat.lt_or_ge (i / s) (j / s) with q|q
 ·exact q
 ·have:=Nat.div_le_div_right (c:=2) q;omega
theorem StB.start {f g:Nat→Dp} {s n:Nat} (hs:0<s) (h1:Mixed f g 0 n) (h2:BlkOrd g s 0 n) (h3:BlkApart g s 0 n):StB f g s 0 n :=
 ⟨h1,fun i j _ _ hj _=>by omega,h2,fun i j hi hj hd=>h3 i j hi hj (half_div hs hd),h3⟩
theorem StB.parts {f g:Nat→Dp} {s t n b:Nat} (hs:0<s) (h:StB f g s (2 * s * t) n) (hb:b≤2 * s * t + 2 * s) (hab:2 * s * t + s<b) (hbn:b≤n):Parts g (2 * s * t) (2 * s * t + s) b:=by
 have e1:2 * s * t=s * (2 * t):=by rw [Nat.mul_comm 2 s,Nat.mul_assoc]
 have e2:s * (2 * t) + s=s * (2 * t + 1):=by rw [Nat.mul_succ]
 refine ⟨fun i j hi hij hj=>h.ord i j hi hij (by omega) ?_,fun i j hi hij hj=>h.ord i j (by omega) hij (by omega) ?_,fun i j hi hm hj hb'=>h.apart i j hi (by omega) ?_⟩
 ·rw [e1] at hi hj;rw [div_at hi (by omega),div_at (t:=2 * t) (by omega) hj]
 ·rw [e1,e2] at hi;rw [div_at hi (by rw [← e2];omega),div_at (t:=2 * t + 1) (by omega) (by rw [← e2];omega)]
 ·rw [e1] at hi hm;rw [e1,e2] at hj
  rw [div_at hi (by omega),div_at hj (by rw [← e2];omega)];omega
theorem StB.step {f g g':Nat→Dp} {s t n b:Nat} (hs:0<s) (h:StB f g s (2 * s * t) n) (hb:b≤2 * s * t + 2 * s) (hab:2 * s * t≤b) (hbn:b≤n) (hm:Merged g g' (2 * s * t) b):StB f g' s b n:=by
 have hs2:0<2 * s:=by omega
 refine ⟨h.mixed.trans (hm.mixed.wider (Nat.zero_le _) hbn hab),fun i j hi hij hj hd=>?_,fun i j hi hij hj hd=>?_,fun i j hi hj hd=>?_,fun i j hi hj hd=>?_⟩
 ·by_cases h1:j<2 * s * t
  ·rw [hm.mixed.out i (.inl (by omega)),hm.mixed.out j (.inl h1)]
   exact h.done i j hi hij h1 hd
  ·have h2:2 * s * t≤i:=by
    rcases Nat.lt_or_ge i (2 * s * t) with q|q
    ·have:=div_below hs2 q
     have:=div_above hs2 (show 2 * s * t≤j by omega)
     omega
    ·exact q
   exact hm.ord i j h2 hij hj
 ·rw [hm.mixed.out i (.inr hi),hm.mixed.out j (.inr (by omega))]
  exact h.ord i j (by omega) hij hj hd
 ·have key:∀ k,∃ k',g' k=g k'∧k' / (2 * s)=k / (2 * s)∧(k<n→k' < n):=by
   intro k
   by_cases q:2 * s * t≤k∧k<b
   ·obtain ⟨k',q1,q2,q3⟩:=hm.mixed.mem q.1 q.2
    exact ⟨k',q3,by rw [div_at q1 (by omega),div_at q.1 (by omega)],fun _=>by omega⟩
   ·exact ⟨k,hm.mixed.out k (by omega),rfl,id⟩
  obtain ⟨i',a1,a2,_⟩:=key i
  obtain ⟨j',b1,b2,b3⟩:=key j
  rw [a1,b1]
  exact h.apart2 i' j' (Nat.zero_le _) (b3 hj) (by omega)
 ·have hij:i<j:=by
   rcases Nat.lt_or_ge i j with q|q
   ·exact q
   ·have:=Nat.div_le_div_right (c:=s) q;omega
  rw [hm.mixed.out i (.inr hi),hm.mixed.out j (.inr (by omega))]
  exact h.apart i j (by omega) hj hd
theorem StB.last {f g:Nat→Dp} {s t n:Nat} (hs:0<s) (h:StB f g s (2 * s * t) n) (hn:n≤2 * s * t + s):BlkOrd g (2 * s) 0 n:=by
 have e1:2 * s * t=s * (2 * t):=by rw [Nat.mul_comm 2 s,Nat.mul_assoc]
 intro i j hi hij hj hd
 by_cases h1:j<2 * s * t
 ·exact h.done i j hi hij h1 hd
 ·have h2:2 * s * t≤i:=by
   rcases Nat.lt_or_ge i (2 * s * t) with q|q
   ·have:=div_below (show 0<2 * s by omega) q
    have:=div_above (show 0<2 * s by omega) (show 2 * s * t≤j by omega)
    omega
   ·exact q
  refine h.ord i j h2 hij hj ?_
  rw [e1] at h2 hn
  rw [div_at h2 (by omega),div_at (t:=2 * t) (by omega) (by omega)]
theorem blk_whole {g:Nat→Dp} {s n:Nat} (h:BlkOrd g s 0 n) (hn:n≤s):InOrd lsD g 0 n:=fun i j hi hij hj=>h i j hi hij hj (by rw [Nat.div_eq_of_lt (by omega),Nat.div_eq_of_lt (by omega)])
def insP (p:Str×Str):List (Str×Str)→List (Str×Str)
 | []=>[p]
 | x :: r=>if cmpS p.1 x.1<0 then p :: x :: r else x :: insP p r
def sortP (l:List (Str×Str)):List (Str×Str):=l.foldl (fun o p=>insP p o) []
def insD (p:Dp):List Dp→List Dp
 | []=>[p]
 | x :: r=>if lsD p x=true then p :: x :: r else x :: insD p r
theorem insD_perm (p:Dp):∀ l,(insD p l).Perm (p :: l)
 | []=>List.Perm.refl _
 | x :: r=>by
  unfold insD
  split
  ·exact List.Perm.refl _
  ·exact (List.Perm.cons _ (insD_perm p r)).trans (List.Perm.swap _ _ _)
theorem insD_sorted (p:Dp):∀ l,l.Pairwise (fun a b=>lsD b a=false)→(insD p l).Pairwise (fun a b=>lsD b a=false)
 | [],_=>by simp [insD]
 | x :: r,h=>by
  unfold insD
  rw [List.pairwise_cons] at h
  split
  ·rename_i hp
   refine List.pairwise_cons.2 ⟨fun y hy=>?_,List.pairwise_cons.2 h⟩
   rcases List.mem_cons.1 hy with e|e
   ·rw [e];exact lsD_weak.asymm _ _ hp
   ·exact lsD_weak.trans _ _ _ (lsD_weak.asymm _ _ hp) (h.1 y e)
  ·rename_i hp
   refine List.pairwise_cons.2 ⟨fun y hy=>?_,insD_sorted p r h.2⟩
   rcases List.mem_cons.1 ((insD_perm p r).mem_iff.1 hy) with e|e
   ·rw [e];simpa using hp
   ·exact h.1 y e
theorem insD_fst (p:Dp):∀ l,(∀ x ∈ l,x.2<p.2)→(insD p l).map (·.1)=insP p.1 (l.map (·.1))
 | [],_=>rfl
 | x :: r,h=>by
  unfold insD
  simp only [List.map_cons,insP]
  have e:=lsD_later (h x List.mem_cons_self)
  by_cases c:cmpS p.1.1 x.1.1<0
  ·rw [if_pos c,if_pos (by rw [e];exact decide_eq_true c)];rfl
  ·rw [if_neg c,if_neg (by rw [e,decide_eq_false c];decide)]
   rw [List.map_cons,insD_fst p r fun y hy=>h y (List.mem_cons_of_mem _ hy)]
theorem sortP_snoc (l:List (Str×Str)) (p:Str×Str):sortP (l ++ [p])=insP p (sortP l):=by simp [sortP]
theorem sorted_is {l:List (Str×Str)}:∀ (d:List Dp),d.Perm l.zipIdx→d.Pairwise (fun a b=>lsD b a=false)→d.map (·.1)=sortP l:=by
 suffices h:∃ d:List Dp,d.Perm l.zipIdx∧d.Pairwise (fun a b=>lsD b a=false)∧d.map (·.1)=sortP l by
  obtain ⟨d0,h1,h2,h3⟩:=h
  intro d hd hs
  have hp:d.Perm d0:=hd.trans h1.symm
  have:d=d0:=by
   refine List.Perm.eq_of_pairwise (le:=fun a b=>lsD b a=false) (fun a b ha hb h1' h2'=>?_) hs h2 hp
   rcases lsD_tri a b with q|q|q
   ·rw [q] at h2';cases h2'
   ·rw [q] at h1';cases h1'
   ·obtain ⟨x,i⟩:=a
    obtain ⟨y,j⟩:=b
    have m1:=hd.mem_iff.1 ha
    have m2:=h1.mem_iff.1 hb
    rw [List.mem_zipIdx_iff_getElem?] at m1 m2
    have:i=j:=q.2
    subst this
    rw [m1] at m2
    cases m2;rfl
  rw [this];exact h3
 generalize hn:l.length=n
 induction n generalizing l with
 | zero=>rw [List.eq_nil_of_length_eq_zero hn];exact ⟨[],List.Perm.refl _,List.Pairwise.nil,rfl⟩
 | succ n ih =>
  obtain ⟨l',p,rfl⟩:∃ l' p,l=l' ++ [p]:=⟨l.dropLast,l.getLast (by intro h;rw [h] at hn;simp at hn),by rw [List.dropLast_concat_getLast]⟩
  obtain ⟨d,h1,h2,h3⟩:=ih (l:=l') (by simpa using hn)
  refine ⟨insD (p,l'.length) d,(insD_perm _ _).trans ?_,insD_sorted _ _ h2,?_⟩
  ·rw [List.zipIdx_append]
   refine (List.Perm.cons _ h1).trans ?_
   simp only [List.zipIdx_cons,List.zipIdx_nil,Nat.zero_add]
   exact (List.perm_append_comm (l₁:=[(p,l'.length)]) (l₂:=l'.zipIdx))
  ·rw [insD_fst,h3,sortP_snoc]
   intro x hx
   have:=h1.mem_iff.1 hx
   obtain ⟨y,i⟩:=x
   rw [List.mem_zipIdx_iff_getElem?] at this
   exact (List.getElem?_eq_some_iff.1 this).1
def zipF (l:List (Str×Str)) (i:Nat):Dp:=(l.getD i ([],[]),i)
theorem zipF_list (l:List (Str×Str)):(List.range' 0 (l.length - 0)).map (zipF l)=l.zipIdx:=by
 rw [List.zipIdx_eq_zip_range',Nat.sub_zero]
 apply List.ext_getElem
 ·simp
 ·intro i h1 h2
  have h3:i<l.length:=by simpa using h1
  simp [zipF,List.getD_eq_getElem?_getD,h3]
theorem zipF_fresh (l:List (Str×Str)) (a b:Nat):Fresh (zipF l) a b:=fun _ _ _ h _=>h
theorem sort_end {l:List (Str×Str)} {g:Nat→Dp} (hm:Mixed (zipF l) g 0 l.length) (ho:InOrd lsD g 0 l.length):(List.range l.length).map (fun i=>(g i).1)=sortP l:=by
 have hp:=hm.perm
 rw [zipF_list] at hp
 have hs:((List.range' 0 (l.length - 0)).map g).Pairwise fun a b=>lsD b a=false:=by
  rw [List.pairwise_map,Nat.sub_zero]
  refine List.pairwise_iff_getElem.2 fun i j h1 h2 hij=>?_
  simp only [List.getElem_range',Nat.zero_add,Nat.one_mul]
  exact ho i j (Nat.zero_le _) hij (by simpa using h2)
 rw [← sorted_is _ hp hs,List.map_map,Nat.sub_zero,← List.range_eq_range']
 rfl
end Go.Proofs.Zt
end
section
namespace Go.Proofs.Zq
open Go.RowKit Go.Proofs.YtjghikkboekonaaGreatDoor Go.Proofs.Zw.PrintWords Go.Proofs.Zw.PrintLast
open Go.Proofs.Zt (sortP)
def isAttr (p:Str×Str):Bool:=([83,67,72,73,76,89,46,120,97,116,116,114,46]:Str).isPrefixOf p.1
def attrsM (l:List (Str×Str)):Str:=if printOk (sortP (l.filter isAttr))=true then printM (sortP (l.filter isAttr)) else []
end Go.Proofs.Zq
end
section
namespace Go.Proofs.Zq
open Go.RowKit Go.Proofs.Zw.PrintWords Go.Proofs.Zw.PrintLast Go.Proofs.Zw.PrintMore
open Go.Proofs.YtjghikkboekonaaGreatDoor (GL)
attribute [local go_sem] max2_int min2_int max_two min_two max_three min_three max_four min_four
def pq11.f (a0_0:ByteArray) (a0_1:ByteArray):Option (Bool):=(pq10.f a0_0 (⟨#[83,67,72,73,76,89,46,120,97,116,116,114,46]⟩:ByteArray)).bind fun t194=>(some (!t194))
set_option maxHeartbeats 8000000 in
set_option maxRecDepth 100000 in
theorem pq11.calls (a0_0:ByteArray) (a0_1:ByteArray) (r:Bool) (w:World) (h:pq11.f a0_0 a0_1=some r) :
  Calls Tryz.prog 173 #[.agg #[.string a0_0,.string a0_1]] w fun e w'=>e=.returned (.bool r)∧Below w.heap.size w w':=by
 have hu169:=Tryz.underlying169
 have HB:=pz4.mk (Below.refl w.heap.size w)
 have H:((pq10.f a0_0 (⟨#[83,67,72,73,76,89,46,120,97,116,116,114,46]⟩:ByteArray)).bind fun t194=>(some (!t194)))=some r:=h
 clear h
 replace H:=Option.bind_eq_some_iff.mp H
 obtain ⟨t194,A20,H⟩:=H
 replace H:(some (!t194))=some r:=H
 have A2:=pz4.mk A20
 clear A20
 obtain rfl:=Option.some.inj H
 go_enter Tryz.func173,Tryz.ntmps173
 go_wp2_with (first|((with_reducible refine gate_dst (N:=1) rfl ?_);refine box_event ?hg (N:=1) ?hd (cs:=#[.string a0_0,.string a0_1]) (t:=169) ?hr ?_;(case hd=>rfl);(case hg=>rfl);(case hr=>first|(go_simp;done)|(go_simp;rfl));intro gb193 hg w3 hbox hb;have n0_:=pz4.mk (below_step (by repeat (first|(with_reducible first|exact HB.out|apply pz3|apply pz1|apply pz2)|exact HB.out)) hb);have n1_:=pz4.mk (hbox);have n2_:=pz4.mk ((by rw [hg];exact (below_size (by repeat (first|(with_reducible first|exact HB.out|apply pz3|apply pz1|apply pz2)|exact HB.out))):w.heap.size≤gb193));have n3_:=pz4.mk ((by rw [hg];exact (below_size (by repeat (first|(with_reducible first|exact HB.out|apply pz3|apply pz1|apply pz2)|exact HB.out))):w.heap.size≤gb193));clear HB;have HB:=n0_;have BK193:=n1_;have GW193:=n2_;have GE193:=n3_;clear n0_ n1_ n2_ n3_;clear hb hbox hg;have hcz4_0:w3.cell? ⟨gb193,0,none⟩=some (.string a0_0):=(blk_cell BK193.out 0).trans rfl;have hcz4_1:w3.cell? ⟨gb193,1,none⟩=some (.string a0_1):=(blk_cell BK193.out 1).trans rfl;have hfz4_0:=pz7 BK193.out 0;have hfz4_1:=pz7 BK193.out 1)|((with_reducible refine pz8 (f:=102) rfl ?_);refine goesL_ (some 5) rfl rfl Tryz.func102 (by kernel_rfl) rfl #[.string a0_0,.string (⟨#[83,67,72,73,76,89,46,120,97,116,116,114,46]⟩:ByteArray)] rfl (by (try simp only [List.map_toArray,List.map_cons,List.map_nil]);first|done|rfl|(simp only [List.length_drop,List.length_take];rfl)) ?_;(with_reducible refine (pq10.calls a0_0 (⟨#[83,67,72,73,76,89,46,120,97,116,116,114,46]⟩:ByteArray) t194 _ A2.out).mono ?_);rintro e w' ⟨rfl,⟨nd,rfl⟩⟩;refine ⟨_,rfl,?_⟩))
 go_ret
 exact ⟨by first|rfl|(simp [pz6,pz5] <;> rfl)|(simp [*,pz6,pz5] <;> rfl),by repeat (first|(with_reducible first|exact HB.out|apply pz3|apply pz1|apply pz2|refine below_set ?_ GE193.out)|exact HB.out)⟩
def pq9.l0:Nat→List (S169)→Int→Int→Option (Int)
 | 0,_,_,_=>none
 | k + 1,x0,x7,x8=>if x8<x7 then (if 0≤x8 then (if x8<(x0.length:Int) then ((pq11.f ((rd_T169 x0 x8).f0) ((rd_T169 x0 x8).f1)).bind fun t196=>(if t196=true then (some x8) else (pq9.l0 k x0 x7 (wrap64 (x8 + 1))))) else (none)) else (none)) else (some (-1))
def pq9.f (k:Nat) (l0:List (S169)) (a1:Unit):Option (Int):=pq9.l0 k l0 (l0.length:Int) 0
set_option maxHeartbeats 8000000 in
set_option maxRecDepth 100000 in
theorem pq9.calls (k:Nat) (A0:Option Addr) (c0:Nat) (l0:List (S169)) (a1:Unit) (r:Int) (w:World) (hr0:Kd.C k169 w A0 l0.length l0) (hc0:l0.length≤c0) (h:pq9.f k l0 a1=some r) :
  Calls Tryz.prog 194 #[.slice A0 l0.length c0,.func (.func 173) #[] #[]] w fun e w'=>e=.returned (.int .i64 r)∧Below w.heap.size w w':=by
 have hu169:=Tryz.underlying169
 have HR0:=pz4.mk hr0
 have HC0:=pz4.mk hc0
 clear hr0 hc0
 have HB:=pz4.mk (Below.refl w.heap.size w)
 have H:(pq9.l0 k l0 (l0.length:Int) 0)=some r:=h
 clear h
 have H':=pz4.mk H
 clear H
 go_enter Tryz.func194,Tryz.ntmps194
 go_wp2
 go_loopg [8] k (fun kq v8 w'=>∃ (x8_1:Int),v8=.int .i64 x8_1∧pz4 (pq9.l0 kq l0 (l0.length:Int) x8_1=some r)∧pz4 (kq≤k)∧pz4 (Below w.heap.size w w'))
 case atStart=>exact ⟨(0),(by first|rfl|(simp;done)|(simp [*];done)),H',⟨Nat.le_refl _⟩,⟨by repeat (first|(with_reducible first|exact HB.out|apply pz3|apply pz1|apply pz2)|exact HB.out)⟩⟩
 case round =>
  clear H'
  try clear p2
  obtain ⟨x8_1,rfl,HA,HK1,HB⟩:=hrel
  cases gk with
  | zero=>exact absurd HA.out (by simp [pq9.l0])
  | succ k1 =>
   have H:=HA.out
   clear HA
   simp only [pq9.l0] at H
   by_cases c3:x8_1<(l0.length:Int)
   ·rw [if_pos c3] at H
    have c3b0:decide (x8_1<(l0.length:Int))=true:=decide_eq_true c3
    clear c3
    by_cases c4:0≤x8_1
    ·rw [if_pos c4] at H
     have c4b0:decide (0≤x8_1)=true:=decide_eq_true c4
     clear c4
     by_cases c5:x8_1<(l0.length:Int)
     ·rw [if_pos c5] at H
      have c5b0:decide (x8_1<(l0.length:Int))=true:=decide_eq_true c5
      clear c5
      replace H:=Option.bind_eq_some_iff.mp H
      obtain ⟨t196,A60,H⟩:=H
      replace H:(if t196=true then (some x8_1) else (pq9.l0 k1 l0 (l0.length:Int) (wrap64 (x8_1 + 1))))=some r:=H
      have A6:=pz4.mk A60
      clear A60
      by_cases c7:t196=true
      ·subst c7
       have H1:(some x8_1)=some r:=by rw [if_pos rfl] at H;exact H
       clear H
       have H:=H1
       clear H1
       obtain rfl:=Option.some.inj H
       have p195:0≤(x8_1:Int):=of_decide_eq_true (by first|(with_reducible assumption)|assumption)
       have q195:x8_1<(l0.length:Int):=of_decide_eq_true (by first|(with_reducible assumption)|assumption)
       obtain ⟨ad195,e195,hx195_0,hx195_1⟩:=at_T169 HR0.out x8_1 p195 q195
       cases e195
       replace hx195_0:=(HB.out.cell (World.block_lt_of_cell? w _ hx195_0)).trans hx195_0
       replace hx195_1:=(HB.out.cell (World.block_lt_of_cell? w _ hx195_1)).trans hx195_1
       replace p195:=eq_true p195
       replace q195:=eq_true q195
       go_wp2_with (first|(go_at_call 173;(with_reducible refine (pq11.calls ((rd_T169 l0 x8_1).f0) ((rd_T169 l0 x8_1).f1) true _ A6.out).mono ?_);rintro e w8 ⟨rfl,hb⟩;have n0_:=pz4.mk (below_step (by repeat (first|(with_reducible first|exact HB.out|apply pz3|apply pz1|apply pz2)|exact HB.out)) hb);clear HB;have HB:=n0_;clear n0_;(try clear hb);(try clear hb2);(try clear hk);(try clear hi)))
       go_ret
       exact ⟨by first|rfl|(simp [pz6,pz5] <;> rfl)|(simp [*,pz6,pz5] <;> rfl),by repeat (first|(with_reducible first|exact HB.out|apply pz3|apply pz1|apply pz2)|exact HB.out)⟩
      ·replace c7:=Bool.eq_false_iff.mpr c7
       subst c7
       have H1:(pq9.l0 k1 l0 (l0.length:Int) (wrap64 (x8_1 + 1)))=some r:=by rw [if_neg (show ¬ (false=true) by decide)] at H;exact H
       clear H
       have H:=H1
       clear H1
       have H':=pz4.mk H
       clear H
       have p195:0≤(x8_1:Int):=of_decide_eq_true (by first|(with_reducible assumption)|assumption)
       have q195:x8_1<(l0.length:Int):=of_decide_eq_true (by first|(with_reducible assumption)|assumption)
       obtain ⟨ad195,e195,hx195_0,hx195_1⟩:=at_T169 HR0.out x8_1 p195 q195
       cases e195
       replace hx195_0:=(HB.out.cell (World.block_lt_of_cell? w _ hx195_0)).trans hx195_0
       replace hx195_1:=(HB.out.cell (World.block_lt_of_cell? w _ hx195_1)).trans hx195_1
       replace p195:=eq_true p195
       replace q195:=eq_true q195
       go_wp2_with (first|(go_at_call 173;(with_reducible refine (pq11.calls ((rd_T169 l0 x8_1).f0) ((rd_T169 l0 x8_1).f1) false _ A6.out).mono ?_);rintro e w9 ⟨rfl,hb⟩;have n0_:=pz4.mk (below_step (by repeat (first|(with_reducible first|exact HB.out|apply pz3|apply pz1|apply pz2)|exact HB.out)) hb);clear HB;have HB:=n0_;clear n0_;(try clear hb);(try clear hb2);(try clear hk);(try clear hi)))
       go_roundg k1
       case measure=>have:=HK1.out;omega
       case rel=>exact ⟨(wrap64 (x8_1 + 1)),(by first|rfl|(simp;done)|(simp [*];done)),H',⟨by have:=HK1.out;omega⟩,⟨by repeat (first|(with_reducible first|exact HB.out|apply pz3|apply pz1|apply pz2)|exact HB.out)⟩⟩
     ·rw [if_neg c5] at H
      exact absurd H (by simp)
    ·rw [if_neg c4] at H
     exact absurd H (by simp)
   ·rw [if_neg c3] at H
    have c3b0:decide (x8_1<(l0.length:Int))=false:=decide_eq_false c3
    clear c3
    obtain rfl:=Option.some.inj H
    go_wp2
    go_ret
    exact ⟨by first|rfl|(simp [pz6,pz5] <;> rfl)|(simp [*,pz6,pz5] <;> rfl),by repeat (first|(with_reducible first|exact HB.out|apply pz3|apply pz1|apply pz2)|exact HB.out)⟩
end Go.Proofs.Zq
end
section
namespace Go.Proofs.Zq
open Go.RowKit Go.Proofs.YtjghikkboekonaaGreatDoor Go.Proofs.Zw.PrintWords Go.Proofs.Zw.PrintLast Go.Proofs.Zw.PrintMore
theorem del_f (p:Str×Str):pq11.f (B p.1) (B p.2)=some (!isAttr p):=by
 unfold pq11.f
 rw [show (⟨#[83,67,72,73,76,89,46,120,97,116,116,114,46]⟩:ByteArray)=B [83,67,72,73,76,89,46,120,97,116,116,114,46] from rfl,hp_f]
 rfl
theorem idx_l (l:List (Str×Str)) (hl:l.length≤1000000000):∀ d i,i + d=l.length→(∀ x ∈ l.take i,isAttr x=true) →
  ∃ r:Int,Ev (fun k=>pq9.l0 k (l.map ofPr) l.length i) r∧((r = -1∧∀ x ∈ l,isAttr x=true)∨∃ j,∃ h:j<l.length,r=(j:Nat)∧(∀ x ∈ l.take j,isAttr x=true)∧isAttr l[j]=false):=by
 intro d
 induction d with
 | zero =>
  intro i hi h
  refine ⟨-1,Ev.step (f:=fun _=>some (-1)) (fun k=>?_) (Ev.now _),.inl ⟨rfl,?_⟩⟩
  ·simp only [pq9.l0];rw [if_neg (by omega)]
  ·rwa [List.take_of_length_le (by omega)] at h
 | succ d ih =>
  intro i hi h
  have hlt:i<l.length:=by omega
  have hrd:rd_T169 (l.map ofPr) (i:Int)=ofPr l[i]:=by
   unfold rd_T169
   rw [show ((i:Nat):Int).toNat=i from rfl,List.getD_eq_getElem?_getD]
   simp [hlt]
  have hd:pq11.f (ofPr l[i]).f0 (ofPr l[i]).f1=some (!isAttr l[i]):=del_f l[i]
  cases ha:isAttr l[i] with
  | true =>
   obtain ⟨r,e,q⟩:=ih (i + 1) (by omega) (by
    intro x hx
    rw [List.take_succ_eq_append_getElem hlt] at hx
    rcases List.mem_append.1 hx with h1|h1
    ·exact h x h1
    ·rw [List.mem_singleton.1 h1];exact ha)
   refine ⟨r,Ev.step (fun k=>?_) e,q⟩
   simp only [pq9.l0,List.length_map]
   rw [if_pos (by omega),if_pos (by omega),if_pos (by omega),hrd,hd,ha]
   simp only [Option.bind_some]
   rw [if_neg (by decide),wrap_in (by omega) (by omega)]
   rfl
  | false =>
   refine ⟨(i:Nat),Ev.step (f:=fun _=>some ((i:Nat):Int)) (fun k=>?_) (Ev.now _),.inr ⟨i,hlt,rfl,h,ha⟩⟩
   simp only [pq9.l0,List.length_map]
   rw [if_pos (by omega),if_pos (by omega),if_pos (by omega),hrd,hd,ha]
   simp only [Option.bind_some]
   rw [if_pos (by decide)]
theorem idx_f (l:List (Str×Str)) (hl:l.length≤1000000000):∃ (k:Nat) (r:Int),pq9.f k (l.map ofPr) ()=some r∧((r = -1∧l.filter isAttr=l)∨∃ j,∃ h:j<l.length,r=(j:Nat)∧(l.take (j + 1)).filter isAttr=l.take j):=by
 obtain ⟨r,e,q⟩:=idx_l l hl l.length 0 (by omega) (fun x h=>by simp at h)
 obtain ⟨k,hk⟩:=e.rounds
 refine ⟨k,r,?_,?_⟩
 ·unfold pq9.f
  rw [List.length_map];exact hk
 ·rcases q with ⟨h1,h2⟩|⟨j,h,h1,h2,h3⟩
  ·exact .inl ⟨h1,List.filter_eq_self.2 h2⟩
  ·refine .inr ⟨j,h,h1,?_⟩
   rw [List.take_succ_eq_append_getElem h,List.filter_append,List.filter_eq_self.2 h2]
   simp [h3]
theorem del_call (w:World) (p:Str×Str):Calls Tryz.prog 173 #[.agg #[S p.1,S p.2]] w fun e w'=>e=.returned (.bool (!isAttr p))∧Below w.heap.size w w':=pq11.calls (B p.1) (B p.2) _ w (del_f p)
theorem del_call' (w:World) (p:Str×Str) (b:Bool) (h:isAttr p=b):Calls Tryz.prog 173 #[.agg #[S p.1,S p.2]] w fun e w'=>e=.returned (.bool (!b))∧Below w.heap.size w w':=by subst h;exact del_call w p
def prZero:Array Value:=#[S [],S []]
theorem prC_all (p:Str×Str):(prC p).toArray.all (·.oneCell')=true:=by simp [prC,Value.oneCell']
set_option maxRecDepth 100000 in
set_option maxHeartbeats 1000000 in
theorem delp_calls (w:World) (base g cap:Nat) (l:List (Str×Str)) (ho:Owr prC 169 2 base w (.slice (some ⟨g,0,none⟩) l.length cap) l) (hl:l.length≤100000000) :
  Calls Tryz.prog 171 #[.slice (some ⟨g,0,none⟩) l.length cap,.func (.func 173) #[] #[]] w fun e w' =>
   e=.returned (.slice (some ⟨g,0,none⟩) (l.filter isAttr).length cap)∧Owr prC 169 2 base w' (.slice (some ⟨g,0,none⟩) (l.filter isAttr).length cap) (l.filter isAttr)∧w.grownBy w' (some g):=by
 obtain ⟨k,r,hf,hr⟩:=idx_f l (by omega)
 have HO:=Lib.hid ho
 have HL:=Lib.hid hl
 have HF:=Lib.hid hf
 have HR:=Lib.hid hr
 obtain ⟨cur,hbg,_,hlc,hcm,_,_⟩:=own_blk ho
 have HCM:=Lib.hid hcm
 have HLC:=Lib.hid hlc
 have HC:Hid (Kd.C k169 w (some ⟨g,0,none⟩) (l.map ofPr).length (l.map ofPr)):=Lib.hid (pr_C (by rw [prs_back];exact ho.row prC_len) (by rw [List.length_map];omega))
 clear ho hl hf hr hcm hlc hbg
 have h110:=Tryz.underlying169
 go_enter Tryz.func171,Tryz.ntmps171
 go_wp2_with fail
 have hcall:=pq9.calls k (some ⟨g,0,none⟩) cap (l.map ofPr) () r w HC.out (by rw [List.length_map];exact HLC.out) HF.out
 rw [List.length_map] at hcall
 refine hcall.mono ?_
 rintro e w1 ⟨rfl,hb1⟩
 have HB1:=Lib.hid hb1
 clear hb1 hcall HC HF
 rcases HR.out with ⟨hr1,hall⟩|⟨i0,hi0,hr1,hi1⟩
 ·subst hr1
  have HALL:=Lib.hid hall
  clear hall HR
  have hne:((-1:Int) == -1)=true:=by decide
  go_wp2_with fail
  go_ret
  refine ⟨by rw [HALL.out];rfl,by rw [HALL.out];exact HO.out.ext HB1.out,?_⟩
  have hb:=HB1.out
  exact ⟨hb.os,hb.tape,hb.output,hb.size,fun k hk _=>hb.block k hk⟩
 ·subst hr1
  have HI1:=Lib.hid hi1
  have HI0:=Lib.hid hi0
  have hne:((i0:Int) == -1)=false:=by simp
  clear HR hi1
  have hlm:=HL.out
  go_wp2_with fail
  clear hne
  have HO1:=Lib.hid (HO.out.ext HB1.out)
  have HG1:Hid (w.grownBy w1 (some g)):=Lib.hid (by
   have hb:=HB1.out
   exact ⟨hb.os,hb.tape,hb.output,hb.size,fun k hk _=>hb.block k hk⟩)
  go_loopg [5,6] (l.length + 1) (fun gg v5 v6 wr=>∃ (i j:Nat) (xs:List (Str×Str)),v5=.int .i64 i∧v6=.int .i64 j∧l.length<gg + j∧j≤l.length∧i<j∧Hid (xs.length=l.length)∧Hid (xs.take i=(l.take j).filter isAttr)∧Hid (xs.drop j=l.drop j) ∧
   Hid (Owr prC 169 2 base wr (.slice (some ⟨g,0,none⟩) xs.length cap) xs)∧Hid (w.grownBy wr (some g)))
  case atStart=>exact ⟨i0,i0 + 1,l,rfl,by go_num,by omega,by omega,by omega,Lib.hid rfl,Lib.hid HI1.out.symm,Lib.hid rfl,HO1,HG1⟩
  case round =>
   obtain ⟨i,j,xs,rfl,rfl,hgj,hjl,hij,HX,HT,HD,HOW,HG⟩:=hrel
   by_cases hj:j<l.length
   ·cases gk with
    | zero=>omega
    | succ g1 =>
     have hjx:j<xs.length:=by rw [HX.out];exact hj
     have hlies:=own_lies prC_len HOW.out hjx
     have hxl:xs[j]=l[j]:=by
      have:(xs.drop j)[0]?=(l.drop j)[0]?:=by rw [HD.out]
      rw [List.getElem?_drop,List.getElem?_drop,Nat.add_zero,List.getElem?_eq_getElem hjx,List.getElem?_eq_getElem hj] at this
      exact Option.some.inj this
     rw [hxl] at hlies
     have HFI:Hid ((l.take (j + 1)).filter isAttr=(l.take j).filter isAttr ++ if isAttr l[j]=true then [l[j]] else []):=Lib.hid (by
      rw [List.take_succ_eq_append_getElem hj,List.filter_append]
      cases h:isAttr l[j] <;> simp [h])
     generalize hp:l[j]=p at hlies HFI
     have HLI:=Lib.hid hlies
     have HPX:Hid (xs[j]'hjx=p):=Lib.hid (hxl.trans hp)
     clear hlies hxl hp
     go_wp2_with (first|((with_reducible refine gate_dst (N:=25) rfl ?_);refine wpList_load_mid rfl 169 _ rfl g (j * 2) rfl (prC p) _ HLI.out h110 rfl rfl ?_;go_frame)|((with_reducible refine gate_dst (N:=7) rfl ?_);refine box_event rfl (N:=7) rfl (cs:=prZero) (t:=169) ?hr ?_;(case hr=>first|(go_simp;done)|(go_simp;rfl));intro g7 hg w7 hb2 hbl2;have HB7:=Lib.hid hb2;have HBL7:=Lib.hid hbl2;have HGE7:Hid (wr.heap.size≤g7):=Lib.hid (by rw [hg];exact Nat.le_refl _);clear hg hb2 hbl2;go_frame)|((with_reducible refine gate_store (t:=169) (p:=7) rfl ?_);refine wpList_store_agg rfl rfl 169 _ _ rfl g7 (prC p).toArray rfl rfl 169 prZero HB7.out rfl rfl (prC_all _) ?_;intro w8 hb3 hg3;have HB8:=Lib.hid hb3;have HBL8:Hid (Below wr.heap.size wr w8):=Lib.hid (HBL7.out.grown hg3 HBL7.out.size (fun j hj=>by cases hj;exact HGE7.out));clear hb3 hg3)|((with_reducible refine gate_dst (N:=27) rfl ?_);refine wpList_load_agg rfl 169 _ rfl _ rfl (prC p) _ (lies_of HB8.out) h110 rfl rfl ?_;go_frame))
     cases hia:isAttr p with
     | false =>
      rw [hia] at HFI
      refine (del_call' _ p false hia).mono ?_
      rintro e w9 ⟨rfl,hb9⟩
      have HB9:Hid (Below wr.heap.size wr w9):=Lib.hid (YtjghikkboekonaaGreatDoor.below_then HBL8.out hb9)
      clear hb9 hia
      have HTN:Hid (xs.take i=(l.take (j + 1)).filter isAttr):=Lib.hid (by rw [HFI.out,HT.out];simp)
      have HDN:Hid (xs.drop (j + 1)=l.drop (j + 1)):=Lib.hid (by rw [← List.drop_drop,HD.out,List.drop_drop])
      have HOWN:=Lib.hid (HOW.out.ext HB9.out)
      have HGN:=Lib.hid (grown_below HG.out HB9.out)
      go_wp2_with fail
      go_roundg g1
      case measure=>omega
      case rel=>exact ⟨i,j + 1,xs,rfl,by go_num,by omega,by omega,by omega,HX,HTN,HDN,HOWN,HGN⟩
     | true =>
      rw [hia] at HFI
      refine (del_call' _ p true hia).mono ?_
      rintro e w9 ⟨rfl,hb9⟩
      have HB9:Hid (Below wr.heap.size wr w9):=Lib.hid (YtjghikkboekonaaGreatDoor.below_then HBL8.out hb9)
      have HB89:=Lib.hid (blk_below HB8.out hb9)
      clear hb9 hia
      have hix:i<xs.length:=by rw [HX.out];omega
      have HTN:Hid ((xs.set i p).take (i + 1)=(l.take (j + 1)).filter isAttr):=Lib.hid (by
       rw [HFI.out,← HT.out,List.take_succ_eq_append_getElem (by rw [List.length_set];exact hix),List.getElem_set_self,List.take_set_of_le (Nat.le_refl _)];rfl)
      have HDN:Hid ((xs.set i p).drop (j + 1)=l.drop (j + 1)):=Lib.hid (by rw [List.drop_set_of_lt (by omega),← List.drop_drop,HD.out,List.drop_drop])
      have HXN:Hid ((xs.set i p).length=l.length):=Lib.hid (by rw [List.length_set];exact HX.out)
      have HOW9:=Lib.hid (HOW.out.ext HB9.out)
      have hth:=own_there HOW9.out (i * 2) 2 (by have:=HLC.out;have:=HX.out;omega)
      have HOWN:=Lib.hid (own_put prC_len HOW9.out hix p)
      have HTH:=Lib.hid hth
      clear hth hix
      have hil:i<l.length:=by omega
      go_wp2_with (first|((with_reducible refine gate_dst (N:=32) rfl ?_);refine wpList_load_agg rfl 169 _ rfl _ rfl (prC p) _ (lies_of HB89.out) h110 rfl rfl ?_;go_frame)|((with_reducible refine gate_store (t:=169) (p:=33) rfl ?_);refine wpList_store_mid rfl 169 _ _ rfl g (i * 2) (prC p).toArray rfl rfl HTH.out rfl (prC_all _) ?_;have HG10:Hid (w.grownBy (w9.setCells g (i * 2) (prC p)) (some g)):=Lib.hid (grown_trans' (grown_below HG.out HB9.out) (setCells_grown _ _ _ _));change wpList _ _ _ _ _ (w9.setCells g (i * 2) (prC p));generalize w9.setCells g (i * 2) (prC p)=w10 at HG10 HOWN ⊢))
      go_roundg g1
      case measure=>omega
      case rel=>exact ⟨i + 1,j + 1,xs.set i p,by go_num,by go_num,by omega,by omega,by omega,HXN,HTN,HDN,HOWN,HG10⟩
   ·have he:j=l.length:=by omega
    subst he
    have HTE:Hid (xs.take i=l.filter isAttr):=Lib.hid (by have:=HT.out;rwa [List.take_of_length_le (Nat.le_refl _)] at this)
    have hcap:l.length≤cap:=HLC.out
    have hcm:=HCM.out
    unfold maxLen at hcm
    have hci:¬ cap=i:=by omega
    have hmax:HL.out=HL.out:=rfl
    clear hmax
    have HIX:Hid (i≤xs.length):=Lib.hid (by rw [HX.out];omega)
    have HFL:Hid ((l.filter isAttr).length=i):=Lib.hid (by rw [← HTE.out,List.length_take];have:=HIX.out;omega)
    have hth:=own_there HOW.out (i * 2) ((l.length - i) * 2) (by omega)
    have hcl:=fun ty=>run_clear_row (P:=Tryz.prog) wr 145 169 ty (.agg #[S [],S []]) Tryz.underlying145 (fun _=>by kernel_rfl) (by intro v hv;simp [Value.cells] at hv;rcases hv with rfl|rfl <;> rfl) g (i * 2) (l.length - i) (cap - i) (by omega) (by simpa [Value.cells] using hth)
    have HOWC:=Lib.hid (own_cut prC_len HOW.out HIX.out (Builtin.zeroCells (Value.agg #[S [],S []]).cells (l.length - i)).toList (by rw [zero_cells];show i * 2 + (l.length - i) * 2≤cap * 2;omega))
    have HGC:Hid (w.grownBy (wr.setCells g (i * 2) (Builtin.zeroCells (Value.agg #[S [],S []]).cells (l.length - i)).toList) (some g)):=Lib.hid (grown_trans' HG.out (setCells_grown _ _ _ _))
    generalize (Builtin.zeroCells (Value.agg #[S [],S []]).cells (l.length - i)).toList=zs at hcl HOWC HGC
    clear hth
    go_wp2_with fail
    go_ret
    have hown:=HOWC.out
    rw [HTE.out] at hown
    exact ⟨by rw [HFL.out];rfl,hown,HGC.out⟩
end Go.Proofs.Zq
end
section
namespace Go.Proofs.Zq
open Go.RowKit Go.Proofs.Zw.PrintWords Go.Proofs.Zw.PrintLast Go.Proofs.Zw.PrintMore
open Go.Proofs.YtjghikkboekonaaGreatDoor (GL)
attribute [local go_sem] max2_int min2_int max_two min_two max_three min_three max_four min_four
def pq12.f (a0_0:ByteArray) (a0_1:ByteArray) (a1_0:ByteArray) (a1_1:ByteArray):Option (Int):=(strings_Compare.f a0_0 a1_0).bind fun t208=>(some t208)
set_option maxHeartbeats 8000000 in
set_option maxRecDepth 100000 in
theorem pq12.calls (a0_0:ByteArray) (a0_1:ByteArray) (a1_0:ByteArray) (a1_1:ByteArray) (r:Int) (w:World) (h:pq12.f a0_0 a0_1 a1_0 a1_1=some r) :
  Calls Tryz.prog 175 #[.agg #[.string a0_0,.string a0_1],.agg #[.string a1_0,.string a1_1]] w fun e w'=>e=.returned (.int .i64 r)∧Below w.heap.size w w':=by
 have hu169:=Tryz.underlying169
 have HB:=pz4.mk (Below.refl w.heap.size w)
 have H:((strings_Compare.f a0_0 a1_0).bind fun t208=>(some t208))=some r:=h
 clear h
 replace H:=Option.bind_eq_some_iff.mp H
 obtain ⟨t208,A30,H⟩:=H
 replace H:(some t208)=some r:=H
 have A3:=pz4.mk A30
 clear A30
 obtain rfl:=Option.some.inj H
 go_enter Tryz.func175,Tryz.ntmps175
 go_wp2_with (first|((with_reducible refine gate_dst (N:=2) rfl ?_);refine box_event ?hg (N:=2) ?hd (cs:=#[.string a0_0,.string a0_1]) (t:=169) ?hr ?_;(case hd=>rfl);(case hg=>rfl);(case hr=>first|(go_simp;done)|(go_simp;rfl));intro gb206 hg w4 hbox hb;have n0_:=pz4.mk (below_step (by repeat (first|(with_reducible first|exact HB.out|apply pz3|apply pz1|apply pz2)|exact HB.out)) hb);have n1_:=pz4.mk (hbox);have n2_:=pz4.mk ((by rw [hg];exact (below_size (by repeat (first|(with_reducible first|exact HB.out|apply pz3|apply pz1|apply pz2)|exact HB.out))):w.heap.size≤gb206));have n3_:=pz4.mk ((by rw [hg];exact (below_size (by repeat (first|(with_reducible first|exact HB.out|apply pz3|apply pz1|apply pz2)|exact HB.out))):w.heap.size≤gb206));clear HB;have HB:=n0_;have BK206:=n1_;have GW206:=n2_;have GE206:=n3_;clear n0_ n1_ n2_ n3_;clear hb hbox hg)|((with_reducible refine gate_dst (N:=3) rfl ?_);refine box_event ?hg (N:=3) ?hd (cs:=#[.string a1_0,.string a1_1]) (t:=169) ?hr ?_;(case hd=>rfl);(case hg=>rfl);(case hr=>first|(go_simp;done)|(go_simp;rfl));intro gb207 hg w5 hbox hb;have n0_:=pz4.mk (blk_below (g:=gb206) (o:=.cells #[.string a0_0,.string a0_1] 169 (0,0)) (by (with_reducible repeat (first|refine blk_drewN ?_ _|refine blk_drew ?_|refine blk_alloc ?_ _));exact BK206.out) hb);have n1_:=pz4.mk (below_step (by repeat (first|(with_reducible first|exact HB.out|apply pz3|apply pz1|apply pz2|refine below_set ?_ GE206.out)|exact HB.out)) hb);have n2_:=pz4.mk (hbox);have n3_:=pz4.mk ((by rw [hg];exact (below_size (by repeat (first|(with_reducible first|exact HB.out|apply pz3|apply pz1|apply pz2|refine below_set ?_ GE206.out)|exact HB.out))):w.heap.size≤gb207));have n4_:=pz4.mk ((by rw [hg];exact (below_size (by repeat (first|(with_reducible first|exact HB.out|apply pz3|apply pz1|apply pz2|refine below_set ?_ GE206.out)|exact HB.out))):w.heap.size≤gb207));have n5_:=pz4.mk ((by rw [hg];exact Nat.ne_of_lt (blk_lt (g:=gb206) (o:=.cells #[.string a0_0,.string a0_1] 169 (0,0)) (by (with_reducible repeat (first|refine blk_drewN ?_ _|refine blk_drew ?_|refine blk_alloc ?_ _));exact BK206.out)):gb206≠gb207));have n6_:=pz4.mk ((by rw [hg];exact Nat.ne_of_gt (blk_lt (g:=gb206) (o:=.cells #[.string a0_0,.string a0_1] 169 (0,0)) (by (with_reducible repeat (first|refine blk_drewN ?_ _|refine blk_drew ?_|refine blk_alloc ?_ _));exact BK206.out)):gb207≠gb206));clear BK206;clear HB;have BK206:=n0_;have HB:=n1_;have BK207:=n2_;have GW207:=n3_;have GE207:=n4_;have NB206_207:=n5_;have NB207_206:=n6_;clear n0_ n1_ n2_ n3_ n4_ n5_ n6_;clear hb hbox hg;have hnb6:=NB206_207.out;have hnc6:=NB207_206.out;have hcz7_0:w5.cell? ⟨gb206,0,none⟩=some (.string a0_0):=(blk_cell BK206.out 0).trans rfl;have hcz7_1:w5.cell? ⟨gb206,1,none⟩=some (.string a0_1):=(blk_cell BK206.out 1).trans rfl;have hfz7_0:=pz7 BK206.out 0;have hfz7_1:=pz7 BK206.out 1;have hcz8_0:w5.cell? ⟨gb207,0,none⟩=some (.string a1_0):=(blk_cell BK207.out 0).trans rfl;have hcz8_1:w5.cell? ⟨gb207,1,none⟩=some (.string a1_1):=(blk_cell BK207.out 1).trans rfl;have hfz8_0:=pz7 BK207.out 0;have hfz8_1:=pz7 BK207.out 1)|((with_reducible refine pz8 (f:=69) rfl ?_);refine goesL_ (some 9) rfl rfl Tryz.func69 (by kernel_rfl) rfl #[.string a0_0,.string a1_0] rfl (by (try simp only [List.map_toArray,List.map_cons,List.map_nil]);first|done|rfl|(simp only [List.length_drop,List.length_take];rfl)) ?_;(with_reducible refine (strings_Compare.calls a0_0 a1_0 t208 _ A3.out).mono ?_);rintro e w' ⟨rfl,⟨nd,rfl⟩⟩;refine ⟨_,rfl,?_⟩))
 go_ret
 exact ⟨by first|rfl|(simp [pz6,pz5] <;> rfl)|(simp [*,pz6,pz5] <;> rfl),by repeat (first|(with_reducible first|exact HB.out|apply pz3|apply pz1|apply pz2|refine below_set ?_ GE206.out|refine below_set ?_ GE207.out)|exact HB.out)⟩
mutual
def pq0.l0:Nat→List (S169)→Int→Int→Int→Option ((List (S169)))
 | 0,_,_,_,_=>none
 | k + 1,x0,x1,x2,x8=>if x8<x2 then (pq0.l1 k x0 x1 x2 x8 x8) else (some x0)
def pq0.l1:Nat→List (S169)→Int→Int→Int→Int→Option ((List (S169)))
 | 0,_,_,_,_,_=>none
 | k + 1,x0,x1,x2,x8,x9=>if x9 > x1 then (if 0≤x9 then (if x9<(x0.length:Int) then (if 0≤(wrap64 (x9 - 1)) then (if (wrap64 (x9 - 1))<(x0.length:Int) then ((pq12.f ((rd_T169 x0 x9).f0) ((rd_T169 x0 x9).f1) ((rd_T169 x0 (wrap64 (x9 - 1))).f0) ((rd_T169 x0 (wrap64 (x9 - 1))).f1)).bind fun t211=>(if t211<0 then (pq0.l1 k ((x0.set (x9:Int).toNat (⟨(rd_T169 x0 (wrap64 (x9 - 1))).f0,(rd_T169 x0 (wrap64 (x9 - 1))).f1⟩:S169)).set ((wrap64 (x9 - 1)):Int).toNat (⟨(rd_T169 x0 x9).f0,(rd_T169 x0 x9).f1⟩:S169)) x1 x2 x8 (wrap64 (x9 - 1))) else (pq0.l0 k x0 x1 x2 (wrap64 (x8 + 1))))) else (none)) else (none)) else (none)) else (none)) else (pq0.l0 k x0 x1 x2 (wrap64 (x8 + 1)))
end
def pq0.f (k:Nat) (l0:List (S169)) (a1:Int) (a2:Int) (a3:Unit):Option ((List (S169))):=pq0.l0 k l0 a1 a2 (wrap64 (a1 + 1))
def pq0.T4:Bool×List (List Nat×List Nat):=(true,[([],[]),([],[]),([0,1],[0,1]),([2],[2]),([3],[3]),([3],[3]),([3],[3]),([5,6,3],[3,5,6]),([7,3],[3,7]),([3],[3]),([3],[3]),([10,3],[3,10]),([9,11,3],[3,9,11]),([12,3],[3,12]),([4,8,13,3,3],[3,4,8,13]),([14,3],[3,14]),([3,15],[3,15])])
def pq0.B4:List Nat:=[0,0,3,7,15,15,15,111,239,15,15,1039,3599,7695,16383,32767,65535]
theorem pq0.tab4:rtab .any (opsOf Tryz.f206 4)=pq0.T4:=by kernel_rfl
theorem pq0.bits4:waitsOk pq0.T4.2 pq0.B4=true:=by kernel_rfl
def pq0.T6:Bool×List (List Nat×List Nat):=(true,[([],[]),([],[]),([],[]),([],[]),([3],[3]),([],[]),([],[]),([6],[6]),([5,7],[5,7]),([8],[8]),([],[]),([],[]),([10,11],[10,11]),([12],[12]),([0,1,0,1,5,6,7,8,9,13],[0,1]),([14,9,0,1,5,6,7,8,9,13],[9,14]),([2,4,0,1,2,3,4,5,6,7,8,9,10,11,12,13,14,15],[2,4]),([16,13,15,0,1,2,3,4,5,6,7,8,9,10,11,12,13,14,15],[13,16])])
def pq0.B6:List Nat:=[0,0,0,0,8,0,0,64,224,480,0,0,3072,7168,16355,32739,65535,131071]
theorem pq0.tab6:rtab .any (opsOf Tryz.f206 6)=pq0.T6:=by kernel_rfl
theorem pq0.bits6:waitsOk pq0.T6.2 pq0.B6=true:=by kernel_rfl
set_option maxHeartbeats 8000000 in
set_option maxRecDepth 100000 in
theorem pq0.calls (k:Nat) (P0_:Nat→Prop) (u9000_:Value) (l0:List (S169)) (a1:Int) (a2:Int) (a3:Unit) (r:List (S169)) (w0 w:World) (hB:Below w0.heap.size w0 w) (ho0:Kd.R k169 169 w w0.heap.size P0_ u9000_ l0) (h:pq0.f k l0 a1 a2 a3=some r) :
  Calls Tryz.prog 206 #[u9000_,.int .i64 a1,.int .i64 a2,.func (.func 175) #[] #[]] w fun e w'=>e=.returned (.tuple #[])∧Kd.R k169 169 w' w0.heap.size (fun k_=>(P0_ k_∨w.heap.size≤k_)) u9000_ r∧Below w0.heap.size w0 w'∧Kept w w' (fun k_=>P0_ k_):=by
 have hu169:=Tryz.underlying169
 have HO0:=pz4.mk (show Kd.R k169 169 w w0.heap.size (fun k_=>(P0_ k_∨w.heap.size≤k_)) u9000_ l0 from Kd.R_mono ho0 (fun k_ hk=>(.inl hk)))
 have HK:=pz4.mk (Kept.refl w (fun k_=>P0_ k_))
 have HW0:=pz4.mk hB.size
 have HB:=pz4.mk hB
 clear hB
 have H:(pq0.l0 k l0 a1 a2 (wrap64 (a1 + 1)))=some r:=h
 clear h
 have H':=pz4.mk H
 clear H
 go_enter Tryz.func206,Tryz.ntmps206
 go_wp2
 go_loopg [8] k (fun kq v8 w'=>∃ (x0_1:List (S169)) (x8_1:Int),v8=.int .i64 x8_1∧pz4 (pq0.l0 kq x0_1 a1 a2 x8_1=some r)∧pz4 (kq≤k)∧pz4 (Kd.R k169 169 w' w0.heap.size (fun k_=>(P0_ k_∨w.heap.size≤k_)) u9000_ x0_1)∧pz4 (Kept w w' (fun k_=>P0_ k_))∧pz4 (Below w0.heap.size w0 w'))
 case atStart=>exact ⟨(l0),(wrap64 (a1 + 1)),(by first|rfl|(simp;done)|(simp [*];done)),H',⟨Nat.le_refl _⟩,⟨by (with_reducible repeat (first|apply Kd.R_alloc|apply Kd.R_drewN|apply Kd.R_drew));exact HO0.out⟩,⟨by repeat (first|(with_reducible first|exact HK.out|apply Kept.alloc|apply Kept.drewN|apply Kept.drew)|exact HK.out)⟩,⟨by repeat (first|(with_reducible first|exact HB.out|apply pz3|apply pz1|apply pz2)|exact HB.out)⟩⟩
 case round =>
  clear H'
  try clear p2
  obtain ⟨x0_1,x8_1,rfl,HA,HK1,HO_0,HK,HB⟩:=hrel
  cases gk with
  | zero=>exact absurd HA.out (by simp [pq0.l0])
  | succ k1 =>
   have H:=HA.out
   clear HA
   simp only [pq0.l0] at H
   by_cases c5:x8_1<a2
   ·rw [if_pos c5] at H
    have c5b0:decide (x8_1<a2)=true:=decide_eq_true c5
    clear c5
    have H':=pz4.mk H
    clear H
    go_wp2
    go_loopg [9] k1 (fun kq v9 w'=>∃ (x0_2:List (S169)) (x9_2:Int),v9=.int .i64 x9_2∧pz4 (pq0.l1 kq x0_2 a1 a2 x8_1 x9_2=some r)∧pz4 (kq≤k1)∧pz4 (Kd.R k169 169 w' w0.heap.size (fun k_=>(P0_ k_∨w.heap.size≤k_)) u9000_ x0_2)∧pz4 (Kept w w' (fun k_=>P0_ k_))∧pz4 (Below w0.heap.size w0 w'))
    case atStart=>exact ⟨(x0_1),(x8_1),(by first|rfl|(simp;done)|(simp [*];done)),H',⟨Nat.le_refl _⟩,⟨by (with_reducible repeat (first|apply Kd.R_alloc|apply Kd.R_drewN|apply Kd.R_drew));exact HO_0.out⟩,⟨by repeat (first|(with_reducible first|exact HK.out|apply Kept.alloc|apply Kept.drewN|apply Kept.drew)|exact HK.out)⟩,⟨by repeat (first|(with_reducible first|exact HB.out|apply pz3|apply pz1|apply pz2)|exact HB.out)⟩⟩
    case round =>
     clear H'
     try clear p2;try clear c5;try clear c5b0;try clear p2
     obtain ⟨x0_2,x9_2,rfl,HA,HK2,HO_0,HK,HB⟩:=hrel
     cases gk with
     | zero=>exact absurd HA.out (by simp [pq0.l1])
     | succ k2 =>
      have H:=HA.out
      clear HA
      simp only [pq0.l1] at H
      by_cases c6:x9_2 > a1
      ·rw [if_pos c6] at H
       have c6b0:decide (a1<x9_2)=true:=decide_eq_true c6
       clear c6
       by_cases c7:0≤x9_2
       ·rw [if_pos c7] at H
        have c7b0:decide (0≤x9_2)=true:=decide_eq_true c7
        clear c7
        by_cases c8:x9_2<(x0_2.length:Int)
        ·rw [if_pos c8] at H
         have c8b0:decide (x9_2<(x0_2.length:Int))=true:=decide_eq_true c8
         clear c8
         obtain ⟨ji9,hji9⟩:∃ j_:Int,(wrap64 (x9_2 - 1))=j_:=⟨_,rfl⟩
         replace H:(if 0≤(ji9) then (if (ji9)<(x0_2.length:Int) then ((pq12.f ((rd_T169 x0_2 x9_2).f0) ((rd_T169 x0_2 x9_2).f1) ((rd_T169 x0_2 (ji9)).f0) ((rd_T169 x0_2 (ji9)).f1)).bind fun t211=>(if t211<0 then (pq0.l1 k2 ((x0_2.set (x9_2:Int).toNat (⟨(rd_T169 x0_2 (ji9)).f0,(rd_T169 x0_2 (ji9)).f1⟩:S169)).set ((ji9):Int).toNat (⟨(rd_T169 x0_2 x9_2).f0,(rd_T169 x0_2 x9_2).f1⟩:S169)) a1 a2 x8_1 ji9) else (pq0.l0 k2 x0_2 a1 a2 (wrap64 (x8_1 + 1))))) else (none)) else (none))=some r:=by first|(rw [hji9] at H;exact H)|(simp only [hji9] at H ⊢;exact H)
         have hji9w:(IntKind.i64.wrap (x9_2 - 1))=ji9:=(i64_w _).trans hji9
         by_cases c10:0≤(ji9)
         ·rw [if_pos c10] at H
          have c10b0:decide (0≤(ji9))=true:=decide_eq_true c10
          clear c10
          by_cases c11:(ji9)<(x0_2.length:Int)
          ·rw [if_pos c11] at H
           have c11b0:decide ((ji9)<(x0_2.length:Int))=true:=decide_eq_true c11
           clear c11
           replace H:=Option.bind_eq_some_iff.mp H
           obtain ⟨t211,A120,H⟩:=H
           replace H:(if t211<0 then (pq0.l1 k2 ((x0_2.set (x9_2:Int).toNat (⟨(rd_T169 x0_2 (ji9)).f0,(rd_T169 x0_2 (ji9)).f1⟩:S169)).set ((ji9):Int).toNat (⟨(rd_T169 x0_2 x9_2).f0,(rd_T169 x0_2 x9_2).f1⟩:S169)) a1 a2 x8_1 ji9) else (pq0.l0 k2 x0_2 a1 a2 (wrap64 (x8_1 + 1))))=some r:=H
           have A12:=pz4.mk A120
           clear A120
           by_cases c13:t211<0
           ·rw [if_pos c13] at H
            have c13b0:decide (t211<0)=true:=decide_eq_true c13
            clear c13
            obtain ⟨y214,hy214⟩:∃ y_:List (S169),y_=(x0_2.set (x9_2:Int).toNat (⟨(rd_T169 x0_2 (ji9)).f0,(rd_T169 x0_2 (ji9)).f1⟩:S169)):=⟨_,rfl⟩
            replace H:(pq0.l1 k2 (y214.set ((ji9):Int).toNat (⟨(rd_T169 x0_2 x9_2).f0,(rd_T169 x0_2 x9_2).f1⟩:S169)) a1 a2 x8_1 ji9)=some r:=by first|(rw [hy214];with_reducible exact H)|(have H2_:=(Option.bind_some _ _).symm.trans H;rw [hy214];with_reducible exact H2_)|(have H2_:=(Option.bind_some _ _).symm.trans H;with_reducible exact H2_)|with_reducible exact H|(rw [hy214];exact H)|exact H
            have Ny214:=pz4.mk hy214
            clear hy214
            obtain ⟨y215,hy215⟩:∃ y_:List (S169),y_=(y214.set ((ji9):Int).toNat (⟨(rd_T169 x0_2 x9_2).f0,(rd_T169 x0_2 x9_2).f1⟩:S169)):=⟨_,rfl⟩
            replace H:(pq0.l1 k2 y215 a1 a2 x8_1 ji9)=some r:=by first|(rw [hy215];with_reducible exact H)|(have H2_:=(Option.bind_some _ _).symm.trans H;rw [hy215];with_reducible exact H2_)|(have H2_:=(Option.bind_some _ _).symm.trans H;with_reducible exact H2_)|with_reducible exact H|(rw [hy215];exact H)|exact H
            have Ny215:=pz4.mk hy215
            clear hy215
            have H':=pz4.mk H
            clear H
            try go_wp2
            have n0_:=pz4.mk (Kd.R_drew HO_0.out)
            have n1_:=pz4.mk (Kept.drew HK.out)
            have n2_:=pz4.mk (pz2 HB.out)
            clear HO_0
            clear HK
            clear HB
            have HO_0:=n0_
            have HK:=n1_
            have HB:=n2_
            clear n0_ n1_ n2_
            obtain ⟨Ao17,co17,eo17⟩:=Kd.R_slice HO_0.out
            (first|subst eo17|(injection eo17 with f1_ f2_ f3_;have f4_:=f1_.symm;have f5_:=f3_.symm;clear f1_ f2_ f3_;subst f4_;subst f5_))
            have p209:0≤(x9_2:Int):=of_decide_eq_true (by first|(with_reducible assumption)|assumption)
            have q209:x9_2<(x0_2.length:Int):=of_decide_eq_true (by first|(with_reducible assumption)|assumption)
            obtain ⟨ad209,e209,hx209_0,hx209_1⟩:=at_T169 (Kd.R_reads' HO_0.out).2.2 x9_2 p209 q209
            cases e209
            replace p209:=eq_true p209
            replace q209:=eq_true q209
            have p210:0≤((ji9):Int):=of_decide_eq_true (by first|(with_reducible assumption)|assumption)
            have q210:(ji9)<(x0_2.length:Int):=of_decide_eq_true (by first|(with_reducible assumption)|assumption)
            obtain ⟨ad210,e210,hx210_0,hx210_1⟩:=at_T169 (Kd.R_reads' HO_0.out).2.2 (ji9) p210 q210
            obtain rfl:ad209=ad210:=(by injection e210)
            replace p210:=eq_true p210
            replace q210:=eq_true q210
            refine start_ (n:=17) (S:=fun w'=>w'.cell? (ad209.add ((x9_2).toNat * 2))=some (.string ((rd_T169 x0_2 x9_2).f0))∧w'.cell? ⟨(ad209.add ((x9_2).toNat * 2)).block,(ad209.add ((x9_2).toNat * 2)).off + 1,none⟩=some (.string ((rd_T169 x0_2 x9_2).f1))∧w'.cell? (ad209.add (((ji9)).toNat * 2))=some (.string ((rd_T169 x0_2 (ji9)).f0))∧w'.cell? ⟨(ad209.add (((ji9)).toNat * 2)).block,(ad209.add (((ji9)).toNat * 2)).off + 1,none⟩=some (.string ((rd_T169 x0_2 (ji9)).f1))) (ds:=[]) (bm 17 0) (by kernel_rfl) rfl rfl ⟨hx209_0,hx209_1,hx210_0,hx210_1⟩ (fun hHeld=>?_);refine with_tabW pq0.tab4 pq0.bits4 (fun HT_ HW_=>?_)
            generalize wr.drew=w16 at HO_0 HK HB hx209_0 hx209_1 hx210_0 hx210_1 hHeld ⊢
            refine pT 0 18 ?_ (bm 17 1) HT_.out rfl rfl (by kernel_rfl) (fun _ _ _=>id) (by rfl) ?_ ?_ ?_ ?_
            rotate_left
            ·intro w'
             go_simp
             with_reducible rfl
            rotate_left
            ·simp only [aP,i64_w,i32_w]
             rfl
            refine pT 1 19 ?_ (bm 17 3) HT_.out rfl rfl (by kernel_rfl) (fun _ _ _=>id) (by rfl) ?_ ?_ ?_ ?_
            rotate_left
            ·intro w'
             go_simp
             with_reducible rfl
            rotate_left
            ·simp only [aP,i64_w,i32_w]
             rfl
            refine pT 2 20 ?_ (bm 17 7) HT_.out rfl rfl (by kernel_rfl) (fun _ _ _=>id) (by rfl) ?_ ?_ ?_ ?_
            rotate_left
            ·intro w'
             go_simp
             with_reducible rfl
            rotate_left
            ·simp only [aP,i64_w,i32_w]
             rfl
            refine pT 3 21 ?_ (bm 17 15) HT_.out rfl rfl (by kernel_rfl) (fun _ _ _=>id) (by rfl) ?_ ?_ ?_ ?_
            rotate_left
            ·intro w'
             go_simp
             with_reducible rfl
            rotate_left
            ·simp only [aP,i64_w,i32_w]
             rfl
            refine pT 4 22 ?_ (bm 17 31) HT_.out rfl rfl (by kernel_rfl) (fun _ _ _=>id) (by rfl) ?_ ?_ ?_ ?_
            rotate_left
            ·intro w'
             go_simp
             with_reducible rfl
            rotate_left
            ·simp only [aP,i64_w,i32_w]
             rfl
            refine pT 5 23 ?_ (bm 17 63) HT_.out rfl rfl (by kernel_rfl) (fun _ _ _=>id) (by rfl) ?_ ?_ ?_ ?_
            rotate_left
            ·intro w'
             go_simp
             with_reducible rfl
            rotate_left
            ·simp only [aP,i64_w,i32_w]
             rfl
            refine pT 6 24 ?_ (bm 17 127) HT_.out rfl rfl (by kernel_rfl) (fun _ _ _=>id) (by rfl) ?_ ?_ ?_ ?_
            rotate_left
            ·intro w'
             go_simp
             with_reducible rfl
            rotate_left
            ·simp only [aP,i64_w,i32_w]
             rfl
            refine pT 7 25 ?_ (bm 17 255) HT_.out rfl rfl (by kernel_rfl) (fun _ _ _=>id) (by rfl) ?_ ?_ ?_ ?_
            rotate_left
            ·intro w'
             go_simp
             with_reducible rfl
            rotate_left
            ·simp only [aP,i64_w,i32_w]
             rfl
            refine pT 9 27 ?_ (bm 17 767) HT_.out rfl rfl (by kernel_rfl) (fun _ _ _=>id) (by rfl) ?_ ?_ ?_ ?_
            rotate_left
            ·intro w'
             go_simp
             with_reducible rfl
            rotate_left
            ·simp only [aP,i64_w,i32_w]
             rfl
            refine pT 10 28 ?_ (bm 17 1791) HT_.out rfl rfl (by kernel_rfl) (fun _ _ _=>id) (by rfl) ?_ ?_ ?_ ?_
            rotate_left
            ·intro w'
             go_simp
             with_reducible rfl
            rotate_left
            ·simp only [aP,i64_w,i32_w]
             rfl
            refine pT 11 29 ?_ (bm 17 3839) HT_.out rfl rfl (by kernel_rfl) (fun _ _ _=>id) (by rfl) ?_ ?_ ?_ ?_
            rotate_left
            ·intro w'
             go_simp
             with_reducible rfl
            rotate_left
            ·simp only [aP,i64_w,i32_w]
             rfl
            refine pT 12 30 ?_ (bm 17 7935) HT_.out rfl rfl (by kernel_rfl) (fun _ _ _=>id) (by rfl) ?_ ?_ ?_ ?_
            rotate_left
            ·intro w'
             go_simp
             with_reducible rfl
            rotate_left
            ·simp only [aP,i64_w,i32_w]
             rfl
            refine take_ (i:=8) (N:=some 26) (v:=?_) (a':=?_) (bm 17 8191) rfl rfl (take_ofW HT_.out HW_.out (by kernel_rfl)) (fun _ _ _ h=>h) (Or.inl ⟨by rfl,?_⟩) hHeld ?_ ?_
            rotate_left
            ·rintro w' ⟨s0,s1,s2,s3⟩
             go_simp
             with_reducible rfl
            rotate_left
            ·simp only [aP,i64_w,i32_w]
             rfl
            refine take_ (i:=13) (N:=some 31) (v:=?_) (a':=?_) (bm 17 16383) rfl rfl (take_ofW HT_.out HW_.out (by kernel_rfl)) (fun _ _ _ h=>h) (Or.inl ⟨by rfl,?_⟩) hHeld ?_ ?_
            rotate_left
            ·rintro w' ⟨s0,s1,s2,s3⟩
             go_simp
             with_reducible rfl
            rotate_left
            ·simp only [aP,i64_w,i32_w]
             rfl
            refine one_ (i:=14) (N:=some 32) (bm 17 32767) rfl rfl (one_of HT_.out (by kernel_rfl)) (by decide) (fun K hK=>?_)
            refine goesV_ Tryz.func175 (by kernel_rfl) rfl #[.agg #[.string ((rd_T169 x0_2 x9_2).f0),.string ((rd_T169 x0_2 x9_2).f1)],.agg #[.string ((rd_T169 x0_2 (ji9)).f0),.string ((rd_T169 x0_2 (ji9)).f1)]] (by rfl) rfl ⟨_,rfl,rfl⟩ (by (try simp only [List.map_toArray,List.map_cons,List.map_nil]);first|done|(simp only [hji9];rfl)|rfl|(simp only [List.length_drop,List.length_take];rfl)) ?_
            with_reducible refine (pq12.calls ((rd_T169 x0_2 x9_2).f0) ((rd_T169 x0_2 x9_2).f1) ((rd_T169 x0_2 (ji9)).f0) ((rd_T169 x0_2 (ji9)).f1) t211 _ A12.out).mono ?_
            rintro e w18 ⟨rfl,hb⟩
            have HS0_:=(hb.cell (World.block_lt_of_cell? _ _ (hHeld.1))).trans (hHeld.1)
            have HS1_:=(hb.cell (World.block_lt_of_cell? _ _ (hHeld.2.1))).trans (hHeld.2.1)
            have HS2_:=(hb.cell (World.block_lt_of_cell? _ _ (hHeld.2.2.1))).trans (hHeld.2.2.1)
            have HS3_:=(hb.cell (World.block_lt_of_cell? _ _ (hHeld.2.2.2))).trans (hHeld.2.2.2)
            refine ⟨_,rfl,?_⟩
            have n0_:=pz4.mk (Kd.R_below (by (with_reducible repeat (first|apply Kd.R_alloc|apply Kd.R_drewN|apply Kd.R_drew));exact HO_0.out) hb)
            have n1_:=pz4.mk (Kept.below (S:=(fun k_=>P0_ k_)) (by repeat (first|(with_reducible first|exact HK.out|apply Kept.alloc|apply Kept.drewN|apply Kept.drew)|exact HK.out)) hb)
            have n2_:=pz4.mk (below_step (by repeat (first|(with_reducible first|exact HB.out|apply pz3|apply pz1|apply pz2)|exact HB.out)) hb)
            clear HO_0
            clear HK
            clear HB
            have HO_0:=n0_
            have HK:=n1_
            have HB:=n2_
            clear n0_ n1_ n2_
            (try clear hb)
            (try clear hb2)
            (try clear hk)
            (try clear hi)
            refine hK.out _ _ ⟨HS0_,HS1_,HS2_,HS3_⟩ (fun hHeld=>?_)
            clear hK K
            refine norm_ (a':=?_) ?_ ?_
            rotate_left
            ·show Act.put _ (some 32) _=_
             simp only [aP,i64_w,i32_w]
             rfl
            refine pT 15 33 ?_ (bm 17 65535) HT_.out rfl rfl (by kernel_rfl) (fun _ _ _=>id) (by rfl) ?_ ?_ ?_ ?_
            rotate_left
            ·intro w'
             go_simp
             with_reducible rfl
            rotate_left
            ·simp only [aP,i64_w,i32_w]
             rfl
            refine pT 16 34 ?_ (bm 17 131071) HT_.out rfl rfl (by kernel_rfl) (fun _ _ _=>id) (by rfl) ?_ ?_ ?_ ?_
            rotate_left
            ·intro w'
             go_simp
             with_reducible rfl
            rotate_left
            ·simp only [aP,i64_w,i32_w]
             rfl
            refine done_ (done_of HT_.out (by kernel_rfl)) ?_
            try go_wp2
            have n0_:=pz4.mk (Kd.R_drew HO_0.out)
            have n1_:=pz4.mk (Kept.drew HK.out)
            have n2_:=pz4.mk (pz2 HB.out)
            clear HO_0
            clear HK
            clear HB
            have HO_0:=n0_
            have HK:=n1_
            have HB:=n2_
            clear n0_ n1_ n2_
            have p212:0≤((ji9):Int):=of_decide_eq_true (by first|(with_reducible assumption)|assumption)
            have q212:(ji9)<(x0_2.length:Int):=of_decide_eq_true (by first|(with_reducible assumption)|assumption)
            obtain ⟨ad212,e212,hx212_0,hx212_1⟩:=at_T169 (Kd.R_reads' HO_0.out).2.2 (ji9) p212 q212
            obtain rfl:ad209=ad212:=(by injection e212)
            replace p212:=eq_true p212
            replace q212:=eq_true q212
            have p213:0≤(x9_2:Int):=of_decide_eq_true (by first|(with_reducible assumption)|assumption)
            have q213:x9_2<(x0_2.length:Int):=of_decide_eq_true (by first|(with_reducible assumption)|assumption)
            obtain ⟨ad213,e213,hx213_0,hx213_1⟩:=at_T169 (Kd.R_reads' HO_0.out).2.2 x9_2 p213 q213
            obtain rfl:ad209=ad213:=(by injection e213)
            replace p213:=eq_true p213
            replace q213:=eq_true q213
            have p14:0≤(x9_2:Int):=of_decide_eq_true (by first|(with_reducible assumption)|assumption)
            have q14:(x9_2:Int)<((x0_2.length:Int):Int):=of_decide_eq_true (by first|(with_reducible assumption)|assumption)
            obtain ⟨go14,co14,eo14,gb14,gl14,cl14,HG14⟩:=Kd.R_form HO_0.out (by omega)
            (first|cases eo14|(injection eo14 with ea_ en_ ec_;(first|subst ea_|(injection ea_ with ea_;subst ea_));subst ec_;clear en_))
            have GB14:=pz4.mk gb14
            have GG14:=pz4.mk HG14
            clear gb14 gl14 HG14
            have HMgo14:=pz4.mk (show (P0_ go14∨w.heap.size≤go14) from (HO_0.out.1 _ rfl))
            (first|simp only [add_plain] at hx209_0|skip)
            (first|simp only [add_plain] at hx209_1|skip)
            (first|simp only [add_plain] at hx210_0|skip)
            (first|simp only [add_plain] at hx210_1|skip)
            (first|simp only [add_plain] at hx212_0|skip)
            (first|simp only [add_plain] at hx212_1|skip)
            (first|simp only [add_plain] at hx213_0|skip)
            (first|simp only [add_plain] at hx213_1|skip)
            obtain ⟨ce14,hcl14,hM14,hcc14,hfr14⟩:=Kd.R_elem HO_0.out z169 (x9_2:Int) p14 q14
            obtain rfl:=k169_openM hM14
            have hx14_0:World.cell? _ ⟨go14,(x9_2:Int).toNat * 2,none⟩=some (.string ((rd_T169 x0_2 x9_2).f0)):=hcc14 0 _ rfl
            have hx14_1:World.cell? _ ⟨go14,(x9_2:Int).toNat * 2 + 1,none⟩=some (.string ((rd_T169 x0_2 x9_2).f1)):=hcc14 1 _ rfl
            have hf14_0:World.frozen? _ ⟨go14,(x9_2:Int).toNat * 2,none⟩=false:=hfr14 0
            have hf14_1:World.frozen? _ ⟨go14,(x9_2:Int).toNat * 2 + 1,none⟩=false:=hfr14 1
            clear hcl14 hcc14 hfr14 hM14
            replace p14:=eq_true p14
            replace q14:=eq_true q14
            obtain ⟨ce20,hcl20,hM20,hcc20,hfr20⟩:=Kd.R_elem HO_0.out z169 (x9_2:Int) (of_decide_eq_true (by first|(with_reducible assumption)|assumption)) (by have h_:(x9_2:Int)<((x0_2.length:Int):Int):=of_decide_eq_true (by first|(with_reducible assumption)|assumption);first|exact h_|(have e_:=(Kd.R_reads' HO_0.out).1;omega)|simpa using h_)
            obtain rfl:=k169_openM hM20
            have HP20:=(Kd.R_seg HO_0.out (x9_2:Int) (of_decide_eq_true (by first|(with_reducible assumption)|assumption)) (by have h_:(x9_2:Int)<((x0_2.length:Int):Int):=of_decide_eq_true (by first|(with_reducible assumption)|assumption);first|exact h_|(have e_:=(Kd.R_reads' HO_0.out).1;omega)|simpa using h_) (seg:=[.string ((rd_T169 x0_2 (ji9)).f0),.string ((rd_T169 x0_2 (ji9)).f1)]) (j:=0) hcl20 hcc20 (show 2≤2 from by decide) (x':=(⟨(rd_T169 x0_2 (ji9)).f0,(rd_T169 x0_2 (ji9)).f1⟩:S169)) (k169_mkM _ _ _ (⟨(rd_T169 x0_2 (ji9)).f0,(rd_T169 x0_2 (ji9)).f1⟩:S169) ) (fun _ hk=>hk)).1
            rw [← Ny214.out] at HP20
            have HQ20:=pz4.mk HP20
            clear hcl20 hcc20 hfr20 hM20 HP20
            have p15:0≤((ji9):Int):=of_decide_eq_true (by first|(with_reducible assumption)|assumption)
            have q15:((ji9):Int)<((x0_2.length:Int):Int):=of_decide_eq_true (by first|(with_reducible assumption)|assumption)
            obtain ⟨ce15,hcl15,hM15,hcc15,hfr15⟩:=Kd.R_elem HQ20.out z169 ((ji9):Int) p15 q15
            obtain rfl:=k169_openM hM15
            have hx15_0:World.cell? _ ⟨go14,((ji9):Int).toNat * 2,none⟩=some (.string ((rd_T169 y214 (ji9)).f0)):=hcc15 0 _ rfl
            have hx15_1:World.cell? _ ⟨go14,((ji9):Int).toNat * 2 + 1,none⟩=some (.string ((rd_T169 y214 (ji9)).f1)):=hcc15 1 _ rfl
            have hf15_0:World.frozen? _ ⟨go14,((ji9):Int).toNat * 2,none⟩=false:=hfr15 0
            have hf15_1:World.frozen? _ ⟨go14,((ji9):Int).toNat * 2 + 1,none⟩=false:=hfr15 1
            clear hcl15 hcc15 hfr15 hM15
            replace p15:=eq_true p15
            replace q15:=eq_true q15
            obtain ⟨ce21,hcl21,hM21,hcc21,hfr21⟩:=Kd.R_elem HQ20.out z169 ((ji9):Int) (of_decide_eq_true (by first|(with_reducible assumption)|assumption)) (by have h_:((ji9):Int)<((x0_2.length:Int):Int):=of_decide_eq_true (by first|(with_reducible assumption)|assumption);first|exact h_|(have e_:=(Kd.R_reads' HO_0.out).1;omega)|simpa using h_)
            obtain rfl:=k169_openM hM21
            have HP21:=(Kd.R_seg HQ20.out ((ji9):Int) (of_decide_eq_true (by first|(with_reducible assumption)|assumption)) (by have h_:((ji9):Int)<((x0_2.length:Int):Int):=of_decide_eq_true (by first|(with_reducible assumption)|assumption);first|exact h_|(have e_:=(Kd.R_reads' HO_0.out).1;omega)|simpa using h_) (seg:=[.string ((rd_T169 x0_2 x9_2).f0),.string ((rd_T169 x0_2 x9_2).f1)]) (j:=0) hcl21 hcc21 (show 2≤2 from by decide) (x':=(⟨(rd_T169 x0_2 x9_2).f0,(rd_T169 x0_2 x9_2).f1⟩:S169)) (k169_mkM _ _ _ (⟨(rd_T169 x0_2 x9_2).f0,(rd_T169 x0_2 x9_2).f1⟩:S169) ) (fun _ hk=>hk)).1
            rw [← Ny215.out] at HP21
            have HQ21:=pz4.mk HP21
            clear hcl21 hcc21 hfr21 hM21 HP21
            refine start_ (n:=18) (S:=fun w'=>w'.cell? ⟨go14,(((ji9)).toNat * 2),none⟩=some (.string ((rd_T169 x0_2 (ji9)).f0))∧w'.cell? ⟨go14,(((ji9)).toNat * 2) + 1,none⟩=some (.string ((rd_T169 x0_2 (ji9)).f1))∧w'.cell? ⟨go14,((x9_2).toNat * 2),none⟩=some (.string ((rd_T169 x0_2 x9_2).f0))∧w'.cell? ⟨go14,((x9_2).toNat * 2) + 1,none⟩=some (.string ((rd_T169 x0_2 x9_2).f1))) (ds:=[15,17]) (bm 18 0) (by kernel_rfl) rfl rfl ⟨hx212_0,hx212_1,hx213_0,hx213_1⟩ (fun hHeld=>?_);refine with_tabW pq0.tab6 pq0.bits6 (fun HT_ HW_=>?_)
            generalize w18.drew=w19 at HO_0 HK HB GG14 HQ20 HQ21 hf14_0 hf14_1 hf15_0 hf15_1 hx14_0 hx14_1 hx15_0 hx15_1 hx209_0 hx209_1 hx210_0 hx210_1 hx212_0 hx212_1 hx213_0 hx213_1 hHeld ⊢
            refine pT 0 37 ?_ (bm 18 1) HT_.out rfl rfl (by kernel_rfl) (fun _ _ _=>id) (by rfl) ?_ ?_ ?_ ?_
            rotate_left
            ·intro w'
             go_simp
             with_reducible rfl
            rotate_left
            ·simp only [aP,i64_w,i32_w]
             rfl
            refine pT 1 38 ?_ (bm 18 3) HT_.out rfl rfl (by kernel_rfl) (fun _ _ _=>id) (by rfl) ?_ ?_ ?_ ?_
            rotate_left
            ·intro w'
             go_simp
             with_reducible rfl
            rotate_left
            ·simp only [aP,i64_w,i32_w]
             rfl
            refine pT 2 39 ?_ (bm 18 7) HT_.out rfl rfl (by kernel_rfl) (fun _ _ _=>id) (by rfl) ?_ ?_ ?_ ?_
            rotate_left
            ·intro w'
             go_simp
             with_reducible rfl
            rotate_left
            ·simp only [aP,i64_w,i32_w]
             rfl
            refine pT 3 40 ?_ (bm 18 15) HT_.out rfl rfl (by kernel_rfl) (fun _ _ _=>id) (by rfl) ?_ ?_ ?_ ?_
            rotate_left
            ·intro w'
             go_simp
             with_reducible rfl
            rotate_left
            ·simp only [aP,i64_w,i32_w]
             rfl
            refine pT 4 41 ?_ (bm 18 31) HT_.out rfl rfl (by kernel_rfl) (fun _ _ _=>id) (by rfl) ?_ ?_ ?_ ?_
            rotate_left
            ·intro w'
             go_simp
             with_reducible rfl
            rotate_left
            ·simp only [aP,i64_w,i32_w]
             rfl
            refine pT 5 42 ?_ (bm 18 63) HT_.out rfl rfl (by kernel_rfl) (fun _ _ _=>id) (by rfl) ?_ ?_ ?_ ?_
            rotate_left
            ·intro w'
             go_simp
             with_reducible rfl
            rotate_left
            ·simp only [aP,i64_w,i32_w]
             rfl
            refine pT 6 43 ?_ (bm 18 127) HT_.out rfl rfl (by kernel_rfl) (fun _ _ _=>id) (by rfl) ?_ ?_ ?_ ?_
            rotate_left
            ·intro w'
             go_simp
             with_reducible rfl
            rotate_left
            ·simp only [aP,i64_w,i32_w]
             rfl
            refine pT 7 44 ?_ (bm 18 255) HT_.out rfl rfl (by kernel_rfl) (fun _ _ _=>id) (by rfl) ?_ ?_ ?_ ?_
            rotate_left
            ·intro w'
             go_simp
             with_reducible rfl
            rotate_left
            ·simp only [aP,i64_w,i32_w]
             rfl
            refine pT 8 45 ?_ (bm 18 511) HT_.out rfl rfl (by kernel_rfl) (fun _ _ _=>id) (by rfl) ?_ ?_ ?_ ?_
            rotate_left
            ·intro w'
             go_simp
             with_reducible rfl
            rotate_left
            ·simp only [aP,i64_w,i32_w]
             rfl
            refine pT 10 47 ?_ (bm 18 1535) HT_.out rfl rfl (by kernel_rfl) (fun _ _ _=>id) (by rfl) ?_ ?_ ?_ ?_
            rotate_left
            ·intro w'
             go_simp
             with_reducible rfl
            rotate_left
            ·simp only [aP,i64_w,i32_w]
             rfl
            refine pT 11 48 ?_ (bm 18 3583) HT_.out rfl rfl (by kernel_rfl) (fun _ _ _=>id) (by rfl) ?_ ?_ ?_ ?_
            rotate_left
            ·intro w'
             go_simp
             with_reducible rfl
            rotate_left
            ·simp only [aP,i64_w,i32_w]
             rfl
            refine pT 12 49 ?_ (bm 18 7679) HT_.out rfl rfl (by kernel_rfl) (fun _ _ _=>id) (by rfl) ?_ ?_ ?_ ?_
            rotate_left
            ·intro w'
             go_simp
             with_reducible rfl
            rotate_left
            ·simp only [aP,i64_w,i32_w]
             rfl
            refine take_ (i:=9) (N:=some 46) (v:=?_) (a':=?_) (bm 18 8191) rfl rfl (take_ofW HT_.out HW_.out (by kernel_rfl)) (fun _ _ _ h=>h) (Or.inl ⟨by rfl,?_⟩) hHeld ?_ ?_
            rotate_left
            ·rintro w' ⟨s0,s1,s2,s3⟩
             go_simp
             with_reducible rfl
            rotate_left
            ·simp only [aP,i64_w,i32_w]
             rfl
            refine take_ (i:=13) (N:=some 50) (v:=?_) (a':=?_) (bm 18 16383) rfl rfl (take_ofW HT_.out HW_.out (by kernel_rfl)) (fun _ _ _ h=>h) (Or.inl ⟨by rfl,?_⟩) hHeld ?_ ?_
            rotate_left
            ·rintro w' ⟨s0,s1,s2,s3⟩
             go_simp
             with_reducible rfl
            rotate_left
            ·simp only [aP,i64_w,i32_w]
             rfl
            refine pT 14 51 ?_ (bm 18 32767) HT_.out rfl rfl (by kernel_rfl) (fun _ _ _=>id) (by rfl) ?_ ?_ ?_ ?_
            rotate_left
            ·intro w'
             go_simp
             with_reducible rfl
            rotate_left
            ·simp only [aP,i64_w,i32_w]
             rfl
            refine last_ (i:=15) (N:=none) (bm 18 65535) rfl rfl (one_of HT_.out (by kernel_rfl)) (by decide) (fun K hK=>?_)
            refine skip_ (w1:=?_) (by rfl) rfl ?_ ?_
            rotate_left
            ·go_simp
             rfl
            refine hK.out _ _ ?_
            clear hK K
            refine pT 16 52 ?_ (bm 18 131071) HT_.out rfl rfl (by kernel_rfl) (fun _ _ _=>id) (by rfl) ?_ ?_ ?_ ?_
            rotate_left
            ·intro w'
             go_simp
             with_reducible rfl
            rotate_left
            ·simp only [aP,i64_w,i32_w]
             rfl
            obtain ⟨vy14_0_0,hy14_0_0⟩:=cell?_setCell_some (p:=⟨go14,((x9_2).toNat * 2),none⟩) (x:=(.string ((rd_T169 x0_2 (ji9)).f0))) hx212_0
            have hz14_0:=pz7 GG14.out ((((ji9)).toNat * 2))
            obtain ⟨vy14_1_0,hy14_1_0⟩:=cell?_setCell_some (p:=⟨go14,((x9_2).toNat * 2),none⟩) (x:=(.string ((rd_T169 x0_2 (ji9)).f0))) hx212_1
            obtain ⟨vy14_1_1,hy14_1_1⟩:=cell?_setCell_some (p:=⟨go14,((x9_2).toNat * 2) + 1,none⟩) (x:=(.string ((rd_T169 x0_2 (ji9)).f1))) hy14_1_0
            clear hy14_1_0
            have hz14_1:=pz7 GG14.out ((((ji9)).toNat * 2) + 1)
            refine last_ (i:=17) (N:=none) (bm 18 262143) rfl rfl (one_of HT_.out (by kernel_rfl)) (by decide) (fun K hK=>?_)
            refine skip_ (w1:=?_) (by rfl) rfl ?_ ?_
            rotate_left
            ·go_simp
             rfl
            refine hK.out _ _ ?_
            clear hK K
            refine done_ (done_of HT_.out (by kernel_rfl)) ?_
            try go_wp2
            go_roundg k2
            case measure=>have:=HK1.out;have:=HK2.out;omega
            case rel=>exact ⟨(y215),(ji9),(by first|rfl|(simp;done)|(simp only [← hji9] <;> (first|rfl|simp))|(simp [*];done)),H',⟨by have:=HK1.out;have:=HK2.out;omega⟩,⟨by (with_reducible repeat (first|apply Kd.R_alloc|apply Kd.R_drewN|apply Kd.R_drew));exact HQ21.out⟩,⟨by repeat (first|(with_reducible first|exact HK.out|apply Kept.alloc|apply Kept.drewN|apply Kept.drew|refine Kept.setCell ?_ HMgo14.out _|refine Kept.setCell ?_ HMgo14.out _|refine Kept.setCell ?_ HMgo14.out _|refine Kept.setCell ?_ HMgo14.out _)|exact HK.out)⟩,⟨by repeat (first|(with_reducible first|exact HB.out|apply pz3|apply pz1|apply pz2|refine below_set ?_ GB14.out|refine below_set ?_ GB14.out|refine below_set ?_ GB14.out|refine below_set ?_ GB14.out)|exact HB.out)⟩⟩
           ·rw [if_neg c13] at H
            have c13b0:decide (t211<0)=false:=decide_eq_false c13
            clear c13
            have H':=pz4.mk H
            clear H
            try go_wp2
            have n0_:=pz4.mk (Kd.R_drew HO_0.out)
            have n1_:=pz4.mk (Kept.drew HK.out)
            have n2_:=pz4.mk (pz2 HB.out)
            clear HO_0
            clear HK
            clear HB
            have HO_0:=n0_
            have HK:=n1_
            have HB:=n2_
            clear n0_ n1_ n2_
            obtain ⟨Ao23,co23,eo23⟩:=Kd.R_slice HO_0.out
            (first|subst eo23|(injection eo23 with f1_ f2_ f3_;have f4_:=f1_.symm;have f5_:=f3_.symm;clear f1_ f2_ f3_;subst f4_;subst f5_))
            have p209:0≤(x9_2:Int):=of_decide_eq_true (by first|(with_reducible assumption)|assumption)
            have q209:x9_2<(x0_2.length:Int):=of_decide_eq_true (by first|(with_reducible assumption)|assumption)
            obtain ⟨ad209,e209,hx209_0,hx209_1⟩:=at_T169 (Kd.R_reads' HO_0.out).2.2 x9_2 p209 q209
            cases e209
            replace p209:=eq_true p209
            replace q209:=eq_true q209
            have p210:0≤((ji9):Int):=of_decide_eq_true (by first|(with_reducible assumption)|assumption)
            have q210:(ji9)<(x0_2.length:Int):=of_decide_eq_true (by first|(with_reducible assumption)|assumption)
            obtain ⟨ad210,e210,hx210_0,hx210_1⟩:=at_T169 (Kd.R_reads' HO_0.out).2.2 (ji9) p210 q210
            obtain rfl:ad209=ad210:=(by injection e210)
            replace p210:=eq_true p210
            replace q210:=eq_true q210
            refine start_ (n:=17) (S:=fun w'=>w'.cell? (ad209.add ((x9_2).toNat * 2))=some (.string ((rd_T169 x0_2 x9_2).f0))∧w'.cell? ⟨(ad209.add ((x9_2).toNat * 2)).block,(ad209.add ((x9_2).toNat * 2)).off + 1,none⟩=some (.string ((rd_T169 x0_2 x9_2).f1))∧w'.cell? (ad209.add (((ji9)).toNat * 2))=some (.string ((rd_T169 x0_2 (ji9)).f0))∧w'.cell? ⟨(ad209.add (((ji9)).toNat * 2)).block,(ad209.add (((ji9)).toNat * 2)).off + 1,none⟩=some (.string ((rd_T169 x0_2 (ji9)).f1))) (ds:=[]) (bm 17 0) (by kernel_rfl) rfl rfl ⟨hx209_0,hx209_1,hx210_0,hx210_1⟩ (fun hHeld=>?_);refine with_tabW pq0.tab4 pq0.bits4 (fun HT_ HW_=>?_)
            generalize wr.drew=w22 at HO_0 HK HB hx209_0 hx209_1 hx210_0 hx210_1 hHeld ⊢
            refine pT 0 18 ?_ (bm 17 1) HT_.out rfl rfl (by kernel_rfl) (fun _ _ _=>id) (by rfl) ?_ ?_ ?_ ?_
            rotate_left
            ·intro w'
             go_simp
             with_reducible rfl
            rotate_left
            ·simp only [aP,i64_w,i32_w]
             rfl
            refine pT 1 19 ?_ (bm 17 3) HT_.out rfl rfl (by kernel_rfl) (fun _ _ _=>id) (by rfl) ?_ ?_ ?_ ?_
            rotate_left
            ·intro w'
             go_simp
             with_reducible rfl
            rotate_left
            ·simp only [aP,i64_w,i32_w]
             rfl
            refine pT 2 20 ?_ (bm 17 7) HT_.out rfl rfl (by kernel_rfl) (fun _ _ _=>id) (by rfl) ?_ ?_ ?_ ?_
            rotate_left
            ·intro w'
             go_simp
             with_reducible rfl
            rotate_left
            ·simp only [aP,i64_w,i32_w]
             rfl
            refine pT 3 21 ?_ (bm 17 15) HT_.out rfl rfl (by kernel_rfl) (fun _ _ _=>id) (by rfl) ?_ ?_ ?_ ?_
            rotate_left
            ·intro w'
             go_simp
             with_reducible rfl
            rotate_left
            ·simp only [aP,i64_w,i32_w]
             rfl
            refine pT 4 22 ?_ (bm 17 31) HT_.out rfl rfl (by kernel_rfl) (fun _ _ _=>id) (by rfl) ?_ ?_ ?_ ?_
            rotate_left
            ·intro w'
             go_simp
             with_reducible rfl
            rotate_left
            ·simp only [aP,i64_w,i32_w]
             rfl
            refine pT 5 23 ?_ (bm 17 63) HT_.out rfl rfl (by kernel_rfl) (fun _ _ _=>id) (by rfl) ?_ ?_ ?_ ?_
            rotate_left
            ·intro w'
             go_simp
             with_reducible rfl
            rotate_left
            ·simp only [aP,i64_w,i32_w]
             rfl
            refine pT 6 24 ?_ (bm 17 127) HT_.out rfl rfl (by kernel_rfl) (fun _ _ _=>id) (by rfl) ?_ ?_ ?_ ?_
            rotate_left
            ·intro w'
             go_simp
             with_reducible rfl
            rotate_left
            ·simp only [aP,i64_w,i32_w]
             rfl
            refine pT 7 25 ?_ (bm 17 255) HT_.out rfl rfl (by kernel_rfl) (fun _ _ _=>id) (by rfl) ?_ ?_ ?_ ?_
            rotate_left
            ·intro w'
             go_simp
             with_reducible rfl
            rotate_left
            ·simp only [aP,i64_w,i32_w]
             rfl
            refine pT 9 27 ?_ (bm 17 767) HT_.out rfl rfl (by kernel_rfl) (fun _ _ _=>id) (by rfl) ?_ ?_ ?_ ?_
            rotate_left
            ·intro w'
             go_simp
             with_reducible rfl
            rotate_left
            ·simp only [aP,i64_w,i32_w]
             rfl
            refine pT 10 28 ?_ (bm 17 1791) HT_.out rfl rfl (by kernel_rfl) (fun _ _ _=>id) (by rfl) ?_ ?_ ?_ ?_
            rotate_left
            ·intro w'
             go_simp
             with_reducible rfl
            rotate_left
            ·simp only [aP,i64_w,i32_w]
             rfl
            refine pT 11 29 ?_ (bm 17 3839) HT_.out rfl rfl (by kernel_rfl) (fun _ _ _=>id) (by rfl) ?_ ?_ ?_ ?_
            rotate_left
            ·intro w'
             go_simp
             with_reducible rfl
            rotate_left
            ·simp only [aP,i64_w,i32_w]
             rfl
            refine pT 12 30 ?_ (bm 17 7935) HT_.out rfl rfl (by kernel_rfl) (fun _ _ _=>id) (by rfl) ?_ ?_ ?_ ?_
            rotate_left
            ·intro w'
             go_simp
             with_reducible rfl
            rotate_left
            ·simp only [aP,i64_w,i32_w]
             rfl
            refine take_ (i:=8) (N:=some 26) (v:=?_) (a':=?_) (bm 17 8191) rfl rfl (take_ofW HT_.out HW_.out (by kernel_rfl)) (fun _ _ _ h=>h) (Or.inl ⟨by rfl,?_⟩) hHeld ?_ ?_
            rotate_left
            ·rintro w' ⟨s0,s1,s2,s3⟩
             go_simp
             with_reducible rfl
            rotate_left
            ·simp only [aP,i64_w,i32_w]
             rfl
            refine take_ (i:=13) (N:=some 31) (v:=?_) (a':=?_) (bm 17 16383) rfl rfl (take_ofW HT_.out HW_.out (by kernel_rfl)) (fun _ _ _ h=>h) (Or.inl ⟨by rfl,?_⟩) hHeld ?_ ?_
            rotate_left
            ·rintro w' ⟨s0,s1,s2,s3⟩
             go_simp
             with_reducible rfl
            rotate_left
            ·simp only [aP,i64_w,i32_w]
             rfl
            refine one_ (i:=14) (N:=some 32) (bm 17 32767) rfl rfl (one_of HT_.out (by kernel_rfl)) (by decide) (fun K hK=>?_)
            refine goesV_ Tryz.func175 (by kernel_rfl) rfl #[.agg #[.string ((rd_T169 x0_2 x9_2).f0),.string ((rd_T169 x0_2 x9_2).f1)],.agg #[.string ((rd_T169 x0_2 (ji9)).f0),.string ((rd_T169 x0_2 (ji9)).f1)]] (by rfl) rfl ⟨_,rfl,rfl⟩ (by (try simp only [List.map_toArray,List.map_cons,List.map_nil]);first|done|(simp only [hji9];rfl)|rfl|(simp only [List.length_drop,List.length_take];rfl)) ?_
            with_reducible refine (pq12.calls ((rd_T169 x0_2 x9_2).f0) ((rd_T169 x0_2 x9_2).f1) ((rd_T169 x0_2 (ji9)).f0) ((rd_T169 x0_2 (ji9)).f1) t211 _ A12.out).mono ?_
            rintro e w24 ⟨rfl,hb⟩
            have HS0_:=(hb.cell (World.block_lt_of_cell? _ _ (hHeld.1))).trans (hHeld.1)
            have HS1_:=(hb.cell (World.block_lt_of_cell? _ _ (hHeld.2.1))).trans (hHeld.2.1)
            have HS2_:=(hb.cell (World.block_lt_of_cell? _ _ (hHeld.2.2.1))).trans (hHeld.2.2.1)
            have HS3_:=(hb.cell (World.block_lt_of_cell? _ _ (hHeld.2.2.2))).trans (hHeld.2.2.2)
            refine ⟨_,rfl,?_⟩
            have n0_:=pz4.mk (Kd.R_below (by (with_reducible repeat (first|apply Kd.R_alloc|apply Kd.R_drewN|apply Kd.R_drew));exact HO_0.out) hb)
            have n1_:=pz4.mk (Kept.below (S:=(fun k_=>P0_ k_)) (by repeat (first|(with_reducible first|exact HK.out|apply Kept.alloc|apply Kept.drewN|apply Kept.drew)|exact HK.out)) hb)
            have n2_:=pz4.mk (below_step (by repeat (first|(with_reducible first|exact HB.out|apply pz3|apply pz1|apply pz2)|exact HB.out)) hb)
            clear HO_0
            clear HK
            clear HB
            have HO_0:=n0_
            have HK:=n1_
            have HB:=n2_
            clear n0_ n1_ n2_
            (try clear hb)
            (try clear hb2)
            (try clear hk)
            (try clear hi)
            refine hK.out _ _ ⟨HS0_,HS1_,HS2_,HS3_⟩ (fun hHeld=>?_)
            clear hK K
            refine norm_ (a':=?_) ?_ ?_
            rotate_left
            ·show Act.put _ (some 32) _=_
             simp only [aP,i64_w,i32_w]
             rfl
            refine pT 15 33 ?_ (bm 17 65535) HT_.out rfl rfl (by kernel_rfl) (fun _ _ _=>id) (by rfl) ?_ ?_ ?_ ?_
            rotate_left
            ·intro w'
             go_simp
             with_reducible rfl
            rotate_left
            ·simp only [aP,i64_w,i32_w]
             rfl
            refine pT 16 34 ?_ (bm 17 131071) HT_.out rfl rfl (by kernel_rfl) (fun _ _ _=>id) (by rfl) ?_ ?_ ?_ ?_
            rotate_left
            ·intro w'
             go_simp
             with_reducible rfl
            rotate_left
            ·simp only [aP,i64_w,i32_w]
             rfl
            refine done_ (done_of HT_.out (by kernel_rfl)) ?_
            try go_wp2
            go_roundg k2
            case measure=>have:=HK1.out;have:=HK2.out;omega
            case rel=>exact ⟨(x0_2),(wrap64 (x8_1 + 1)),(by first|rfl|(simp;done)|(simp [*];done)),H',⟨by have:=HK1.out;have:=HK2.out;omega⟩,⟨by (with_reducible repeat (first|apply Kd.R_alloc|apply Kd.R_drewN|apply Kd.R_drew));exact HO_0.out⟩,⟨by repeat (first|(with_reducible first|exact HK.out|apply Kept.alloc|apply Kept.drewN|apply Kept.drew)|exact HK.out)⟩,⟨by repeat (first|(with_reducible first|exact HB.out|apply pz3|apply pz1|apply pz2)|exact HB.out)⟩⟩
          ·rw [if_neg c11] at H
           exact absurd H (by simp)
         ·rw [if_neg c10] at H
          exact absurd H (by simp)
        ·rw [if_neg c8] at H
         exact absurd H (by simp)
       ·rw [if_neg c7] at H
        exact absurd H (by simp)
      ·rw [if_neg c6] at H
       have c6b0:decide (a1<x9_2)=false:=decide_eq_false c6
       clear c6
       have H':=pz4.mk H
       clear H
       try go_wp2
       have n0_:=pz4.mk (Kd.R_drew HO_0.out)
       have n1_:=pz4.mk (Kept.drew HK.out)
       have n2_:=pz4.mk (pz2 HB.out)
       clear HO_0
       clear HK
       clear HB
       have HO_0:=n0_
       have HK:=n1_
       have HB:=n2_
       clear n0_ n1_ n2_
       refine start_ (n:=17) (S:=fun w'=>True) (ds:=[]) (bm 17 0) (by kernel_rfl) rfl rfl trivial (fun hHeld=>?_);refine with_tabW pq0.tab4 pq0.bits4 (fun HT_ HW_=>?_)
       generalize wr.drew=w25 at HO_0 HK HB hHeld ⊢
       refine pT 0 18 ?_ (bm 17 1) HT_.out rfl rfl (by kernel_rfl) (fun _ _ _=>id) (by rfl) ?_ ?_ ?_ ?_
       rotate_left
       ·intro w'
        go_simp
        with_reducible rfl
       rotate_left
       ·simp only [aP,i64_w,i32_w]
        rfl
       refine pT 1 19 ?_ (bm 17 3) HT_.out rfl rfl (by kernel_rfl) (fun _ _ _=>id) (by rfl) ?_ ?_ ?_ ?_
       rotate_left
       ·intro w'
        go_simp
        with_reducible rfl
       rotate_left
       ·simp only [aP,i64_w,i32_w]
        rfl
       refine pT 2 20 ?_ (bm 17 7) HT_.out rfl rfl (by kernel_rfl) (fun _ _ _=>id) (by rfl) ?_ ?_ ?_ ?_
       rotate_left
       ·intro w'
        go_simp
        with_reducible rfl
       rotate_left
       ·simp only [aP,i64_w,i32_w]
        rfl
       refine pT 3 21 ?_ (bm 17 15) HT_.out rfl rfl (by kernel_rfl) (fun _ _ _=>id) (by rfl) ?_ ?_ ?_ ?_
       rotate_left
       ·intro w'
        go_simp
        with_reducible rfl
       rotate_left
       ·simp only [aP,i64_w,i32_w]
        rfl
       refine pN 4 22 (bm 17 31) rfl rfl (any_of HT_.out (by kernel_rfl)) (fun _ _ _=>id) (by rfl) ?_ ?_ ?_
       rotate_left
       ·simp only [aP,i64_w,i32_w]
        rfl
       refine pN 5 23 (bm 17 63) rfl rfl (any_of HT_.out (by kernel_rfl)) (fun _ _ _=>id) (by rfl) ?_ ?_ ?_
       rotate_left
       ·simp only [aP,i64_w,i32_w]
        rfl
       refine pN 6 24 (bm 17 127) rfl rfl (any_of HT_.out (by kernel_rfl)) (fun _ _ _=>id) (by rfl) ?_ ?_ ?_
       rotate_left
       ·simp only [aP,i64_w,i32_w]
        rfl
       refine pN 7 25 (bm 17 255) rfl rfl (any_of HT_.out (by kernel_rfl)) (fun _ _ _=>id) (by rfl) ?_ ?_ ?_
       rotate_left
       ·simp only [aP,i64_w,i32_w]
        rfl
       refine pN 8 26 (bm 17 511) rfl rfl (any_of HT_.out (by kernel_rfl)) (fun _ _ _=>id) (by rfl) ?_ ?_ ?_
       rotate_left
       ·simp only [aP,i64_w,i32_w]
        rfl
       refine pN 9 27 (bm 17 1023) rfl rfl (any_of HT_.out (by kernel_rfl)) (fun _ _ _=>id) (by rfl) ?_ ?_ ?_
       rotate_left
       ·simp only [aP,i64_w,i32_w]
        rfl
       refine pN 10 28 (bm 17 2047) rfl rfl (any_of HT_.out (by kernel_rfl)) (fun _ _ _=>id) (by rfl) ?_ ?_ ?_
       rotate_left
       ·simp only [aP,i64_w,i32_w]
        rfl
       refine pN 11 29 (bm 17 4095) rfl rfl (any_of HT_.out (by kernel_rfl)) (fun _ _ _=>id) (by rfl) ?_ ?_ ?_
       rotate_left
       ·simp only [aP,i64_w,i32_w]
        rfl
       refine pN 12 30 (bm 17 8191) rfl rfl (any_of HT_.out (by kernel_rfl)) (fun _ _ _=>id) (by rfl) ?_ ?_ ?_
       rotate_left
       ·simp only [aP,i64_w,i32_w]
        rfl
       refine pN 13 31 (bm 17 16383) rfl rfl (any_of HT_.out (by kernel_rfl)) (fun _ _ _=>id) (by rfl) ?_ ?_ ?_
       rotate_left
       ·simp only [aP,i64_w,i32_w]
        rfl
       refine pN 14 32 (bm 17 32767) rfl rfl (any_of HT_.out (by kernel_rfl)) (fun _ _ _=>id) (by rfl) ?_ ?_ ?_
       rotate_left
       ·simp only [aP,i64_w,i32_w]
        rfl
       refine pN 15 33 (bm 17 65535) rfl rfl (any_of HT_.out (by kernel_rfl)) (fun _ _ _=>id) (by rfl) ?_ ?_ ?_
       rotate_left
       ·simp only [aP,i64_w,i32_w]
        rfl
       refine pT 16 34 ?_ (bm 17 131071) HT_.out rfl rfl (by kernel_rfl) (fun _ _ _=>id) (by rfl) ?_ ?_ ?_ ?_
       rotate_left
       ·intro w'
        go_simp
        with_reducible rfl
       rotate_left
       ·simp only [aP,i64_w,i32_w]
        rfl
       refine done_ (done_of HT_.out (by kernel_rfl)) ?_
       try go_wp2
       go_roundg k2
       case measure=>have:=HK1.out;have:=HK2.out;omega
       case rel=>exact ⟨(x0_2),(wrap64 (x8_1 + 1)),(by first|rfl|(simp;done)|(simp [*];done)),H',⟨by have:=HK1.out;have:=HK2.out;omega⟩,⟨by (with_reducible repeat (first|apply Kd.R_alloc|apply Kd.R_drewN|apply Kd.R_drew));exact HO_0.out⟩,⟨by repeat (first|(with_reducible first|exact HK.out|apply Kept.alloc|apply Kept.drewN|apply Kept.drew)|exact HK.out)⟩,⟨by repeat (first|(with_reducible first|exact HB.out|apply pz3|apply pz1|apply pz2)|exact HB.out)⟩⟩
   ·rw [if_neg c5] at H
    have c5b0:decide (x8_1<a2)=false:=decide_eq_false c5
    clear c5
    obtain rfl:=Option.some.inj H
    go_wp2
    first|go_end0|((try simp only [Exit.inBlock,Exit.then]);refine bodyPost_ret (results_none rfl _ _ _) rfl ?_)
    exact ⟨by first|rfl|(simp [pz6,pz5] <;> rfl)|(simp [*,pz6,pz5] <;> rfl),by (with_reducible repeat (first|apply Kd.R_alloc|apply Kd.R_drewN|apply Kd.R_drew));exact HO_0.out,by repeat (first|(with_reducible first|exact HB.out|apply pz3|apply pz1|apply pz2)|exact HB.out),by repeat (first|(with_reducible first|exact HK.out|apply Kept.alloc|apply Kept.drewN|apply Kept.drew)|exact HK.out)⟩
def pq3.l0:Nat→List (S169)→Int→Int→Int→Int→Option ((List (S169)))
 | 0,_,_,_,_,_=>none
 | k + 1,x0,x1,x2,x3,x10=>if x10<x3 then (if 0≤(wrap64 (x2 + x10)) then (if (wrap64 (x2 + x10))<(x0.length:Int) then (if 0≤(wrap64 (x1 + x10)) then (if (wrap64 (x1 + x10))<(x0.length:Int) then (pq3.l0 k ((x0.set ((wrap64 (x1 + x10)):Int).toNat (⟨(rd_T169 x0 (wrap64 (x2 + x10))).f0,(rd_T169 x0 (wrap64 (x2 + x10))).f1⟩:S169)).set ((wrap64 (x2 + x10)):Int).toNat (⟨(rd_T169 x0 (wrap64 (x1 + x10))).f0,(rd_T169 x0 (wrap64 (x1 + x10))).f1⟩:S169)) x1 x2 x3 (wrap64 (x10 + 1))) else (none)) else (none)) else (none)) else (none)) else (some x0)
def pq3.f (k:Nat) (l0:List (S169)) (a1:Int) (a2:Int) (a3:Int) (a4:Unit):Option ((List (S169))):=pq3.l0 k l0 a1 a2 a3 0
def pq3.T3:Bool×List (List Nat×List Nat):=(true,[([],[]),([],[]),([],[]),([1,2],[1,2]),([],[]),([],[]),([],[]),([5,6],[5,6]),([],[]),([],[]),([],[]),([9,10],[9,10]),([8,11],[8,11]),([12],[12]),([],[]),([],[]),([],[]),([15,16],[15,16]),([14,17],[14,17]),([18],[18]),([0,3,0,1,2,3,8,9,10,11,12,13,19],[0,3]),([20,13,0,1,2,3,8,9,10,11,12,13,19],[13,20]),([4,7,0,1,2,3,4,5,6,7,8,9,10,11,12,13,14,15,16,17,18,19,20,21],[4,7]),([22,19,21,0,1,2,3,4,5,6,7,8,9,10,11,12,13,14,15,16,17,18,19,20,21],[19,22])])
def pq3.B3:List Nat:=[0,0,0,6,0,0,0,96,0,0,0,1536,3840,7936,0,0,0,98304,245760,507904,1048335,2096911,4194303,8388607]
theorem pq3.tab3:rtab .any (opsOf Tryz.f227 3)=pq3.T3:=by kernel_rfl
theorem pq3.bits3:waitsOk pq3.T3.2 pq3.B3=true:=by kernel_rfl
set_option maxHeartbeats 8000000 in
set_option maxRecDepth 100000 in
theorem pq3.calls (k:Nat) (P0_:Nat→Prop) (u9000_:Value) (l0:List (S169)) (a1:Int) (a2:Int) (a3:Int) (a4:Unit) (r:List (S169)) (w0 w:World) (hB:Below w0.heap.size w0 w) (ho0:Kd.R k169 169 w w0.heap.size P0_ u9000_ l0) (h:pq3.f k l0 a1 a2 a3 a4=some r) :
  Calls Tryz.prog 227 #[u9000_,.int .i64 a1,.int .i64 a2,.int .i64 a3,.func (.func 175) #[] #[]] w fun e w'=>e=.returned (.tuple #[])∧Kd.R k169 169 w' w0.heap.size (fun k_=>(P0_ k_∨w.heap.size≤k_)) u9000_ r∧Below w0.heap.size w0 w'∧Kept w w' (fun k_=>P0_ k_):=by
 have hu169:=Tryz.underlying169
 have HO0:=pz4.mk (show Kd.R k169 169 w w0.heap.size (fun k_=>(P0_ k_∨w.heap.size≤k_)) u9000_ l0 from Kd.R_mono ho0 (fun k_ hk=>(.inl hk)))
 have HK:=pz4.mk (Kept.refl w (fun k_=>P0_ k_))
 have HW0:=pz4.mk hB.size
 have HB:=pz4.mk hB
 clear hB
 have H:(pq3.l0 k l0 a1 a2 a3 0)=some r:=h
 clear h
 have H':=pz4.mk H
 clear H
 go_enter Tryz.func227,Tryz.ntmps227
 go_wp2
 go_loopg [10] k (fun kq v10 w'=>∃ (x0_1:List (S169)) (x10_1:Int),v10=.int .i64 x10_1∧pz4 (pq3.l0 kq x0_1 a1 a2 a3 x10_1=some r)∧pz4 (kq≤k)∧pz4 (Kd.R k169 169 w' w0.heap.size (fun k_=>(P0_ k_∨w.heap.size≤k_)) u9000_ x0_1)∧pz4 (Kept w w' (fun k_=>P0_ k_))∧pz4 (Below w0.heap.size w0 w'))
 case atStart=>exact ⟨(l0),(0),(by first|rfl|(simp;done)|(simp [*];done)),H',⟨Nat.le_refl _⟩,⟨by (with_reducible repeat (first|apply Kd.R_alloc|apply Kd.R_drewN|apply Kd.R_drew));exact HO0.out⟩,⟨by repeat (first|(with_reducible first|exact HK.out|apply Kept.alloc|apply Kept.drewN|apply Kept.drew)|exact HK.out)⟩,⟨by repeat (first|(with_reducible first|exact HB.out|apply pz3|apply pz1|apply pz2)|exact HB.out)⟩⟩
 case round =>
  clear H'
  try clear c1;try clear p2
  obtain ⟨x0_1,x10_1,rfl,HA,HK1,HO_0,HK,HB⟩:=hrel
  cases gk with
  | zero=>exact absurd HA.out (by simp [pq3.l0])
  | succ k1 =>
   have H:=HA.out
   clear HA
   simp only [pq3.l0] at H
   by_cases c6:x10_1<a3
   ·rw [if_pos c6] at H
    have c6b0:decide (x10_1<a3)=true:=decide_eq_true c6
    clear c6
    obtain ⟨ji7,hji7⟩:∃ j_:Int,(wrap64 (a2 + x10_1))=j_:=⟨_,rfl⟩
    replace H:(if 0≤(ji7) then (if (ji7)<(x0_1.length:Int) then (if 0≤(wrap64 (a1 + x10_1)) then (if (wrap64 (a1 + x10_1))<(x0_1.length:Int) then (pq3.l0 k1 ((x0_1.set ((wrap64 (a1 + x10_1)):Int).toNat (⟨(rd_T169 x0_1 (ji7)).f0,(rd_T169 x0_1 (ji7)).f1⟩:S169)).set ((ji7):Int).toNat (⟨(rd_T169 x0_1 (wrap64 (a1 + x10_1))).f0,(rd_T169 x0_1 (wrap64 (a1 + x10_1))).f1⟩:S169)) a1 a2 a3 (wrap64 (x10_1 + 1))) else (none)) else (none)) else (none)) else (none))=some r:=by first|(rw [hji7] at H;exact H)|(simp only [hji7] at H ⊢;exact H)
    have hji7w:(IntKind.i64.wrap (a2 + x10_1))=ji7:=(i64_w _).trans hji7
    by_cases c8:0≤(ji7)
    ·rw [if_pos c8] at H
     have c8b0:decide (0≤(ji7))=true:=decide_eq_true c8
     clear c8
     by_cases c9:(ji7)<(x0_1.length:Int)
     ·rw [if_pos c9] at H
      have c9b0:decide ((ji7)<(x0_1.length:Int))=true:=decide_eq_true c9
      clear c9
      obtain ⟨ji10,hji10⟩:∃ j_:Int,(wrap64 (a1 + x10_1))=j_:=⟨_,rfl⟩
      replace H:(if 0≤(ji10) then (if (ji10)<(x0_1.length:Int) then (pq3.l0 k1 ((x0_1.set ((ji10):Int).toNat (⟨(rd_T169 x0_1 (ji7)).f0,(rd_T169 x0_1 (ji7)).f1⟩:S169)).set ((ji7):Int).toNat (⟨(rd_T169 x0_1 (ji10)).f0,(rd_T169 x0_1 (ji10)).f1⟩:S169)) a1 a2 a3 (wrap64 (x10_1 + 1))) else (none)) else (none))=some r:=by first|(rw [hji10] at H;exact H)|(simp only [hji10] at H ⊢;exact H)
      have hji10w:(IntKind.i64.wrap (a1 + x10_1))=ji10:=(i64_w _).trans hji10
      by_cases c11:0≤(ji10)
      ·rw [if_pos c11] at H
       have c11b0:decide (0≤(ji10))=true:=decide_eq_true c11
       clear c11
       by_cases c12:(ji10)<(x0_1.length:Int)
       ·rw [if_pos c12] at H
        have c12b0:decide ((ji10)<(x0_1.length:Int))=true:=decide_eq_true c12
        clear c12
        obtain ⟨y218,hy218⟩:∃ y_:List (S169),y_=(x0_1.set ((ji10):Int).toNat (⟨(rd_T169 x0_1 (ji7)).f0,(rd_T169 x0_1 (ji7)).f1⟩:S169)):=⟨_,rfl⟩
        replace H:(pq3.l0 k1 (y218.set ((ji7):Int).toNat (⟨(rd_T169 x0_1 (ji10)).f0,(rd_T169 x0_1 (ji10)).f1⟩:S169)) a1 a2 a3 (wrap64 (x10_1 + 1)))=some r:=by first|(rw [hy218];with_reducible exact H)|(have H2_:=(Option.bind_some _ _).symm.trans H;rw [hy218];with_reducible exact H2_)|(have H2_:=(Option.bind_some _ _).symm.trans H;with_reducible exact H2_)|with_reducible exact H|(rw [hy218];exact H)|exact H
        have Ny218:=pz4.mk hy218
        clear hy218
        obtain ⟨y219,hy219⟩:∃ y_:List (S169),y_=(y218.set ((ji7):Int).toNat (⟨(rd_T169 x0_1 (ji10)).f0,(rd_T169 x0_1 (ji10)).f1⟩:S169)):=⟨_,rfl⟩
        replace H:(pq3.l0 k1 y219 a1 a2 a3 (wrap64 (x10_1 + 1)))=some r:=by first|(rw [hy219];with_reducible exact H)|(have H2_:=(Option.bind_some _ _).symm.trans H;rw [hy219];with_reducible exact H2_)|(have H2_:=(Option.bind_some _ _).symm.trans H;with_reducible exact H2_)|with_reducible exact H|(rw [hy219];exact H)|exact H
        have Ny219:=pz4.mk hy219
        clear hy219
        have H':=pz4.mk H
        clear H
        try go_wp2
        have n0_:=pz4.mk (Kd.R_drew HO_0.out)
        have n1_:=pz4.mk (Kept.drew HK.out)
        have n2_:=pz4.mk (pz2 HB.out)
        clear HO_0
        clear HK
        clear HB
        have HO_0:=n0_
        have HK:=n1_
        have HB:=n2_
        clear n0_ n1_ n2_
        obtain ⟨Ao16,co16,eo16⟩:=Kd.R_slice HO_0.out
        (first|subst eo16|(injection eo16 with f1_ f2_ f3_;have f4_:=f1_.symm;have f5_:=f3_.symm;clear f1_ f2_ f3_;subst f4_;subst f5_))
        have p216:0≤((ji7):Int):=of_decide_eq_true (by first|(with_reducible assumption)|assumption)
        have q216:(ji7)<(x0_1.length:Int):=of_decide_eq_true (by first|(with_reducible assumption)|assumption)
        obtain ⟨ad216,e216,hx216_0,hx216_1⟩:=at_T169 (Kd.R_reads' HO_0.out).2.2 (ji7) p216 q216
        cases e216
        replace p216:=eq_true p216
        replace q216:=eq_true q216
        have p217:0≤((ji10):Int):=of_decide_eq_true (by first|(with_reducible assumption)|assumption)
        have q217:(ji10)<(x0_1.length:Int):=of_decide_eq_true (by first|(with_reducible assumption)|assumption)
        obtain ⟨ad217,e217,hx217_0,hx217_1⟩:=at_T169 (Kd.R_reads' HO_0.out).2.2 (ji10) p217 q217
        obtain rfl:ad216=ad217:=(by injection e217)
        replace p217:=eq_true p217
        replace q217:=eq_true q217
        have p13:0≤((ji10):Int):=of_decide_eq_true (by first|(with_reducible assumption)|assumption)
        have q13:((ji10):Int)<((x0_1.length:Int):Int):=of_decide_eq_true (by first|(with_reducible assumption)|assumption)
        obtain ⟨go13,co13,eo13,gb13,gl13,cl13,HG13⟩:=Kd.R_form HO_0.out (by omega)
        (first|cases eo13|(injection eo13 with ea_ en_ ec_;(first|subst ea_|(injection ea_ with ea_;subst ea_));subst ec_;clear en_))
        have GB13:=pz4.mk gb13
        have GG13:=pz4.mk HG13
        clear gb13 gl13 HG13
        have HMgo13:=pz4.mk (show (P0_ go13∨w.heap.size≤go13) from (HO_0.out.1 _ rfl))
        (first|simp only [add_plain] at hx216_0|skip)
        (first|simp only [add_plain] at hx216_1|skip)
        (first|simp only [add_plain] at hx217_0|skip)
        (first|simp only [add_plain] at hx217_1|skip)
        obtain ⟨ce13,hcl13,hM13,hcc13,hfr13⟩:=Kd.R_elem HO_0.out z169 ((ji10):Int) p13 q13
        obtain rfl:=k169_openM hM13
        have hx13_0:World.cell? _ ⟨go13,((ji10):Int).toNat * 2,none⟩=some (.string ((rd_T169 x0_1 (ji10)).f0)):=hcc13 0 _ rfl
        have hx13_1:World.cell? _ ⟨go13,((ji10):Int).toNat * 2 + 1,none⟩=some (.string ((rd_T169 x0_1 (ji10)).f1)):=hcc13 1 _ rfl
        have hf13_0:World.frozen? _ ⟨go13,((ji10):Int).toNat * 2,none⟩=false:=hfr13 0
        have hf13_1:World.frozen? _ ⟨go13,((ji10):Int).toNat * 2 + 1,none⟩=false:=hfr13 1
        clear hcl13 hcc13 hfr13 hM13
        replace p13:=eq_true p13
        replace q13:=eq_true q13
        obtain ⟨ce17,hcl17,hM17,hcc17,hfr17⟩:=Kd.R_elem HO_0.out z169 ((ji10):Int) (of_decide_eq_true (by first|(with_reducible assumption)|assumption)) (by have h_:((ji10):Int)<((x0_1.length:Int):Int):=of_decide_eq_true (by first|(with_reducible assumption)|assumption);first|exact h_|(have e_:=(Kd.R_reads' HO_0.out).1;omega)|simpa using h_)
        obtain rfl:=k169_openM hM17
        have HP17:=(Kd.R_seg HO_0.out ((ji10):Int) (of_decide_eq_true (by first|(with_reducible assumption)|assumption)) (by have h_:((ji10):Int)<((x0_1.length:Int):Int):=of_decide_eq_true (by first|(with_reducible assumption)|assumption);first|exact h_|(have e_:=(Kd.R_reads' HO_0.out).1;omega)|simpa using h_) (seg:=[.string ((rd_T169 x0_1 (ji7)).f0),.string ((rd_T169 x0_1 (ji7)).f1)]) (j:=0) hcl17 hcc17 (show 2≤2 from by decide) (x':=(⟨(rd_T169 x0_1 (ji7)).f0,(rd_T169 x0_1 (ji7)).f1⟩:S169)) (k169_mkM _ _ _ (⟨(rd_T169 x0_1 (ji7)).f0,(rd_T169 x0_1 (ji7)).f1⟩:S169) ) (fun _ hk=>hk)).1
        rw [← Ny218.out] at HP17
        have HQ17:=pz4.mk HP17
        clear hcl17 hcc17 hfr17 hM17 HP17
        have p14:0≤((ji7):Int):=of_decide_eq_true (by first|(with_reducible assumption)|assumption)
        have q14:((ji7):Int)<((x0_1.length:Int):Int):=of_decide_eq_true (by first|(with_reducible assumption)|assumption)
        obtain ⟨ce14,hcl14,hM14,hcc14,hfr14⟩:=Kd.R_elem HQ17.out z169 ((ji7):Int) p14 q14
        obtain rfl:=k169_openM hM14
        have hx14_0:World.cell? _ ⟨go13,((ji7):Int).toNat * 2,none⟩=some (.string ((rd_T169 y218 (ji7)).f0)):=hcc14 0 _ rfl
        have hx14_1:World.cell? _ ⟨go13,((ji7):Int).toNat * 2 + 1,none⟩=some (.string ((rd_T169 y218 (ji7)).f1)):=hcc14 1 _ rfl
        have hf14_0:World.frozen? _ ⟨go13,((ji7):Int).toNat * 2,none⟩=false:=hfr14 0
        have hf14_1:World.frozen? _ ⟨go13,((ji7):Int).toNat * 2 + 1,none⟩=false:=hfr14 1
        clear hcl14 hcc14 hfr14 hM14
        replace p14:=eq_true p14
        replace q14:=eq_true q14
        obtain ⟨ce18,hcl18,hM18,hcc18,hfr18⟩:=Kd.R_elem HQ17.out z169 ((ji7):Int) (of_decide_eq_true (by first|(with_reducible assumption)|assumption)) (by have h_:((ji7):Int)<((x0_1.length:Int):Int):=of_decide_eq_true (by first|(with_reducible assumption)|assumption);first|exact h_|(have e_:=(Kd.R_reads' HO_0.out).1;omega)|simpa using h_)
        obtain rfl:=k169_openM hM18
        have HP18:=(Kd.R_seg HQ17.out ((ji7):Int) (of_decide_eq_true (by first|(with_reducible assumption)|assumption)) (by have h_:((ji7):Int)<((x0_1.length:Int):Int):=of_decide_eq_true (by first|(with_reducible assumption)|assumption);first|exact h_|(have e_:=(Kd.R_reads' HO_0.out).1;omega)|simpa using h_) (seg:=[.string ((rd_T169 x0_1 (ji10)).f0),.string ((rd_T169 x0_1 (ji10)).f1)]) (j:=0) hcl18 hcc18 (show 2≤2 from by decide) (x':=(⟨(rd_T169 x0_1 (ji10)).f0,(rd_T169 x0_1 (ji10)).f1⟩:S169)) (k169_mkM _ _ _ (⟨(rd_T169 x0_1 (ji10)).f0,(rd_T169 x0_1 (ji10)).f1⟩:S169) ) (fun _ hk=>hk)).1
        rw [← Ny219.out] at HP18
        have HQ18:=pz4.mk HP18
        clear hcl18 hcc18 hfr18 hM18 HP18
        refine start_ (n:=24) (S:=fun w'=>w'.cell? ⟨go13,(((ji7)).toNat * 2),none⟩=some (.string ((rd_T169 x0_1 (ji7)).f0))∧w'.cell? ⟨go13,(((ji7)).toNat * 2) + 1,none⟩=some (.string ((rd_T169 x0_1 (ji7)).f1))∧w'.cell? ⟨go13,(((ji10)).toNat * 2),none⟩=some (.string ((rd_T169 x0_1 (ji10)).f0))∧w'.cell? ⟨go13,(((ji10)).toNat * 2) + 1,none⟩=some (.string ((rd_T169 x0_1 (ji10)).f1))) (ds:=[21,23]) (bm 24 0) (by kernel_rfl) rfl rfl ⟨hx216_0,hx216_1,hx217_0,hx217_1⟩ (fun hHeld=>?_);refine with_tabW pq3.tab3 pq3.bits3 (fun HT_ HW_=>?_)
        generalize wr.drew=w15 at HO_0 HK HB GG13 HQ17 HQ18 hf13_0 hf13_1 hf14_0 hf14_1 hx13_0 hx13_1 hx14_0 hx14_1 hx216_0 hx216_1 hx217_0 hx217_1 hHeld ⊢
        refine pT 0 16 ?_ (bm 24 1) HT_.out rfl rfl (by kernel_rfl) (fun _ _ _=>id) (by rfl) ?_ ?_ ?_ ?_
        rotate_left
        ·intro w'
         go_simp
         with_reducible rfl
        rotate_left
        ·simp only [aP,i64_w,i32_w]
         rfl
        refine pT 1 17 ?_ (bm 24 3) HT_.out rfl rfl (by kernel_rfl) (fun _ _ _=>id) (by rfl) ?_ ?_ ?_ ?_
        rotate_left
        ·intro w'
         go_simp
         with_reducible rfl
        rotate_left
        ·simp only [aP,i64_w,i32_w]
         rfl
        refine pT 2 18 ?_ (bm 24 7) HT_.out rfl rfl (by kernel_rfl) (fun _ _ _=>id) (by rfl) ?_ ?_ ?_ ?_
        rotate_left
        ·intro w'
         go_simp
         with_reducible rfl
        rotate_left
        ·simp only [aP,i64_w,i32_w]
         rfl
        refine pT 3 19 ?_ (bm 24 15) HT_.out rfl rfl (by kernel_rfl) (fun _ _ _=>id) (by rfl) ?_ ?_ ?_ ?_
        rotate_left
        ·intro w'
         go_simp
         with_reducible rfl
        rotate_left
        ·simp only [aP,i64_w,i32_w]
         rfl
        refine pT 4 20 ?_ (bm 24 31) HT_.out rfl rfl (by kernel_rfl) (fun _ _ _=>id) (by rfl) ?_ ?_ ?_ ?_
        rotate_left
        ·intro w'
         go_simp
         with_reducible rfl
        rotate_left
        ·simp only [aP,i64_w,i32_w]
         rfl
        refine pT 5 21 ?_ (bm 24 63) HT_.out rfl rfl (by kernel_rfl) (fun _ _ _=>id) (by rfl) ?_ ?_ ?_ ?_
        rotate_left
        ·intro w'
         go_simp
         with_reducible rfl
        rotate_left
        ·simp only [aP,i64_w,i32_w]
         rfl
        refine pT 6 22 ?_ (bm 24 127) HT_.out rfl rfl (by kernel_rfl) (fun _ _ _=>id) (by rfl) ?_ ?_ ?_ ?_
        rotate_left
        ·intro w'
         go_simp
         with_reducible rfl
        rotate_left
        ·simp only [aP,i64_w,i32_w]
         rfl
        refine pT 7 23 ?_ (bm 24 255) HT_.out rfl rfl (by kernel_rfl) (fun _ _ _=>id) (by rfl) ?_ ?_ ?_ ?_
        rotate_left
        ·intro w'
         go_simp
         with_reducible rfl
        rotate_left
        ·simp only [aP,i64_w,i32_w]
         rfl
        refine pT 8 24 ?_ (bm 24 511) HT_.out rfl rfl (by kernel_rfl) (fun _ _ _=>id) (by rfl) ?_ ?_ ?_ ?_
        rotate_left
        ·intro w'
         go_simp
         with_reducible rfl
        rotate_left
        ·simp only [aP,i64_w,i32_w]
         rfl
        refine pT 9 25 ?_ (bm 24 1023) HT_.out rfl rfl (by kernel_rfl) (fun _ _ _=>id) (by rfl) ?_ ?_ ?_ ?_
        rotate_left
        ·intro w'
         go_simp
         with_reducible rfl
        rotate_left
        ·simp only [aP,i64_w,i32_w]
         rfl
        refine pT 10 26 ?_ (bm 24 2047) HT_.out rfl rfl (by kernel_rfl) (fun _ _ _=>id) (by rfl) ?_ ?_ ?_ ?_
        rotate_left
        ·intro w'
         go_simp
         with_reducible rfl
        rotate_left
        ·simp only [aP,i64_w,i32_w]
         rfl
        refine pT 11 27 ?_ (bm 24 4095) HT_.out rfl rfl (by kernel_rfl) (fun _ _ _=>id) (by rfl) ?_ ?_ ?_ ?_
        rotate_left
        ·intro w'
         go_simp
         with_reducible rfl
        rotate_left
        ·simp only [aP,i64_w,i32_w]
         rfl
        refine pT 12 28 ?_ (bm 24 8191) HT_.out rfl rfl (by kernel_rfl) (fun _ _ _=>id) (by rfl) ?_ ?_ ?_ ?_
        rotate_left
        ·intro w'
         go_simp
         with_reducible rfl
        rotate_left
        ·simp only [aP,i64_w,i32_w]
         rfl
        refine pT 14 30 ?_ (bm 24 24575) HT_.out rfl rfl (by kernel_rfl) (fun _ _ _=>id) (by rfl) ?_ ?_ ?_ ?_
        rotate_left
        ·intro w'
         go_simp
         with_reducible rfl
        rotate_left
        ·simp only [aP,i64_w,i32_w]
         rfl
        refine pT 15 31 ?_ (bm 24 57343) HT_.out rfl rfl (by kernel_rfl) (fun _ _ _=>id) (by rfl) ?_ ?_ ?_ ?_
        rotate_left
        ·intro w'
         go_simp
         with_reducible rfl
        rotate_left
        ·simp only [aP,i64_w,i32_w]
         rfl
        refine pT 16 32 ?_ (bm 24 122879) HT_.out rfl rfl (by kernel_rfl) (fun _ _ _=>id) (by rfl) ?_ ?_ ?_ ?_
        rotate_left
        ·intro w'
         go_simp
         with_reducible rfl
        rotate_left
        ·simp only [aP,i64_w,i32_w]
         rfl
        refine pT 17 33 ?_ (bm 24 253951) HT_.out rfl rfl (by kernel_rfl) (fun _ _ _=>id) (by rfl) ?_ ?_ ?_ ?_
        rotate_left
        ·intro w'
         go_simp
         with_reducible rfl
        rotate_left
        ·simp only [aP,i64_w,i32_w]
         rfl
        refine pT 18 34 ?_ (bm 24 516095) HT_.out rfl rfl (by kernel_rfl) (fun _ _ _=>id) (by rfl) ?_ ?_ ?_ ?_
        rotate_left
        ·intro w'
         go_simp
         with_reducible rfl
        rotate_left
        ·simp only [aP,i64_w,i32_w]
         rfl
        refine take_ (i:=13) (N:=some 29) (v:=?_) (a':=?_) (bm 24 524287) rfl rfl (take_ofW HT_.out HW_.out (by kernel_rfl)) (fun _ _ _ h=>h) (Or.inl ⟨by rfl,?_⟩) hHeld ?_ ?_
        rotate_left
        ·rintro w' ⟨s0,s1,s2,s3⟩
         go_simp
         with_reducible rfl
        rotate_left
        ·simp only [aP,i64_w,i32_w]
         rfl
        refine take_ (i:=19) (N:=some 35) (v:=?_) (a':=?_) (bm 24 1048575) rfl rfl (take_ofW HT_.out HW_.out (by kernel_rfl)) (fun _ _ _ h=>h) (Or.inl ⟨by rfl,?_⟩) hHeld ?_ ?_
        rotate_left
        ·rintro w' ⟨s0,s1,s2,s3⟩
         go_simp
         with_reducible rfl
        rotate_left
        ·simp only [aP,i64_w,i32_w]
         rfl
        refine pT 20 36 ?_ (bm 24 2097151) HT_.out rfl rfl (by kernel_rfl) (fun _ _ _=>id) (by rfl) ?_ ?_ ?_ ?_
        rotate_left
        ·intro w'
         go_simp
         with_reducible rfl
        rotate_left
        ·simp only [aP,i64_w,i32_w]
         rfl
        refine last_ (i:=21) (N:=none) (bm 24 4194303) rfl rfl (one_of HT_.out (by kernel_rfl)) (by decide) (fun K hK=>?_)
        refine skip_ (w1:=?_) (by rfl) rfl ?_ ?_
        rotate_left
        ·go_simp
         rfl
        refine hK.out _ _ ?_
        clear hK K
        refine pT 22 37 ?_ (bm 24 8388607) HT_.out rfl rfl (by kernel_rfl) (fun _ _ _=>id) (by rfl) ?_ ?_ ?_ ?_
        rotate_left
        ·intro w'
         go_simp
         with_reducible rfl
        rotate_left
        ·simp only [aP,i64_w,i32_w]
         rfl
        obtain ⟨vy13_0_0,hy13_0_0⟩:=cell?_setCell_some (p:=⟨go13,(((ji10)).toNat * 2),none⟩) (x:=(.string ((rd_T169 x0_1 (ji7)).f0))) hx216_0
        have hz13_0:=pz7 GG13.out ((((ji7)).toNat * 2))
        obtain ⟨vy13_1_0,hy13_1_0⟩:=cell?_setCell_some (p:=⟨go13,(((ji10)).toNat * 2),none⟩) (x:=(.string ((rd_T169 x0_1 (ji7)).f0))) hx216_1
        obtain ⟨vy13_1_1,hy13_1_1⟩:=cell?_setCell_some (p:=⟨go13,(((ji10)).toNat * 2) + 1,none⟩) (x:=(.string ((rd_T169 x0_1 (ji7)).f1))) hy13_1_0
        clear hy13_1_0
        have hz13_1:=pz7 GG13.out ((((ji7)).toNat * 2) + 1)
        refine last_ (i:=23) (N:=none) (bm 24 16777215) rfl rfl (one_of HT_.out (by kernel_rfl)) (by decide) (fun K hK=>?_)
        refine skip_ (w1:=?_) (by rfl) rfl ?_ ?_
        rotate_left
        ·go_simp
         rfl
        refine hK.out _ _ ?_
        clear hK K
        refine done_ (done_of HT_.out (by kernel_rfl)) ?_
        try go_wp2
        go_roundg k1
        case measure=>have:=HK1.out;omega
        case rel=>exact ⟨(y219),(wrap64 (x10_1 + 1)),(by first|rfl|(simp;done)|(simp [*];done)),H',⟨by have:=HK1.out;omega⟩,⟨by (with_reducible repeat (first|apply Kd.R_alloc|apply Kd.R_drewN|apply Kd.R_drew));exact HQ18.out⟩,⟨by repeat (first|(with_reducible first|exact HK.out|apply Kept.alloc|apply Kept.drewN|apply Kept.drew|refine Kept.setCell ?_ HMgo13.out _|refine Kept.setCell ?_ HMgo13.out _|refine Kept.setCell ?_ HMgo13.out _|refine Kept.setCell ?_ HMgo13.out _)|exact HK.out)⟩,⟨by repeat (first|(with_reducible first|exact HB.out|apply pz3|apply pz1|apply pz2|refine below_set ?_ GB13.out|refine below_set ?_ GB13.out|refine below_set ?_ GB13.out|refine below_set ?_ GB13.out)|exact HB.out)⟩⟩
       ·rw [if_neg c12] at H
        exact absurd H (by simp)
      ·rw [if_neg c11] at H
       exact absurd H (by simp)
     ·rw [if_neg c9] at H
      exact absurd H (by simp)
    ·rw [if_neg c8] at H
     exact absurd H (by simp)
   ·rw [if_neg c6] at H
    have c6b0:decide (x10_1<a3)=false:=decide_eq_false c6
    clear c6
    obtain rfl:=Option.some.inj H
    go_wp2
    first|go_end0|((try simp only [Exit.inBlock,Exit.then]);refine bodyPost_ret (results_none rfl _ _ _) rfl ?_)
    exact ⟨by first|rfl|(simp [pz6,pz5] <;> rfl)|(simp [*,pz6,pz5] <;> rfl),by (with_reducible repeat (first|apply Kd.R_alloc|apply Kd.R_drewN|apply Kd.R_drew));exact HO_0.out,by repeat (first|(with_reducible first|exact HB.out|apply pz3|apply pz1|apply pz2)|exact HB.out),by repeat (first|(with_reducible first|exact HK.out|apply Kept.alloc|apply Kept.drewN|apply Kept.drew)|exact HK.out)⟩
end Go.Proofs.Zq
end
