/- A part of a proof of statements of this seat: what its walks and its laws lean on; joined by a program of this repo (wip/pack.py) out of the texts Th2, Th3, Mrk, Th4, Th5, Mod, Mod2, PaxN, QPathsBelow, QPathsBad, QSlicesIndexFuncStringStringAtPathsBad, QSlicesContainsFuncStringStringAtPathsBad, QPathsLong, QSlicesIndexFuncStringStringAtPathsLong, QSlicesContainsFuncStringStringAtPathsLong, QStringsliteHasPrefix, QStringsHasPrefix, QPathsIs, QPathsSplit. -/
import Derived.Lib.AtoiAllCases
import Derived.Test.YtjghikkboekonaaGreatDoorKAB
set_option linter.unusedSimpArgs false
set_option linter.unusedVariables false
section
namespace Go.Proofs.Zt
variable {π ν:Type} [DecidableEq π] {P:Paths π} {dir:ν→Bool}
def getL:List (π×ν)→π→Option ν
 | [],_=>none
 | (a,n) :: r,p=>if a=p then some n else getL r p
theorem pz27 {l:List (π×ν)} {p:π} {n:ν} (h:getL l p=some n):(p,n) ∈ l:=by
 induction l with
 | nil=>cases h
 | cons x r ih =>
  obtain ⟨a,m⟩:=x
  unfold getL at h
  split at h
  ·rename_i e;cases h;subst e;exact List.mem_cons_self
  ·exact List.mem_cons_of_mem _ (ih h)
theorem getL_none {l:List (π×ν)} {p:π} (h:getL l p=none) (n:ν):(p,n) ∉ l:=by
 induction l with
 | nil=>intro h;cases h
 | cons x r ih =>
  obtain ⟨a,m⟩:=x
  unfold getL at h
  split at h
  ·cases h
  ·rename_i e
   intro hm
   rcases List.mem_cons.1 hm with h'|h'
   ·cases h';exact e rfl
   ·exact ih h h'
structure Srt (P:Paths π) (l:List (π×ν)):Prop where
 v:∀ x ∈ l,P.V x.1
 s:l.Pairwise fun a b=>P.lt a.1 b.1
omit [DecidableEq π] in
theorem Srt.nil:Srt P ([]:List (π×ν)):=⟨fun _ h=>(by cases h),List.Pairwise.nil⟩
omit [DecidableEq π] in
theorem Srt.tail {x:π×ν} {l:List (π×ν)} (h:Srt P (x :: l)):Srt P l:=⟨fun y hy=>h.v y (List.mem_cons_of_mem _ hy),(List.pairwise_cons.1 h.s).2⟩
omit [DecidableEq π] in
theorem Srt.head {x:π×ν} {l:List (π×ν)} (h:Srt P (x :: l)):∀ y ∈ l,P.lt x.1 y.1:=(List.pairwise_cons.1 h.s).1
theorem Srt.get {l:List (π×ν)} (h:Srt P l) {p:π} {n:ν} (hm:(p,n) ∈ l):getL l p=some n:=by
 induction l with
 | nil=>cases hm
 | cons x r ih =>
  obtain ⟨a,m⟩:=x
  unfold getL
  rcases List.mem_cons.1 hm with h'|h'
  ·cases h';rw [if_pos rfl]
  ·have hl:P.lt a p:=h.head _ h'
   have:a≠p:=by
    rintro rfl
    exact P.lt_irrefl _ (h.v _ List.mem_cons_self) hl
   rw [if_neg this]
   exact ih h.tail h'
theorem Srt.get_iff {l:List (π×ν)} (h:Srt P l) {p:π} {n:ν}:getL l p=some n↔(p,n) ∈ l:=⟨pz27,h.get⟩
theorem Srt.ext {l m:List (π×ν)} (hl:Srt P l) (hm:Srt P m) (h:∀ p,P.V p→getL l p=getL m p):l=m:=by
 induction l generalizing m with
 | nil =>
  cases m with
  | nil=>rfl
  | cons y s =>
   have:=h y.1 (hm.v _ List.mem_cons_self)
   unfold getL at this
   simp at this
 | cons x r ih =>
  cases m with
  | nil =>
   have:=h x.1 (hl.v _ List.mem_cons_self)
   unfold getL at this
   simp at this
  | cons y s =>
   have vx:=hl.v _ List.mem_cons_self
   have vy:=hm.v _ List.mem_cons_self
   have hxy:x=y:=by
    have h1:x ∈ y :: s:=by
     have:getL (x :: r) x.1=some x.2:=hl.get List.mem_cons_self
     rw [h _ vx] at this
     exact pz27 this
    have h2:y ∈ x :: r:=by
     have:getL (y :: s) y.1=some y.2:=hm.get List.mem_cons_self
     rw [← h _ vy] at this
     exact pz27 this
    rcases List.mem_cons.1 h1 with e|e
    ·exact e
    ·rcases List.mem_cons.1 h2 with e'|e'
     ·exact e'.symm
     ·exact absurd (P.lt_trans _ _ _ vx vy vx (hl.head _ e') (hm.head _ e)) (P.lt_irrefl _ vx)
   subst hxy
   congr 1
   refine ih hl.tail hm.tail fun p hp=>?_
   have:=h p hp
   obtain ⟨a,n⟩:=x
   unfold getL at this
   by_cases e:a=p
   ·subst e
    have e1:getL r a=none:=by
     cases g:getL r a with
     | none=>rfl
     | some k=>exact absurd (hl.head _ (pz27 g)) (P.lt_irrefl _ vx)
    have e2:getL s a=none:=by
     cases g:getL s a with
     | none=>rfl
     | some k=>exact absurd (hm.head _ (pz27 g)) (P.lt_irrefl _ vx)
    rw [e1,e2]
   ·rwa [if_neg e,if_neg e] at this
omit [DecidableEq π] in
theorem Srt.filter {l:List (π×ν)} (h:Srt P l) (f:π×ν→Bool):Srt P (l.filter f) :=
 ⟨fun x hx=>h.v x (List.mem_filter.1 hx).1,h.s.filter f⟩
theorem getL_filter {l:List (π×ν)} (h:Srt P l) (f:π→Bool) (p:π):getL (l.filter fun x=>f x.1) p=if f p=true then getL l p else none:=by
 cases e:getL (l.filter fun x=>f x.1) p with
 | some n =>
  have:=List.mem_filter.1 (pz27 e)
  rw [if_pos this.2,h.get this.1]
 | none =>
  split
  ·rename_i hf
   cases e2:getL l p with
   | none=>rfl
   | some n=>exact absurd (List.mem_filter.2 ⟨pz27 e2,hf⟩) (getL_none e n)
  ·rfl
def takeF (c:π→Bool) (g:π→Option ν) (q:π):Option ν:=if c q=true then none else g q
open Classical in
noncomputable def putF (P:Paths π) (dir:ν→Bool) (p:π) (n:ν) (g:π→Option ν) (q:π):Option ν :=
 if q=p then some n else if P.under p q=true∧(dir n=false∨¬ Fold P dir g p) then none else g q
inductive Puts (P:Paths π) (dir:ν→Bool):List (π×ν)→(π→Option ν)→Option (π→Option ν)→Prop
 | nil (g:π→Option ν):Puts P dir [] g (some g)
 | no {p:π} {n:ν} {r:List (π×ν)} {g:π→Option ν} (h:¬ Fold P dir g (P.par p)):Puts P dir ((p,n) :: r) g none
 | step {p:π} {n:ν} {r:List (π×ν)} {g:π→Option ν} {o:Option (π→Option ν)} (h:Fold P dir g (P.par p)) (h2:Puts P dir r (putF P dir p n g) o):Puts P dir ((p,n) :: r) g o
def layP (l:List (π×ν)) (h:∀ x ∈ l,P.V x.1):Lay P ν:=⟨getL l,fun _=>false,fun _ _ hp=>h _ (pz27 hp),fun _ _ _ h _=>by cases h⟩
theorem getL_append (l:List (π×ν)) (p:π) (n:ν) (q:π):getL (l ++ [(p,n)]) q=(getL l q).or (if p=q then some n else none):=by
 induction l with
 | nil=>simp [getL]
 | cons x r ih =>
  obtain ⟨a,m⟩:=x
  simp only [List.cons_append,getL]
  split
  ·rfl
  ·exact ih
theorem put_last {l:List (π×ν)} {p:π} {n:ν} {g:π→Option ν} (hl:Srt P l) (hp:P.V p) (hlt:∀ x ∈ l,P.lt x.1 p) (hg:WF P dir g) (hok:Ok dir (layP l hl.v) g)
  (hv:∀ x ∈ l ++ [(p,n)],P.V x.1) (q:π) (hq:P.V q):after dir (layP (l ++ [(p,n)]) hv) g q=putF P dir p n (after dir (layP l hl.v) g) q:=by
 have hw:=after_WF hg hok
 have hpn:getL l p=none:=by
  cases e:getL l p with
  | none=>rfl
  | some m=>exact absurd (hlt _ (pz27 e)) (P.lt_irrefl _ hp)
 unfold putF
 by_cases hqp:q=p
 ·subst hqp
  rw [if_pos rfl]
  refine after_put ?_
  show getL _ _=_
  rw [getL_append,hpn,if_pos rfl];rfl
 ·rw [if_neg hqp]
  cases e:getL l q with
  | some m =>
   have hu:¬ P.under p q=true:=by
    intro hu
    have h1:=Paths.under_lt q hq hp hu
    have h2:=hlt _ (pz27 e)
    exact P.lt_irrefl _ hp (P.lt_trans _ _ _ hp hq hp h1 h2)
   rw [if_neg (fun h=>hu h.1)]
   rw [after_put (L:=layP l hl.v) (n:=m) e]
   refine after_put ?_
   show getL _ _=_
   rw [getL_append,e];rfl
  | none =>
   have hput:(layP (l ++ [(p,n)]) hv).put q=none:=by
    show getL _ _=_
    rw [getL_append,e,if_neg (fun h=>hqp h.symm)];rfl
   have hcov:Cov dir (layP (l ++ [(p,n)]) hv) q↔Cov dir (layP l hl.v) q∨(dir n=false∧P.under p q=true):=by
    constructor
    ·rintro ⟨a,m,h1,h2,h3⟩
     change getL _ _=_ at h1
     rw [getL_append] at h1
     cases e2:getL l a with
     | some k=>rw [e2] at h1;exact .inl ⟨a,k,e2,by cases h1;exact h2,h3⟩
     | none =>
      rw [e2] at h1
      by_cases hpa:p=a
      ·subst hpa
       rw [if_pos rfl] at h1
       cases h1
       exact .inr ⟨h2,h3⟩
      ·rw [if_neg hpa] at h1;cases h1
    ·rintro (⟨a,m,h1,h2,h3⟩|⟨h2,h3⟩)
     ·refine ⟨a,m,?_,h2,h3⟩
      show getL _ _=_
      change getL _ _=_ at h1
      rw [getL_append,h1];rfl
     ·refine ⟨p,n,?_,h2,h3⟩
      show getL _ _=_
      rw [getL_append,hpn,if_pos rfl];rfl
   by_cases hc:Cov dir (layP l hl.v) q
   ·rw [after_gone hput (.inl (hcov.2 (.inl hc)))]
    rw [after_gone (L:=layP l hl.v) e (.inl hc)]
    split <;> rfl
   ·have hh:after dir (layP l hl.v) g q=g q:=after_same (L:=layP l hl.v) e hc rfl
    by_cases hu:P.under p q=true
    ·cases hd:dir n with
     | false=>rw [after_gone hput (.inl (hcov.2 (.inr ⟨hd,hu⟩))),if_pos ⟨hu,.inl rfl⟩]
     | true =>
      rw [after_same hput (fun h=>by rcases hcov.1 h with h|h;exact hc h;rw [hd] at h;cases h.1) rfl]
      by_cases hf:Fold P dir (after dir (layP l hl.v) g) p
      ·rw [if_neg (fun h=>by rcases h.2 with h|h;cases h;exact h hf),hh]
      ·rw [if_pos ⟨hu,.inr hf⟩]
       cases eg:g q with
       | none=>rfl
       | some m=>exact absurd (hw.up q hq m (hh.trans eg) p hu) hf
    ·rw [if_neg (fun h=>hu h.1),hh]
     exact after_same hput (fun h=>by rcases hcov.1 h with h|h;exact hc h;exact hu h.2) rfl
omit [DecidableEq π] in
theorem fold_ext {g h:π→Option ν} (e:∀ q,P.V q→g q=h q) {p:π} (hp:p=P.root∨P.V p):Fold P dir g p↔Fold P dir h p:=by
 unfold Fold
 rcases hp with hp|hp
 ·simp [hp]
 ·rw [e p hp]
theorem putF_ext {g h:π→Option ν} (e:∀ q,P.V q→g q=h q) {p:π} (hp:P.V p) (n:ν) (q:π) (hq:P.V q):putF P dir p n g q=putF P dir p n h q:=by
 have hf:=fold_ext (dir:=dir) e (p:=p) (.inr hp)
 unfold putF
 by_cases h1:q=p
 ·rw [if_pos h1,if_pos h1]
 ·rw [if_neg h1,if_neg h1]
  by_cases c:P.under p q=true∧(dir n=false∨¬ Fold P dir g p)
  ·rw [if_pos c,if_pos ⟨c.1,c.2.imp_right fun h h'=>h (hf.2 h')⟩]
  ·rw [if_neg c,if_neg (fun d=>c ⟨d.1,d.2.imp_right fun h h'=>h (hf.1 h')⟩),e q hq]
theorem Puts.ext {l:List (π×ν)} (hv:∀ x ∈ l,P.V x.1) {g h:π→Option ν} (e:∀ q,P.V q→g q=h q) {o:Option (π→Option ν)} (hp:Puts P dir l g o) :
  ∃ o',Puts P dir l h o'∧((o=none∧o'=none)∨∃ a b,o=some a∧o'=some b∧∀ q,P.V q→a q=b q):=by
 induction hp generalizing h with
 | nil g=>exact ⟨_,.nil h,.inr ⟨g,h,rfl,rfl,e⟩⟩
 | no hn=>exact ⟨_,.no (fun hf=>hn ((fold_ext e (P.par_V (hv _ List.mem_cons_self))).2 hf)),.inl ⟨rfl,rfl⟩⟩
 | step hf _ ih =>
  obtain ⟨o',h1,h2⟩:=ih (fun x hx=>hv x (List.mem_cons_of_mem _ hx)) (fun q hq=>putF_ext e (hv _ List.mem_cons_self) _ q hq)
  exact ⟨o',.step ((fold_ext e (P.par_V (hv _ List.mem_cons_self))).1 hf) h1,h2⟩
theorem puts_after {l:List (π×ν)} (hl:Srt P l) {g:π→Option ν} (hg:WF P dir g) {o:Option (π→Option ν)} (h:Puts P dir l g o) :
  (o=none∧¬ Ok dir (layP l hl.v) g)∨(∃ g',o=some g'∧Ok dir (layP l hl.v) g∧∀ q,P.V q→g' q=after dir (layP l hl.v) g q):=by
 suffices H:∀ (r a:List (π×ν)) (hs:Srt P (a ++ r)) (ha:Srt P a),Ok dir (layP a ha.v) g→∀ (h:π→Option ν),(∀ q,P.V q→h q=after dir (layP a ha.v) g q)→∀ o,Puts P dir r h o →
   (o=none∧¬ Ok dir (layP (a ++ r) hs.v) g)∨(∃ g',o=some g'∧Ok dir (layP (a ++ r) hs.v) g∧∀ q,P.V q→g' q=after dir (layP (a ++ r) hs.v) g q) by
  have h0:Ok dir (layP (P:=P) ([]:List (π×ν)) Srt.nil.v) g:=fun p n hp=>by cases hp
  exact H l [] hl Srt.nil h0 g (fun q _=>(after_same rfl (fun ⟨_,_,h,_⟩=>by cases h) rfl).symm) o h
 intro r
 induction r with
 | nil =>
  intro a hs ha hok h he o hp
  cases hp
  refine .inr ⟨h,rfl,?_,?_⟩
  ·simpa using hok
  ·simpa using he
 | cons x r ih =>
  obtain ⟨p,n⟩:=x
  intro a hs ha hok h he o hp
  have hpv:P.V p:=hs.v (p,n) (by simp)
  have hlt:∀ y ∈ a,P.lt y.1 p:=fun y hy=>(List.pairwise_append.1 hs.s).2.2 y hy (p,n) List.mem_cons_self
  have ha':Srt P (a ++ [(p,n)]):=⟨fun y hy=>hs.v y (by rcases List.mem_append.1 hy with h|h;exact List.mem_append_left _ h;simp at h;subst h;simp),
   List.pairwise_append.2 ⟨ha.s,List.pairwise_singleton _ _,fun y hy z hz=>by simp at hz;subst hz;exact hlt y hy⟩⟩
  have e1:a ++ (p,n) :: r=(a ++ [(p,n)]) ++ r:=by simp
  have hlast:=fun q hq=>put_last (dir:=dir) (n:=n) ha hpv hlt hg hok ha'.v q hq
  have hgp:getL a p=none:=by
   cases e:getL a p with
   | none=>rfl
   | some m=>exact absurd (hlt _ (pz27 e)) (P.lt_irrefl _ hpv)
  have hpar:∀ (L:List (π×ν)) (hL:Srt P L),(∀ y ∈ L,y ∈ a∨P.lt p y.1∨y.1=p)→(∀ y ∈ a,y ∈ L)→(Fold P dir (after dir (layP L hL.v) g) (P.par p)↔Fold P dir (after dir (layP a ha.v) g) (P.par p)):=by
   intro L hL h1 h2
   rcases P.par_V hpv with hr|hv
   ·simp [Fold,hr]
   ·have hne:P.par p≠P.root:=Paths.ne_root hv
    have hpl:=P.par_lt hpv hne
    have : after dir (layP L hL.v) g (P.par p)=after dir (layP a ha.v) g (P.par p):=by
     have hgt:∀ y:π×ν,(y.1=p∨P.lt p y.1)→P.V y.1→∀ y':ν,y.2=y'→¬ P.under y.1 (P.par p)=true∧y.1≠P.par p:=by
      intro y hy hvy _ _
      have hlt':P.lt (P.par p) y.1:=by
       rcases hy with e|e
       ·rw [e];exact hpl
       ·exact P.lt_trans _ _ _ hv hpv hvy hpl e
      refine ⟨fun hu=>?_,fun e=>?_⟩
      ·exact P.lt_irrefl _ hv (P.lt_trans _ _ _ hv hvy hv hlt' (Paths.under_lt _ hv hvy hu))
      ·rw [e] at hlt';exact P.lt_irrefl _ hv hlt'
     have hput:getL L (P.par p)=getL a (P.par p):=by
      cases e:getL a (P.par p) with
      | some m=>exact hL.get (h2 _ (pz27 e))
      | none =>
       cases e2:getL L (P.par p) with
       | none=>rfl
       | some m =>
        rcases h1 _ (pz27 e2) with h|h|h
        ·exact absurd h (getL_none e m)
        ·exact absurd rfl (hgt (P.par p,m) (.inr h) hv _ rfl).2
        ·exact absurd rfl (hgt (P.par p,m) (.inl h) hv _ rfl).2
     have hcov:Cov dir (layP L hL.v) (P.par p)↔Cov dir (layP a ha.v) (P.par p):=by
      constructor
      ·rintro ⟨b,m,c1,c2,c3⟩
       have hb:=pz27 c1
       rcases h1 _ hb with h|h|h
       ·exact ⟨b,m,ha.get h,c2,c3⟩
       ·exact absurd c3 (hgt (b,m) (.inr h) (hL.v _ hb) _ rfl).1
       ·exact absurd c3 (hgt (b,m) (.inl h) (hL.v _ hb) _ rfl).1
      ·rintro ⟨b,m,c1,c2,c3⟩
       exact ⟨b,m,hL.get (h2 _ (pz27 c1)),c2,c3⟩
     rcases after_cases (dir:=dir) (layP a ha.v) g (P.par p) with ⟨m,c1,c2⟩|⟨c1,c2,c3⟩|⟨c1,c2,c3,c4⟩
     ·rw [c2];exact after_put (hput.trans c1)
     ·rw [c3];exact after_gone (hput.trans c1) (c2.imp hcov.2 (fun h=>by cases h))
     ·rw [c4];exact after_same (hput.trans c1) (fun h=>c2 (hcov.1 h)) rfl
    unfold Fold
    rw [this]
  have hfold:Fold P dir h (P.par p)↔Fold P dir (after dir (layP a ha.v) g) (P.par p):=fold_ext he (P.par_V hpv)
  cases hp with
  | no hno =>
   refine .inl ⟨rfl,fun hk=>hno (hfold.2 ?_)⟩
   refine (hpar _ hs ?_ (fun y hy=>List.mem_append_left _ hy)).1 (hk p n (hs.get (by simp)))
   intro y hy
   rcases List.mem_append.1 hy with h|h
   ·exact .inl h
   ·rcases List.mem_cons.1 h with h|h
    ·subst h;exact .inr (.inr rfl)
    ·exact .inr (.inl ((List.pairwise_cons.1 (List.pairwise_append.1 hs.s).2.1).1 y h))
  | step hf hp' =>
   have hok':Ok dir (layP (a ++ [(p,n)]) ha'.v) g:=by
    intro b m hb
    change getL _ _=_ at hb
    have hbm:=pz27 hb
    have sub:∀ y ∈ a ++ [(p,n)],y ∈ a∨P.lt p y.1∨y.1=p:=fun y hy=>by
     rcases List.mem_append.1 hy with h|h
     ·exact .inl h
     ·simp at h;subst h;exact .inr (.inr rfl)
    rcases List.mem_append.1 hbm with hba|hba
    ·have h1:=hok b m (ha.get hba)
     have hvb:=ha.v _ hba
     rcases P.par_V hvb with hr|hv
     ·exact .inl hr
     ·have hbp:=hlt _ hba
      have hpb:=P.par_lt hvb (Paths.ne_root hv)
      have hlp:P.lt (P.par b) p:=P.lt_trans _ _ _ hv hvb hpv hpb hbp
      refine (fold_ext (dir:=dir) (g:=after dir (layP a ha.v) g) (h:=after dir (layP a ha.v) g) (fun _ _=>rfl) (.inr hv)).1 h1 |> fun h1=>?_
      rcases h1 with h1|⟨k,hk,hd⟩
      ·exact .inl h1
      ·refine .inr ⟨k,?_,hd⟩
       rw [hlast _ hv]
       unfold putF
       rw [if_neg (fun e=>by rw [e] at hlp;exact P.lt_irrefl _ hpv hlp),if_neg (fun hu=>P.lt_irrefl _ hv (P.lt_trans _ _ _ hv hpv hv hlp (Paths.under_lt _ hv hpv hu.1)))]
       exact hk
    ·simp at hba
     obtain ⟨rfl,rfl⟩:=hba
     exact (hpar _ ha' sub (fun y hy=>List.mem_append_left _ hy)).2 (hfold.1 hf)
   have:=ih (a ++ [(p,n)]) (by rw [← e1];exact hs) ha' hok' (putF P dir p n h) (fun q hq=>by rw [hlast q hq];exact putF_ext he hpv n q hq) o hp'
   have e2:∀ (X:List (π×ν)) (hX:∀ x ∈ X,P.V x.1) (Y:List (π×ν)) (hY:∀ x ∈ Y,P.V x.1),X=Y→layP X hX=layP Y hY:=by
    intro X hX Y hY e;subst e;rfl
   rw [e2 _ hs.v _ (by rw [← e1];exact hs.v) e1]
   exact this
end Go.Proofs.Zt
end
section
namespace Go.Proofs.Zt
variable {π ν:Type} [DecidableEq π] {P:Paths π} {dir:ν→Bool}
structure Ch (π ν:Type) where
 path:π
 op:Int
 node:ν
 deriving DecidableEq
def Takes (P:Paths π) (c:Ch π ν) (q:π):Bool:=(c.op == 1 && (decide (q=c.path) || P.under c.path q)) || (c.op == 2 && P.under c.path q)
structure LayR (P:Paths π) (key:Ch π ν→π) (l:List (Ch π ν)):Prop where
 op:∀ c ∈ l,c.op=0∨c.op=1∨c.op=2
 put:∀ c ∈ l,c.op=0→P.V c.path∧key c=c.path
 white:∀ c ∈ l,c.op=1→P.V c.path
 opaq:∀ c ∈ l,c.op=2→c.path=P.root∨P.V c.path
 v:∀ c ∈ l,P.V (key c)
 s:l.Pairwise fun a b=>P.lt (key a) (key b)
def puts:List (Ch π ν)→List (π×ν)
 | []=>[]
 | c :: r=>if c.op=0 then (c.path,c.node) :: puts r else puts r
omit [DecidableEq π] in
theorem mem_puts {l:List (Ch π ν)} {p:π} {n:ν}:(p,n) ∈ puts l↔∃ c ∈ l,c.op=0∧c.path=p∧c.node=n:=by
 induction l with
 | nil=>simp [puts]
 | cons c r ih =>
  unfold puts
  split
  ·rename_i h
   simp only [List.mem_cons,ih,Prod.mk.injEq]
   constructor
   ·rintro (⟨rfl,rfl⟩|⟨d,hd,h1⟩)
    ·exact ⟨c,.inl rfl,h,rfl,rfl⟩
    ·exact ⟨d,.inr hd,h1⟩
   ·rintro ⟨d,rfl|hd,h1,h2,h3⟩
    ·exact .inl ⟨h2.symm,h3.symm⟩
    ·exact .inr ⟨d,hd,h1,h2,h3⟩
  ·rename_i h
   rw [ih]
   constructor
   ·rintro ⟨d,hd,h1⟩;exact ⟨d,List.mem_cons_of_mem _ hd,h1⟩
   ·rintro ⟨d,hd,h1,h2⟩
    rcases List.mem_cons.1 hd with rfl|hd
    ·exact absurd h1 h
    ·exact ⟨d,hd,h1,h2⟩
omit [DecidableEq π] in
theorem LayR.tail {key:Ch π ν→π} {c:Ch π ν} {l:List (Ch π ν)} (h:LayR P key (c :: l)):LayR P key l :=
 ⟨fun x hx=>h.op x (List.mem_cons_of_mem _ hx),fun x hx=>h.put x (List.mem_cons_of_mem _ hx),fun x hx=>h.white x (List.mem_cons_of_mem _ hx),fun x hx=>h.opaq x (List.mem_cons_of_mem _ hx),fun x hx=>h.v x (List.mem_cons_of_mem _ hx),(List.pairwise_cons.1 h.s).2⟩
omit [DecidableEq π] in
theorem puts_srt {key:Ch π ν→π} {l:List (Ch π ν)} (h:LayR P key l):Srt P (puts l):=by
 refine ⟨fun x hx=>?_,?_⟩
 ·obtain ⟨c,hc,h1,h2,_⟩:=mem_puts.1 hx
  rw [← h2];exact (h.put c hc h1).1
 ·induction l with
  | nil=>exact List.Pairwise.nil
  | cons c r ih =>
   unfold puts
   split
   ·rename_i h0
    refine List.pairwise_cons.2 ⟨fun y hy=>?_,ih h.tail⟩
    obtain ⟨d,hd,h1,h2,_⟩:=mem_puts.1 hy
    have:=(List.pairwise_cons.1 h.s).1 d hd
    rw [(h.put c List.mem_cons_self h0).2,(h.put d (List.mem_cons_of_mem _ hd) h1).2,h2] at this
    exact this
   ·exact ih h.tail
def tkL (P:Paths π) (l:List (Ch π ν)) (q:π):Bool:=l.any fun c=>Takes P c q
theorem takes_down {c:Ch π ν} {p q:π} (hq:P.V q) (h:Takes P c p=true) (hu:P.under p q=true):Takes P c q=true:=by
 unfold Takes at *
 simp only [Bool.or_eq_true,Bool.and_eq_true,decide_eq_true_eq,beq_iff_eq] at *
 rcases h with ⟨h1,rfl|h2⟩|⟨h1,h2⟩
 ·exact .inl ⟨h1,.inr hu⟩
 ·exact .inl ⟨h1,.inr (Paths.under_trans q hq h2 hu)⟩
 ·exact .inr ⟨h1,Paths.under_trans q hq h2 hu⟩
theorem tkL_down {l:List (Ch π ν)} {p q:π} (hq:P.V q) (h:tkL P l p=true) (hu:P.under p q=true):tkL P l q=true:=by
 unfold tkL at *
 rw [List.any_eq_true] at *
 obtain ⟨c,hc,h1⟩:=h
 exact ⟨c,hc,takes_down hq h1 hu⟩
def layOf {key:Ch π ν→π} {l:List (Ch π ν)} (h:LayR P key l):Lay P ν :=
 ⟨getL (puts l),tkL P l,fun _ _ hp=>(puts_srt h).v _ (pz27 hp),fun _ _ hq ht hu=>tkL_down hq ht hu⟩
theorem pz38 {key:Ch π ν→π} {l:List (Ch π ν)} (h:LayR P key l) {p:π} {n:ν}:(layOf h).put p=some n↔∃ c ∈ l,c.op=0∧c.path=p∧c.node=n:=by
 rw [← mem_puts];exact (puts_srt h).get_iff
omit [DecidableEq π] in
theorem take_WF {g:π→Option ν} (hg:WF P dir g) (t:π→Bool) (ht:∀ p q,P.V q→t p=true→P.under p q=true→t q=true):WF P dir (fun q=>if t q=true then none else g q):=by
 intro q n hn
 dsimp only at hn
 split at hn
 ·cases hn
 ·rename_i h
  obtain ⟨hv,hf⟩:=hg q n hn
  refine ⟨hv,?_⟩
  rcases hf with hr|⟨m,hm,hd⟩
  ·exact .inl hr
  ·refine .inr ⟨m,?_,hd⟩
   dsimp only
   rw [if_neg (fun e=>h (ht _ _ hv e (Paths.under_par hv)))]
   exact hm
theorem after_layers {key:Ch π ν→π} {l:List (Ch π ν)} (h:LayR P key l) (g:π→Option ν):after dir (layP (puts l) (puts_srt h).v) (fun q=>if tkL P l q=true then none else g q)=after dir (layOf h) g:=by
 funext q
 have hcov:Cov dir (layP (puts l) (puts_srt h).v) q↔Cov dir (layOf h) q:=Iff.rfl
 rcases after_cases (dir:=dir) (layOf h) g q with ⟨m,h1,h2⟩|⟨h1,h2,h3⟩|⟨h1,h2,h3,h4⟩
 ·rw [h2];exact after_put h1
 ·rw [h3]
  by_cases hc:Cov dir (layOf h) q
  ·exact after_gone h1 (.inl hc)
  ·have ht:=h2.resolve_left hc
   rw [after_same (L:=layP (puts l) (puts_srt h).v) h1 hc rfl]
   exact if_pos ht
 ·rw [h4,after_same (L:=layP (puts l) (puts_srt h).v) h1 h2 rfl]
  refine if_neg ?_
  change tkL P l q=false at h3
  rw [h3];simp
theorem ok_layers {key:Ch π ν→π} {l:List (Ch π ν)} (h:LayR P key l) (g:π→Option ν):Ok dir (layP (puts l) (puts_srt h).v) (fun q=>if tkL P l q=true then none else g q)↔Ok dir (layOf h) g:=by
 unfold Ok
 rw [after_layers h g]
 exact Iff.rfl
theorem done_after {key:Ch π ν→π} {l:List (Ch π ν)} (h:LayR P key l) {g:π→Option ν} (hg:WF P dir g) {g0:π→Option ν} (h0:∀ q,P.V q→g0 q=if tkL P l q=true then none else g q) {o:Option (π→Option ν)} (hp:Puts P dir (puts l) g0 o) :
  (o=none∧¬ Ok dir (layOf h) g)∨(∃ g',o=some g'∧Ok dir (layOf h) g∧∀ q,P.V q→g' q=after dir (layOf h) g q):=by
 obtain ⟨o',h1,h2⟩:=hp.ext (puts_srt h).v h0
 have hw:=take_WF hg (tkL P l) (fun p q hq ht hu=>tkL_down hq ht hu)
 have hs:=puts_after (puts_srt h) hw h1
 rw [ok_layers h g,after_layers h g] at hs
 rcases hs with ⟨e,hn⟩|⟨g',e,hk,ha⟩
 ·rcases h2 with ⟨e1,_⟩|⟨a,b,_,e2,_⟩
  ·exact .inl ⟨e1,hn⟩
  ·rw [e] at e2;cases e2
 ·rcases h2 with ⟨_,e2⟩|⟨a,b,e1,e2,hab⟩
  ·rw [e] at e2;cases e2
  ·rw [e] at e2;cases e2
   exact .inr ⟨a,e1,hk,fun q hq=>(hab q hq).trans (ha q hq)⟩
def withoutL (P:Paths π) (t:List (π×ν)) (p:π) (self:Bool):List (π×ν):=t.filter fun e=>!P.under p e.1 && !(self && decide (e.1=p))
theorem withoutL_srt {t:List (π×ν)} (h:Srt P t) (p:π) (self:Bool):Srt P (withoutL P t p self):=h.filter _
theorem withoutL_get {t:List (π×ν)} (h:Srt P t) (p:π) (self:Bool) (q:π):getL (withoutL P t p self) q=if P.under p q=true∨(self=true∧q=p) then none else getL t q:=by
 unfold withoutL
 rw [getL_filter h (fun x=>!P.under p x && !(self && decide (x=p)))]
 by_cases c:P.under p q=true∨(self=true∧q=p)
 ·rw [if_pos c,if_neg]
  rcases c with c|⟨c1,c2⟩
  ·rw [c];simp
  ·rw [c1,c2];simp
 ·rw [if_neg c,if_pos]
  simp only [not_or,not_and] at c
  have h1:P.under p q=false:=by simpa using c.1
  rw [h1]
  cases self with
  | false=>simp
  | true=>simp [c.2 rfl]
def putL (less:π→π→Bool) (e:π×ν):List (π×ν)→List (π×ν)
 | []=>[e]
 | x :: r=>if less x.1 e.1 then x :: putL less e r else if x.1=e.1 then e :: r else e :: x :: r
theorem mem_putL {less:π→π→Bool} {e y:π×ν} {t:List (π×ν)} (h:y ∈ putL less e t):y=e∨y ∈ t:=by
 induction t with
 | nil=>exact .inl (by simpa [putL] using h)
 | cons x r ih =>
  unfold putL at h
  split at h
  ·rcases List.mem_cons.1 h with h|h
   ·exact .inr (by rw [h];exact List.mem_cons_self)
   ·exact (ih h).imp_right (List.mem_cons_of_mem _)
  ·split at h
   ·rcases List.mem_cons.1 h with h|h
    ·exact .inl h
    ·exact .inr (List.mem_cons_of_mem _ h)
   ·rcases List.mem_cons.1 h with h|h
    ·exact .inl h
    ·exact .inr h
theorem putL_get {less:π→π→Bool} (e:π×ν) (t:List (π×ν)) (hl:∀ x ∈ t,less x.1 e.1=true→x.1≠e.1) (q:π):getL (putL less e t) q=if q=e.1 then some e.2 else getL t q:=by
 induction t with
 | nil =>
  simp only [putL,getL]
  by_cases c:q=e.1
  ·rw [if_pos c,if_pos c.symm]
  ·rw [if_neg c,if_neg (fun h=>c h.symm)]
 | cons x r ih =>
  have ih:=ih (fun y hy=>hl y (List.mem_cons_of_mem _ hy))
  have hx:=hl x List.mem_cons_self
  obtain ⟨a,n⟩:=x
  unfold putL
  split
  ·rename_i h
   simp only [getL]
   rw [ih]
   by_cases c:q=e.1
   ·rw [if_pos c,if_pos c,if_neg];rw [c];exact hx h
   ·rw [if_neg c,if_neg c]
  ·split
   ·rename_i h2
    simp only [getL]
    change a=e.1 at h2
    by_cases c:q=e.1
    ·rw [if_pos c,if_pos c.symm]
    ·rw [if_neg c,if_neg (fun h=>c h.symm),if_neg (fun h=>c (by rw [← h,h2]))]
   ·rename_i h2
    simp only [getL]
    by_cases c:q=e.1
    ·rw [if_pos c,if_pos c.symm]
    ·rw [if_neg c,if_neg (fun h=>c h.symm)]
theorem putL_srt {less:π→π→Bool} (hless:∀ a b,P.V a→P.V b→(less a b=true↔P.lt a b)) {e:π×ν} (he:P.V e.1) {t:List (π×ν)} (h:Srt P t):Srt P (putL less e t):=by
 refine ⟨fun y hy=>by rcases mem_putL hy with rfl|hy;exact he;exact h.v y hy,?_⟩
 induction t with
 | nil=>simp [putL]
 | cons x r ih =>
  have hx:=h.v x List.mem_cons_self
  unfold putL
  split
  ·rename_i hl
   refine List.pairwise_cons.2 ⟨fun y hy=>?_,ih h.tail⟩
   rcases mem_putL hy with rfl|hy
   ·exact (hless _ _ hx he).1 hl
   ·exact h.head y hy
  ·rename_i hl
   split
   ·rename_i e2
    refine List.pairwise_cons.2 ⟨fun y hy=>?_,h.tail.s⟩
    rw [← e2];exact h.head y hy
   ·rename_i e2
    have hlt:P.lt e.1 x.1:=(P.lt_total _ _ he hx (fun h=>e2 h.symm)).resolve_right (fun h=>hl ((hless _ _ hx he).2 h))
    refine List.pairwise_cons.2 ⟨fun y hy=>?_,h.s⟩
    rcases List.mem_cons.1 hy with rfl|hy
    ·exact hlt
    ·exact P.lt_trans _ _ _ he hx (h.v y (List.mem_cons_of_mem _ hy)) hlt (h.head y hy)
def folderL (P:Paths π) (dir:ν→Bool) (t:List (π×ν)) (p:π):Bool:=decide (p=P.root) || match getL t p with|some n=>dir n|none=>false
theorem folderL_iff (t:List (π×ν)) (p:π):folderL P dir t p=true↔Fold P dir (getL t) p:=by
 unfold folderL Fold
 cases h:getL t p <;> simp
def takeL (P:Paths π):List (Ch π ν)→List (π×ν)→List (π×ν)
 | [],t=>t
 | c :: r,t=>takeL P r (if c.op=0 then t else withoutL P t c.path (c.op == 1))
def putsL (P:Paths π) (dir:ν→Bool) (less:π→π→Bool):List (π×ν)→List (π×ν)→Option (List (π×ν))
 | [],t=>some t
 | e :: r,t=>if folderL P dir t (P.par e.1) then putsL P dir less r (putL less e (if folderL P dir t e.1 && dir e.2 then t else withoutL P t e.1 true)) else none
def applyL (P:Paths π) (dir:ν→Bool) (less:π→π→Bool) (t:List (π×ν)) (l:List (Ch π ν)):Option (List (π×ν)):=putsL P dir less (puts l) (takeL P l t)
theorem takeL_spec {l:List (Ch π ν)} (hop:∀ c ∈ l,c.op=0∨c.op=1∨c.op=2) {t:List (π×ν)} (h:Srt P t):Srt P (takeL P l t)∧∀ q,getL (takeL P l t) q=if tkL P l q=true then none else getL t q:=by
 induction l generalizing t with
 | nil=>exact ⟨h,fun q=>by simp [takeL,tkL]⟩
 | cons c r ih =>
  unfold takeL
  have ih:=fun t h=>@ih (fun x hx=>hop x (List.mem_cons_of_mem _ hx)) t h
  have hc:Srt P (if c.op=0 then t else withoutL P t c.path (c.op == 1)):=by
   split
   ·exact h
   ·exact withoutL_srt h _ _
  obtain ⟨h1,h2⟩:=ih _ hc
  refine ⟨h1,fun q=>?_⟩
  rw [h2 q]
  have e:tkL P (c :: r) q=(Takes P c q || tkL P r q):=by simp [tkL]
  rw [e]
  cases ht:tkL P r q with
  | true=>simp
  | false =>
   simp only [Bool.or_false,Bool.false_eq_true,if_false]
   rcases hop c List.mem_cons_self with h0|h0|h0
   ·rw [if_pos h0];unfold Takes;simp [h0]
   ·rw [if_neg (by omega),withoutL_get h];unfold Takes;simp [h0,or_comm]
   ·rw [if_neg (by omega),withoutL_get h];unfold Takes;simp [h0]
theorem putsL_spec {less:π→π→Bool} (hless:∀ a b,P.V a→P.V b→(less a b=true↔P.lt a b)) {ps:List (π×ν)} (hv:∀ x ∈ ps,P.V x.1) {t:List (π×ν)} (h:Srt P t) :
  (putsL P dir less ps t=none∧Puts P dir ps (getL t) none)∨∃ t',putsL P dir less ps t=some t'∧Srt P t'∧Puts P dir ps (getL t) (some (getL t')):=by
 induction ps generalizing t with
 | nil=>exact .inr ⟨t,rfl,h,.nil _⟩
 | cons e r ih =>
  obtain ⟨p,n⟩:=e
  have hp:P.V p:=hv (p,n) List.mem_cons_self
  unfold putsL
  by_cases hf:folderL P dir t (P.par p)=true
  ·rw [if_pos hf]
   have hf':=(folderL_iff t _).1 hf
   have hc:Srt P (if (folderL P dir t p && dir n)=true then t else withoutL P t p true):=by
    split
    ·exact h
    ·exact withoutL_srt h _ _
   have hs:=putL_srt hless (e:=(p,n)) hp hc
   have hg:getL (putL less (p,n) (if (folderL P dir t p && dir n)=true then t else withoutL P t p true))=putF P dir p n (getL t):=by
    funext q
    rw [putL_get (e:=(p,n)) _ (fun x hx hl e=>by
     have:=(hless _ _ (hc.v x hx) hp).1 hl
     rw [e] at this
     exact P.lt_irrefl _ hp this)]
    unfold putF
    by_cases hq:q=p
    ·rw [if_pos hq,if_pos hq]
    ·rw [if_neg hq,if_neg hq]
     by_cases c:(folderL P dir t p && dir n)=true
     ·rw [if_pos c]
      simp only [Bool.and_eq_true] at c
      rw [if_neg]
      rintro ⟨_,h1|h1⟩
      ·rw [c.2] at h1;cases h1
      ·exact h1 ((folderL_iff t p).1 c.1)
     ·rw [if_neg c,withoutL_get h]
      by_cases hu:P.under p q=true
      ·rw [if_pos (.inl hu),if_pos]
       refine ⟨hu,?_⟩
       cases hd:dir n with
       | false=>exact .inl rfl
       | true=>exact .inr fun hk=>c (by rw [hd,(folderL_iff t p).2 hk];rfl)
      ·rw [if_neg (fun h=>h.elim hu (fun h=>hq h.2)),if_neg (fun h=>hu h.1)]
   rcases ih (fun x hx=>hv x (List.mem_cons_of_mem _ hx)) hs with ⟨h1,h2⟩|⟨t',h1,h2,h3⟩
   ·exact .inl ⟨h1,.step hf' (by rw [hg] at h2;exact h2)⟩
   ·exact .inr ⟨t',h1,h2,.step hf' (by rw [hg] at h3;exact h3)⟩
  ·rw [if_neg hf]
   exact .inl ⟨rfl,.no (fun h'=>hf ((folderL_iff t _).2 h'))⟩
theorem applyL_spec {key:Ch π ν→π} {less:π→π→Bool} (hless:∀ a b,P.V a→P.V b→(less a b=true↔P.lt a b)) {l:List (Ch π ν)} (hl:LayR P key l) {t:List (π×ν)} (h:Srt P t) (hw:WF P dir (getL t)) :
  (applyL P dir less t l=none∧¬ Ok dir (layOf hl) (getL t))∨∃ t',applyL P dir less t l=some t'∧Srt P t'∧Ok dir (layOf hl) (getL t)∧∀ q,P.V q→getL t' q=after dir (layOf hl) (getL t) q:=by
 obtain ⟨h1,h2⟩:=takeL_spec hl.op h
 unfold applyL
 rcases putsL_spec (dir:=dir) hless (puts_srt hl).v h1 with ⟨e,hp⟩|⟨t',e,hs,hp⟩
 ·rcases done_after hl hw (fun q _=>h2 q) hp with ⟨_,hn⟩|⟨g',e',_⟩
  ·exact .inl ⟨e,hn⟩
  ·cases e'
 ·rcases done_after hl hw (fun q _=>h2 q) hp with ⟨e',_⟩|⟨g',e',hk,ha⟩
  ·cases e'
  ·cases e'
   exact .inr ⟨t',e,hs,hk,ha⟩
theorem applyL_unique {key:Ch π ν→π} {less:π→π→Bool} (hless:∀ a b,P.V a→P.V b→(less a b=true↔P.lt a b)) {l:List (Ch π ν)} (hl:LayR P key l) {t:List (π×ν)} (h:Srt P t) (hw:WF P dir (getL t))
  {g0:π→Option ν} (h0:∀ q,P.V q→g0 q=if tkL P l q=true then none else getL t q) {o:Option (π→Option ν)} (hp:Puts P dir (puts l) g0 o) :
  (o=none∧applyL P dir less t l=none)∨∃ g' t',o=some g'∧applyL P dir less t l=some t'∧Srt P t'∧(∀ q,P.V q→g' q=getL t' q)∧∀ out,Srt P out→(∀ q,P.V q→getL out q=g' q)→out=t':=by
 rcases applyL_spec (dir:=dir) hless hl h hw with ⟨e,hn⟩|⟨t',e,hs,hk,ha⟩ <;> rcases done_after hl hw h0 hp with ⟨e',hn'⟩|⟨g',e',hk',ha'⟩
 ·exact .inl ⟨e',e⟩
 ·exact absurd hk' hn
 ·exact absurd hk hn'
 ·exact .inr ⟨g',t',e',e,hs,fun q hq=>(ha' q hq).trans (ha q hq).symm,fun out ho hq=>ho.ext hs fun q hv=>(hq q hv).trans ((ha' q hv).trans (ha q hv).symm)⟩
end Go.Proofs.Zt
end
section
namespace Go.Proofs.Zt
def belowM (p name:Str):Str:=if p=[] then name else p ++ 47 :: name
def markF (p:Str):Option (Int×Str) :=
 if isM p=true then
  if markedM (lastM p)=true then
   if lastM p=opqM then some (2,parM p)
   else if partM ((lastM p).drop 4)=true∧markedM ((lastM p).drop 4)=false then some (1,belowM (parM p) ((lastM p).drop 4)) else none
  else some (0,p)
 else none
def wouldM (op:Int) (p:Str):Str:=if op=1 then belowM (parM p) (markM ++ lastM p) else if op=2 then belowM p opqM else p
def unmarkF (op:Int) (p:Str):Option Str:=if markF (wouldM op p)=some (op,p) then some (wouldM op p) else none
def tarM (op:Int) (p:Str):Str:=(unmarkF op p).getD []
theorem markF_is {s:Str} {op:Int} {p:Str} (h:markF s=some (op,p)):isM s=true:=by
 unfold markF at h
 split at h
 ·assumption
 ·cases h
theorem pz37 {op:Int} {p s:Str} (h:unmarkF op p=some s):s=wouldM op p∧markF s=some (op,p)∧isM s=true:=by
 unfold unmarkF at h
 split at h
 ·rename_i e
  cases h
  exact ⟨rfl,e,markF_is e⟩
 ·cases h
theorem tarM_some {op:Int} {p:Str} (h:tarM op p≠[]):unmarkF op p=some (tarM op p):=by
 unfold tarM at *
 cases e:unmarkF op p with
 | none=>rw [e] at h;exact absurd rfl h
 | some s=>rfl
theorem tarM_of {op:Int} {p s:Str} (h:unmarkF op p=some s):tarM op p=s:=by unfold tarM;rw [h];rfl
theorem markF_op {s:Str} {op:Int} {p:Str} (h:markF s=some (op,p)):op=0∨op=1∨op=2:=by
 unfold markF at h
 repeat' split at h
 all_goals first|cases h|skip
 all_goals simp
theorem mark_put {s p:Str} (h:markF s=some (0,p)):s=p∧isM p=true∧markedM (lastM p)=false:=by
 unfold markF at h
 split at h
 ·rename_i h1
  split at h
  ·repeat' split at h
   all_goals first|cases h|skip
  ·rename_i h2
   simp only [Option.some.injEq,Prod.mk.injEq,true_and] at h
   subst h
   exact ⟨rfl,h1,by simpa using h2⟩
 ·cases h
theorem drop_slash {x:Str} (h:(47:UInt8) ∉ x) (n:Nat):(47:UInt8) ∉ x.drop n:=fun hm=>h (List.mem_of_mem_drop hm)
theorem cut_below {s x:Str} (hx:(47:UInt8) ∉ x) (hs:∀ y ∈ cutM s,partM y=true):cutM (belowM (parM s) x)=(cutM s).dropLast ++ [x]:=by
 unfold belowM
 rcases split_cases s with ⟨hd,_,hp⟩|⟨hd,e⟩
 ·rw [hp,if_pos rfl,hd,cut_one hx];rfl
 ·have hc:=cut_par hd
  have hne:parM s≠[]:=by
   intro e0
   rw [e0] at hc
   have hm:([]:Str) ∈ (cutM s).dropLast:=by rw [← hc];simp [cutM]
   exact part_ne (hs _ (List.dropLast_subset _ hm)) rfl
  rw [if_neg hne]
  have:joinM ((cutM s).dropLast ++ [x])=parM s ++ 47 :: x:=join_snoc hd x
  rw [← this,cut_join (by simp)]
  intro y hy
  rcases List.mem_append.1 hy with h|h
  ·exact cutM_slash (List.dropLast_subset _ h)
  ·simp at h;rw [h];exact hx
theorem last_of_cut {s:Str} {l:List Str} {x:Str} (h:cutM s=l ++ [x]):lastM s=x∧(cutM s).dropLast=l:=by
 unfold lastM
 constructor
 ·simp [h]
 ·rw [h];simp
theorem below_len (p x:Str):(belowM p x).length≤p.length + 1 + x.length:=by
 unfold belowM
 split <;> simp <;> omega
theorem mark_white {s p:Str} (h:markF s=some (1,p)):isM p=true∧markedM (lastM p)=false:=by
 unfold markF at h
 split at h
 ·rename_i h1
  split at h
  ·rename_i h2
   split at h
   ·cases h
   ·split at h
    ·rename_i h3
     obtain ⟨h3,h4⟩:=h3
     simp only [Option.some.injEq,Prod.mk.injEq,true_and] at h
     subst h
     obtain ⟨a,b,c,d⟩:=isM_iff.1 h1
     have hx:=drop_slash (lastM_slash s) 4
     have hc:=cut_below hx a
     obtain ⟨e1,e2⟩:=last_of_cut hc
     have hml:=marked_len h2
     have hdl:((lastM s).drop 4).length + 4=(lastM s).length:=by rw [List.length_drop];omega
     rw [if_pos h2] at c d
     refine ⟨isM_iff.2 ⟨fun y hy=>?_,fun y hy=>?_,?_,?_⟩,?_⟩
     ·rw [hc] at hy
      rcases List.mem_append.1 hy with h|h
      ·exact a y (List.dropLast_subset _ h)
      ·simp at h;rw [h];exact h3
     ·rw [e2] at hy;exact b y hy
     ·rw [e1,h4];simp;omega
     ·rw [e1,h4]
      simp only [Bool.false_eq_true,if_false]
      rcases split_cases s with ⟨hd,e,hp⟩|⟨hd,e⟩
      ·have:=below_len (parM s) ((lastM s).drop 4)
       rw [hp] at this ⊢
       unfold belowM
       rw [if_pos rfl]
       omega
      ·have:=below_len (parM s) ((lastM s).drop 4)
       have:=par_length hd
       omega
     ·rw [e1];exact h4
    ·cases h
  ·cases h
 ·cases h
theorem mark_opaque {s p:Str} (h:markF s=some (2,p)):p=parM s∧lastM s=opqM:=by
 unfold markF at h
 split at h
 ·split at h
  ·split at h
   ·rename_i h3
    simp only [Option.some.injEq,Prod.mk.injEq,true_and] at h
    exact ⟨h.symm,h3⟩
   ·split at h <;> simp at h
  ·simp at h
 ·cases h
variable {ν:Type}
structure RightC (l:List (Ch Str ν)):Prop where
 tar:∀ c ∈ l,tarM c.op c.path≠[]
 s:l.Pairwise fun a b=>cmpM (tarM a.op a.path) (tarM b.op b.path)<0
theorem right_layR {l:List (Ch Str ν)} (h:RightC l):LayR PS (fun c=>tarM c.op c.path) l where
 op c hc:=markF_op (pz37 (tarM_some (h.tar c hc))).2.1
 put c hc h0:=by
  obtain ⟨_,h1,_⟩:=pz37 (tarM_some (h.tar c hc))
  rw [h0] at h1
  have:=mark_put h1
  refine ⟨this.2.1,?_⟩
  show tarM c.op c.path=c.path
  rw [h0];exact this.1
 white c hc h0:=by
  obtain ⟨_,h1,_⟩:=pz37 (tarM_some (h.tar c hc))
  rw [h0] at h1
  exact (mark_white h1).1
 opaq c hc h0:=by
  obtain ⟨_,h1,h2⟩:=pz37 (tarM_some (h.tar c hc))
  have e:=(mark_opaque (s:=tarM c.op c.path) (p:=c.path) (h1.trans (by rw [h0]))).1
  rcases is_par h2 with h|h
  ·exact .inl (e.trans h)
  ·exact .inr (by rw [e];exact h)
 v c hc:=(pz37 (tarM_some (h.tar c hc))).2.2
 s:=h.s
theorem tar_inj {a b:Ch Str ν} (ha:tarM a.op a.path≠[]) (h:tarM a.op a.path=tarM b.op b.path):a.op=b.op∧a.path=b.path:=by
 have h1:=(pz37 (tarM_some ha)).2.1
 have h2:=(pz37 (tarM_some (h ▸ ha))).2.1
 rw [← h,h1] at h2
 simp only [Option.some.injEq,Prod.mk.injEq] at h2
 exact h2
end Go.Proofs.Zt
end
section
namespace Go.Proofs.Zt
variable {π ν:Type} [DecidableEq π] {P:Paths π} {dir:ν→Bool}
theorem tkL_iff {l:List (Ch π ν)} {q:π}:tkL P l q=true↔∃ c ∈ l,(c.op=1∧(q=c.path∨P.under c.path q=true))∨(c.op=2∧P.under c.path q=true):=by
 unfold tkL Takes
 simp [List.any_eq_true]
theorem layOf_tk {key:Ch π ν→π} {l:List (Ch π ν)} (h:LayR P key l) {q:π}:(layOf h).tk q=true↔∃ c ∈ l,(c.op=1∧(q=c.path∨P.under c.path q=true))∨(c.op=2∧P.under c.path q=true):=tkL_iff
structure DiffR (P:Paths π) (dir:ν→Bool) (a b:π→Option ν) (l:List (Ch π ν)):Prop where
 op:∀ c ∈ l,c.op=0∨c.op=1
 put:∀ c,c.op=0→(c ∈ l↔b c.path=some c.node∧a c.path≠some c.node)
 white:∀ p,(∃ c ∈ l,c.op=1∧c.path=p)↔a p≠none∧b p=none∧Fold P dir b (P.par p)
structure TwoR (P:Paths π) (dir:ν→Bool) (a b t:List (Ch π ν)) (lets:π→Prop):Prop where
 hB:∀ c ∈ b,c ∈ t
 hA:∀ c ∈ a,(c.op≠0∨lets c.path)→c ∈ t
 hW:∀ c ∈ a,∀ d ∈ b,c.op=0→d.op=0→c.path=d.path→dir c.node=false→dir d.node=true→∃ e ∈ t,e.op=1∧e.path=c.path
 only:∀ c ∈ t,c ∈ b∨(c ∈ a∧(c.op≠0∨lets c.path))∨(c.op=1∧∃ x ∈ a,∃ d ∈ b,x.op=0∧d.op=0∧x.path=c.path∧d.path=c.path∧dir x.node=false∧dir d.node=true)
theorem TwoR.two {key:Ch π ν→π} {a b t:List (Ch π ν)} (ha:LayR P key a) (hb:LayR P key b) (ht:LayR P key t) (h:TwoR P dir a b t (Lets dir (layOf hb))):Two dir (layOf ha) (layOf hb) (layOf ht) where
 putB p n hp:=by
  obtain ⟨c,hc,h1⟩:=(pz38 hb).1 hp
  exact (pz38 ht).2 ⟨c,h.hB c hc,h1⟩
 putA p n hp hl:=by
  obtain ⟨c,hc,h0,rfl,rfl⟩:=(pz38 ha).1 hp
  exact (pz38 ht).2 ⟨c,h.hA c hc (.inr hl),h0,rfl,rfl⟩
 put p n hp:=by
  obtain ⟨c,hc,h0,rfl,rfl⟩:=(pz38 ht).1 hp
  rcases h.only c hc with h1|⟨h1,h2⟩|⟨h1,_⟩
  ·exact .inl ((pz38 hb).2 ⟨c,h1,h0,rfl,rfl⟩)
  ·exact .inr ⟨(pz38 ha).2 ⟨c,h1,h0,rfl,rfl⟩,h2.resolve_left (fun e=>e h0)⟩
  ·rw [h0] at h1;cases h1
 tk q _:=by
  rw [layOf_tk,layOf_tk,layOf_tk]
  constructor
  ·rintro ⟨c,hc,h1⟩
   rcases h.only c hc with h2|⟨h2,_⟩|⟨h2,x,hx,d,hd,x0,d0,xp,dp,xn,dn⟩
   ·exact .inr (.inl ⟨c,h2,h1⟩)
   ·exact .inl ⟨c,h2,h1⟩
   ·rcases h1 with ⟨_,h1⟩|⟨h1,_⟩
    ·exact .inr (.inr ⟨c.path,x.node,d.node,(pz38 ha).2 ⟨x,hx,x0,xp,rfl⟩,xn,(pz38 hb).2 ⟨d,hd,d0,dp,rfl⟩,dn,h1⟩)
    ·rw [h2] at h1;cases h1
  ·rintro (⟨c,hc,h1⟩|⟨c,hc,h1⟩|⟨p,n,m,h1,h2,h3,h4,h5⟩)
   ·exact ⟨c,h.hA c hc (.inl (by rintro e;rcases h1 with ⟨h1,_⟩|⟨h1,_⟩ <;> rw [e] at h1 <;> cases h1)),h1⟩
   ·exact ⟨c,h.hB c hc,h1⟩
   ·obtain ⟨x,hx,x0,rfl,rfl⟩:=(pz38 ha).1 h1
    obtain ⟨d,hd,d0,dp,rfl⟩:=(pz38 hb).1 h3
    obtain ⟨e,he,e1,e2⟩:=h.hW x hx d hd x0 d0 dp.symm h2 h4
    exact ⟨e,he,.inl ⟨e1,by rw [e2];exact h5⟩⟩
end Go.Proofs.Zt
end
section
namespace Go.Proofs.Zt
variable {π ν:Type} [DecidableEq π] {P:Paths π} {dir:ν→Bool}
inductive InAll (P:Paths π) (gs:List (π→Option ν)):π→ν→Prop
 | top {p:π} {n:ν} (h:∀ g ∈ gs,g p=some n) (hp:P.par p=P.root):InAll P gs p n
 | sub {p:π} {n m:ν} (h:∀ g ∈ gs,g p=some n) (hu:InAll P gs (P.par p) m):InAll P gs p n
omit [DecidableEq π] in
theorem InAll.all {gs:List (π→Option ν)} {p:π} {n:ν} (h:InAll P gs p n):∀ g ∈ gs,g p=some n:=by cases h <;> assumption
omit [DecidableEq π] in
theorem InAll.up {gs:List (π→Option ν)} {p:π} {n:ν} (h:InAll P gs p n):P.par p=P.root∨∃ m,InAll P gs (P.par p) m:=by
 cases h with
 | top _ h=>exact .inl h
 | sub _ h=>exact .inr ⟨_,h⟩
omit [DecidableEq π] in
theorem InAll.mk {gs:List (π→Option ν)} {p:π} {n:ν} (h:∀ g ∈ gs,g p=some n) (h2:P.par p=P.root∨∃ m,InAll P gs (P.par p) m):InAll P gs p n:=by
 rcases h2 with h2|⟨m,h2⟩
 ·exact .top h h2
 ·exact .sub h h2
omit [DecidableEq π] in
theorem InAll.perm {gs hs:List (π→Option ν)} (e:∀ g,g ∈ gs↔g ∈ hs) {p:π} {n:ν} (h:InAll P gs p n):InAll P hs p n:=by
 induction h with
 | top h hp=>exact .top (fun g hg=>h g ((e g).2 hg)) hp
 | sub h _ ih=>exact .sub (fun g hg=>h g ((e g).2 hg)) ih
def bothL (P:Paths π) (all:π×ν→Bool):List (π×ν)→List (π×ν)→List (π×ν)
 | out,[]=>out
 | out,e :: r=>bothL P all (if all e && (decide (P.par e.1=P.root) || (getL out (P.par e.1)).isSome) then out ++ [e] else out) r
theorem bothL_spec {gs:List (π→Option ν)} {all:π×ν→Bool} (hall:∀ e,all e=true↔∀ g ∈ gs,g e.1=some e.2) {t:List (π×ν)} (ht:Srt P t) (hg:getL t ∈ gs) :
  Srt P (bothL P all [] t)∧∀ p n,(p,n) ∈ bothL P all [] t↔InAll P gs p n:=by
 suffices H:∀ (r a out:List (π×ν)),t=a ++ r→Srt P out→(∀ x ∈ out,x ∈ a)→(∀ p n,(p,n) ∈ a→((p,n) ∈ out↔InAll P gs p n)) →
   Srt P (bothL P all out r)∧(∀ x ∈ bothL P all out r,x ∈ t)∧∀ p n,(p,n) ∈ t→((p,n) ∈ bothL P all out r↔InAll P gs p n) by
  obtain ⟨h1,h2,h3⟩:=H t [] [] rfl Srt.nil (by simp) (by simp)
  refine ⟨h1,fun p n=>⟨fun h=>(h3 p n (h2 _ h)).1 h,fun h=>(h3 p n ?_).2 h⟩⟩
  exact pz27 (h.all _ hg)
 intro r
 induction r with
 | nil =>
  intro a out he ho hin hiff
  rw [List.append_nil] at he
  subst he
  exact ⟨ho,hin,hiff⟩
 | cons e r ih =>
  intro a out he ho hin hiff
  obtain ⟨p,n⟩:=e
  have hts:(p,n) ∈ t:=by rw [he];simp
  have hpv:=ht.v _ hts
  have hlt:∀ y ∈ a,P.lt y.1 p:=fun y hy=>by
   have:=ht.s
   rw [he] at this
   exact (List.pairwise_append.1 this).2.2 y hy (p,n) List.mem_cons_self
  have htest:(all (p,n) && (decide (P.par p=P.root) || (getL out (P.par p)).isSome))=true↔InAll P gs p n:=by
   rw [Bool.and_eq_true,hall]
   simp only [Bool.or_eq_true,decide_eq_true_eq]
   constructor
   ·rintro ⟨h1,h2⟩
    refine InAll.mk h1 (h2.imp_right fun h=>?_)
    obtain ⟨m,hm⟩:=Option.isSome_iff_exists.1 h
    have hm':=pz27 hm
    exact ⟨m,(hiff _ _ (hin _ hm')).1 hm'⟩
   ·intro h
    refine ⟨h.all,h.up.imp_right fun ⟨m,hm⟩=>?_⟩
    by_cases hr:P.par p=P.root
    ·exfalso
     have:=ht.v _ (pz27 (hm.all _ hg))
     rw [hr] at this
     exact P.V_root this
    ·have hpar:=pz27 (hm.all _ hg)
     have hvp:=ht.v _ hpar
     have hlt2:=P.par_lt hpv hr
     have hpa:(P.par p,m) ∈ a:=by
      rw [he] at hpar
      rcases List.mem_append.1 hpar with h|h
      ·exact h
      ·exfalso
       rcases List.mem_cons.1 h with h|h
       ·simp only [Prod.mk.injEq] at h;rw [h.1] at hlt2;exact P.lt_irrefl _ hpv hlt2
       ·have hs:=ht.s
        rw [he] at hs
        have:=(List.pairwise_cons.1 (List.pairwise_append.1 hs).2.1).1 _ h
        exact P.lt_irrefl _ hpv (P.lt_trans _ _ _ hpv hvp hpv this hlt2)
     rw [ho.get ((hiff _ _ hpa).2 hm)]
     rfl
  unfold bothL
  have hres:=ih (a ++ [(p,n)]) (if (all (p,n) && (decide (P.par p=P.root) || (getL out (P.par p)).isSome))=true then out ++ [(p,n)] else out) (by rw [he];simp)
   (by
    split
    ·exact ⟨fun y hy=>by rcases List.mem_append.1 hy with h|h;exact ho.v y h;simp at h;rw [h];exact hpv,
      List.pairwise_append.2 ⟨ho.s,List.pairwise_singleton _ _,fun y hy z hz=>by simp at hz;rw [hz];exact hlt y (hin y hy)⟩⟩
    ·exact ho)
   (by
    intro x hx
    split at hx
    ·rcases List.mem_append.1 hx with h|h
     ·exact List.mem_append_left _ (hin x h)
     ·exact List.mem_append_right _ h
    ·exact List.mem_append_left _ (hin x hx))
   (by
    intro q m hq
    have hne:(q,m) ∈ a→(q,m)≠(p,n):=fun h e=>by
     have:=hlt _ h
     rw [e] at this
     exact P.lt_irrefl _ hpv this
    split
    ·rename_i hc
     rcases List.mem_append.1 hq with h|h
     ·rw [← hiff q m h]
      constructor
      ·intro h'
       rcases List.mem_append.1 h' with h'|h'
       ·exact h'
       ·simp only [List.mem_singleton] at h';exact absurd h' (hne h)
      ·exact List.mem_append_left _
     ·simp only [List.mem_singleton,Prod.mk.injEq] at h
      obtain ⟨rfl,rfl⟩:=h
      exact ⟨fun _=>htest.1 hc,fun _=>by simp⟩
    ·rename_i hc
     rcases List.mem_append.1 hq with h|h
     ·exact hiff q m h
     ·simp only [List.mem_singleton,Prod.mk.injEq] at h
      obtain ⟨rfl,rfl⟩:=h
      exact ⟨fun h'=>absurd (hlt _ (hin _ h')) (P.lt_irrefl _ hpv),fun h'=>absurd (htest.2 h') hc⟩)
  exact hres
omit [DecidableEq π] in
theorem inAll_WF {gs:List (π→Option ν)} {h:π→Option ν} (hh:∀ p n,h p=some n↔InAll P gs p n) {g:π→Option ν} (hg:g ∈ gs) (hw:WF P dir g):WF P dir h:=by
 intro q n hq
 have hq':=(hh q n).1 hq
 have hgq:=hq'.all g hg
 obtain ⟨hv,hf⟩:=hw q n hgq
 refine ⟨hv,?_⟩
 rcases hq'.up with hr|⟨m,hm⟩
 ·exact .inl hr
 ·refine .inr ⟨m,(hh _ _).2 hm,?_⟩
  rcases hf with hr|⟨k,hk,hd⟩
  ·exfalso
   have:=(hw _ _ (hm.all g hg)).1
   rw [hr] at this
   exact P.V_root this
  ·rw [hm.all g hg] at hk;cases hk;exact hd
end Go.Proofs.Zt
end
section
namespace Go.Proofs.Zt
structure Sys (ν:Type) where
 dir:ν→Bool
 rt:Str→ν→Int
 zero:ν
 rt_zero:∀ s,isM s=true→rt s zero=0
variable {ν:Type} [DecidableEq ν] (Y:Sys ν)
abbrev Row (ν:Type):=List (Str×ν)
abbrev Lyr (ν:Type):=List (Ch Str ν)
def lessM (a b:Str):Bool:=decide (cmpM a b<0)
theorem lessM_iff (a b:Str) (_:PS.V a) (_:PS.V b):lessM a b=true↔PS.lt a b:=by unfold lessM;rw [decide_eq_true_iff];exact Iff.rfl
def chain {α:Type} (r:α→α→Bool):List α→Bool
 | []=>true
 | [_]=>true
 | a :: b :: l=>r a b && chain r (b :: l)
theorem chain_iff {α:Type} {r:α→α→Bool} (ht:∀ a b c,r a b=true→r b c=true→r a c=true) {l:List α}:chain r l=true↔l.Pairwise fun a b=>r a b=true:=by
 induction l with
 | nil=>simp [chain]
 | cons a l ih =>
  cases l with
  | nil=>simp [chain]
  | cons b l =>
   unfold chain
   rw [Bool.and_eq_true,ih,List.pairwise_cons (a:=a)]
   constructor
   ·rintro ⟨h1,h2⟩
    refine ⟨fun c hc=>?_,h2⟩
    rcases List.mem_cons.1 hc with rfl|hc
    ·exact h1
    ·exact ht _ _ _ h1 ((List.pairwise_cons.1 h2).1 c hc)
   ·rintro ⟨h1,h2⟩
    exact ⟨h1 b List.mem_cons_self,h2⟩
def plainM (e:Str×ν):Bool:=decide (markF e.1=some (0,e.1)) && decide (Y.rt e.1 e.2=0)
def rightT (t:Row ν):Bool:=t.all (plainM Y) && chain (fun a b=>lessM a.1 b.1) t && t.all (fun e=>folderL PS Y.dir t (parM e.1)) && decide (t.length≤5000)
structure RightT (t:Row ν):Prop where
 plain:∀ e ∈ t,markF e.1=some (0,e.1)∧Y.rt e.1 e.2=0
 srt:Srt PS t
 wf:WF PS Y.dir (getL t)
 len:t.length≤5000
omit [DecidableEq ν] in
theorem pz39 {t:Row ν}:rightT Y t=true↔RightT Y t:=by
 unfold rightT
 simp only [Bool.and_eq_true,List.all_eq_true,decide_eq_true_eq,plainM]
 rw [chain_iff (fun a b c h1 h2=>by unfold lessM at *;rw [decide_eq_true_iff] at *;exact cmpM_trans h1 h2)]
 constructor
 ·rintro ⟨⟨⟨h1,h2⟩,h3⟩,h4⟩
  have hv:∀ x ∈ t,PS.V x.1:=fun x hx=>(mark_put (h1 x hx).1).2.1
  have hs:Srt PS t:=⟨hv,h2.imp fun {a b} h=>by unfold lessM at h;exact of_decide_eq_true (p:=cmpM a.1 b.1<0) h⟩
  exact ⟨h1,hs,fun q n hq=>⟨hv _ (pz27 hq),(folderL_iff t _).1 (h3 _ (pz27 hq))⟩,h4⟩
 ·rintro ⟨h1,h2,h3,h4⟩
  have hc:t.Pairwise fun a b=>lessM a.1 b.1=true:=h2.s.imp fun {a b} h=>by
   unfold lessM
   exact decide_eq_true (p:=cmpM a.1 b.1<0) h
  exact ⟨⟨⟨h1,hc⟩,fun e he=>(folderL_iff t _).2 (h3 _ _ (h2.get (n:=e.2) he)).2⟩,h4⟩
def rightC (l:Lyr ν):Bool:=l.all (fun c=>!(tarM c.op c.path).isEmpty && decide (Y.rt (tarM c.op c.path) c.node=0) && (decide (c.op=0) || decide (c.node=Y.zero))) && chain (fun a b=>lessM (tarM a.op a.path) (tarM b.op b.path)) l
structure RightL (l:Lyr ν):Prop where
 c:RightC l
 rt:∀ c ∈ l,Y.rt (tarM c.op c.path) c.node=0
 zero:∀ c ∈ l,c.op≠0→c.node=Y.zero
theorem rightC_iff {l:Lyr ν}:rightC Y l=true↔RightL Y l:=by
 unfold rightC
 rw [Bool.and_eq_true,List.all_eq_true]
 rw [chain_iff (fun a b c h1 h2=>by unfold lessM at *;rw [decide_eq_true_iff] at *;exact cmpM_trans h1 h2)]
 have e:∀ s:Str,(!s.isEmpty)=true↔s≠[]:=fun s=>by cases s <;> simp
 simp only [Bool.and_eq_true,Bool.or_eq_true,decide_eq_true_eq,e]
 constructor
 ·rintro ⟨h1,h2⟩
  exact ⟨⟨fun c hc=>(h1 c hc).1.1,h2.imp fun h=>by unfold lessM at h;exact of_decide_eq_true h⟩,fun c hc=>(h1 c hc).1.2,fun c hc h0=>(h1 c hc).2.resolve_left h0⟩
 ·rintro ⟨⟨h1,h2⟩,h3,h4⟩
  refine ⟨fun c hc=>⟨⟨h1 c hc,h3 c hc⟩,?_⟩,h2.imp fun h=>by unfold lessM;exact decide_eq_true h⟩
  by_cases h0:c.op=0
  ·exact .inl h0
  ·exact .inr (h4 c hc h0)
abbrev keyM (c:Ch Str ν):Str:=tarM c.op c.path
omit [DecidableEq ν] in
theorem RightL.layR {l:Lyr ν} (h:RightL Y l):LayR PS keyM l:=right_layR h.c
omit [DecidableEq ν] in
theorem RightL.plain {l:Lyr ν} (h:RightL Y l) {c:Ch Str ν} (hc:c ∈ l) (h0:c.op=0):markF c.path=some (0,c.path)∧Y.rt c.path c.node=0:=by
 have h1:=pz37 (tarM_some (h.c.tar c hc))
 have h2:tarM c.op c.path=c.path:=((h.layR).put c hc h0).2
 rw [h2,h0] at h1
 exact ⟨h1.2.1,by have:=h.rt c hc;rwa [h2] at this⟩
omit [DecidableEq ν] in
theorem RightL.inj {l:Lyr ν} (h:RightL Y l) {a b:Ch Str ν} (ha:a ∈ l) (e:keyM a=keyM b) (hb:b.op≠0→b.node=Y.zero) (hn:a.op=0→a.node=b.node):a=b:=by
 obtain ⟨h1,h2⟩:=tar_inj (h.c.tar a ha) e
 obtain ⟨p,o,n⟩:=a
 obtain ⟨p',o',n'⟩:=b
 dsimp only at h1 h2
 subst h1;subst h2
 by_cases h0:o=0
 ·simpa using hn h0
 ·have:=h.zero _ ha h0
  have h3:=hb h0
  dsimp only at this h3
  rw [this,h3]
def applyM (t:Row ν) (l:Lyr ν):Row ν×Int :=
 if rightT Y t && rightC Y l then
  match applyL PS Y.dir lessM t l with
  | none=>([],10)
  | some t'=>if t'.length≤5000 then (t',0) else ([],2)
 else ([],1)
theorem applyM_ok {t:Row ν} {l:Lyr ν} {a:Row ν} (h:applyM Y t l=(a,0)):∃ (_:RightT Y t) (hl:RightL Y l),RightT Y a∧Ok Y.dir (layOf hl.layR) (getL t)∧∀ q,PS.V q→getL a q=after Y.dir (layOf hl.layR) (getL t) q:=by
 unfold applyM at h
 split at h
 ·rename_i hb
  simp only [Bool.and_eq_true] at hb
  have ht:=(pz39 Y).1 hb.1
  have hl:=(rightC_iff Y).1 hb.2
  refine ⟨ht,hl,?_⟩
  rcases applyL_spec (dir:=Y.dir) lessM_iff hl.layR ht.srt ht.wf with ⟨e,_⟩|⟨t',e,hs,hk,ha⟩
  ·rw [e] at h;simp at h
  ·rw [e] at h
   dsimp only at h
   split at h
   ·rename_i hlen
    simp only [Prod.mk.injEq,and_true] at h
    subst h
    refine ⟨⟨fun x hx=>?_,hs,?_,hlen⟩,hk,ha⟩
    ·have hg:=hs.get (n:=x.2) hx
     rw [ha _ (hs.v x hx)] at hg
     rcases after_cases (dir:=Y.dir) (layOf hl.layR) (getL t) x.1 with ⟨m,h1,h2⟩|⟨_,_,h3⟩|⟨_,_,_,h4⟩
     ·rw [h2] at hg;cases hg
      obtain ⟨c,hc,h0,hp,hn⟩:=(pz38 hl.layR).1 h1
      rw [← hp,← hn];exact hl.plain Y hc h0
     ·rw [h3] at hg;cases hg
     ·rw [h4] at hg;exact ht.plain _ (pz27 hg)
    ·have hw:=after_WF ht.wf hk
     intro q n hq
     have hv:=hs.v _ (pz27 hq)
     obtain ⟨_,hf⟩:=hw q n ((ha q hv).symm.trans hq)
     exact ⟨hv,(fold_ext ha (PS.par_V hv)).2 hf⟩
   ·simp at h
 ·simp at h
theorem applyM_err {t:Row ν} {l:Lyr ν} {a:Row ν} {e:Int} (h:applyM Y t l=(a,e)) (he:e≠0):a=[]:=by
 unfold applyM at h
 split at h
 ·split at h
  ·simp at h;exact h.1
  ·split at h
   ·simp at h;exact absurd h.2.symm he
   ·simp at h;exact h.1
 ·simp at h;exact h.1
variable {Y}
omit [DecidableEq ν] in
theorem RightT.get {t:Row ν} (h:RightT Y t) {p:Str} {n:ν} (hp:getL t p=some n):markF p=some (0,p)∧Y.rt p n=0:=h.plain _ (pz27 hp)
theorem stays_put {t:Row ν} {l:Lyr ν} {a:Row ν} (h:applyM Y t l=(a,0)) {c:Ch Str ν} (hc:c ∈ l) (h0:c.op=0):getL a c.path=some c.node:=by
 obtain ⟨ht,hl,ha,hk,hag⟩:=applyM_ok Y h
 rw [hag _ (hl.layR.put c hc h0).1]
 exact after_put ((pz38 hl.layR).2 ⟨c,hc,h0,rfl,rfl⟩)
theorem stays_had {t:Row ν} {l:Lyr ν} {a:Row ν} (h:applyM Y t l=(a,0)) {p:Str} {n:ν} (hp:getL a p=some n) (hu:∀ c ∈ l,¬ (c.op=0∧c.path=p)):getL t p=some n:=by
 obtain ⟨ht,hl,ha,hk,hag⟩:=applyM_ok Y h
 rw [hag _ (ha.srt.v _ (pz27 hp))] at hp
 rcases after_cases (dir:=Y.dir) (layOf hl.layR) (getL t) p with ⟨m,h1,_⟩|⟨_,_,h3⟩|⟨_,_,_,h4⟩
 ·obtain ⟨c,hc,h0,hpp,_⟩:=(pz38 hl.layR).1 h1
  exact absurd ⟨h0,hpp⟩ (hu c hc)
 ·rw [h3] at hp;cases hp
 ·rw [h4] at hp;exact hp
end Go.Proofs.Zt
end
section
namespace Go.Proofs.Zt
variable {ν:Type} [DecidableEq ν] {Y:Sys ν}
theorem part_mark {x:Str} (h:partM x=true):partM (markM ++ x)=true:=by
 unfold partM at *
 simp only [Bool.and_eq_true,Bool.not_eq_true'] at *
 obtain ⟨⟨⟨_,_⟩,_⟩,h4⟩:=h
 refine ⟨⟨⟨by simp [markM],by simp [markM]⟩,by simp [markM]⟩,?_⟩
 simp only [markM,List.contains_eq_mem,List.mem_append,decide_eq_false_iff_not] at *
 rintro (h|h)
 ·exact absurd h (by decide)
 ·exact h4 h
theorem mark_of_white {p:Str} (h:markF p=some (0,p)):tarM 1 p=belowM (parM p) (markM ++ lastM p)∧markF (tarM 1 p)=some (1,p):=by
 obtain ⟨_,h1,h2⟩:=mark_put h
 obtain ⟨a,b,c,d⟩:=isM_iff.1 h1
 have hx:(47:UInt8) ∉ markM ++ lastM p:=by
  intro hm
  rcases List.mem_append.1 hm with h|h
  ·exact absurd h (by decide)
  ·exact lastM_slash p h
 have hcut:=cut_below hx a
 obtain ⟨e1,e2⟩:=last_of_cut hcut
 have hmk:markedM (lastM (belowM (parM p) (markM ++ lastM p)))=true:=by
  rw [e1];unfold markedM;rw [List.isPrefixOf_iff_prefix];exact ⟨_,rfl⟩
 rw [h2] at c d
 simp only [Bool.false_eq_true,if_false] at c d
 have hlen:(belowM (parM p) (markM ++ lastM p)).length=p.length + 4:=by
  rcases split_cases p with ⟨hd,e,hp⟩|⟨hd,e⟩
  ·have:p.length=(lastM p).length:=congrArg List.length e
   rw [hp];unfold belowM;rw [if_pos rfl];simp [markM,this]
  ·have:=par_length hd
   have hne:parM p≠[]:=by
    intro e0
    have hc:=cut_par hd
    rw [e0] at hc
    have hm:([]:Str) ∈ (cutM p).dropLast:=by rw [← hc];simp [cutM]
    exact part_ne (a _ (List.dropLast_subset _ hm)) rfl
   unfold belowM;rw [if_neg hne];simp [markM];omega
 have his:isM (belowM (parM p) (markM ++ lastM p))=true:=by
  refine isM_iff.2 ⟨fun y hy=>?_,fun y hy=>?_,?_,?_⟩
  ·rw [hcut] at hy
   rcases List.mem_append.1 hy with h|h
   ·exact a y (List.dropLast_subset _ h)
   ·simp only [List.mem_singleton] at h;rw [h];exact part_mark (a _ (lastM_mem p))
  ·rw [e2] at hy;exact b y hy
  ·rw [hmk,e1];simp [markM];omega
  ·rw [hmk,hlen];simp;omega
 have hback:belowM (parM p) (lastM p)=p:=by
  rcases split_cases p with ⟨hd,e,hp⟩|⟨hd,e⟩
  ·rw [hp];unfold belowM;rw [if_pos rfl];exact e.symm
  ·have hne:parM p≠[]:=by
    intro e0
    have hc:=cut_par hd
    rw [e0] at hc
    have hm:([]:Str) ∈ (cutM p).dropLast:=by rw [← hc];simp [cutM]
    exact part_ne (a _ (List.dropLast_subset _ hm)) rfl
   unfold belowM;rw [if_neg hne];exact e.symm
 have hpar:parM (belowM (parM p) (markM ++ lastM p))=parM p:=by
  unfold parM at e2 ⊢
  rw [e2]
 have hdrop:(markM ++ lastM p).drop 4=lastM p:=by simp [markM]
 have hmf:markF (belowM (parM p) (markM ++ lastM p))=some (1,p):=by
  unfold markF
  rw [if_pos his,if_pos hmk,e1,if_neg,hdrop,if_pos ⟨a _ (lastM_mem p),h2⟩,hpar,hback]
  intro e
  have:=congrArg (List.drop 4) e
  rw [hdrop] at this
  rw [this] at h2
  exact absurd h2 (by decide)
 have hw:wouldM 1 p=belowM (parM p) (markM ++ lastM p):=by unfold wouldM;rw [if_pos rfl]
 have hu:unmarkF 1 p=some (belowM (parM p) (markM ++ lastM p)):=by unfold unmarkF;rw [hw,if_pos hmf]
 exact ⟨tarM_of hu,by rw [tarM_of hu];exact hmf⟩
theorem would_put (p:Str):wouldM 0 p=p:=by unfold wouldM;rw [if_neg (by decide),if_neg (by decide)]
theorem tar_put {p:Str} (h:markF p=some (0,p)):tarM 0 p=p:=tarM_of (by unfold unmarkF;rw [would_put,if_pos h])
theorem tar_white_ne {p:Str} (h:markF p=some (0,p)):tarM 1 p≠[]:=is_ne (markF_is (mark_of_white h).2)
def lessC (a b:Ch Str ν):Bool:=lessM (keyM a) (keyM b)
omit [DecidableEq ν] in
theorem lessC_ord:Ord (fun _:Ch Str ν=>True) fun a b=>lessC a b=true where
 irrefl a _ h:=by unfold lessC lessM at h;rw [decide_eq_true_iff,cmpM_refl] at h;exact absurd h (by decide)
 trans a b c _ _ _ h1 h2:=by unfold lessC lessM at *;rw [decide_eq_true_iff] at *;exact cmpM_trans h1 h2
omit [DecidableEq ν] in
theorem lessC_total {a b:Ch Str ν} (h:keyM a≠keyM b):lessC a b=true∨lessC b a=true:=by
 unfold lessC lessM
 simp only [decide_eq_true_iff]
 have:=cmpM_anti (keyM a) (keyM b)
 by_cases h1:cmpM (keyM a) (keyM b)<0
 ·exact .inl h1
 ·by_cases h2:cmpM (keyM b) (keyM a)<0
  ·exact .inr h2
  ·exact absurd (cmpM_eq (by omega)) h
def sortL (less:Ch Str ν→Ch Str ν→Bool) (out:Lyr ν) (l:Lyr ν):Lyr ν:=l.foldl (fun o c=>ins less c o) out
omit [DecidableEq ν] in
theorem sortL_perm (less:Ch Str ν→Ch Str ν→Bool) (out l:Lyr ν):(sortL less out l).Perm (out ++ l):=by
 unfold sortL
 induction l generalizing out with
 | nil=>simp
 | cons c r ih =>
  rw [List.foldl_cons]
  refine (ih _).trans ?_
  refine ((ins_perm (less:=less) (c:=c) (l:=out)).append_right r).trans ?_
  rw [List.cons_append]
  exact List.perm_middle.symm
omit [DecidableEq ν] in
theorem sortL_sorted {out l:Lyr ν} (ho:out.Pairwise fun a b=>lessC a b=true) (hd:(out ++ l).Pairwise fun a b=>keyM a≠keyM b):(sortL lessC out l).Pairwise fun a b=>lessC a b=true:=by
 unfold sortL
 induction l generalizing out with
 | nil=>simpa using ho
 | cons c r ih =>
  rw [List.foldl_cons]
  have hp:=List.pairwise_append.1 hd
  have hc:=List.pairwise_cons.1 hp.2.1
  refine ih (ins_sorted lessC_ord trivial (fun _ _=>trivial) (fun x hx=>lessC_total (hp.2.2 x hx c List.mem_cons_self)) ho) ?_
  have hperm:(ins lessC c out ++ r).Perm (out ++ c :: r):=by
   refine ((ins_perm (less:=lessC) (c:=c) (l:=out)).append_right r).trans ?_
   rw [List.cons_append]
   exact List.perm_middle.symm
  exact (hperm.pairwise_iff (fun h e=>h e.symm)).2 hd
omit [DecidableEq ν] in
theorem sortL_unique {l m:Lyr ν} (hd:l.Pairwise fun a b=>keyM a≠keyM b) (hp:l.Perm m) (hs:m.Pairwise fun a b=>¬ lessC b a=true):m=sortL lessC [] l:=by
 have h1:m.Pairwise fun a b=>lessC a b=true:=strict_of_perm hp hs (hd.imp lessC_total)
 have h2:(sortL lessC [] l).Pairwise fun a b=>lessC a b=true:=sortL_sorted List.Pairwise.nil (by simpa using hd)
 refine sorted_ext lessC_ord (fun _ _=>trivial) (fun _ _=>trivial) h1 h2 fun x=>?_
 rw [← hp.mem_iff,(sortL_perm lessC [] l).mem_iff]
 simp
variable (Y) in
def diffC (a b:Row ν):Lyr ν :=
 (a.filter fun e=>(getL b e.1).isNone && folderL PS Y.dir b (parM e.1)).map (fun e=>⟨e.1,1,Y.zero⟩) ++ (b.filter fun e=>decide (getL a e.1≠some e.2)).map (fun e=>⟨e.1,0,e.2⟩)
variable (Y) in
def diffM (a b:Row ν):Lyr ν×Bool:=if rightT Y a && rightT Y b then (sortL lessC [] (diffC Y a b),true) else ([],false)
theorem mem_diffC {a b:Row ν} (c:Ch Str ν):c ∈ diffC Y a b↔(∃ e ∈ a,getL b e.1=none∧folderL PS Y.dir b (parM e.1)=true∧c=⟨e.1,1,Y.zero⟩)∨(∃ e ∈ b,getL a e.1≠some e.2∧c=⟨e.1,0,e.2⟩):=by
 unfold diffC
 rw [List.mem_append,List.mem_map,List.mem_map]
 constructor
 ·rintro (⟨e,he,rfl⟩|⟨e,he,rfl⟩)
  ·obtain ⟨h1,h2⟩:=List.mem_filter.1 he
   simp only [Bool.and_eq_true,Option.isNone_iff_eq_none] at h2
   exact .inl ⟨e,h1,h2.1,h2.2,rfl⟩
  ·obtain ⟨h1,h2⟩:=List.mem_filter.1 he
   exact .inr ⟨e,h1,of_decide_eq_true h2,rfl⟩
 ·rintro (⟨e,h1,h2,h3,rfl⟩|⟨e,h1,h2,rfl⟩)
  ·exact .inl ⟨e,List.mem_filter.2 ⟨h1,by rw [h2,h3];rfl⟩,rfl⟩
  ·exact .inr ⟨e,List.mem_filter.2 ⟨h1,decide_eq_true h2⟩,rfl⟩
omit [DecidableEq ν] in
theorem srt_ne {t:Row ν} (h:Srt PS t):t.Pairwise fun a b=>a.1≠b.1:=by
 have hv:=h.v
 have hs:=h.s
 clear h
 induction t with
 | nil=>exact List.Pairwise.nil
 | cons x r ih =>
  obtain ⟨p1,p2⟩:=List.pairwise_cons.1 hs
  refine List.pairwise_cons.2 ⟨fun y hy e=>?_,ih (fun z hz=>hv z (List.mem_cons_of_mem _ hz)) p2⟩
  have:=p1 y hy
  rw [← e] at this
  exact PS.lt_irrefl _ (hv x List.mem_cons_self) this
theorem diffC_keys {a b:Row ν} (ha:RightT Y a) (hb:RightT Y b):(diffC Y a b).Pairwise fun x y=>keyM x≠keyM y:=by
 unfold diffC
 refine List.pairwise_append.2 ⟨?_,?_,?_⟩
 ·rw [List.pairwise_map]
  refine ((srt_ne ha.srt).filter _).imp_of_mem fun {x y} hx hy hne e=>hne ?_
  have hx':=(ha.plain _ (List.mem_filter.1 hx).1).1
  have hy':=(ha.plain _ (List.mem_filter.1 hy).1).1
  exact (tar_inj (a:=⟨x.1,1,Y.zero⟩) (b:=⟨y.1,1,Y.zero⟩) (tar_white_ne hx') e).2
 ·rw [List.pairwise_map]
  refine ((srt_ne hb.srt).filter _).imp_of_mem fun {x y} hx hy hne e=>hne ?_
  have hx':=(hb.plain _ (List.mem_filter.1 hx).1).1
  have hy':=(hb.plain _ (List.mem_filter.1 hy).1).1
  have e':tarM 0 x.1=tarM 0 y.1:=e
  rwa [tar_put hx',tar_put hy'] at e'
 ·intro x hx y hy e
  obtain ⟨u,hu,rfl⟩:=List.mem_map.1 hx
  obtain ⟨v,hv,rfl⟩:=List.mem_map.1 hy
  have hu':=(ha.plain _ (List.mem_filter.1 hu).1).1
  have:=(tar_inj (a:=⟨u.1,1,Y.zero⟩) (b:=⟨v.1,0,v.2⟩) (tar_white_ne hu') e).1
  exact absurd this (by simp)
theorem diff_right {a b:Row ν} (ha:RightT Y a) (hb:RightT Y b):RightL Y (sortL lessC [] (diffC Y a b))∧DiffR PS Y.dir (getL a) (getL b) (sortL lessC [] (diffC Y a b)):=by
 have hmem:∀ c,c ∈ sortL lessC [] (diffC Y a b)↔c ∈ diffC Y a b:=fun c=>by rw [(sortL_perm lessC [] _).mem_iff];simp
 have hsort:=sortL_sorted (out:=[]) (l:=diffC Y a b) List.Pairwise.nil (by simpa using diffC_keys ha hb)
 refine ⟨⟨⟨fun c hc=>?_,hsort.imp fun h=>by unfold lessC lessM at h;exact of_decide_eq_true h⟩,fun c hc=>?_,fun c hc h0=>?_⟩,⟨fun c hc=>?_,fun c h0=>?_,fun p=>?_⟩⟩
 ·rcases (mem_diffC c).1 ((hmem c).1 hc) with ⟨e,h1,_,_,rfl⟩|⟨e,h1,_,rfl⟩
  ·exact tar_white_ne (ha.plain _ h1).1
  ·have:=(hb.plain _ h1).1
   show tarM 0 e.1≠[]
   rw [tar_put this]
   exact is_ne (markF_is this)
 ·rcases (mem_diffC c).1 ((hmem c).1 hc) with ⟨e,h1,_,_,rfl⟩|⟨e,h1,_,rfl⟩
  ·exact Y.rt_zero _ (markF_is (mark_of_white (ha.plain _ h1).1).2)
  ·have:=hb.plain _ h1
   show Y.rt (tarM 0 e.1) e.2=0
   rw [tar_put this.1];exact this.2
 ·rcases (mem_diffC c).1 ((hmem c).1 hc) with ⟨e,h1,_,_,rfl⟩|⟨e,h1,_,rfl⟩
  ·rfl
  ·exact absurd rfl h0
 ·rcases (mem_diffC c).1 ((hmem c).1 hc) with ⟨e,h1,_,_,rfl⟩|⟨e,h1,_,rfl⟩
  ·exact .inr rfl
  ·exact .inl rfl
 ·rw [hmem,mem_diffC]
  constructor
  ·rintro (⟨e,h1,_,_,rfl⟩|⟨e,h1,h2,rfl⟩)
   ·cases h0
   ·exact ⟨hb.srt.get (n:=e.2) h1,h2⟩
  ·rintro ⟨h1,h2⟩
   refine .inr ⟨(c.path,c.node),pz27 h1,h2,?_⟩
   obtain ⟨p,o,n⟩:=c
   dsimp only at h0
   subst h0;rfl
 ·constructor
  ·rintro ⟨c,hc,h1,rfl⟩
   rcases (mem_diffC c).1 ((hmem c).1 hc) with ⟨e,k1,k2,k3,rfl⟩|⟨e,_,_,rfl⟩
   ·refine ⟨?_,k2,(folderL_iff b _).1 k3⟩
    rw [ha.srt.get (n:=e.2) k1];simp
   ·cases h1
  ·rintro ⟨h1,h2,h3⟩
   cases e:getL a p with
   | none=>exact absurd e h1
   | some n=>exact ⟨⟨p,1,Y.zero⟩,(hmem _).2 ((mem_diffC _).2 (.inl ⟨(p,n),pz27 e,h2,(folderL_iff b _).2 h3,rfl⟩)),rfl,rfl⟩
variable (Y) in
def allM (ts:List (Row ν)) (e:Str×ν):Bool:=ts.all fun t=>decide (getL t e.1=some e.2)
variable (Y) in
def bothM (ts:List (Row ν)):Row ν :=
 match ts with
 | []=>[]
 | t :: r=>if (t :: r).all (rightT Y) then bothL PS (allM (t :: r)) [] t else []
theorem both_spec {t:Row ν} {r:List (Row ν)} (h:∀ x ∈ t :: r,RightT Y x):RightT Y (bothM Y (t :: r))∧∀ p n,getL (bothM Y (t :: r)) p=some n↔InAll PS ((t :: r).map getL) p n:=by
 have hr:(t :: r).all (rightT Y)=true:=List.all_eq_true.2 fun x hx=>(pz39 Y).2 (h x hx)
 have ht:=h t List.mem_cons_self
 have hall:∀ e:Str×ν,allM (t :: r) e=true↔∀ g ∈ (t :: r).map getL,g e.1=some e.2:=by
  intro e
  unfold allM
  simp [List.all_eq_true]
 obtain ⟨h1,h2⟩:=bothL_spec (P:=PS) (gs:=(t :: r).map getL) hall ht.srt (by simp)
 unfold bothM
 simp only [hr,if_true]
 have hiff:∀ p n,getL (bothL PS (allM (t :: r)) [] t) p=some n↔InAll PS ((t :: r).map getL) p n:=fun p n=>by rw [h1.get_iff,h2]
 refine ⟨⟨fun e he=>?_,h1,?_,?_⟩,hiff⟩
 ·have:=((h2 e.1 e.2).1 he).all (getL t) (by simp)
  exact ht.get this
 ·exact inAll_WF hiff (g:=getL t) (by simp) ht.wf
 ·have hsub:∀ (o l:Row ν),(bothL PS (allM (t :: r)) o l).length≤o.length + l.length:=by
   intro o l
   induction l generalizing o with
   | nil=>simp [bothL]
   | cons e l ih =>
    unfold bothL
    refine Nat.le_trans (ih _) ?_
    split <;> simp <;> omega
  have:=hsub [] t
  have:=ht.len
  simp at *
  omega
end Go.Proofs.Zt
end
section
namespace Go.Proofs.YtjghikkboekonaaGreatDoor
theorem dec_ne (n:Nat):dec n≠[]:=by
 intro h
 have:=Lib.nDigits_pos n
 rw [← dec_length,h] at this
 simp at this
theorem cut1_found (c:UInt8):∀ s:List UInt8,(cut1 c s).2.2=true→s=(cut1 c s).1 ++ c :: (cut1 c s).2.1∧c ∉ (cut1 c s).1
 | [],h=>by simp [cut1] at h
 | x :: r,h=>by
  by_cases hx:x=c
  ·subst hx;simp [cut1]
  ·have hx':(x == c)=false:=by simpa using hx
   simp only [cut1,hx',Bool.false_eq_true,if_false] at h ⊢
   obtain ⟨h1,h2⟩:=cut1_found c r h
   refine ⟨by rw [List.cons_append,← h1],?_⟩
   intro hm
   rcases List.mem_cons.1 hm with rfl|hm
   ·exact hx rfl
   ·exact h2 hm
theorem suffix_ten {body:List UInt8} (h:Lib.hasSuffix body [10]=true):body=Lib.trimSuffix body [10] ++ [10]:=by
 have h1:[10] <:+ body:=by simpa [Lib.hasSuffix] using h
 obtain ⟨t,ht⟩:=h1
 have e:Lib.trimSuffix body [10]=t:=by
  unfold Lib.trimSuffix
  rw [if_pos h,← ht]
  simp
 rw [e,ht]
theorem contains_false {l:List UInt8} {c:UInt8} (h:c ∉ l):l.contains c=false:=by simpa using h
theorem numM_some {s T:List UInt8} {n:Nat} (h:numM s T=some n):T=dec n∧T.length≤9∧n≤s.length∧T.length + 1<n∧lenM (n - T.length)=n:=by
 unfold numM at h
 split at h
 ·split at h
  ·rename_i v _ hc
   simp only [Option.some.injEq] at h
   obtain ⟨h1,h2,h3,h4,h5⟩:=hc
   obtain ⟨m,rfl⟩:∃ m:Nat,v=m:=⟨v.toNat,by omega⟩
   simp only [Int.toNat_natCast] at h h5
   subst h
   rw [Lib.itoa_nonneg] at h1
   exact ⟨h1.symm,h2,by omega,by omega,h5⟩
  ·cases h
 ·cases h
theorem cut_rec {s:List UInt8} {p:List UInt8×List UInt8} {rest:List UInt8} (h:cutM s=some (p,rest)):keyOk p.1=true∧s=recM p ++ rest:=by
 unfold cutM cutAt at h
 split at h
 ·rename_i his
  obtain ⟨hs,hT⟩:=cut1_found 32 s his
  generalize (cut1 32 s).1=T at h hs hT
  generalize (cut1 32 s).2.1=after at hs
  cases hn:numM s T with
  | none=>simp [hn] at h
  | some n =>
   obtain ⟨rfl,h9,hns,hTn,hlen⟩:=numM_some hn
   simp only [hn,Option.bind_some] at h
   cases hb:bodyM (((s.drop ((dec n).length + 1)).take (n - ((dec n).length + 1)))) with
   | none=>simp [hb] at h
   | some q =>
    simp only [hb,Option.map_some,Option.some.injEq,Prod.mk.injEq] at h
    obtain ⟨rfl,rfl⟩:=h
    unfold bodyM at hb
    split at hb
    ·rename_i hc
     simp only [Option.some.injEq] at hb
     subst hb
     simp only [Bool.and_eq_true,Bool.not_eq_true',beq_eq_false_iff_ne] at hc
     obtain ⟨⟨c1,c2⟩,c3⟩:=hc
     have e1:=suffix_ten c1
     obtain ⟨e2,e3⟩:=cut1_found 61 _ c2
     generalize hbody:(s.drop ((dec n).length + 1)).take (n - ((dec n).length + 1))=body at *
     generalize (cut1 61 (Lib.trimSuffix body [10])).1=key at *
     generalize (cut1 61 (Lib.trimSuffix body [10])).2.1=value at *
     have hk:keyOk key=true:=by
      simp only [keyOk,contains_false e3,Bool.not_false,Bool.and_true]
      simpa using c3
     refine ⟨hk,?_⟩
     have eb:body=key ++ 61 :: value ++ [10]:=by rw [e1,e2]
     have hbl:body.length=n - ((dec n).length + 1):=by
      rw [← hbody,List.length_take,List.length_drop];omega
     have hrest:restM (key,value)=32 :: body:=by rw [eb];simp [restM]
     have hrl:(restM (key,value)).length=n - (dec n).length:=by rw [hrest];simp only [List.length_cons];omega
     have hst:s.take n=dec n ++ 32 :: body:=by
      have hd:s.drop ((dec n).length + 1)=after:=by rw [hs];simp
      rw [← hbody,hd]
      rw [hs]
      rw [List.take_append]
      rw [List.take_of_length_le (by omega)]
      congr 1
      obtain ⟨m,hm⟩:∃ m,n - (dec n).length=m + 1:=⟨n - (dec n).length - 1,by omega⟩
      rw [hm,List.take_succ_cons,show n - ((dec n).length + 1)=m from by omega]
     have:recM (key,value)=s.take n:=by rw [hst,recM,hrl,hlen,hrest]
     rw [this,List.take_append_drop]
    ·cases hb
 ·cases h
theorem restM_length (p:List UInt8×List UInt8):(restM p).length=p.1.length + p.2.length + 3:=by
 simp only [restM,List.length_append,List.length_cons,List.length_nil];omega
end Go.Proofs.YtjghikkboekonaaGreatDoor
end
section
namespace Go.Proofs.Zq
open Go.RowKit Go.Proofs.Zw.PrintWords Go.Proofs.Zw.PrintLast Go.Proofs.Zw.PrintMore
open Go.Proofs.YtjghikkboekonaaGreatDoor (GL)
attribute [local go_sem] max2_int min2_int max_two min_two pz35 pz36 max_four min_four
def paths_below.f (a0:ByteArray) (a1:ByteArray):Option (ByteArray):=if a0.toList=([]:List UInt8) then (some a1) else (if a0.size + 1≤9223372036854775807 then (if (a0 ++ (⟨#[47]⟩:ByteArray)).size + a1.size≤9223372036854775807 then (some ((a0 ++ (⟨#[47]⟩:ByteArray)) ++ a1)) else (none)) else (none))
set_option maxHeartbeats 8000000 in
set_option maxRecDepth 100000 in
theorem paths_below.calls (a0:ByteArray) (a1:ByteArray) (r:ByteArray) (w:World) (h:paths_below.f a0 a1=some r) :
  Calls Tryz.prog 94 #[.string a0,.string a1] w fun e w'=>e=.returned (.string r)∧pz17 w w':=by
 have H:(if a0.toList=([]:List UInt8) then (some a1) else (if a0.size + 1≤9223372036854775807 then (if (a0 ++ (⟨#[47]⟩:ByteArray)).size + a1.size≤9223372036854775807 then (some ((a0 ++ (⟨#[47]⟩:ByteArray)) ++ a1)) else (none)) else (none)))=some r:=h
 clear h
 by_cases c3:a0.toList=([]:List UInt8)
 ·rw [if_pos c3] at H
  have c3b0:(a0.toList == ([]:List UInt8))=true:=beq_iff_eq.mpr c3
  have c3b1:(a0.toList != ([]:List UInt8))=false:=bne_eq_false_iff_eq.mpr c3
  clear c3
  obtain rfl:=Option.some.inj H
  go_enter Tryz.func94,Tryz.ntmps94
  go_wp2
  go_ret
  exact ⟨by first|rfl|(simp;done)|(simp [*];done),by repeat (first|exact pz17.refl _|apply pz17.step)⟩
 ·rw [if_neg c3] at H
  have c3b0:(a0.toList == ([]:List UInt8))=false:=beq_eq_false_iff_ne.mpr c3
  have c3b1:(a0.toList != ([]:List UInt8))=true:=bne_iff_ne.mpr c3
  by_cases c4:a0.size + 1≤9223372036854775807
  ·rw [if_pos c4] at H
   have c4b0:=eq_true c4
   have c4b1:decide (a0.size + 1≤9223372036854775807)=true:=decide_eq_true c4
   try have c4b2:(9223372036854775807<a0.size + 1)=False:=eq_false (Nat.not_lt.2 c4)
   by_cases c5:(a0 ++ (⟨#[47]⟩:ByteArray)).size + a1.size≤9223372036854775807
   ·rw [if_pos c5] at H
    have c5b0:=eq_true c5
    have c5b1:decide ((a0 ++ (⟨#[47]⟩:ByteArray)).size + a1.size≤9223372036854775807)=true:=decide_eq_true c5
    try have c5b2:(9223372036854775807<(a0 ++ (⟨#[47]⟩:ByteArray)).size + a1.size)=False:=eq_false (Nat.not_lt.2 c5)
    obtain rfl:=Option.some.inj H
    go_enter Tryz.func94,Tryz.ntmps94
    go_wp2
    go_ret
    exact ⟨by first|rfl|(simp;done)|(simp [*];done),by repeat (first|exact pz17.refl _|apply pz17.step)⟩
   ·rw [if_neg c5] at H
    exact absurd H (by simp)
  ·rw [if_neg c4] at H
   exact absurd H (by simp)
def pq14.f (a0:ByteArray):Option (Bool):=if a0.toList=([]:List UInt8) then (some true) else (if a0.toList=([46]:List UInt8) then (some true) else (if a0.toList=([46,46]:List UInt8) then (some true) else ((strings_IndexByte.f a0 0).bind fun t250=>(some (decide (t250 ≥ 0))))))
set_option maxHeartbeats 8000000 in
set_option maxRecDepth 100000 in
theorem pq14.calls (a0:ByteArray) (r:Bool) (w:World) (h:pq14.f a0=some r) :
  Calls Tryz.prog 101 #[.string a0] w fun e w'=>e=.returned (.bool r)∧pz17 w w':=by
 have H:(if a0.toList=([]:List UInt8) then (some true) else (if a0.toList=([46]:List UInt8) then (some true) else (if a0.toList=([46,46]:List UInt8) then (some true) else ((strings_IndexByte.f a0 0).bind fun t250=>(some (decide (t250 ≥ 0)))))))=some r:=h
 clear h
 by_cases c2:a0.toList=([]:List UInt8)
 ·rw [if_pos c2] at H
  have c2b0:(a0.toList == ([]:List UInt8))=true:=beq_iff_eq.mpr c2
  have c2b1:(a0.toList != ([]:List UInt8))=false:=bne_eq_false_iff_eq.mpr c2
  clear c2
  obtain rfl:=Option.some.inj H
  go_enter Tryz.func101,Tryz.ntmps101
  go_wp2
  go_ret
  exact ⟨by first|rfl|(simp;done)|(simp [*];done),by repeat (first|exact pz17.refl _|apply pz17.step)⟩
 ·rw [if_neg c2] at H
  have c2b0:(a0.toList == ([]:List UInt8))=false:=beq_eq_false_iff_ne.mpr c2
  have c2b1:(a0.toList != ([]:List UInt8))=true:=bne_iff_ne.mpr c2
  by_cases c3:a0.toList=([46]:List UInt8)
  ·rw [if_pos c3] at H
   have c3b0:(a0.toList == ([46]:List UInt8))=true:=beq_iff_eq.mpr c3
   have c3b1:(a0.toList != ([46]:List UInt8))=false:=bne_eq_false_iff_eq.mpr c3
   clear c3
   obtain rfl:=Option.some.inj H
   go_enter Tryz.func101,Tryz.ntmps101
   go_wp2
   go_ret
   exact ⟨by first|rfl|(simp;done)|(simp [*];done),by repeat (first|exact pz17.refl _|apply pz17.step)⟩
  ·rw [if_neg c3] at H
   have c3b0:(a0.toList == ([46]:List UInt8))=false:=beq_eq_false_iff_ne.mpr c3
   have c3b1:(a0.toList != ([46]:List UInt8))=true:=bne_iff_ne.mpr c3
   by_cases c4:a0.toList=([46,46]:List UInt8)
   ·rw [if_pos c4] at H
    have c4b0:(a0.toList == ([46,46]:List UInt8))=true:=beq_iff_eq.mpr c4
    have c4b1:(a0.toList != ([46,46]:List UInt8))=false:=bne_eq_false_iff_eq.mpr c4
    clear c4
    obtain rfl:=Option.some.inj H
    go_enter Tryz.func101,Tryz.ntmps101
    go_wp2
    go_ret
    exact ⟨by first|rfl|(simp;done)|(simp [*];done),by repeat (first|exact pz17.refl _|apply pz17.step)⟩
   ·rw [if_neg c4] at H
    have c4b0:(a0.toList == ([46,46]:List UInt8))=false:=beq_eq_false_iff_ne.mpr c4
    have c4b1:(a0.toList != ([46,46]:List UInt8))=true:=bne_iff_ne.mpr c4
    replace H:=Option.bind_eq_some_iff.mp H
    obtain ⟨t250,A50,H⟩:=H
    replace H:(some (decide (t250 ≥ 0)))=some r:=H
    have A5:=pz4.mk A50
    clear A50
    obtain rfl:=Option.some.inj H
    go_enter Tryz.func101,Tryz.ntmps101
    go_wp2_with (first|(go_at_call 137;(with_reducible refine (strings_IndexByte.calls a0 0 t250 _ A5.out).mono ?_);rintro e w' ⟨rfl,⟨nd,rfl⟩⟩))
    go_ret
    exact ⟨by first|rfl|(simp;done)|(simp [*];done),by repeat (first|exact pz17.refl _|apply pz17.step)⟩
def pq6.l0:Nat→List ByteArray→Int→Int→Option (Int)
 | 0,_,_,_=>none
 | k + 1,x0,x7,x8=>if x8<x7 then (if 0≤x8 then (if x8<(x0.length:Int) then ((pq14.f (rdOf ByteArray.empty x0 x8)).bind fun t252=>(if t252=true then (some x8) else (pq6.l0 k x0 x7 (wrap64 (x8 + 1))))) else (none)) else (none)) else (some (-1))
def pq6.f (k:Nat) (l0:List ByteArray) (a1:Unit):Option (Int):=pq6.l0 k l0 (l0.length:Int) 0
set_option maxHeartbeats 8000000 in
set_option maxRecDepth 100000 in
theorem pq6.calls (k:Nat) (A0:Option Addr) (c0:Nat) (l0:List ByteArray) (a1:Unit) (r:Int) (w:World) (hr0:Kd.C Kd.string w A0 l0.length l0) (hc0:l0.length≤c0) (h:pq6.f k l0 a1=some r) :
  Calls Tryz.prog 178 #[.slice A0 l0.length c0,.func (.func 101) #[] #[]] w fun e w'=>e=.returned (.int .i64 r)∧pz17 w w':=by
 have HR0:=pz4.mk hr0
 have HC0:=pz4.mk hc0
 clear hr0 hc0
 have H:(pq6.l0 k l0 (l0.length:Int) 0)=some r:=h
 clear h
 have H':=pz4.mk H
 clear H
 go_enter Tryz.func178,Tryz.ntmps178
 go_wp2
 go_loopg [8] k (fun kq v8 w'=>∃ (x8_1:Int),v8=.int .i64 x8_1∧pz4 (pq6.l0 kq l0 (l0.length:Int) x8_1=some r)∧pz4 (kq≤k)∧pz17 w w')
 case atStart=>exact ⟨(0),(by first|rfl|(simp;done)|(simp [*];done)),H',⟨Nat.le_refl _⟩,by repeat (first|exact pz17.refl _|apply pz17.step)⟩
 case round =>
  clear H'
  obtain ⟨x8_1,rfl,HA,HK1,⟨m1,rfl⟩⟩:=hrel
  cases gk with
  | zero=>exact absurd HA.out (by simp [pq6.l0])
  | succ k1 =>
   have H:=HA.out
   clear HA
   simp only [pq6.l0] at H
   by_cases c3:x8_1<(l0.length:Int)
   ·rw [if_pos c3] at H
    have c3b0:decide (x8_1<(l0.length:Int))=true:=decide_eq_true c3
    clear c3
    by_cases c4:0≤x8_1
    ·rw [if_pos c4] at H
     have c4b0:decide (0≤x8_1)=true:=decide_eq_true c4
     clear c4
     by_cases c5:x8_1<(l0.length:Int)
     ·rw [if_pos c5] at H
      have c5b0:decide (x8_1<(l0.length:Int))=true:=decide_eq_true c5
      clear c5
      replace H:=Option.bind_eq_some_iff.mp H
      obtain ⟨t252,A60,H⟩:=H
      replace H:(if t252=true then (some x8_1) else (pq6.l0 k1 l0 (l0.length:Int) (wrap64 (x8_1 + 1))))=some r:=H
      have A6:=pz4.mk A60
      clear A60
      by_cases c7:t252=true
      ·subst c7
       have H1:(some x8_1)=some r:=by rw [if_pos rfl] at H;exact H
       clear H
       have H:=H1
       clear H1
       obtain rfl:=Option.some.inj H
       have p251:0≤(x8_1:Int):=of_decide_eq_true (by first|(with_reducible assumption)|assumption)
       have q251:x8_1<(l0.length:Int):=of_decide_eq_true (by first|(with_reducible assumption)|assumption)
       obtain ⟨ad251,e251,hx251_0⟩:=Kd.at_string HR0.out x8_1 p251 q251
       cases e251
       replace p251:=eq_true p251
       replace q251:=eq_true q251
       go_wp2_with (first|(go_at_call 101;(with_reducible refine (pq14.calls (rdOf ByteArray.empty l0 x8_1) true _ A6.out).mono ?_);rintro e w' ⟨rfl,⟨nd,rfl⟩⟩))
       go_ret
       exact ⟨by first|rfl|(simp;done)|(simp [*];done),by repeat (first|exact pz17.refl _|apply pz17.step)⟩
      ·replace c7:=Bool.eq_false_iff.mpr c7
       subst c7
       have H1:(pq6.l0 k1 l0 (l0.length:Int) (wrap64 (x8_1 + 1)))=some r:=by rw [if_neg (show ¬ (false=true) by decide)] at H;exact H
       clear H
       have H:=H1
       clear H1
       have H':=pz4.mk H
       clear H
       have p251:0≤(x8_1:Int):=of_decide_eq_true (by first|(with_reducible assumption)|assumption)
       have q251:x8_1<(l0.length:Int):=of_decide_eq_true (by first|(with_reducible assumption)|assumption)
       obtain ⟨ad251,e251,hx251_0⟩:=Kd.at_string HR0.out x8_1 p251 q251
       cases e251
       replace p251:=eq_true p251
       replace q251:=eq_true q251
       go_wp2_with (first|(go_at_call 101;(with_reducible refine (pq14.calls (rdOf ByteArray.empty l0 x8_1) false _ A6.out).mono ?_);rintro e w' ⟨rfl,⟨nd,rfl⟩⟩))
       go_roundg k1
       case measure=>have:=HK1.out;omega
       case rel=>exact ⟨(wrap64 (x8_1 + 1)),(by first|rfl|(simp;done)|(simp [*];done)),H',⟨by have:=HK1.out;omega⟩,by repeat (first|exact pz17.refl _|apply pz17.step)⟩
     ·rw [if_neg c5] at H
      exact absurd H (by simp)
    ·rw [if_neg c4] at H
     exact absurd H (by simp)
   ·rw [if_neg c3] at H
    have c3b0:decide (x8_1<(l0.length:Int))=false:=decide_eq_false c3
    clear c3
    obtain rfl:=Option.some.inj H
    go_wp2
    go_ret
    exact ⟨by first|rfl|(simp;done)|(simp [*];done),by repeat (first|exact pz17.refl _|apply pz17.step)⟩
def pq2.f (k:Nat) (l0:List ByteArray) (a1:Unit):Option (Bool):=(pq6.f k l0 a1).bind fun t253=>(some (decide (t253 ≥ 0)))
set_option maxHeartbeats 8000000 in
set_option maxRecDepth 100000 in
theorem pq2.calls (k:Nat) (A0:Option Addr) (c0:Nat) (l0:List ByteArray) (a1:Unit) (r:Bool) (w:World) (hr0:Kd.C Kd.string w A0 l0.length l0) (hc0:l0.length≤c0) (h:pq2.f k l0 a1=some r) :
  Calls Tryz.prog 143 #[.slice A0 l0.length c0,.func (.func 101) #[] #[]] w fun e w'=>e=.returned (.bool r)∧pz17 w w':=by
 have HR0:=pz4.mk hr0
 have HC0:=pz4.mk hc0
 clear hr0 hc0
 have H:((pq6.f k l0 a1).bind fun t253=>(some (decide (t253 ≥ 0))))=some r:=h
 clear h
 replace H:=Option.bind_eq_some_iff.mp H
 obtain ⟨t253,A30,H⟩:=H
 replace H:(some (decide (t253 ≥ 0)))=some r:=H
 have A3:=pz4.mk A30
 clear A30
 obtain rfl:=Option.some.inj H
 go_enter Tryz.func143,Tryz.ntmps143
 go_wp2_with (first|((with_reducible refine pz8 (f:=178) rfl ?_);refine pz21 (some 7) rfl rfl Tryz.func178 (by kernel_rfl) rfl #[.slice A0 l0.length c0,.func (.func 101) #[] #[]] rfl (by (try simp only [pM]);first|done|rfl|(simp only [pL];rfl)) ?_;(with_reducible refine (pq6.calls k _ _ l0 a1 t253 _ ?side1 ?side2 A3.out).mono ?_);(case side1=>repeat (first|exact HR0.out|(with_reducible refine Kd.C_alloc ?_ _)|(with_reducible refine Kd.C_drewN ?_ _)|(with_reducible refine Kd.C_drew ?_)));(case side2=>exact HC0.out);rintro e w' ⟨rfl,⟨nd,rfl⟩⟩;refine ⟨_,rfl,?_⟩))
 go_ret
 exact ⟨by first|rfl|(simp;done)|(simp [*];done),by repeat (first|exact pz17.refl _|apply pz17.step)⟩
def pq13.f (a0:ByteArray):Option (Bool):=some (decide ((a0.size:Int) > 251))
set_option maxHeartbeats 8000000 in
set_option maxRecDepth 100000 in
theorem pq13.calls (a0:ByteArray) (r:Bool) (w:World) (h:pq13.f a0=some r) :
  Calls Tryz.prog 144 #[.string a0] w fun e w'=>e=.returned (.bool r)∧pz17 w w':=by
 have H:(some (decide ((a0.size:Int) > 251)))=some r:=h
 clear h
 obtain rfl:=Option.some.inj H
 go_enter Tryz.func144,Tryz.ntmps144
 go_wp2
 go_ret
 exact ⟨by first|rfl|(simp;done)|(simp [*];done),by repeat (first|exact pz17.refl _|apply pz17.step)⟩
def pq4.l0:Nat→List ByteArray→Int→Int→Option (Int)
 | 0,_,_,_=>none
 | k + 1,x0,x7,x8=>if x8<x7 then (if 0≤x8 then (if x8<(x0.length:Int) then ((pq13.f (rdOf ByteArray.empty x0 x8)).bind fun t255=>(if t255=true then (some x8) else (pq4.l0 k x0 x7 (wrap64 (x8 + 1))))) else (none)) else (none)) else (some (-1))
def pq4.f (k:Nat) (l0:List ByteArray) (a1:Unit):Option (Int):=pq4.l0 k l0 (l0.length:Int) 0
set_option maxHeartbeats 8000000 in
set_option maxRecDepth 100000 in
theorem pq4.calls (k:Nat) (A0:Option Addr) (c0:Nat) (l0:List ByteArray) (a1:Unit) (r:Int) (w:World) (hr0:Kd.C Kd.string w A0 l0.length l0) (hc0:l0.length≤c0) (h:pq4.f k l0 a1=some r) :
  Calls Tryz.prog 178 #[.slice A0 l0.length c0,.func (.func 144) #[] #[]] w fun e w'=>e=.returned (.int .i64 r)∧pz17 w w':=by
 have HR0:=pz4.mk hr0
 have HC0:=pz4.mk hc0
 clear hr0 hc0
 have H:(pq4.l0 k l0 (l0.length:Int) 0)=some r:=h
 clear h
 have H':=pz4.mk H
 clear H
 go_enter Tryz.func178,Tryz.ntmps178
 go_wp2
 go_loopg [8] k (fun kq v8 w'=>∃ (x8_1:Int),v8=.int .i64 x8_1∧pz4 (pq4.l0 kq l0 (l0.length:Int) x8_1=some r)∧pz4 (kq≤k)∧pz17 w w')
 case atStart=>exact ⟨(0),(by first|rfl|(simp;done)|(simp [*];done)),H',⟨Nat.le_refl _⟩,by repeat (first|exact pz17.refl _|apply pz17.step)⟩
 case round =>
  clear H'
  obtain ⟨x8_1,rfl,HA,HK1,⟨m1,rfl⟩⟩:=hrel
  cases gk with
  | zero=>exact absurd HA.out (by simp [pq4.l0])
  | succ k1 =>
   have H:=HA.out
   clear HA
   simp only [pq4.l0] at H
   by_cases c3:x8_1<(l0.length:Int)
   ·rw [if_pos c3] at H
    have c3b0:decide (x8_1<(l0.length:Int))=true:=decide_eq_true c3
    clear c3
    by_cases c4:0≤x8_1
    ·rw [if_pos c4] at H
     have c4b0:decide (0≤x8_1)=true:=decide_eq_true c4
     clear c4
     by_cases c5:x8_1<(l0.length:Int)
     ·rw [if_pos c5] at H
      have c5b0:decide (x8_1<(l0.length:Int))=true:=decide_eq_true c5
      clear c5
      replace H:=Option.bind_eq_some_iff.mp H
      obtain ⟨t255,A60,H⟩:=H
      replace H:(if t255=true then (some x8_1) else (pq4.l0 k1 l0 (l0.length:Int) (wrap64 (x8_1 + 1))))=some r:=H
      have A6:=pz4.mk A60
      clear A60
      by_cases c7:t255=true
      ·subst c7
       have H1:(some x8_1)=some r:=by rw [if_pos rfl] at H;exact H
       clear H
       have H:=H1
       clear H1
       obtain rfl:=Option.some.inj H
       have p254:0≤(x8_1:Int):=of_decide_eq_true (by first|(with_reducible assumption)|assumption)
       have q254:x8_1<(l0.length:Int):=of_decide_eq_true (by first|(with_reducible assumption)|assumption)
       obtain ⟨ad254,e254,hx254_0⟩:=Kd.at_string HR0.out x8_1 p254 q254
       cases e254
       replace p254:=eq_true p254
       replace q254:=eq_true q254
       go_wp2_with (first|(go_at_call 144;(with_reducible refine (pq13.calls (rdOf ByteArray.empty l0 x8_1) true _ A6.out).mono ?_);rintro e w' ⟨rfl,⟨nd,rfl⟩⟩))
       go_ret
       exact ⟨by first|rfl|(simp;done)|(simp [*];done),by repeat (first|exact pz17.refl _|apply pz17.step)⟩
      ·replace c7:=Bool.eq_false_iff.mpr c7
       subst c7
       have H1:(pq4.l0 k1 l0 (l0.length:Int) (wrap64 (x8_1 + 1)))=some r:=by rw [if_neg (show ¬ (false=true) by decide)] at H;exact H
       clear H
       have H:=H1
       clear H1
       have H':=pz4.mk H
       clear H
       have p254:0≤(x8_1:Int):=of_decide_eq_true (by first|(with_reducible assumption)|assumption)
       have q254:x8_1<(l0.length:Int):=of_decide_eq_true (by first|(with_reducible assumption)|assumption)
       obtain ⟨ad254,e254,hx254_0⟩:=Kd.at_string HR0.out x8_1 p254 q254
       cases e254
       replace p254:=eq_true p254
       replace q254:=eq_true q254
       go_wp2_with (first|(go_at_call 144;(with_reducible refine (pq13.calls (rdOf ByteArray.empty l0 x8_1) false _ A6.out).mono ?_);rintro e w' ⟨rfl,⟨nd,rfl⟩⟩))
       go_roundg k1
       case measure=>have:=HK1.out;omega
       case rel=>exact ⟨(wrap64 (x8_1 + 1)),(by first|rfl|(simp;done)|(simp [*];done)),H',⟨by have:=HK1.out;omega⟩,by repeat (first|exact pz17.refl _|apply pz17.step)⟩
     ·rw [if_neg c5] at H
      exact absurd H (by simp)
    ·rw [if_neg c4] at H
     exact absurd H (by simp)
   ·rw [if_neg c3] at H
    have c3b0:decide (x8_1<(l0.length:Int))=false:=decide_eq_false c3
    clear c3
    obtain rfl:=Option.some.inj H
    go_wp2
    go_ret
    exact ⟨by first|rfl|(simp;done)|(simp [*];done),by repeat (first|exact pz17.refl _|apply pz17.step)⟩
def pq1.f (k:Nat) (l0:List ByteArray) (a1:Unit):Option (Bool):=(pq4.f k l0 a1).bind fun t256=>(some (decide (t256 ≥ 0)))
set_option maxHeartbeats 8000000 in
set_option maxRecDepth 100000 in
theorem pq1.calls (k:Nat) (A0:Option Addr) (c0:Nat) (l0:List ByteArray) (a1:Unit) (r:Bool) (w:World) (hr0:Kd.C Kd.string w A0 l0.length l0) (hc0:l0.length≤c0) (h:pq1.f k l0 a1=some r) :
  Calls Tryz.prog 143 #[.slice A0 l0.length c0,.func (.func 144) #[] #[]] w fun e w'=>e=.returned (.bool r)∧pz17 w w':=by
 have HR0:=pz4.mk hr0
 have HC0:=pz4.mk hc0
 clear hr0 hc0
 have H:((pq4.f k l0 a1).bind fun t256=>(some (decide (t256 ≥ 0))))=some r:=h
 clear h
 replace H:=Option.bind_eq_some_iff.mp H
 obtain ⟨t256,A30,H⟩:=H
 replace H:(some (decide (t256 ≥ 0)))=some r:=H
 have A3:=pz4.mk A30
 clear A30
 obtain rfl:=Option.some.inj H
 go_enter Tryz.func143,Tryz.ntmps143
 go_wp2_with (first|((with_reducible refine pz8 (f:=178) rfl ?_);refine pz21 (some 7) rfl rfl Tryz.func178 (by kernel_rfl) rfl #[.slice A0 l0.length c0,.func (.func 144) #[] #[]] rfl (by (try simp only [pM]);first|done|rfl|(simp only [pL];rfl)) ?_;(with_reducible refine (pq4.calls k _ _ l0 a1 t256 _ ?side1 ?side2 A3.out).mono ?_);(case side1=>repeat (first|exact HR0.out|(with_reducible refine Kd.C_alloc ?_ _)|(with_reducible refine Kd.C_drewN ?_ _)|(with_reducible refine Kd.C_drew ?_)));(case side2=>exact HC0.out);rintro e w' ⟨rfl,⟨nd,rfl⟩⟩;refine ⟨_,rfl,?_⟩))
 go_ret
 exact ⟨by first|rfl|(simp;done)|(simp [*];done),by repeat (first|exact pz17.refl _|apply pz17.step)⟩
def stringslite_HasPrefix.f (a0:ByteArray) (a1:ByteArray):Option (Bool):=if (a0.size:Int) ≥ (a1.size:Int) then (if 0≤(a1.size:Int) then (if (a1.size:Int)≤(a0.size:Int) then (some ((a0.extract 0 ((a1.size:Int):Int).toNat).toList == a1.toList)) else (none)) else (none)) else (some false)
set_option maxHeartbeats 8000000 in
set_option maxRecDepth 100000 in
theorem stringslite_HasPrefix.calls (a0:ByteArray) (a1:ByteArray) (r:Bool) (w:World) (h:stringslite_HasPrefix.f a0 a1=some r) :
  Calls Tryz.prog 145 #[.string a0,.string a1] w fun e w'=>e=.returned (.bool r)∧pz17 w w':=by
 have H:(if (a0.size:Int) ≥ (a1.size:Int) then (if 0≤(a1.size:Int) then (if (a1.size:Int)≤(a0.size:Int) then (some ((a0.extract 0 ((a1.size:Int):Int).toNat).toList == a1.toList)) else (none)) else (none)) else (some false))=some r:=h
 clear h
 by_cases c3:(a0.size:Int) ≥ (a1.size:Int)
 ·rw [if_pos c3] at H
  have c3b0:decide ((a1.size:Int)≤(a0.size:Int))=true:=decide_eq_true c3
  have c3b1:decide (a1.size≤a0.size)=true:=decide_eq_true (Int.ofNat_le.mp c3)
  clear c3
  by_cases c4:0≤(a1.size:Int)
  ·rw [if_pos c4] at H
   have c4b0:=eq_true c4
   have c4b1:decide (0≤(a1.size:Int))=true:=decide_eq_true c4
   clear c4
   by_cases c5:(a1.size:Int)≤(a0.size:Int)
   ·rw [if_pos c5] at H
    have c5b0:=eq_true c5
    have c5b1:decide ((a1.size:Int)≤(a0.size:Int))=true:=decide_eq_true c5
    clear c5
    obtain rfl:=Option.some.inj H
    go_enter Tryz.func145,Tryz.ntmps145
    go_wp2
    go_ret
    exact ⟨by first|rfl|(simp;done)|(simp [*];done),by repeat (first|exact pz17.refl _|apply pz17.step)⟩
   ·rw [if_neg c5] at H
    exact absurd H (by simp)
  ·rw [if_neg c4] at H
   exact absurd H (by simp)
 ·rw [if_neg c3] at H
  have c3b0:decide ((a1.size:Int)≤(a0.size:Int))=false:=decide_eq_false c3
  have c3b1:decide (a1.size≤a0.size)=false:=decide_eq_false (fun h=>c3 (Int.ofNat_le.mpr h))
  clear c3
  obtain rfl:=Option.some.inj H
  go_enter Tryz.func145,Tryz.ntmps145
  go_wp2
  go_ret
  exact ⟨by first|rfl|(simp;done)|(simp [*];done),by repeat (first|exact pz17.refl _|apply pz17.step)⟩
def pq10.f (a0:ByteArray) (a1:ByteArray):Option (Bool):=(stringslite_HasPrefix.f a0 a1).bind fun t192=>(some t192)
set_option maxHeartbeats 8000000 in
set_option maxRecDepth 100000 in
theorem pq10.calls (a0:ByteArray) (a1:ByteArray) (r:Bool) (w:World) (h:pq10.f a0 a1=some r) :
  Calls Tryz.prog 102 #[.string a0,.string a1] w fun e w'=>e=.returned (.bool r)∧pz17 w w':=by
 have H:((stringslite_HasPrefix.f a0 a1).bind fun t192=>(some t192))=some r:=h
 clear h
 replace H:=Option.bind_eq_some_iff.mp H
 obtain ⟨t192,A30,H⟩:=H
 replace H:(some t192)=some r:=H
 have A3:=pz4.mk A30
 clear A30
 obtain rfl:=Option.some.inj H
 go_enter Tryz.func102,Tryz.ntmps102
 go_wp2_with (first|((with_reducible refine pz8 (f:=145) rfl ?_);refine pz21 (some 7) rfl rfl Tryz.func145 (by kernel_rfl) rfl #[.string a0,.string a1] rfl (by (try simp only [pM]);first|done|rfl|(simp only [pL];rfl)) ?_;(with_reducible refine (stringslite_HasPrefix.calls a0 a1 t192 _ A3.out).mono ?_);rintro e w' ⟨rfl,⟨nd,rfl⟩⟩;refine ⟨_,rfl,?_⟩))
 go_ret
 exact ⟨by first|rfl|(simp;done)|(simp [*];done),by repeat (first|exact pz17.refl _|apply pz17.step)⟩
def paths_is.f (k:Nat) (a0:ByteArray):Option (Bool):=(strings_Split.f a0 (⟨#[47]⟩:ByteArray)).bind fun t257=>(if 0≤(wrap64 ((t257.length:Int) - 1)) then (if (wrap64 ((t257.length:Int) - 1))<(t257.length:Int) then ((pq10.f (rdOf ByteArray.empty t257 (wrap64 ((t257.length:Int) - 1))) (⟨#[46,119,104,46]⟩:ByteArray)).bind fun t261=>(if t261=true then (if (a0.size:Int)≤4096 then (if ((rdOf ByteArray.empty t257 (wrap64 ((t257.length:Int) - 1))).size:Int)≤255 then ((pq2.f k t257 ()).bind fun t262=>(if t262=true then (some false) else (if (wrap64 ((t257.length:Int) - 1))≤(t257.length:Int) then ((pq1.f k (t257.take ((wrap64 ((t257.length:Int) - 1)):Int).toNat) ()).bind fun t267=>(some (!t267))) else (none)))) else (some false)) else (some false)) else (if (a0.size:Int)≤4092 then (if ((rdOf ByteArray.empty t257 (wrap64 ((t257.length:Int) - 1))).size:Int)≤251 then ((pq2.f k t257 ()).bind fun t268=>(if t268=true then (some false) else (if (wrap64 ((t257.length:Int) - 1))≤(t257.length:Int) then ((pq1.f k (t257.take ((wrap64 ((t257.length:Int) - 1)):Int).toNat) ()).bind fun t273=>(some (!t273))) else (none)))) else (some false)) else (some false)))) else (none)) else (none))
set_option maxHeartbeats 8000000 in
set_option maxRecDepth 100000 in
theorem paths_is.calls (k:Nat) (a0:ByteArray) (r:Bool) (w:World) (hG:GL w) (h:paths_is.f k a0=some r) :
  Calls Tryz.prog 100 #[.string a0] w fun e w'=>e=.returned (.bool r)∧Below w.heap.size w w':=by
 have HB:=pz4.mk (Below.refl w.heap.size w)
 have H:((strings_Split.f a0 (⟨#[47]⟩:ByteArray)).bind fun t257=>(if 0≤(wrap64 ((t257.length:Int) - 1)) then (if (wrap64 ((t257.length:Int) - 1))<(t257.length:Int) then ((pq10.f (rdOf ByteArray.empty t257 (wrap64 ((t257.length:Int) - 1))) (⟨#[46,119,104,46]⟩:ByteArray)).bind fun t261=>(if t261=true then (if (a0.size:Int)≤4096 then (if ((rdOf ByteArray.empty t257 (wrap64 ((t257.length:Int) - 1))).size:Int)≤255 then ((pq2.f k t257 ()).bind fun t262=>(if t262=true then (some false) else (if (wrap64 ((t257.length:Int) - 1))≤(t257.length:Int) then ((pq1.f k (t257.take ((wrap64 ((t257.length:Int) - 1)):Int).toNat) ()).bind fun t267=>(some (!t267))) else (none)))) else (some false)) else (some false)) else (if (a0.size:Int)≤4092 then (if ((rdOf ByteArray.empty t257 (wrap64 ((t257.length:Int) - 1))).size:Int)≤251 then ((pq2.f k t257 ()).bind fun t268=>(if t268=true then (some false) else (if (wrap64 ((t257.length:Int) - 1))≤(t257.length:Int) then ((pq1.f k (t257.take ((wrap64 ((t257.length:Int) - 1)):Int).toNat) ()).bind fun t273=>(some (!t273))) else (none)))) else (some false)) else (some false)))) else (none)) else (none)))=some r:=h
 clear h
 replace H:=Option.bind_eq_some_iff.mp H
 obtain ⟨t257,A20,H⟩:=H
 replace H:(if 0≤(wrap64 ((t257.length:Int) - 1)) then (if (wrap64 ((t257.length:Int) - 1))<(t257.length:Int) then ((pq10.f (rdOf ByteArray.empty t257 (wrap64 ((t257.length:Int) - 1))) (⟨#[46,119,104,46]⟩:ByteArray)).bind fun t261=>(if t261=true then (if (a0.size:Int)≤4096 then (if ((rdOf ByteArray.empty t257 (wrap64 ((t257.length:Int) - 1))).size:Int)≤255 then ((pq2.f k t257 ()).bind fun t262=>(if t262=true then (some false) else (if (wrap64 ((t257.length:Int) - 1))≤(t257.length:Int) then ((pq1.f k (t257.take ((wrap64 ((t257.length:Int) - 1)):Int).toNat) ()).bind fun t267=>(some (!t267))) else (none)))) else (some false)) else (some false)) else (if (a0.size:Int)≤4092 then (if ((rdOf ByteArray.empty t257 (wrap64 ((t257.length:Int) - 1))).size:Int)≤251 then ((pq2.f k t257 ()).bind fun t268=>(if t268=true then (some false) else (if (wrap64 ((t257.length:Int) - 1))≤(t257.length:Int) then ((pq1.f k (t257.take ((wrap64 ((t257.length:Int) - 1)):Int).toNat) ()).bind fun t273=>(some (!t273))) else (none)))) else (some false)) else (some false)))) else (none)) else (none))=some r:=H
 have A2:=pz4.mk A20
 clear A20
 obtain ⟨ji3,hji3⟩:∃ j_:Int,(wrap64 ((t257.length:Int) - 1))=j_:=⟨_,rfl⟩
 replace H:(if 0≤(ji3) then (if (ji3)<(t257.length:Int) then ((pq10.f (rdOf ByteArray.empty t257 (ji3)) (⟨#[46,119,104,46]⟩:ByteArray)).bind fun t261=>(if t261=true then (if (a0.size:Int)≤4096 then (if ((rdOf ByteArray.empty t257 (ji3)).size:Int)≤255 then ((pq2.f k t257 ()).bind fun t262=>(if t262=true then (some false) else (if (ji3)≤(t257.length:Int) then ((pq1.f k (t257.take ((ji3):Int).toNat) ()).bind fun t267=>(some (!t267))) else (none)))) else (some false)) else (some false)) else (if (a0.size:Int)≤4092 then (if ((rdOf ByteArray.empty t257 (ji3)).size:Int)≤251 then ((pq2.f k t257 ()).bind fun t268=>(if t268=true then (some false) else (if (ji3)≤(t257.length:Int) then ((pq1.f k (t257.take ((ji3):Int).toNat) ()).bind fun t273=>(some (!t273))) else (none)))) else (some false)) else (some false)))) else (none)) else (none))=some r:=by first|(rw [hji3] at H;exact H)|(simp only [hji3] at H ⊢;exact H)
 (try rw [hji3] at A2)
 have hji3w:(IntKind.i64.wrap ((t257.length:Int) - 1))=ji3:=(i64_w _).trans hji3
 by_cases c4:0≤(ji3)
 ·rw [if_pos c4] at H
  have c4b0:decide (0≤(ji3))=true:=decide_eq_true c4
  clear c4
  by_cases c5:(ji3)<(t257.length:Int)
  ·rw [if_pos c5] at H
   have c5b0:decide ((ji3)<(t257.length:Int))=true:=decide_eq_true c5
   clear c5
   replace H:=Option.bind_eq_some_iff.mp H
   obtain ⟨t261,A60,H⟩:=H
   replace H:(if t261=true then (if (a0.size:Int)≤4096 then (if ((rdOf ByteArray.empty t257 (ji3)).size:Int)≤255 then ((pq2.f k t257 ()).bind fun t262=>(if t262=true then (some false) else (if (ji3)≤(t257.length:Int) then ((pq1.f k (t257.take ((ji3):Int).toNat) ()).bind fun t267=>(some (!t267))) else (none)))) else (some false)) else (some false)) else (if (a0.size:Int)≤4092 then (if ((rdOf ByteArray.empty t257 (ji3)).size:Int)≤251 then ((pq2.f k t257 ()).bind fun t268=>(if t268=true then (some false) else (if (ji3)≤(t257.length:Int) then ((pq1.f k (t257.take ((ji3):Int).toNat) ()).bind fun t273=>(some (!t273))) else (none)))) else (some false)) else (some false)))=some r:=H
   have A6:=pz4.mk A60
   clear A60
   by_cases c7:t261=true
   ·subst c7
    have H1:(if (a0.size:Int)≤4096 then (if ((rdOf ByteArray.empty t257 (ji3)).size:Int)≤255 then ((pq2.f k t257 ()).bind fun t262=>(if t262=true then (some false) else (if (ji3)≤(t257.length:Int) then ((pq1.f k (t257.take ((ji3):Int).toNat) ()).bind fun t267=>(some (!t267))) else (none)))) else (some false)) else (some false))=some r:=by rw [if_pos rfl] at H;exact H
    clear H
    have H:=H1
    clear H1
    by_cases c8:(a0.size:Int)≤4096
    ·rw [if_pos c8] at H
     have c8b0:decide ((a0.size:Int)≤4096)=true:=decide_eq_true c8
     have c8b1:decide (a0.size≤4096)=true:=decide_eq_true (by omega)
     clear c8
     by_cases c9:((rdOf ByteArray.empty t257 (ji3)).size:Int)≤255
     ·rw [if_pos c9] at H
      have c9b0:decide (((rdOf ByteArray.empty t257 (ji3)).size:Int)≤255)=true:=decide_eq_true c9
      have c9b1:decide ((rdOf ByteArray.empty t257 (ji3)).size≤255)=true:=decide_eq_true (by omega)
      clear c9
      replace H:=Option.bind_eq_some_iff.mp H
      obtain ⟨t262,A100,H⟩:=H
      replace H:(if t262=true then (some false) else (if (ji3)≤(t257.length:Int) then ((pq1.f k (t257.take ((ji3):Int).toNat) ()).bind fun t267=>(some (!t267))) else (none)))=some r:=H
      have A10:=pz4.mk A100
      clear A100
      by_cases c11:t262=true
      ·subst c11
       have H1:(some false)=some r:=by rw [if_pos rfl] at H;exact H
       clear H
       have H:=H1
       clear H1
       obtain rfl:=Option.some.inj H
       go_enter Tryz.func100,Tryz.ntmps100
       go_wp2_with (first|((with_reducible refine pz8 (f:=142) rfl ?_);refine pz21 (some 8) rfl rfl Tryz.func142 (by kernel_rfl) rfl #[.string a0,.string (⟨#[47]⟩:ByteArray)] rfl (by (try simp only [pM]);first|done|rfl|(simp only [pL];rfl)) ?_;(with_reducible refine (strings_Split.calls a0 (⟨#[47]⟩:ByteArray) t257 _ (hG.ext (by repeat (first|(with_reducible first|exact HB.out|apply pz3|apply pz1|apply pz2)|exact HB.out))) A2.out).mono ?_);rintro e w12 ⟨v258,rfl,ho0,hb⟩;refine ⟨_,rfl,?_⟩;have n0_:=pz4.mk (Kd.R_lower ho0 (pz20 (by repeat (first|(with_reducible first|exact HB.out|apply pz3|apply pz1|apply pz2)|exact HB.out))));have n1_:=pz4.mk (pz9 (by repeat (first|(with_reducible first|exact HB.out|apply pz3|apply pz1|apply pz2)|exact HB.out)) hb);clear HB;have HO259:=n0_;have HB:=n1_;clear n0_ n1_;(try clear hb);(try clear hb2);(try clear hk);(try clear hi);(try clear ho0);obtain ⟨Ao13,co13,eo13⟩:=Kd.R_slice HO259.out;subst eo13;have p260:0≤((ji3):Int):=of_decide_eq_true (by first|(with_reducible assumption)|assumption);have q260:(ji3)<(t257.length:Int):=of_decide_eq_true (by first|(with_reducible assumption)|assumption);obtain ⟨ad260,e260,hx260_0⟩:=Kd.at_string (Kd.R_reads' HO259.out).2.2 (ji3) p260 q260;cases e260;replace p260:=eq_true p260;replace q260:=eq_true q260)|((with_reducible refine pz8 (f:=102) rfl ?_);refine pz21 (some 16) rfl rfl Tryz.func102 (by kernel_rfl) rfl #[.string (rdOf ByteArray.empty t257 (ji3)),.string (⟨#[46,119,104,46]⟩:ByteArray)] rfl (by (try simp only [pM]);first|done|(simp only [hji3];rfl)|rfl|(simp only [pL];rfl)) ?_;(with_reducible refine (pq10.calls (rdOf ByteArray.empty t257 (ji3)) (⟨#[46,119,104,46]⟩:ByteArray) true _ A6.out).mono ?_);rintro e w' ⟨rfl,⟨nd,rfl⟩⟩;refine ⟨_,rfl,?_⟩)|(go_at_call 143;(with_reducible refine (pq2.calls k _ _ t257 () true _ ?side1 ?side2 A10.out).mono ?_);(case side1=>repeat (first|exact (Kd.R_reads' HO259.out).2.2|(with_reducible refine Kd.C_alloc ?_ _)|(with_reducible refine Kd.C_drewN ?_ _)|(with_reducible refine Kd.C_drew ?_)));(case side2=>exact (Kd.R_reads' HO259.out).2.1);rintro e w' ⟨rfl,⟨nd,rfl⟩⟩))
       go_ret
       exact ⟨by first|rfl|(simp [pz6,pz5] <;> rfl)|(simp only [← hji3];first|rfl|(simp [pz6,pz5] <;> rfl))|(simp [*,pz6,pz5] <;> rfl),by repeat (first|(with_reducible first|exact HB.out|apply pz3|apply pz1|apply pz2)|exact HB.out)⟩
      ·replace c11:=Bool.eq_false_iff.mpr c11
       subst c11
       have H1:(if (ji3)≤(t257.length:Int) then ((pq1.f k (t257.take ((ji3):Int).toNat) ()).bind fun t267=>(some (!t267))) else (none))=some r:=by rw [if_neg (show ¬ (false=true) by decide)] at H;exact H
       clear H
       have H:=H1
       clear H1
       have c14b0:=eq_true (of_decide_eq_true (by first|(with_reducible assumption)|assumption):0≤(ji3))
       by_cases c15:(ji3)≤(t257.length:Int)
       ·rw [if_pos c15] at H
        have c15b0:=eq_true c15
        have c15b1:decide ((ji3)≤(t257.length:Int))=true:=decide_eq_true c15
        clear c15
        obtain ⟨y263,hy263⟩:∃ y_:List ByteArray,y_=(t257.take ((ji3):Int).toNat):=⟨_,rfl⟩
        replace H:((pq1.f k y263 ()).bind fun t267=>(some (!t267)))=some r:=by first|(rw [hy263];with_reducible exact H)|(have H2_:=(Option.bind_some _ _).symm.trans H;rw [hy263];with_reducible exact H2_)|(have H2_:=(Option.bind_some _ _).symm.trans H;with_reducible exact H2_)|with_reducible exact H|(rw [hy263];exact H)|exact H
        have Ny263:=pz4.mk hy263
        clear hy263
        replace H:=Option.bind_eq_some_iff.mp H
        obtain ⟨t267,A160,H⟩:=H
        replace H:(some (!t267))=some r:=H
        have A16:=pz4.mk A160
        clear A160
        obtain rfl:=Option.some.inj H
        go_enter Tryz.func100,Tryz.ntmps100
        go_wp2_with (first|((with_reducible refine pz8 (f:=142) rfl ?_);refine pz21 (some 8) rfl rfl Tryz.func142 (by kernel_rfl) rfl #[.string a0,.string (⟨#[47]⟩:ByteArray)] rfl (by (try simp only [pM]);first|done|rfl|(simp only [pL];rfl)) ?_;(with_reducible refine (strings_Split.calls a0 (⟨#[47]⟩:ByteArray) t257 _ (hG.ext (by repeat (first|(with_reducible first|exact HB.out|apply pz3|apply pz1|apply pz2)|exact HB.out))) A2.out).mono ?_);rintro e w17 ⟨v258,rfl,ho0,hb⟩;refine ⟨_,rfl,?_⟩;have n0_:=pz4.mk (Kd.R_lower ho0 (pz20 (by repeat (first|(with_reducible first|exact HB.out|apply pz3|apply pz1|apply pz2)|exact HB.out))));have n1_:=pz4.mk (pz9 (by repeat (first|(with_reducible first|exact HB.out|apply pz3|apply pz1|apply pz2)|exact HB.out)) hb);clear HB;have HO259:=n0_;have HB:=n1_;clear n0_ n1_;(try clear hb);(try clear hb2);(try clear hk);(try clear hi);(try clear ho0);obtain ⟨Ao18,co18,eo18⟩:=Kd.R_slice HO259.out;subst eo18;have p260:0≤((ji3):Int):=of_decide_eq_true (by first|(with_reducible assumption)|assumption);have q260:(ji3)<(t257.length:Int):=of_decide_eq_true (by first|(with_reducible assumption)|assumption);obtain ⟨ad260,e260,hx260_0⟩:=Kd.at_string (Kd.R_reads' HO259.out).2.2 (ji3) p260 q260;cases e260;replace p260:=eq_true p260;replace q260:=eq_true q260)|((with_reducible refine pz8 (f:=102) rfl ?_);refine pz21 (some 16) rfl rfl Tryz.func102 (by kernel_rfl) rfl #[.string (rdOf ByteArray.empty t257 (ji3)),.string (⟨#[46,119,104,46]⟩:ByteArray)] rfl (by (try simp only [pM]);first|done|(simp only [hji3];rfl)|rfl|(simp only [pL];rfl)) ?_;(with_reducible refine (pq10.calls (rdOf ByteArray.empty t257 (ji3)) (⟨#[46,119,104,46]⟩:ByteArray) true _ A6.out).mono ?_);rintro e w' ⟨rfl,⟨nd,rfl⟩⟩;refine ⟨_,rfl,?_⟩)|(go_at_call 143;(with_reducible refine (pq2.calls k _ _ t257 () false _ ?side1 ?side2 A10.out).mono ?_);(case side1=>repeat (first|exact (Kd.R_reads' HO259.out).2.2|(with_reducible refine Kd.C_alloc ?_ _)|(with_reducible refine Kd.C_drewN ?_ _)|(with_reducible refine Kd.C_drew ?_)));(case side2=>exact (Kd.R_reads' HO259.out).2.1);rintro e w' ⟨rfl,⟨nd,rfl⟩⟩;have q19:((ji3):Int)≤((t257.length:Int):Int):=of_decide_eq_true (by first|(with_reducible assumption)|assumption);obtain ⟨i019,hi019,_,hsz19,_⟩:=info_parts info9;have hroom19:t257.length≤co18:=(Kd.R_reads' HO259.out).2.1;have hC19:Kd.C Kd.string _ (some ad260) t257.length t257:=(Kd.R_reads' HO259.out).2.2;have hcut19:=cut_to (P:=Tryz.prog) 86 9 .i64 Tryz.underlying86 hi019 (some ad260) t257.length co18 (ji3) (of_decide_eq_true (by first|(with_reducible assumption)|assumption)) q19 hroom19;have hr19:=Kd.C_take (m:=((ji3):Int).toNat) hC19 (by omega);have hy19:y263.length=((ji3):Int).toNat:=(by rw [Ny263.out,List.length_take];omega);rw [← Ny263.out] at hr19;rw [← hy19] at hcut19;have HR266:=pz4.mk hr19;have HC266:=pz4.mk (show y263.length≤co18 from by omega);clear hr19 hC19 hroom19 hi019 hsz19;have KY19:=pz4.mk hy19;clear hy19;have KL19:=pz4.mk (show ((ji3):Int).toNat≤t257.length from by omega);replace q19:=eq_true q19)|(go_at_call 143;(with_reducible refine (pq1.calls k _ _ y263 () t267 _ ?side1 ?side2 A16.out).mono ?_);(case side1=>repeat (first|exact (by repeat (first|(with_reducible exact HR266.out)|(with_reducible refine Kd.C_alloc ?_ _)|(with_reducible refine Kd.C_drewN ?_ _)|(with_reducible refine Kd.C_drew ?_)|exact HR266.out))|(with_reducible refine Kd.C_alloc ?_ _)|(with_reducible refine Kd.C_drewN ?_ _)|(with_reducible refine Kd.C_drew ?_)));(case side2=>exact HC266.out);rintro e w' ⟨rfl,⟨nd,rfl⟩⟩))
        go_ret
        exact ⟨by first|rfl|(simp [pz6,pz5] <;> rfl)|(simp only [← hji3];first|rfl|(simp [pz6,pz5] <;> rfl))|(simp [*,pz6,pz5] <;> rfl),by repeat (first|(with_reducible first|exact HB.out|apply pz3|apply pz1|apply pz2)|exact HB.out)⟩
       ·rw [if_neg c15] at H
        exact absurd H (by simp)
     ·rw [if_neg c9] at H
      have c9b0:decide (((rdOf ByteArray.empty t257 (ji3)).size:Int)≤255)=false:=decide_eq_false c9
      have c9b1:decide ((rdOf ByteArray.empty t257 (ji3)).size≤255)=false:=decide_eq_false (by omega)
      clear c9
      obtain rfl:=Option.some.inj H
      go_enter Tryz.func100,Tryz.ntmps100
      go_wp2_with (first|((with_reducible refine pz8 (f:=142) rfl ?_);refine pz21 (some 8) rfl rfl Tryz.func142 (by kernel_rfl) rfl #[.string a0,.string (⟨#[47]⟩:ByteArray)] rfl (by (try simp only [pM]);first|done|rfl|(simp only [pL];rfl)) ?_;(with_reducible refine (strings_Split.calls a0 (⟨#[47]⟩:ByteArray) t257 _ (hG.ext (by repeat (first|(with_reducible first|exact HB.out|apply pz3|apply pz1|apply pz2)|exact HB.out))) A2.out).mono ?_);rintro e w20 ⟨v258,rfl,ho0,hb⟩;refine ⟨_,rfl,?_⟩;have n0_:=pz4.mk (Kd.R_lower ho0 (pz20 (by repeat (first|(with_reducible first|exact HB.out|apply pz3|apply pz1|apply pz2)|exact HB.out))));have n1_:=pz4.mk (pz9 (by repeat (first|(with_reducible first|exact HB.out|apply pz3|apply pz1|apply pz2)|exact HB.out)) hb);clear HB;have HO259:=n0_;have HB:=n1_;clear n0_ n1_;(try clear hb);(try clear hb2);(try clear hk);(try clear hi);(try clear ho0);obtain ⟨Ao21,co21,eo21⟩:=Kd.R_slice HO259.out;subst eo21;have p260:0≤((ji3):Int):=of_decide_eq_true (by first|(with_reducible assumption)|assumption);have q260:(ji3)<(t257.length:Int):=of_decide_eq_true (by first|(with_reducible assumption)|assumption);obtain ⟨ad260,e260,hx260_0⟩:=Kd.at_string (Kd.R_reads' HO259.out).2.2 (ji3) p260 q260;cases e260;replace p260:=eq_true p260;replace q260:=eq_true q260)|((with_reducible refine pz8 (f:=102) rfl ?_);refine pz21 (some 16) rfl rfl Tryz.func102 (by kernel_rfl) rfl #[.string (rdOf ByteArray.empty t257 (ji3)),.string (⟨#[46,119,104,46]⟩:ByteArray)] rfl (by (try simp only [pM]);first|done|(simp only [hji3];rfl)|rfl|(simp only [pL];rfl)) ?_;(with_reducible refine (pq10.calls (rdOf ByteArray.empty t257 (ji3)) (⟨#[46,119,104,46]⟩:ByteArray) true _ A6.out).mono ?_);rintro e w' ⟨rfl,⟨nd,rfl⟩⟩;refine ⟨_,rfl,?_⟩))
      go_ret
      exact ⟨by first|rfl|(simp [pz6,pz5] <;> rfl)|(simp only [← hji3];first|rfl|(simp [pz6,pz5] <;> rfl))|(simp [*,pz6,pz5] <;> rfl),by repeat (first|(with_reducible first|exact HB.out|apply pz3|apply pz1|apply pz2)|exact HB.out)⟩
    ·rw [if_neg c8] at H
     have c8b0:decide ((a0.size:Int)≤4096)=false:=decide_eq_false c8
     have c8b1:decide (a0.size≤4096)=false:=decide_eq_false (by omega)
     clear c8
     obtain rfl:=Option.some.inj H
     go_enter Tryz.func100,Tryz.ntmps100
     go_wp2_with (first|((with_reducible refine pz8 (f:=142) rfl ?_);refine pz21 (some 8) rfl rfl Tryz.func142 (by kernel_rfl) rfl #[.string a0,.string (⟨#[47]⟩:ByteArray)] rfl (by (try simp only [pM]);first|done|rfl|(simp only [pL];rfl)) ?_;(with_reducible refine (strings_Split.calls a0 (⟨#[47]⟩:ByteArray) t257 _ (hG.ext (by repeat (first|(with_reducible first|exact HB.out|apply pz3|apply pz1|apply pz2)|exact HB.out))) A2.out).mono ?_);rintro e w22 ⟨v258,rfl,ho0,hb⟩;refine ⟨_,rfl,?_⟩;have n0_:=pz4.mk (Kd.R_lower ho0 (pz20 (by repeat (first|(with_reducible first|exact HB.out|apply pz3|apply pz1|apply pz2)|exact HB.out))));have n1_:=pz4.mk (pz9 (by repeat (first|(with_reducible first|exact HB.out|apply pz3|apply pz1|apply pz2)|exact HB.out)) hb);clear HB;have HO259:=n0_;have HB:=n1_;clear n0_ n1_;(try clear hb);(try clear hb2);(try clear hk);(try clear hi);(try clear ho0);obtain ⟨Ao23,co23,eo23⟩:=Kd.R_slice HO259.out;subst eo23;have p260:0≤((ji3):Int):=of_decide_eq_true (by first|(with_reducible assumption)|assumption);have q260:(ji3)<(t257.length:Int):=of_decide_eq_true (by first|(with_reducible assumption)|assumption);obtain ⟨ad260,e260,hx260_0⟩:=Kd.at_string (Kd.R_reads' HO259.out).2.2 (ji3) p260 q260;cases e260;replace p260:=eq_true p260;replace q260:=eq_true q260)|((with_reducible refine pz8 (f:=102) rfl ?_);refine pz21 (some 16) rfl rfl Tryz.func102 (by kernel_rfl) rfl #[.string (rdOf ByteArray.empty t257 (ji3)),.string (⟨#[46,119,104,46]⟩:ByteArray)] rfl (by (try simp only [pM]);first|done|(simp only [hji3];rfl)|rfl|(simp only [pL];rfl)) ?_;(with_reducible refine (pq10.calls (rdOf ByteArray.empty t257 (ji3)) (⟨#[46,119,104,46]⟩:ByteArray) true _ A6.out).mono ?_);rintro e w' ⟨rfl,⟨nd,rfl⟩⟩;refine ⟨_,rfl,?_⟩))
     go_ret
     exact ⟨by first|rfl|(simp [pz6,pz5] <;> rfl)|(simp only [← hji3];first|rfl|(simp [pz6,pz5] <;> rfl))|(simp [*,pz6,pz5] <;> rfl),by repeat (first|(with_reducible first|exact HB.out|apply pz3|apply pz1|apply pz2)|exact HB.out)⟩
   ·replace c7:=Bool.eq_false_iff.mpr c7
    subst c7
    have H1:(if (a0.size:Int)≤4092 then (if ((rdOf ByteArray.empty t257 (ji3)).size:Int)≤251 then ((pq2.f k t257 ()).bind fun t268=>(if t268=true then (some false) else (if (ji3)≤(t257.length:Int) then ((pq1.f k (t257.take ((ji3):Int).toNat) ()).bind fun t273=>(some (!t273))) else (none)))) else (some false)) else (some false))=some r:=by rw [if_neg (show ¬ (false=true) by decide)] at H;exact H
    clear H
    have H:=H1
    clear H1
    by_cases c24:(a0.size:Int)≤4092
    ·rw [if_pos c24] at H
     have c24b0:decide ((a0.size:Int)≤4092)=true:=decide_eq_true c24
     have c24b1:decide (a0.size≤4092)=true:=decide_eq_true (by omega)
     clear c24
     by_cases c25:((rdOf ByteArray.empty t257 (ji3)).size:Int)≤251
     ·rw [if_pos c25] at H
      have c25b0:decide (((rdOf ByteArray.empty t257 (ji3)).size:Int)≤251)=true:=decide_eq_true c25
      have c25b1:decide ((rdOf ByteArray.empty t257 (ji3)).size≤251)=true:=decide_eq_true (by omega)
      clear c25
      replace H:=Option.bind_eq_some_iff.mp H
      obtain ⟨t268,A260,H⟩:=H
      replace H:(if t268=true then (some false) else (if (ji3)≤(t257.length:Int) then ((pq1.f k (t257.take ((ji3):Int).toNat) ()).bind fun t273=>(some (!t273))) else (none)))=some r:=H
      have A26:=pz4.mk A260
      clear A260
      by_cases c27:t268=true
      ·subst c27
       have H1:(some false)=some r:=by rw [if_pos rfl] at H;exact H
       clear H
       have H:=H1
       clear H1
       obtain rfl:=Option.some.inj H
       go_enter Tryz.func100,Tryz.ntmps100
       go_wp2_with (first|((with_reducible refine pz8 (f:=142) rfl ?_);refine pz21 (some 8) rfl rfl Tryz.func142 (by kernel_rfl) rfl #[.string a0,.string (⟨#[47]⟩:ByteArray)] rfl (by (try simp only [pM]);first|done|rfl|(simp only [pL];rfl)) ?_;(with_reducible refine (strings_Split.calls a0 (⟨#[47]⟩:ByteArray) t257 _ (hG.ext (by repeat (first|(with_reducible first|exact HB.out|apply pz3|apply pz1|apply pz2)|exact HB.out))) A2.out).mono ?_);rintro e w28 ⟨v258,rfl,ho0,hb⟩;refine ⟨_,rfl,?_⟩;have n0_:=pz4.mk (Kd.R_lower ho0 (pz20 (by repeat (first|(with_reducible first|exact HB.out|apply pz3|apply pz1|apply pz2)|exact HB.out))));have n1_:=pz4.mk (pz9 (by repeat (first|(with_reducible first|exact HB.out|apply pz3|apply pz1|apply pz2)|exact HB.out)) hb);clear HB;have HO259:=n0_;have HB:=n1_;clear n0_ n1_;(try clear hb);(try clear hb2);(try clear hk);(try clear hi);(try clear ho0);obtain ⟨Ao29,co29,eo29⟩:=Kd.R_slice HO259.out;subst eo29;have p260:0≤((ji3):Int):=of_decide_eq_true (by first|(with_reducible assumption)|assumption);have q260:(ji3)<(t257.length:Int):=of_decide_eq_true (by first|(with_reducible assumption)|assumption);obtain ⟨ad260,e260,hx260_0⟩:=Kd.at_string (Kd.R_reads' HO259.out).2.2 (ji3) p260 q260;cases e260;replace p260:=eq_true p260;replace q260:=eq_true q260)|((with_reducible refine pz8 (f:=102) rfl ?_);refine pz21 (some 16) rfl rfl Tryz.func102 (by kernel_rfl) rfl #[.string (rdOf ByteArray.empty t257 (ji3)),.string (⟨#[46,119,104,46]⟩:ByteArray)] rfl (by (try simp only [pM]);first|done|(simp only [hji3];rfl)|rfl|(simp only [pL];rfl)) ?_;(with_reducible refine (pq10.calls (rdOf ByteArray.empty t257 (ji3)) (⟨#[46,119,104,46]⟩:ByteArray) false _ A6.out).mono ?_);rintro e w' ⟨rfl,⟨nd,rfl⟩⟩;refine ⟨_,rfl,?_⟩)|(go_at_call 143;(with_reducible refine (pq2.calls k _ _ t257 () true _ ?side1 ?side2 A26.out).mono ?_);(case side1=>repeat (first|exact (Kd.R_reads' HO259.out).2.2|(with_reducible refine Kd.C_alloc ?_ _)|(with_reducible refine Kd.C_drewN ?_ _)|(with_reducible refine Kd.C_drew ?_)));(case side2=>exact (Kd.R_reads' HO259.out).2.1);rintro e w' ⟨rfl,⟨nd,rfl⟩⟩))
       go_ret
       exact ⟨by first|rfl|(simp [pz6,pz5] <;> rfl)|(simp only [← hji3];first|rfl|(simp [pz6,pz5] <;> rfl))|(simp [*,pz6,pz5] <;> rfl),by repeat (first|(with_reducible first|exact HB.out|apply pz3|apply pz1|apply pz2)|exact HB.out)⟩
      ·replace c27:=Bool.eq_false_iff.mpr c27
       subst c27
       have H1:(if (ji3)≤(t257.length:Int) then ((pq1.f k (t257.take ((ji3):Int).toNat) ()).bind fun t273=>(some (!t273))) else (none))=some r:=by rw [if_neg (show ¬ (false=true) by decide)] at H;exact H
       clear H
       have H:=H1
       clear H1
       have c30b0:=eq_true (of_decide_eq_true (by first|(with_reducible assumption)|assumption):0≤(ji3))
       by_cases c31:(ji3)≤(t257.length:Int)
       ·rw [if_pos c31] at H
        have c31b0:=eq_true c31
        have c31b1:decide ((ji3)≤(t257.length:Int))=true:=decide_eq_true c31
        clear c31
        obtain ⟨y269,hy269⟩:∃ y_:List ByteArray,y_=(t257.take ((ji3):Int).toNat):=⟨_,rfl⟩
        replace H:((pq1.f k y269 ()).bind fun t273=>(some (!t273)))=some r:=by first|(rw [hy269];with_reducible exact H)|(have H2_:=(Option.bind_some _ _).symm.trans H;rw [hy269];with_reducible exact H2_)|(have H2_:=(Option.bind_some _ _).symm.trans H;with_reducible exact H2_)|with_reducible exact H|(rw [hy269];exact H)|exact H
        have Ny269:=pz4.mk hy269
        clear hy269
        replace H:=Option.bind_eq_some_iff.mp H
        obtain ⟨t273,A320,H⟩:=H
        replace H:(some (!t273))=some r:=H
        have A32:=pz4.mk A320
        clear A320
        obtain rfl:=Option.some.inj H
        go_enter Tryz.func100,Tryz.ntmps100
        go_wp2_with (first|((with_reducible refine pz8 (f:=142) rfl ?_);refine pz21 (some 8) rfl rfl Tryz.func142 (by kernel_rfl) rfl #[.string a0,.string (⟨#[47]⟩:ByteArray)] rfl (by (try simp only [pM]);first|done|rfl|(simp only [pL];rfl)) ?_;(with_reducible refine (strings_Split.calls a0 (⟨#[47]⟩:ByteArray) t257 _ (hG.ext (by repeat (first|(with_reducible first|exact HB.out|apply pz3|apply pz1|apply pz2)|exact HB.out))) A2.out).mono ?_);rintro e w33 ⟨v258,rfl,ho0,hb⟩;refine ⟨_,rfl,?_⟩;have n0_:=pz4.mk (Kd.R_lower ho0 (pz20 (by repeat (first|(with_reducible first|exact HB.out|apply pz3|apply pz1|apply pz2)|exact HB.out))));have n1_:=pz4.mk (pz9 (by repeat (first|(with_reducible first|exact HB.out|apply pz3|apply pz1|apply pz2)|exact HB.out)) hb);clear HB;have HO259:=n0_;have HB:=n1_;clear n0_ n1_;(try clear hb);(try clear hb2);(try clear hk);(try clear hi);(try clear ho0);obtain ⟨Ao34,co34,eo34⟩:=Kd.R_slice HO259.out;subst eo34;have p260:0≤((ji3):Int):=of_decide_eq_true (by first|(with_reducible assumption)|assumption);have q260:(ji3)<(t257.length:Int):=of_decide_eq_true (by first|(with_reducible assumption)|assumption);obtain ⟨ad260,e260,hx260_0⟩:=Kd.at_string (Kd.R_reads' HO259.out).2.2 (ji3) p260 q260;cases e260;replace p260:=eq_true p260;replace q260:=eq_true q260)|((with_reducible refine pz8 (f:=102) rfl ?_);refine pz21 (some 16) rfl rfl Tryz.func102 (by kernel_rfl) rfl #[.string (rdOf ByteArray.empty t257 (ji3)),.string (⟨#[46,119,104,46]⟩:ByteArray)] rfl (by (try simp only [pM]);first|done|(simp only [hji3];rfl)|rfl|(simp only [pL];rfl)) ?_;(with_reducible refine (pq10.calls (rdOf ByteArray.empty t257 (ji3)) (⟨#[46,119,104,46]⟩:ByteArray) false _ A6.out).mono ?_);rintro e w' ⟨rfl,⟨nd,rfl⟩⟩;refine ⟨_,rfl,?_⟩)|(go_at_call 143;(with_reducible refine (pq2.calls k _ _ t257 () false _ ?side1 ?side2 A26.out).mono ?_);(case side1=>repeat (first|exact (Kd.R_reads' HO259.out).2.2|(with_reducible refine Kd.C_alloc ?_ _)|(with_reducible refine Kd.C_drewN ?_ _)|(with_reducible refine Kd.C_drew ?_)));(case side2=>exact (Kd.R_reads' HO259.out).2.1);rintro e w' ⟨rfl,⟨nd,rfl⟩⟩;have q35:((ji3):Int)≤((t257.length:Int):Int):=of_decide_eq_true (by first|(with_reducible assumption)|assumption);obtain ⟨i035,hi035,_,hsz35,_⟩:=info_parts info9;have hroom35:t257.length≤co34:=(Kd.R_reads' HO259.out).2.1;have hC35:Kd.C Kd.string _ (some ad260) t257.length t257:=(Kd.R_reads' HO259.out).2.2;have hcut35:=cut_to (P:=Tryz.prog) 86 9 .i64 Tryz.underlying86 hi035 (some ad260) t257.length co34 (ji3) (of_decide_eq_true (by first|(with_reducible assumption)|assumption)) q35 hroom35;have hr35:=Kd.C_take (m:=((ji3):Int).toNat) hC35 (by omega);have hy35:y269.length=((ji3):Int).toNat:=(by rw [Ny269.out,List.length_take];omega);rw [← Ny269.out] at hr35;rw [← hy35] at hcut35;have HR272:=pz4.mk hr35;have HC272:=pz4.mk (show y269.length≤co34 from by omega);clear hr35 hC35 hroom35 hi035 hsz35;have KY35:=pz4.mk hy35;clear hy35;have KL35:=pz4.mk (show ((ji3):Int).toNat≤t257.length from by omega);replace q35:=eq_true q35)|(go_at_call 143;(with_reducible refine (pq1.calls k _ _ y269 () t273 _ ?side1 ?side2 A32.out).mono ?_);(case side1=>repeat (first|exact (by repeat (first|(with_reducible exact HR272.out)|(with_reducible refine Kd.C_alloc ?_ _)|(with_reducible refine Kd.C_drewN ?_ _)|(with_reducible refine Kd.C_drew ?_)|exact HR272.out))|(with_reducible refine Kd.C_alloc ?_ _)|(with_reducible refine Kd.C_drewN ?_ _)|(with_reducible refine Kd.C_drew ?_)));(case side2=>exact HC272.out);rintro e w' ⟨rfl,⟨nd,rfl⟩⟩))
        go_ret
        exact ⟨by first|rfl|(simp [pz6,pz5] <;> rfl)|(simp only [← hji3];first|rfl|(simp [pz6,pz5] <;> rfl))|(simp [*,pz6,pz5] <;> rfl),by repeat (first|(with_reducible first|exact HB.out|apply pz3|apply pz1|apply pz2)|exact HB.out)⟩
       ·rw [if_neg c31] at H
        exact absurd H (by simp)
     ·rw [if_neg c25] at H
      have c25b0:decide (((rdOf ByteArray.empty t257 (ji3)).size:Int)≤251)=false:=decide_eq_false c25
      have c25b1:decide ((rdOf ByteArray.empty t257 (ji3)).size≤251)=false:=decide_eq_false (by omega)
      clear c25
      obtain rfl:=Option.some.inj H
      go_enter Tryz.func100,Tryz.ntmps100
      go_wp2_with (first|((with_reducible refine pz8 (f:=142) rfl ?_);refine pz21 (some 8) rfl rfl Tryz.func142 (by kernel_rfl) rfl #[.string a0,.string (⟨#[47]⟩:ByteArray)] rfl (by (try simp only [pM]);first|done|rfl|(simp only [pL];rfl)) ?_;(with_reducible refine (strings_Split.calls a0 (⟨#[47]⟩:ByteArray) t257 _ (hG.ext (by repeat (first|(with_reducible first|exact HB.out|apply pz3|apply pz1|apply pz2)|exact HB.out))) A2.out).mono ?_);rintro e w36 ⟨v258,rfl,ho0,hb⟩;refine ⟨_,rfl,?_⟩;have n0_:=pz4.mk (Kd.R_lower ho0 (pz20 (by repeat (first|(with_reducible first|exact HB.out|apply pz3|apply pz1|apply pz2)|exact HB.out))));have n1_:=pz4.mk (pz9 (by repeat (first|(with_reducible first|exact HB.out|apply pz3|apply pz1|apply pz2)|exact HB.out)) hb);clear HB;have HO259:=n0_;have HB:=n1_;clear n0_ n1_;(try clear hb);(try clear hb2);(try clear hk);(try clear hi);(try clear ho0);obtain ⟨Ao37,co37,eo37⟩:=Kd.R_slice HO259.out;subst eo37;have p260:0≤((ji3):Int):=of_decide_eq_true (by first|(with_reducible assumption)|assumption);have q260:(ji3)<(t257.length:Int):=of_decide_eq_true (by first|(with_reducible assumption)|assumption);obtain ⟨ad260,e260,hx260_0⟩:=Kd.at_string (Kd.R_reads' HO259.out).2.2 (ji3) p260 q260;cases e260;replace p260:=eq_true p260;replace q260:=eq_true q260)|((with_reducible refine pz8 (f:=102) rfl ?_);refine pz21 (some 16) rfl rfl Tryz.func102 (by kernel_rfl) rfl #[.string (rdOf ByteArray.empty t257 (ji3)),.string (⟨#[46,119,104,46]⟩:ByteArray)] rfl (by (try simp only [pM]);first|done|(simp only [hji3];rfl)|rfl|(simp only [pL];rfl)) ?_;(with_reducible refine (pq10.calls (rdOf ByteArray.empty t257 (ji3)) (⟨#[46,119,104,46]⟩:ByteArray) false _ A6.out).mono ?_);rintro e w' ⟨rfl,⟨nd,rfl⟩⟩;refine ⟨_,rfl,?_⟩))
      go_ret
      exact ⟨by first|rfl|(simp [pz6,pz5] <;> rfl)|(simp only [← hji3];first|rfl|(simp [pz6,pz5] <;> rfl))|(simp [*,pz6,pz5] <;> rfl),by repeat (first|(with_reducible first|exact HB.out|apply pz3|apply pz1|apply pz2)|exact HB.out)⟩
    ·rw [if_neg c24] at H
     have c24b0:decide ((a0.size:Int)≤4092)=false:=decide_eq_false c24
     have c24b1:decide (a0.size≤4092)=false:=decide_eq_false (by omega)
     clear c24
     obtain rfl:=Option.some.inj H
     go_enter Tryz.func100,Tryz.ntmps100
     go_wp2_with (first|((with_reducible refine pz8 (f:=142) rfl ?_);refine pz21 (some 8) rfl rfl Tryz.func142 (by kernel_rfl) rfl #[.string a0,.string (⟨#[47]⟩:ByteArray)] rfl (by (try simp only [pM]);first|done|rfl|(simp only [pL];rfl)) ?_;(with_reducible refine (strings_Split.calls a0 (⟨#[47]⟩:ByteArray) t257 _ (hG.ext (by repeat (first|(with_reducible first|exact HB.out|apply pz3|apply pz1|apply pz2)|exact HB.out))) A2.out).mono ?_);rintro e w38 ⟨v258,rfl,ho0,hb⟩;refine ⟨_,rfl,?_⟩;have n0_:=pz4.mk (Kd.R_lower ho0 (pz20 (by repeat (first|(with_reducible first|exact HB.out|apply pz3|apply pz1|apply pz2)|exact HB.out))));have n1_:=pz4.mk (pz9 (by repeat (first|(with_reducible first|exact HB.out|apply pz3|apply pz1|apply pz2)|exact HB.out)) hb);clear HB;have HO259:=n0_;have HB:=n1_;clear n0_ n1_;(try clear hb);(try clear hb2);(try clear hk);(try clear hi);(try clear ho0);obtain ⟨Ao39,co39,eo39⟩:=Kd.R_slice HO259.out;subst eo39;have p260:0≤((ji3):Int):=of_decide_eq_true (by first|(with_reducible assumption)|assumption);have q260:(ji3)<(t257.length:Int):=of_decide_eq_true (by first|(with_reducible assumption)|assumption);obtain ⟨ad260,e260,hx260_0⟩:=Kd.at_string (Kd.R_reads' HO259.out).2.2 (ji3) p260 q260;cases e260;replace p260:=eq_true p260;replace q260:=eq_true q260)|((with_reducible refine pz8 (f:=102) rfl ?_);refine pz21 (some 16) rfl rfl Tryz.func102 (by kernel_rfl) rfl #[.string (rdOf ByteArray.empty t257 (ji3)),.string (⟨#[46,119,104,46]⟩:ByteArray)] rfl (by (try simp only [pM]);first|done|(simp only [hji3];rfl)|rfl|(simp only [pL];rfl)) ?_;(with_reducible refine (pq10.calls (rdOf ByteArray.empty t257 (ji3)) (⟨#[46,119,104,46]⟩:ByteArray) false _ A6.out).mono ?_);rintro e w' ⟨rfl,⟨nd,rfl⟩⟩;refine ⟨_,rfl,?_⟩))
     go_ret
     exact ⟨by first|rfl|(simp [pz6,pz5] <;> rfl)|(simp only [← hji3];first|rfl|(simp [pz6,pz5] <;> rfl))|(simp [*,pz6,pz5] <;> rfl),by repeat (first|(with_reducible first|exact HB.out|apply pz3|apply pz1|apply pz2)|exact HB.out)⟩
  ·rw [if_neg c5] at H
   exact absurd H (by simp)
 ·rw [if_neg c4] at H
  exact absurd H (by simp)
def paths_split.f (a0:ByteArray):Option (ByteArray×ByteArray):=(strings_LastIndex.f a0 (⟨#[47]⟩:ByteArray)).bind fun t103=>(if 0≤(mx t103 0) then (if (mx t103 0)≤(a0.size:Int) then (if 0≤(wrap64 (t103 + 1)) then (if (wrap64 (t103 + 1))≤(a0.size:Int) then (some (a0.extract 0 ((mx t103 0):Int).toNat,a0.extract ((wrap64 (t103 + 1)):Int).toNat a0.size)) else (none)) else (none)) else (none)) else (none))
set_option maxHeartbeats 8000000 in
set_option maxRecDepth 100000 in
theorem paths_split.calls (a0:ByteArray) (r1:ByteArray) (r2:ByteArray) (w:World) (h:paths_split.f a0=some (r1,r2)) :
  Calls Tryz.prog 41 #[.string a0] w fun e w'=>e=.returned (.tuple #[.string r1,.string r2])∧Below w.heap.size w w':=by
 have HB:=pz4.mk (Below.refl w.heap.size w)
 have H:((strings_LastIndex.f a0 (⟨#[47]⟩:ByteArray)).bind fun t103=>(if 0≤(mx t103 0) then (if (mx t103 0)≤(a0.size:Int) then (if 0≤(wrap64 (t103 + 1)) then (if (wrap64 (t103 + 1))≤(a0.size:Int) then (some (a0.extract 0 ((mx t103 0):Int).toNat,a0.extract ((wrap64 (t103 + 1)):Int).toNat a0.size)) else (none)) else (none)) else (none)) else (none)))=some (r1,r2):=h
 clear h
 replace H:=Option.bind_eq_some_iff.mp H
 obtain ⟨t103,A20,H⟩:=H
 replace H:(if 0≤(mx t103 0) then (if (mx t103 0)≤(a0.size:Int) then (if 0≤(wrap64 (t103 + 1)) then (if (wrap64 (t103 + 1))≤(a0.size:Int) then (some (a0.extract 0 ((mx t103 0):Int).toNat,a0.extract ((wrap64 (t103 + 1)):Int).toNat a0.size)) else (none)) else (none)) else (none)) else (none))=some (r1,r2):=H
 have A2:=pz4.mk A20
 clear A20
 obtain ⟨ji3,hji3⟩:∃ j_:Int,(mx t103 0)=j_:=⟨_,rfl⟩
 replace H:(if 0≤(ji3) then (if (ji3)≤(a0.size:Int) then (if 0≤(wrap64 (t103 + 1)) then (if (wrap64 (t103 + 1))≤(a0.size:Int) then (some (a0.extract 0 ((ji3):Int).toNat,a0.extract ((wrap64 (t103 + 1)):Int).toNat a0.size)) else (none)) else (none)) else (none)) else (none))=some (r1,r2):=by first|(rw [hji3] at H;exact H)|(simp only [hji3] at H ⊢;exact H)
 (try rw [hji3] at A2)
 (try (have hji3l:0≤ji3:=by (rw [← hji3];unfold mx;(repeat' split) <;> omega)))
 (try (have hji3m:0≤ji3:=by omega))
 have hji3_:(if t103<0 then 0 else t103)=ji3:=hji3
 by_cases c4:0≤(ji3)
 ·rw [if_pos c4] at H
  have c4b0:=eq_true c4
  have c4b1:decide (0≤(ji3))=true:=decide_eq_true c4
  clear c4
  by_cases c5:(ji3)≤(a0.size:Int)
  ·rw [if_pos c5] at H
   have c5b0:=eq_true c5
   have c5b1:decide ((ji3)≤(a0.size:Int))=true:=decide_eq_true c5
   clear c5
   obtain ⟨ji6,hji6⟩:∃ j_:Int,(wrap64 (t103 + 1))=j_:=⟨_,rfl⟩
   replace H:(if 0≤(ji6) then (if (ji6)≤(a0.size:Int) then (some (a0.extract 0 ((ji3):Int).toNat,a0.extract ((ji6):Int).toNat a0.size)) else (none)) else (none))=some (r1,r2):=by first|(rw [hji6] at H;exact H)|(simp only [hji6] at H ⊢;exact H)
   (try rw [hji6] at A2)
   have hji6w:(IntKind.i64.wrap (t103 + 1))=ji6:=(i64_w _).trans hji6
   by_cases c7:0≤(ji6)
   ·rw [if_pos c7] at H
    have c7b0:=eq_true c7
    have c7b1:decide (0≤(ji6))=true:=decide_eq_true c7
    clear c7
    by_cases c8:(ji6)≤(a0.size:Int)
    ·rw [if_pos c8] at H
     have c8b0:=eq_true c8
     have c8b1:decide ((ji6)≤(a0.size:Int))=true:=decide_eq_true c8
     clear c8
     simp only [Option.some.injEq,Prod.mk.injEq] at H
     obtain ⟨rfl,rfl⟩:=H
     go_enter Tryz.func41,Tryz.ntmps41
     go_wp2_with (first|(go_at_call 74;(with_reducible refine (strings_LastIndex.calls a0 (⟨#[47]⟩:ByteArray) t103 _ A2.out).mono ?_);rintro e w' ⟨rfl,⟨nd,rfl⟩⟩;(try first|exact ⟨rfl,_,World.drewN_drewN _ _ _⟩|exact ⟨rfl,_,Eq.trans (World.drewN_drewN _ _ _) (congrArg (World.drewN _) (Nat.add_assoc _ _ _))⟩)))
     repeat (go_quiet (first|(go_at_call 74;(with_reducible refine (strings_LastIndex.calls a0 (⟨#[47]⟩:ByteArray) t103 _ A2.out).mono ?_);rintro e w' ⟨rfl,⟨nd,rfl⟩⟩;(try first|exact ⟨rfl,_,World.drewN_drewN _ _ _⟩|exact ⟨rfl,_,Eq.trans (World.drewN_drewN _ _ _) (congrArg (World.drewN _) (Nat.add_assoc _ _ _))⟩)));try go_wp2_with (first|(go_at_call 74;(with_reducible refine (strings_LastIndex.calls a0 (⟨#[47]⟩:ByteArray) t103 _ A2.out).mono ?_);rintro e w' ⟨rfl,⟨nd,rfl⟩⟩;(try first|exact ⟨rfl,_,World.drewN_drewN _ _ _⟩|exact ⟨rfl,_,Eq.trans (World.drewN_drewN _ _ _) (congrArg (World.drewN _) (Nat.add_assoc _ _ _))⟩))))
     go_ret2
     exact ⟨by first|rfl|(simp [pz6,pz5] <;> rfl)|(simp only [← hji3,← hji6];first|rfl|(simp [pz6,pz5] <;> rfl))|(simp [*,pz6,pz5] <;> rfl),by repeat (first|(with_reducible first|exact HB.out|apply pz3|apply pz1|apply pz2)|exact HB.out)⟩
    ·rw [if_neg c8] at H
     exact absurd H (by simp)
   ·rw [if_neg c7] at H
    exact absurd H (by simp)
  ·rw [if_neg c5] at H
   exact absurd H (by simp)
 ·rw [if_neg c4] at H
  exact absurd H (by simp)
end Go.Proofs.Zq
end
