/- A part of a proof of DiffBothCardSaid of this seat: what its walks and its laws lean on; joined by a program of this repo (wip/pack.py) out of the texts Mrk, Th4, Th5, Mod, Mod2, PaxN, QPathsBelow, QPathsBad, QSlicesIndexFuncStringStringAtPathsBad, QSlicesContainsFuncStringStringAtPathsBad, QPathsLong, QSlicesIndexFuncStringStringAtPathsLong, QSlicesContainsFuncStringStringAtPathsLong, QStringsliteHasPrefix, QStringsHasPrefix, QPathsIs, QPathsSplit, QPathsMark. -/
import Derived.Lib.AtoiAllCases
import Derived.Test.YtjghikkboekonaaGreatDoorKAB
set_option linter.unusedSimpArgs false
set_option linter.unusedVariables false
section
namespace Go.Proofs.Zt
def belowM (p name:Str):Str:=if p=[] then name else p ++ 47 :: name
def markF (p:Str):Option (Int×Str) :=
 if isM p=true then
  if markedM (lastM p)=true then
   if lastM p=opqM then some (2,parM p)
   else if partM ((lastM p).drop 4)=true∧markedM ((lastM p).drop 4)=false then some (1,belowM (parM p) ((lastM p).drop 4)) else none
  else some (0,p)
 else none
def wouldM (op:Int) (p:Str):Str:=if op=1 then belowM (parM p) (markM ++ lastM p) else if op=2 then belowM p opqM else p
def unmarkF (op:Int) (p:Str):Option Str:=if markF (wouldM op p)=some (op,p) then some (wouldM op p) else none
def tarM (op:Int) (p:Str):Str:=(unmarkF op p).getD []
theorem markF_is {s:Str} {op:Int} {p:Str} (h:markF s=some (op,p)):isM s=true:=by
 unfold markF at h
 split at h
 ·assumption
 ·cases h
theorem unmarkF_some {op:Int} {p s:Str} (h:unmarkF op p=some s):s=wouldM op p∧markF s=some (op,p)∧isM s=true:=by
 unfold unmarkF at h
 split at h
 ·rename_i e
  cases h
  exact ⟨rfl,e,markF_is e⟩
 ·cases h
theorem tarM_some {op:Int} {p:Str} (h:tarM op p≠[]):unmarkF op p=some (tarM op p):=by
 unfold tarM at *
 cases e:unmarkF op p with
 | none=>rw [e] at h;exact absurd rfl h
 | some s=>rfl
theorem tarM_of {op:Int} {p s:Str} (h:unmarkF op p=some s):tarM op p=s:=by unfold tarM;rw [h];rfl
theorem markF_op {s:Str} {op:Int} {p:Str} (h:markF s=some (op,p)):op=0∨op=1∨op=2:=by
 unfold markF at h
 repeat' split at h
 all_goals first|cases h|skip
 all_goals simp
theorem mark_put {s p:Str} (h:markF s=some (0,p)):s=p∧isM p=true∧markedM (lastM p)=false:=by
 unfold markF at h
 split at h
 ·rename_i h1
  split at h
  ·repeat' split at h
   all_goals first|cases h|skip
  ·rename_i h2
   simp only [Option.some.injEq,Prod.mk.injEq,true_and] at h
   subst h
   exact ⟨rfl,h1,by simpa using h2⟩
 ·cases h
theorem drop_slash {x:Str} (h:(47:UInt8) ∉ x) (n:Nat):(47:UInt8) ∉ x.drop n:=fun hm=>h (List.mem_of_mem_drop hm)
theorem cut_below {s x:Str} (hx:(47:UInt8) ∉ x) (hs:∀ y ∈ cutM s,partM y=true):cutM (belowM (parM s) x)=(cutM s).dropLast ++ [x]:=by
 unfold belowM
 rcases split_cases s with ⟨hd,_,hp⟩|⟨hd,e⟩
 ·rw [hp,if_pos rfl,hd,cut_one hx];rfl
 ·have hc:=cut_par hd
  have hne:parM s≠[]:=by
   intro e0
   rw [e0] at hc
   have hm:([]:Str) ∈ (cutM s).dropLast:=by rw [← hc];simp [cutM]
   exact part_ne (hs _ (List.dropLast_subset _ hm)) rfl
  rw [if_neg hne]
  have:joinM ((cutM s).dropLast ++ [x])=parM s ++ 47 :: x:=join_snoc hd x
  rw [← this,cut_join (by simp)]
  intro y hy
  rcases List.mem_append.1 hy with h|h
  ·exact cutM_slash (List.dropLast_subset _ h)
  ·simp at h;rw [h];exact hx
theorem last_of_cut {s:Str} {l:List Str} {x:Str} (h:cutM s=l ++ [x]):lastM s=x∧(cutM s).dropLast=l:=by
 unfold lastM
 constructor
 ·simp [h]
 ·rw [h];simp
theorem below_len (p x:Str):(belowM p x).length≤p.length + 1 + x.length:=by
 unfold belowM
 split <;> simp <;> omega
theorem mark_white {s p:Str} (h:markF s=some (1,p)):isM p=true∧markedM (lastM p)=false:=by
 unfold markF at h
 split at h
 ·rename_i h1
  split at h
  ·rename_i h2
   split at h
   ·cases h
   ·split at h
    ·rename_i h3
     obtain ⟨h3,h4⟩:=h3
     simp only [Option.some.injEq,Prod.mk.injEq,true_and] at h
     subst h
     obtain ⟨a,b,c,d⟩:=isM_iff.1 h1
     have hx:=drop_slash (lastM_slash s) 4
     have hc:=cut_below hx a
     obtain ⟨e1,e2⟩:=last_of_cut hc
     have hml:=marked_len h2
     have hdl:((lastM s).drop 4).length + 4=(lastM s).length:=by rw [List.length_drop];omega
     rw [if_pos h2] at c d
     refine ⟨isM_iff.2 ⟨fun y hy=>?_,fun y hy=>?_,?_,?_⟩,?_⟩
     ·rw [hc] at hy
      rcases List.mem_append.1 hy with h|h
      ·exact a y (List.dropLast_subset _ h)
      ·simp at h;rw [h];exact h3
     ·rw [e2] at hy;exact b y hy
     ·rw [e1,h4];simp;omega
     ·rw [e1,h4]
      simp only [Bool.false_eq_true,if_false]
      rcases split_cases s with ⟨hd,e,hp⟩|⟨hd,e⟩
      ·have:=below_len (parM s) ((lastM s).drop 4)
       rw [hp] at this ⊢
       unfold belowM
       rw [if_pos rfl]
       omega
      ·have:=below_len (parM s) ((lastM s).drop 4)
       have:=par_length hd
       omega
     ·rw [e1];exact h4
    ·cases h
  ·cases h
 ·cases h
theorem mark_opaque {s p:Str} (h:markF s=some (2,p)):p=parM s∧lastM s=opqM:=by
 unfold markF at h
 split at h
 ·split at h
  ·split at h
   ·rename_i h3
    simp only [Option.some.injEq,Prod.mk.injEq,true_and] at h
    exact ⟨h.symm,h3⟩
   ·split at h <;> simp at h
  ·simp at h
 ·cases h
variable {ν:Type}
structure RightC (l:List (Ch Str ν)):Prop where
 tar:∀ c ∈ l,tarM c.op c.path≠[]
 s:l.Pairwise fun a b=>cmpM (tarM a.op a.path) (tarM b.op b.path)<0
theorem right_layR {l:List (Ch Str ν)} (h:RightC l):LayR PS (fun c=>tarM c.op c.path) l where
 op c hc:=markF_op (unmarkF_some (tarM_some (h.tar c hc))).2.1
 put c hc h0:=by
  obtain ⟨_,h1,_⟩:=unmarkF_some (tarM_some (h.tar c hc))
  rw [h0] at h1
  have:=mark_put h1
  refine ⟨this.2.1,?_⟩
  show tarM c.op c.path=c.path
  rw [h0];exact this.1
 white c hc h0:=by
  obtain ⟨_,h1,_⟩:=unmarkF_some (tarM_some (h.tar c hc))
  rw [h0] at h1
  exact (mark_white h1).1
 opaq c hc h0:=by
  obtain ⟨_,h1,h2⟩:=unmarkF_some (tarM_some (h.tar c hc))
  have e:=(mark_opaque (s:=tarM c.op c.path) (p:=c.path) (h1.trans (by rw [h0]))).1
  rcases is_par h2 with h|h
  ·exact .inl (e.trans h)
  ·exact .inr (by rw [e];exact h)
 v c hc:=(unmarkF_some (tarM_some (h.tar c hc))).2.2
 s:=h.s
theorem tar_inj {a b:Ch Str ν} (ha:tarM a.op a.path≠[]) (h:tarM a.op a.path=tarM b.op b.path):a.op=b.op∧a.path=b.path:=by
 have h1:=(unmarkF_some (tarM_some ha)).2.1
 have h2:=(unmarkF_some (tarM_some (h ▸ ha))).2.1
 rw [← h,h1] at h2
 simp only [Option.some.injEq,Prod.mk.injEq] at h2
 exact h2
end Go.Proofs.Zt
end
section
namespace Go.Proofs.Zt
variable {π ν:Type} [DecidableEq π] {P:Paths π} {dir:ν→Bool}
theorem tkL_iff {l:List (Ch π ν)} {q:π}:tkL P l q=true↔∃ c ∈ l,(c.op=1∧(q=c.path∨P.under c.path q=true))∨(c.op=2∧P.under c.path q=true):=by
 unfold tkL Takes
 simp [List.any_eq_true]
theorem layOf_tk {key:Ch π ν→π} {l:List (Ch π ν)} (h:LayR P key l) {q:π}:(layOf h).tk q=true↔∃ c ∈ l,(c.op=1∧(q=c.path∨P.under c.path q=true))∨(c.op=2∧P.under c.path q=true):=tkL_iff
structure DiffR (P:Paths π) (dir:ν→Bool) (a b:π→Option ν) (l:List (Ch π ν)):Prop where
 op:∀ c ∈ l,c.op=0∨c.op=1
 put:∀ c,c.op=0→(c ∈ l↔b c.path=some c.node∧a c.path≠some c.node)
 white:∀ p,(∃ c ∈ l,c.op=1∧c.path=p)↔a p≠none∧b p=none∧Fold P dir b (P.par p)
structure TwoR (P:Paths π) (dir:ν→Bool) (a b t:List (Ch π ν)) (lets:π→Prop):Prop where
 hB:∀ c ∈ b,c ∈ t
 hA:∀ c ∈ a,(c.op≠0∨lets c.path)→c ∈ t
 hW:∀ c ∈ a,∀ d ∈ b,c.op=0→d.op=0→c.path=d.path→dir c.node=false→dir d.node=true→∃ e ∈ t,e.op=1∧e.path=c.path
 only:∀ c ∈ t,c ∈ b∨(c ∈ a∧(c.op≠0∨lets c.path))∨(c.op=1∧∃ x ∈ a,∃ d ∈ b,x.op=0∧d.op=0∧x.path=c.path∧d.path=c.path∧dir x.node=false∧dir d.node=true)
theorem TwoR.two {key:Ch π ν→π} {a b t:List (Ch π ν)} (ha:LayR P key a) (hb:LayR P key b) (ht:LayR P key t) (h:TwoR P dir a b t (Lets dir (layOf hb))):Two dir (layOf ha) (layOf hb) (layOf ht) where
 putB p n hp:=by
  obtain ⟨c,hc,h1⟩:=(layOf_put hb).1 hp
  exact (layOf_put ht).2 ⟨c,h.hB c hc,h1⟩
 putA p n hp hl:=by
  obtain ⟨c,hc,h0,rfl,rfl⟩:=(layOf_put ha).1 hp
  exact (layOf_put ht).2 ⟨c,h.hA c hc (.inr hl),h0,rfl,rfl⟩
 put p n hp:=by
  obtain ⟨c,hc,h0,rfl,rfl⟩:=(layOf_put ht).1 hp
  rcases h.only c hc with h1|⟨h1,h2⟩|⟨h1,_⟩
  ·exact .inl ((layOf_put hb).2 ⟨c,h1,h0,rfl,rfl⟩)
  ·exact .inr ⟨(layOf_put ha).2 ⟨c,h1,h0,rfl,rfl⟩,h2.resolve_left (fun e=>e h0)⟩
  ·rw [h0] at h1;cases h1
 tk q _:=by
  rw [layOf_tk,layOf_tk,layOf_tk]
  constructor
  ·rintro ⟨c,hc,h1⟩
   rcases h.only c hc with h2|⟨h2,_⟩|⟨h2,x,hx,d,hd,x0,d0,xp,dp,xn,dn⟩
   ·exact .inr (.inl ⟨c,h2,h1⟩)
   ·exact .inl ⟨c,h2,h1⟩
   ·rcases h1 with ⟨_,h1⟩|⟨h1,_⟩
    ·exact .inr (.inr ⟨c.path,x.node,d.node,(layOf_put ha).2 ⟨x,hx,x0,xp,rfl⟩,xn,(layOf_put hb).2 ⟨d,hd,d0,dp,rfl⟩,dn,h1⟩)
    ·rw [h2] at h1;cases h1
  ·rintro (⟨c,hc,h1⟩|⟨c,hc,h1⟩|⟨p,n,m,h1,h2,h3,h4,h5⟩)
   ·exact ⟨c,h.hA c hc (.inl (by rintro e;rcases h1 with ⟨h1,_⟩|⟨h1,_⟩ <;> rw [e] at h1 <;> cases h1)),h1⟩
   ·exact ⟨c,h.hB c hc,h1⟩
   ·obtain ⟨x,hx,x0,rfl,rfl⟩:=(layOf_put ha).1 h1
    obtain ⟨d,hd,d0,dp,rfl⟩:=(layOf_put hb).1 h3
    obtain ⟨e,he,e1,e2⟩:=h.hW x hx d hd x0 d0 dp.symm h2 h4
    exact ⟨e,he,.inl ⟨e1,by rw [e2];exact h5⟩⟩
end Go.Proofs.Zt
end
section
namespace Go.Proofs.Zt
variable {π ν:Type} [DecidableEq π] {P:Paths π} {dir:ν→Bool}
inductive InAll (P:Paths π) (gs:List (π→Option ν)):π→ν→Prop
 | top {p:π} {n:ν} (h:∀ g ∈ gs,g p=some n) (hp:P.par p=P.root):InAll P gs p n
 | sub {p:π} {n m:ν} (h:∀ g ∈ gs,g p=some n) (hu:InAll P gs (P.par p) m):InAll P gs p n
omit [DecidableEq π] in
theorem InAll.all {gs:List (π→Option ν)} {p:π} {n:ν} (h:InAll P gs p n):∀ g ∈ gs,g p=some n:=by cases h <;> assumption
omit [DecidableEq π] in
theorem InAll.up {gs:List (π→Option ν)} {p:π} {n:ν} (h:InAll P gs p n):P.par p=P.root∨∃ m,InAll P gs (P.par p) m:=by
 cases h with
 | top _ h=>exact .inl h
 | sub _ h=>exact .inr ⟨_,h⟩
omit [DecidableEq π] in
theorem InAll.mk {gs:List (π→Option ν)} {p:π} {n:ν} (h:∀ g ∈ gs,g p=some n) (h2:P.par p=P.root∨∃ m,InAll P gs (P.par p) m):InAll P gs p n:=by
 rcases h2 with h2|⟨m,h2⟩
 ·exact .top h h2
 ·exact .sub h h2
omit [DecidableEq π] in
theorem InAll.perm {gs hs:List (π→Option ν)} (e:∀ g,g ∈ gs↔g ∈ hs) {p:π} {n:ν} (h:InAll P gs p n):InAll P hs p n:=by
 induction h with
 | top h hp=>exact .top (fun g hg=>h g ((e g).2 hg)) hp
 | sub h _ ih=>exact .sub (fun g hg=>h g ((e g).2 hg)) ih
def bothL (P:Paths π) (all:π×ν→Bool):List (π×ν)→List (π×ν)→List (π×ν)
 | out,[]=>out
 | out,e :: r=>bothL P all (if all e && (decide (P.par e.1=P.root) || (getL out (P.par e.1)).isSome) then out ++ [e] else out) r
theorem bothL_spec {gs:List (π→Option ν)} {all:π×ν→Bool} (hall:∀ e,all e=true↔∀ g ∈ gs,g e.1=some e.2) {t:List (π×ν)} (ht:Srt P t) (hg:getL t ∈ gs) :
  Srt P (bothL P all [] t)∧∀ p n,(p,n) ∈ bothL P all [] t↔InAll P gs p n:=by
 suffices H:∀ (r a out:List (π×ν)),t=a ++ r→Srt P out→(∀ x ∈ out,x ∈ a)→(∀ p n,(p,n) ∈ a→((p,n) ∈ out↔InAll P gs p n)) →
   Srt P (bothL P all out r)∧(∀ x ∈ bothL P all out r,x ∈ t)∧∀ p n,(p,n) ∈ t→((p,n) ∈ bothL P all out r↔InAll P gs p n) by
  obtain ⟨h1,h2,h3⟩:=H t [] [] rfl Srt.nil (by simp) (by simp)
  refine ⟨h1,fun p n=>⟨fun h=>(h3 p n (h2 _ h)).1 h,fun h=>(h3 p n ?_).2 h⟩⟩
  exact getL_mem (h.all _ hg)
 intro r
 induction r with
 | nil =>
  intro a out he ho hin hiff
  rw [List.append_nil] at he
  subst he
  exact ⟨ho,hin,hiff⟩
 | cons e r ih =>
  intro a out he ho hin hiff
  obtain ⟨p,n⟩:=e
  have hts:(p,n) ∈ t:=by rw [he];simp
  have hpv:=ht.v _ hts
  have hlt:∀ y ∈ a,P.lt y.1 p:=fun y hy=>by
   have:=ht.s
   rw [he] at this
   exact (List.pairwise_append.1 this).2.2 y hy (p,n) List.mem_cons_self
  have htest:(all (p,n) && (decide (P.par p=P.root) || (getL out (P.par p)).isSome))=true↔InAll P gs p n:=by
   rw [Bool.and_eq_true,hall]
   simp only [Bool.or_eq_true,decide_eq_true_eq]
   constructor
   ·rintro ⟨h1,h2⟩
    refine InAll.mk h1 (h2.imp_right fun h=>?_)
    obtain ⟨m,hm⟩:=Option.isSome_iff_exists.1 h
    have hm':=getL_mem hm
    exact ⟨m,(hiff _ _ (hin _ hm')).1 hm'⟩
   ·intro h
    refine ⟨h.all,h.up.imp_right fun ⟨m,hm⟩=>?_⟩
    by_cases hr:P.par p=P.root
    ·exfalso
     have:=ht.v _ (getL_mem (hm.all _ hg))
     rw [hr] at this
     exact P.V_root this
    ·have hpar:=getL_mem (hm.all _ hg)
     have hvp:=ht.v _ hpar
     have hlt2:=P.par_lt hpv hr
     have hpa:(P.par p,m) ∈ a:=by
      rw [he] at hpar
      rcases List.mem_append.1 hpar with h|h
      ·exact h
      ·exfalso
       rcases List.mem_cons.1 h with h|h
       ·simp only [Prod.mk.injEq] at h;rw [h.1] at hlt2;exact P.lt_irrefl _ hpv hlt2
       ·have hs:=ht.s
        rw [he] at hs
        have:=(List.pairwise_cons.1 (List.pairwise_append.1 hs).2.1).1 _ h
        exact P.lt_irrefl _ hpv (P.lt_trans _ _ _ hpv hvp hpv this hlt2)
     rw [ho.get ((hiff _ _ hpa).2 hm)]
     rfl
  unfold bothL
  have hres:=ih (a ++ [(p,n)]) (if (all (p,n) && (decide (P.par p=P.root) || (getL out (P.par p)).isSome))=true then out ++ [(p,n)] else out) (by rw [he];simp)
   (by
    split
    ·exact ⟨fun y hy=>by rcases List.mem_append.1 hy with h|h;exact ho.v y h;simp at h;rw [h];exact hpv,
      List.pairwise_append.2 ⟨ho.s,List.pairwise_singleton _ _,fun y hy z hz=>by simp at hz;rw [hz];exact hlt y (hin y hy)⟩⟩
    ·exact ho)
   (by
    intro x hx
    split at hx
    ·rcases List.mem_append.1 hx with h|h
     ·exact List.mem_append_left _ (hin x h)
     ·exact List.mem_append_right _ h
    ·exact List.mem_append_left _ (hin x hx))
   (by
    intro q m hq
    have hne:(q,m) ∈ a→(q,m)≠(p,n):=fun h e=>by
     have:=hlt _ h
     rw [e] at this
     exact P.lt_irrefl _ hpv this
    split
    ·rename_i hc
     rcases List.mem_append.1 hq with h|h
     ·rw [← hiff q m h]
      constructor
      ·intro h'
       rcases List.mem_append.1 h' with h'|h'
       ·exact h'
       ·simp only [List.mem_singleton] at h';exact absurd h' (hne h)
      ·exact List.mem_append_left _
     ·simp only [List.mem_singleton,Prod.mk.injEq] at h
      obtain ⟨rfl,rfl⟩:=h
      exact ⟨fun _=>htest.1 hc,fun _=>by simp⟩
    ·rename_i hc
     rcases List.mem_append.1 hq with h|h
     ·exact hiff q m h
     ·simp only [List.mem_singleton,Prod.mk.injEq] at h
      obtain ⟨rfl,rfl⟩:=h
      exact ⟨fun h'=>absurd (hlt _ (hin _ h')) (P.lt_irrefl _ hpv),fun h'=>absurd (htest.2 h') hc⟩)
  exact hres
omit [DecidableEq π] in
theorem inAll_WF {gs:List (π→Option ν)} {h:π→Option ν} (hh:∀ p n,h p=some n↔InAll P gs p n) {g:π→Option ν} (hg:g ∈ gs) (hw:WF P dir g):WF P dir h:=by
 intro q n hq
 have hq':=(hh q n).1 hq
 have hgq:=hq'.all g hg
 obtain ⟨hv,hf⟩:=hw q n hgq
 refine ⟨hv,?_⟩
 rcases hq'.up with hr|⟨m,hm⟩
 ·exact .inl hr
 ·refine .inr ⟨m,(hh _ _).2 hm,?_⟩
  rcases hf with hr|⟨k,hk,hd⟩
  ·exfalso
   have:=(hw _ _ (hm.all g hg)).1
   rw [hr] at this
   exact P.V_root this
  ·rw [hm.all g hg] at hk;cases hk;exact hd
end Go.Proofs.Zt
end
section
namespace Go.Proofs.Zt
structure Sys (ν:Type) where
 dir:ν→Bool
 rt:Str→ν→Int
 zero:ν
 rt_zero:∀ s,isM s=true→rt s zero=0
variable {ν:Type} [DecidableEq ν] (Y:Sys ν)
abbrev Row (ν:Type):=List (Str×ν)
abbrev Lyr (ν:Type):=List (Ch Str ν)
def lessM (a b:Str):Bool:=decide (cmpM a b<0)
def chain {α:Type} (r:α→α→Bool):List α→Bool
 | []=>true
 | [_]=>true
 | a :: b :: l=>r a b && chain r (b :: l)
theorem chain_iff {α:Type} {r:α→α→Bool} (ht:∀ a b c,r a b=true→r b c=true→r a c=true) {l:List α}:chain r l=true↔l.Pairwise fun a b=>r a b=true:=by
 induction l with
 | nil=>simp [chain]
 | cons a l ih =>
  cases l with
  | nil=>simp [chain]
  | cons b l =>
   unfold chain
   rw [Bool.and_eq_true,ih,List.pairwise_cons (a:=a)]
   constructor
   ·rintro ⟨h1,h2⟩
    refine ⟨fun c hc=>?_,h2⟩
    rcases List.mem_cons.1 hc with rfl|hc
    ·exact h1
    ·exact ht _ _ _ h1 ((List.pairwise_cons.1 h2).1 c hc)
   ·rintro ⟨h1,h2⟩
    exact ⟨h1 b List.mem_cons_self,h2⟩
def plainM (e:Str×ν):Bool:=decide (markF e.1=some (0,e.1)) && decide (Y.rt e.1 e.2=0)
def rightT (t:Row ν):Bool:=t.all (plainM Y) && chain (fun a b=>lessM a.1 b.1) t && t.all (fun e=>folderL PS Y.dir t (parM e.1)) && decide (t.length≤5000)
structure RightT (t:Row ν):Prop where
 plain:∀ e ∈ t,markF e.1=some (0,e.1)∧Y.rt e.1 e.2=0
 srt:Srt PS t
 wf:WF PS Y.dir (getL t)
 len:t.length≤5000
omit [DecidableEq ν] in
theorem rightT_iff {t:Row ν}:rightT Y t=true↔RightT Y t:=by
 unfold rightT
 simp only [Bool.and_eq_true,List.all_eq_true,decide_eq_true_eq,plainM]
 rw [chain_iff (fun a b c h1 h2=>by unfold lessM at *;rw [decide_eq_true_iff] at *;exact cmpM_trans h1 h2)]
 constructor
 ·rintro ⟨⟨⟨h1,h2⟩,h3⟩,h4⟩
  have hv:∀ x ∈ t,PS.V x.1:=fun x hx=>(mark_put (h1 x hx).1).2.1
  have hs:Srt PS t:=⟨hv,h2.imp fun {a b} h=>by unfold lessM at h;exact of_decide_eq_true (p:=cmpM a.1 b.1<0) h⟩
  exact ⟨h1,hs,fun q n hq=>⟨hv _ (getL_mem hq),(folderL_iff t _).1 (h3 _ (getL_mem hq))⟩,h4⟩
 ·rintro ⟨h1,h2,h3,h4⟩
  have hc:t.Pairwise fun a b=>lessM a.1 b.1=true:=h2.s.imp fun {a b} h=>by
   unfold lessM
   exact decide_eq_true (p:=cmpM a.1 b.1<0) h
  exact ⟨⟨⟨h1,hc⟩,fun e he=>(folderL_iff t _).2 (h3 _ _ (h2.get (n:=e.2) he)).2⟩,h4⟩
def rightC (l:Lyr ν):Bool:=l.all (fun c=>!(tarM c.op c.path).isEmpty && decide (Y.rt (tarM c.op c.path) c.node=0) && (decide (c.op=0) || decide (c.node=Y.zero))) && chain (fun a b=>lessM (tarM a.op a.path) (tarM b.op b.path)) l
structure RightL (l:Lyr ν):Prop where
 c:RightC l
 rt:∀ c ∈ l,Y.rt (tarM c.op c.path) c.node=0
 zero:∀ c ∈ l,c.op≠0→c.node=Y.zero
abbrev keyM (c:Ch Str ν):Str:=tarM c.op c.path
omit [DecidableEq ν] in
theorem RightL.layR {l:Lyr ν} (h:RightL Y l):LayR PS keyM l:=right_layR h.c
omit [DecidableEq ν] in
theorem RightL.plain {l:Lyr ν} (h:RightL Y l) {c:Ch Str ν} (hc:c ∈ l) (h0:c.op=0):markF c.path=some (0,c.path)∧Y.rt c.path c.node=0:=by
 have h1:=unmarkF_some (tarM_some (h.c.tar c hc))
 have h2:tarM c.op c.path=c.path:=((h.layR).put c hc h0).2
 rw [h2,h0] at h1
 exact ⟨h1.2.1,by have:=h.rt c hc;rwa [h2] at this⟩
omit [DecidableEq ν] in
theorem RightL.inj {l:Lyr ν} (h:RightL Y l) {a b:Ch Str ν} (ha:a ∈ l) (e:keyM a=keyM b) (hb:b.op≠0→b.node=Y.zero) (hn:a.op=0→a.node=b.node):a=b:=by
 obtain ⟨h1,h2⟩:=tar_inj (h.c.tar a ha) e
 obtain ⟨p,o,n⟩:=a
 obtain ⟨p',o',n'⟩:=b
 dsimp only at h1 h2
 subst h1;subst h2
 by_cases h0:o=0
 ·simpa using hn h0
 ·have:=h.zero _ ha h0
  have h3:=hb h0
  dsimp only at this h3
  rw [this,h3]
def applyM (t:Row ν) (l:Lyr ν):Row ν×Int :=
 if rightT Y t && rightC Y l then
  match applyL PS Y.dir lessM t l with
  | none=>([],10)
  | some t'=>if t'.length≤5000 then (t',0) else ([],2)
 else ([],1)
variable {Y}
omit [DecidableEq ν] in
theorem RightT.get {t:Row ν} (h:RightT Y t) {p:Str} {n:ν} (hp:getL t p=some n):markF p=some (0,p)∧Y.rt p n=0:=h.plain _ (getL_mem hp)
end Go.Proofs.Zt
end
section
namespace Go.Proofs.Zt
variable {ν:Type} [DecidableEq ν] {Y:Sys ν}
theorem part_mark {x:Str} (h:partM x=true):partM (markM ++ x)=true:=by
 unfold partM at *
 simp only [Bool.and_eq_true,Bool.not_eq_true'] at *
 obtain ⟨⟨⟨_,_⟩,_⟩,h4⟩:=h
 refine ⟨⟨⟨by simp [markM],by simp [markM]⟩,by simp [markM]⟩,?_⟩
 simp only [markM,List.contains_eq_mem,List.mem_append,decide_eq_false_iff_not] at *
 rintro (h|h)
 ·exact absurd h (by decide)
 ·exact h4 h
theorem mark_of_white {p:Str} (h:markF p=some (0,p)):tarM 1 p=belowM (parM p) (markM ++ lastM p)∧markF (tarM 1 p)=some (1,p):=by
 obtain ⟨_,h1,h2⟩:=mark_put h
 obtain ⟨a,b,c,d⟩:=isM_iff.1 h1
 have hx:(47:UInt8) ∉ markM ++ lastM p:=by
  intro hm
  rcases List.mem_append.1 hm with h|h
  ·exact absurd h (by decide)
  ·exact lastM_slash p h
 have hcut:=cut_below hx a
 obtain ⟨e1,e2⟩:=last_of_cut hcut
 have hmk:markedM (lastM (belowM (parM p) (markM ++ lastM p)))=true:=by
  rw [e1];unfold markedM;rw [List.isPrefixOf_iff_prefix];exact ⟨_,rfl⟩
 rw [h2] at c d
 simp only [Bool.false_eq_true,if_false] at c d
 have hlen:(belowM (parM p) (markM ++ lastM p)).length=p.length + 4:=by
  rcases split_cases p with ⟨hd,e,hp⟩|⟨hd,e⟩
  ·have:p.length=(lastM p).length:=congrArg List.length e
   rw [hp];unfold belowM;rw [if_pos rfl];simp [markM,this]
  ·have:=par_length hd
   have hne:parM p≠[]:=by
    intro e0
    have hc:=cut_par hd
    rw [e0] at hc
    have hm:([]:Str) ∈ (cutM p).dropLast:=by rw [← hc];simp [cutM]
    exact part_ne (a _ (List.dropLast_subset _ hm)) rfl
   unfold belowM;rw [if_neg hne];simp [markM];omega
 have his:isM (belowM (parM p) (markM ++ lastM p))=true:=by
  refine isM_iff.2 ⟨fun y hy=>?_,fun y hy=>?_,?_,?_⟩
  ·rw [hcut] at hy
   rcases List.mem_append.1 hy with h|h
   ·exact a y (List.dropLast_subset _ h)
   ·simp only [List.mem_singleton] at h;rw [h];exact part_mark (a _ (lastM_mem p))
  ·rw [e2] at hy;exact b y hy
  ·rw [hmk,e1];simp [markM];omega
  ·rw [hmk,hlen];simp;omega
 have hback:belowM (parM p) (lastM p)=p:=by
  rcases split_cases p with ⟨hd,e,hp⟩|⟨hd,e⟩
  ·rw [hp];unfold belowM;rw [if_pos rfl];exact e.symm
  ·have hne:parM p≠[]:=by
    intro e0
    have hc:=cut_par hd
    rw [e0] at hc
    have hm:([]:Str) ∈ (cutM p).dropLast:=by rw [← hc];simp [cutM]
    exact part_ne (a _ (List.dropLast_subset _ hm)) rfl
   unfold belowM;rw [if_neg hne];exact e.symm
 have hpar:parM (belowM (parM p) (markM ++ lastM p))=parM p:=by
  unfold parM at e2 ⊢
  rw [e2]
 have hdrop:(markM ++ lastM p).drop 4=lastM p:=by simp [markM]
 have hmf:markF (belowM (parM p) (markM ++ lastM p))=some (1,p):=by
  unfold markF
  rw [if_pos his,if_pos hmk,e1,if_neg,hdrop,if_pos ⟨a _ (lastM_mem p),h2⟩,hpar,hback]
  intro e
  have:=congrArg (List.drop 4) e
  rw [hdrop] at this
  rw [this] at h2
  exact absurd h2 (by decide)
 have hw:wouldM 1 p=belowM (parM p) (markM ++ lastM p):=by unfold wouldM;rw [if_pos rfl]
 have hu:unmarkF 1 p=some (belowM (parM p) (markM ++ lastM p)):=by unfold unmarkF;rw [hw,if_pos hmf]
 exact ⟨tarM_of hu,by rw [tarM_of hu];exact hmf⟩
theorem would_put (p:Str):wouldM 0 p=p:=by unfold wouldM;rw [if_neg (by decide),if_neg (by decide)]
theorem tar_put {p:Str} (h:markF p=some (0,p)):tarM 0 p=p:=tarM_of (by unfold unmarkF;rw [would_put,if_pos h])
theorem tar_white_ne {p:Str} (h:markF p=some (0,p)):tarM 1 p≠[]:=is_ne (markF_is (mark_of_white h).2)
def lessC (a b:Ch Str ν):Bool:=lessM (keyM a) (keyM b)
omit [DecidableEq ν] in
theorem lessC_ord:Ord (fun _:Ch Str ν=>True) fun a b=>lessC a b=true where
 irrefl a _ h:=by unfold lessC lessM at h;rw [decide_eq_true_iff,cmpM_refl] at h;exact absurd h (by decide)
 trans a b c _ _ _ h1 h2:=by unfold lessC lessM at *;rw [decide_eq_true_iff] at *;exact cmpM_trans h1 h2
omit [DecidableEq ν] in
theorem lessC_total {a b:Ch Str ν} (h:keyM a≠keyM b):lessC a b=true∨lessC b a=true:=by
 unfold lessC lessM
 simp only [decide_eq_true_iff]
 have:=cmpM_anti (keyM a) (keyM b)
 by_cases h1:cmpM (keyM a) (keyM b)<0
 ·exact .inl h1
 ·by_cases h2:cmpM (keyM b) (keyM a)<0
  ·exact .inr h2
  ·exact absurd (cmpM_eq (by omega)) h
def sortL (less:Ch Str ν→Ch Str ν→Bool) (out:Lyr ν) (l:Lyr ν):Lyr ν:=l.foldl (fun o c=>ins less c o) out
omit [DecidableEq ν] in
theorem sortL_perm (less:Ch Str ν→Ch Str ν→Bool) (out l:Lyr ν):(sortL less out l).Perm (out ++ l):=by
 unfold sortL
 induction l generalizing out with
 | nil=>simp
 | cons c r ih =>
  rw [List.foldl_cons]
  refine (ih _).trans ?_
  refine ((ins_perm (less:=less) (c:=c) (l:=out)).append_right r).trans ?_
  rw [List.cons_append]
  exact List.perm_middle.symm
omit [DecidableEq ν] in
theorem sortL_sorted {out l:Lyr ν} (ho:out.Pairwise fun a b=>lessC a b=true) (hd:(out ++ l).Pairwise fun a b=>keyM a≠keyM b):(sortL lessC out l).Pairwise fun a b=>lessC a b=true:=by
 unfold sortL
 induction l generalizing out with
 | nil=>simpa using ho
 | cons c r ih =>
  rw [List.foldl_cons]
  have hp:=List.pairwise_append.1 hd
  have hc:=List.pairwise_cons.1 hp.2.1
  refine ih (ins_sorted lessC_ord trivial (fun _ _=>trivial) (fun x hx=>lessC_total (hp.2.2 x hx c List.mem_cons_self)) ho) ?_
  have hperm:(ins lessC c out ++ r).Perm (out ++ c :: r):=by
   refine ((ins_perm (less:=lessC) (c:=c) (l:=out)).append_right r).trans ?_
   rw [List.cons_append]
   exact List.perm_middle.symm
  exact (hperm.pairwise_iff (fun h e=>h e.symm)).2 hd
omit [DecidableEq ν] in
theorem sortL_unique {l m:Lyr ν} (hd:l.Pairwise fun a b=>keyM a≠keyM b) (hp:l.Perm m) (hs:m.Pairwise fun a b=>¬ lessC b a=true):m=sortL lessC [] l:=by
 have h1:m.Pairwise fun a b=>lessC a b=true:=strict_of_perm hp hs (hd.imp lessC_total)
 have h2:(sortL lessC [] l).Pairwise fun a b=>lessC a b=true:=sortL_sorted List.Pairwise.nil (by simpa using hd)
 refine sorted_ext lessC_ord (fun _ _=>trivial) (fun _ _=>trivial) h1 h2 fun x=>?_
 rw [← hp.mem_iff,(sortL_perm lessC [] l).mem_iff]
 simp
variable (Y) in
def diffC (a b:Row ν):Lyr ν :=
 (a.filter fun e=>(getL b e.1).isNone && folderL PS Y.dir b (parM e.1)).map (fun e=>⟨e.1,1,Y.zero⟩) ++ (b.filter fun e=>decide (getL a e.1≠some e.2)).map (fun e=>⟨e.1,0,e.2⟩)
variable (Y) in
def diffM (a b:Row ν):Lyr ν×Bool:=if rightT Y a && rightT Y b then (sortL lessC [] (diffC Y a b),true) else ([],false)
theorem mem_diffC {a b:Row ν} (c:Ch Str ν):c ∈ diffC Y a b↔(∃ e ∈ a,getL b e.1=none∧folderL PS Y.dir b (parM e.1)=true∧c=⟨e.1,1,Y.zero⟩)∨(∃ e ∈ b,getL a e.1≠some e.2∧c=⟨e.1,0,e.2⟩):=by
 unfold diffC
 rw [List.mem_append,List.mem_map,List.mem_map]
 constructor
 ·rintro (⟨e,he,rfl⟩|⟨e,he,rfl⟩)
  ·obtain ⟨h1,h2⟩:=List.mem_filter.1 he
   simp only [Bool.and_eq_true,Option.isNone_iff_eq_none] at h2
   exact .inl ⟨e,h1,h2.1,h2.2,rfl⟩
  ·obtain ⟨h1,h2⟩:=List.mem_filter.1 he
   exact .inr ⟨e,h1,of_decide_eq_true h2,rfl⟩
 ·rintro (⟨e,h1,h2,h3,rfl⟩|⟨e,h1,h2,rfl⟩)
  ·exact .inl ⟨e,List.mem_filter.2 ⟨h1,by rw [h2,h3];rfl⟩,rfl⟩
  ·exact .inr ⟨e,List.mem_filter.2 ⟨h1,decide_eq_true h2⟩,rfl⟩
omit [DecidableEq ν] in
theorem srt_ne {t:Row ν} (h:Srt PS t):t.Pairwise fun a b=>a.1≠b.1:=by
 have hv:=h.v
 have hs:=h.s
 clear h
 induction t with
 | nil=>exact List.Pairwise.nil
 | cons x r ih =>
  obtain ⟨p1,p2⟩:=List.pairwise_cons.1 hs
  refine List.pairwise_cons.2 ⟨fun y hy e=>?_,ih (fun z hz=>hv z (List.mem_cons_of_mem _ hz)) p2⟩
  have:=p1 y hy
  rw [← e] at this
  exact PS.lt_irrefl _ (hv x List.mem_cons_self) this
theorem diffC_keys {a b:Row ν} (ha:RightT Y a) (hb:RightT Y b):(diffC Y a b).Pairwise fun x y=>keyM x≠keyM y:=by
 unfold diffC
 refine List.pairwise_append.2 ⟨?_,?_,?_⟩
 ·rw [List.pairwise_map]
  refine ((srt_ne ha.srt).filter _).imp_of_mem fun {x y} hx hy hne e=>hne ?_
  have hx':=(ha.plain _ (List.mem_filter.1 hx).1).1
  have hy':=(ha.plain _ (List.mem_filter.1 hy).1).1
  exact (tar_inj (a:=⟨x.1,1,Y.zero⟩) (b:=⟨y.1,1,Y.zero⟩) (tar_white_ne hx') e).2
 ·rw [List.pairwise_map]
  refine ((srt_ne hb.srt).filter _).imp_of_mem fun {x y} hx hy hne e=>hne ?_
  have hx':=(hb.plain _ (List.mem_filter.1 hx).1).1
  have hy':=(hb.plain _ (List.mem_filter.1 hy).1).1
  have e':tarM 0 x.1=tarM 0 y.1:=e
  rwa [tar_put hx',tar_put hy'] at e'
 ·intro x hx y hy e
  obtain ⟨u,hu,rfl⟩:=List.mem_map.1 hx
  obtain ⟨v,hv,rfl⟩:=List.mem_map.1 hy
  have hu':=(ha.plain _ (List.mem_filter.1 hu).1).1
  have:=(tar_inj (a:=⟨u.1,1,Y.zero⟩) (b:=⟨v.1,0,v.2⟩) (tar_white_ne hu') e).1
  exact absurd this (by simp)
variable (Y) in
def allM (ts:List (Row ν)) (e:Str×ν):Bool:=ts.all fun t=>decide (getL t e.1=some e.2)
variable (Y) in
def bothM (ts:List (Row ν)):Row ν :=
 match ts with
 | []=>[]
 | t :: r=>if (t :: r).all (rightT Y) then bothL PS (allM (t :: r)) [] t else []
theorem both_spec {t:Row ν} {r:List (Row ν)} (h:∀ x ∈ t :: r,RightT Y x):RightT Y (bothM Y (t :: r))∧∀ p n,getL (bothM Y (t :: r)) p=some n↔InAll PS ((t :: r).map getL) p n:=by
 have hr:(t :: r).all (rightT Y)=true:=List.all_eq_true.2 fun x hx=>(rightT_iff Y).2 (h x hx)
 have ht:=h t List.mem_cons_self
 have hall:∀ e:Str×ν,allM (t :: r) e=true↔∀ g ∈ (t :: r).map getL,g e.1=some e.2:=by
  intro e
  unfold allM
  simp [List.all_eq_true]
 obtain ⟨h1,h2⟩:=bothL_spec (P:=PS) (gs:=(t :: r).map getL) hall ht.srt (by simp)
 unfold bothM
 simp only [hr,if_true]
 have hiff:∀ p n,getL (bothL PS (allM (t :: r)) [] t) p=some n↔InAll PS ((t :: r).map getL) p n:=fun p n=>by rw [h1.get_iff,h2]
 refine ⟨⟨fun e he=>?_,h1,?_,?_⟩,hiff⟩
 ·have:=((h2 e.1 e.2).1 he).all (getL t) (by simp)
  exact ht.get this
 ·exact inAll_WF hiff (g:=getL t) (by simp) ht.wf
 ·have hsub:∀ (o l:Row ν),(bothL PS (allM (t :: r)) o l).length≤o.length + l.length:=by
   intro o l
   induction l generalizing o with
   | nil=>simp [bothL]
   | cons e l ih =>
    unfold bothL
    refine Nat.le_trans (ih _) ?_
    split <;> simp <;> omega
  have:=hsub [] t
  have:=ht.len
  simp at *
  omega
theorem both_perm {t u:Row ν} {r s:List (Row ν)} (h:∀ x ∈ t :: r,RightT Y x) (e:∀ x,x ∈ t :: r↔x ∈ u :: s):bothM Y (t :: r)=bothM Y (u :: s):=by
 obtain ⟨h1,h2⟩:=both_spec h
 obtain ⟨h3,h4⟩:=both_spec (t:=u) (r:=s) fun x hx=>h x ((e x).2 hx)
 refine h1.srt.ext h3.srt fun p _=>?_
 have hm:∀ g,g ∈ (t :: r).map getL↔g ∈ (u :: s).map getL:=fun g=>by
  simp only [List.mem_map]
  exact ⟨fun ⟨x,hx,hg⟩=>⟨x,(e x).1 hx,hg⟩,fun ⟨x,hx,hg⟩=>⟨x,(e x).2 hx,hg⟩⟩
 cases e1:getL (bothM Y (t :: r)) p with
 | some n=>exact ((h4 p n).2 (((h2 p n).1 e1).perm hm)).symm
 | none =>
  cases e2:getL (bothM Y (u :: s)) p with
  | none=>rfl
  | some n =>
   have:=(h2 p n).2 (((h4 p n).1 e2).perm fun g=>(hm g).symm)
   rw [e1] at this;cases this
theorem both_self {t:Row ν} {r:List (Row ν)} (ht:RightT Y t) (h:∀ x ∈ r,x=t):bothM Y (t :: r)=t:=by
 obtain ⟨h1,h2⟩:=both_spec (t:=t) (r:=r) (Y:=Y) fun x hx=>by
  rcases List.mem_cons.1 hx with rfl|hx
  ·exact ht
  ·rw [h x hx];exact ht
 refine h1.srt.ext ht.srt fun p hp=>?_
 have key:∀ p,PS.V p→∀ n,getL t p=some n→InAll PS ((t :: r).map getL) p n:=by
  refine Paths.ind (P:=PS) (C:=fun p=>∀ n,getL t p=some n→InAll PS ((t :: r).map getL) p n) fun p hp ih n hn=>?_
  have hall:∀ g ∈ (t :: r).map getL,g p=some n:=fun g hg=>by
   obtain ⟨x,hx,rfl⟩:=List.mem_map.1 hg
   rcases List.mem_cons.1 hx with rfl|hx
   ·exact hn
   ·rw [h x hx];exact hn
  by_cases hr:PS.par p=PS.root
  ·exact .top hall hr
  ·obtain ⟨m,hm,_⟩:=((ht.wf p n hn).2).resolve_left hr
   exact .sub hall (ih hr m hm)
 cases e:getL t p with
 | some n=>exact (h2 p n).2 (key p hp n e)
 | none =>
  cases e2:getL (bothM Y (t :: r)) p with
  | none=>rfl
  | some n =>
   have:=((h2 p n).1 e2).all (getL t) (by simp)
   rw [e] at this;cases this
end Go.Proofs.Zt
end
section
namespace Go.Proofs.YtjghikkboekonaaGreatDoor
theorem dec_ne (n:Nat):dec n≠[]:=by
 intro h
 have:=Lib.nDigits_pos n
 rw [← dec_length,h] at this
 simp at this
theorem cut1_found (c:UInt8):∀ s:List UInt8,(cut1 c s).2.2=true→s=(cut1 c s).1 ++ c :: (cut1 c s).2.1∧c ∉ (cut1 c s).1
 | [],h=>by simp [cut1] at h
 | x :: r,h=>by
  by_cases hx:x=c
  ·subst hx;simp [cut1]
  ·have hx':(x == c)=false:=by simpa using hx
   simp only [cut1,hx',Bool.false_eq_true,if_false] at h ⊢
   obtain ⟨h1,h2⟩:=cut1_found c r h
   refine ⟨by rw [List.cons_append,← h1],?_⟩
   intro hm
   rcases List.mem_cons.1 hm with rfl|hm
   ·exact hx rfl
   ·exact h2 hm
theorem suffix_ten {body:List UInt8} (h:Lib.hasSuffix body [10]=true):body=Lib.trimSuffix body [10] ++ [10]:=by
 have h1:[10] <:+ body:=by simpa [Lib.hasSuffix] using h
 obtain ⟨t,ht⟩:=h1
 have e:Lib.trimSuffix body [10]=t:=by
  unfold Lib.trimSuffix
  rw [if_pos h,← ht]
  simp
 rw [e,ht]
theorem contains_false {l:List UInt8} {c:UInt8} (h:c ∉ l):l.contains c=false:=by simpa using h
theorem numM_some {s T:List UInt8} {n:Nat} (h:numM s T=some n):T=dec n∧T.length≤9∧n≤s.length∧T.length + 1<n∧lenM (n - T.length)=n:=by
 unfold numM at h
 split at h
 ·split at h
  ·rename_i v _ hc
   simp only [Option.some.injEq] at h
   obtain ⟨h1,h2,h3,h4,h5⟩:=hc
   obtain ⟨m,rfl⟩:∃ m:Nat,v=m:=⟨v.toNat,by omega⟩
   simp only [Int.toNat_natCast] at h h5
   subst h
   rw [Lib.itoa_nonneg] at h1
   exact ⟨h1.symm,h2,by omega,by omega,h5⟩
  ·cases h
 ·cases h
theorem cut_rec {s:List UInt8} {p:List UInt8×List UInt8} {rest:List UInt8} (h:cutM s=some (p,rest)):keyOk p.1=true∧s=recM p ++ rest:=by
 unfold cutM cutAt at h
 split at h
 ·rename_i his
  obtain ⟨hs,hT⟩:=cut1_found 32 s his
  generalize (cut1 32 s).1=T at h hs hT
  generalize (cut1 32 s).2.1=after at hs
  cases hn:numM s T with
  | none=>simp [hn] at h
  | some n =>
   obtain ⟨rfl,h9,hns,hTn,hlen⟩:=numM_some hn
   simp only [hn,Option.bind_some] at h
   cases hb:bodyM (((s.drop ((dec n).length + 1)).take (n - ((dec n).length + 1)))) with
   | none=>simp [hb] at h
   | some q =>
    simp only [hb,Option.map_some,Option.some.injEq,Prod.mk.injEq] at h
    obtain ⟨rfl,rfl⟩:=h
    unfold bodyM at hb
    split at hb
    ·rename_i hc
     simp only [Option.some.injEq] at hb
     subst hb
     simp only [Bool.and_eq_true,Bool.not_eq_true',beq_eq_false_iff_ne] at hc
     obtain ⟨⟨c1,c2⟩,c3⟩:=hc
     have e1:=suffix_ten c1
     obtain ⟨e2,e3⟩:=cut1_found 61 _ c2
     generalize hbody:(s.drop ((dec n).length + 1)).take (n - ((dec n).length + 1))=body at *
     generalize (cut1 61 (Lib.trimSuffix body [10])).1=key at *
     generalize (cut1 61 (Lib.trimSuffix body [10])).2.1=value at *
     have hk:keyOk key=true:=by
      simp only [keyOk,contains_false e3,Bool.not_false,Bool.and_true]
      simpa using c3
     refine ⟨hk,?_⟩
     have eb:body=key ++ 61 :: value ++ [10]:=by rw [e1,e2]
     have hbl:body.length=n - ((dec n).length + 1):=by
      rw [← hbody,List.length_take,List.length_drop];omega
     have hrest:restM (key,value)=32 :: body:=by rw [eb];simp [restM]
     have hrl:(restM (key,value)).length=n - (dec n).length:=by rw [hrest];simp only [List.length_cons];omega
     have hst:s.take n=dec n ++ 32 :: body:=by
      have hd:s.drop ((dec n).length + 1)=after:=by rw [hs];simp
      rw [← hbody,hd]
      rw [hs]
      rw [List.take_append]
      rw [List.take_of_length_le (by omega)]
      congr 1
      obtain ⟨m,hm⟩:∃ m,n - (dec n).length=m + 1:=⟨n - (dec n).length - 1,by omega⟩
      rw [hm,List.take_succ_cons,show n - ((dec n).length + 1)=m from by omega]
     have:recM (key,value)=s.take n:=by rw [hst,recM,hrl,hlen,hrest]
     rw [this,List.take_append_drop]
    ·cases hb
 ·cases h
theorem restM_length (p:List UInt8×List UInt8):(restM p).length=p.1.length + p.2.length + 3:=by
 simp only [restM,List.length_append,List.length_cons,List.length_nil];omega
end Go.Proofs.YtjghikkboekonaaGreatDoor
end
section
namespace Go.Proofs.Zq
open Go.RowKit Go.Proofs.Zw.PrintWords Go.Proofs.Zw.PrintLast Go.Proofs.Zw.PrintMore
open Go.Proofs.YtjghikkboekonaaGreatDoor (GL)
attribute [local go_sem] max2_int min2_int max_two min_two max_three min_three max_four min_four
def paths_below.f (a0:ByteArray) (a1:ByteArray):Option (ByteArray):=if a0.toList=([]:List UInt8) then (some a1) else (if a0.size + 1≤9223372036854775807 then (if (a0 ++ (⟨#[47]⟩:ByteArray)).size + a1.size≤9223372036854775807 then (some ((a0 ++ (⟨#[47]⟩:ByteArray)) ++ a1)) else (none)) else (none))
set_option maxHeartbeats 8000000 in
set_option maxRecDepth 100000 in
theorem paths_below.calls (a0:ByteArray) (a1:ByteArray) (r:ByteArray) (w:World) (h:paths_below.f a0 a1=some r) :
  Calls Tryz.prog 94 #[.string a0,.string a1] w fun e w'=>e=.returned (.string r)∧Drawn0 w w':=by
 have H:(if a0.toList=([]:List UInt8) then (some a1) else (if a0.size + 1≤9223372036854775807 then (if (a0 ++ (⟨#[47]⟩:ByteArray)).size + a1.size≤9223372036854775807 then (some ((a0 ++ (⟨#[47]⟩:ByteArray)) ++ a1)) else (none)) else (none)))=some r:=h
 clear h
 by_cases c3:a0.toList=([]:List UInt8)
 ·rw [if_pos c3] at H
  have c3b0:(a0.toList == ([]:List UInt8))=true:=beq_iff_eq.mpr c3
  have c3b1:(a0.toList != ([]:List UInt8))=false:=bne_eq_false_iff_eq.mpr c3
  clear c3
  obtain rfl:=Option.some.inj H
  go_enter Tryz.func94,Tryz.ntmps94
  go_wp2
  go_ret
  exact ⟨by first|rfl|(simp;done)|(simp [*];done),by repeat (first|exact Drawn0.refl _|apply Drawn0.step)⟩
 ·rw [if_neg c3] at H
  have c3b0:(a0.toList == ([]:List UInt8))=false:=beq_eq_false_iff_ne.mpr c3
  have c3b1:(a0.toList != ([]:List UInt8))=true:=bne_iff_ne.mpr c3
  by_cases c4:a0.size + 1≤9223372036854775807
  ·rw [if_pos c4] at H
   have c4b0:=eq_true c4
   have c4b1:decide (a0.size + 1≤9223372036854775807)=true:=decide_eq_true c4
   try have c4b2:(9223372036854775807<a0.size + 1)=False:=eq_false (Nat.not_lt.2 c4)
   by_cases c5:(a0 ++ (⟨#[47]⟩:ByteArray)).size + a1.size≤9223372036854775807
   ·rw [if_pos c5] at H
    have c5b0:=eq_true c5
    have c5b1:decide ((a0 ++ (⟨#[47]⟩:ByteArray)).size + a1.size≤9223372036854775807)=true:=decide_eq_true c5
    try have c5b2:(9223372036854775807<(a0 ++ (⟨#[47]⟩:ByteArray)).size + a1.size)=False:=eq_false (Nat.not_lt.2 c5)
    obtain rfl:=Option.some.inj H
    go_enter Tryz.func94,Tryz.ntmps94
    go_wp2
    go_ret
    exact ⟨by first|rfl|(simp;done)|(simp [*];done),by repeat (first|exact Drawn0.refl _|apply Drawn0.step)⟩
   ·rw [if_neg c5] at H
    exact absurd H (by simp)
  ·rw [if_neg c4] at H
   exact absurd H (by simp)
def pq14.f (a0:ByteArray):Option (Bool):=if a0.toList=([]:List UInt8) then (some true) else (if a0.toList=([46]:List UInt8) then (some true) else (if a0.toList=([46,46]:List UInt8) then (some true) else ((strings_IndexByte.f a0 0).bind fun t250=>(some (decide (t250 ≥ 0))))))
set_option maxHeartbeats 8000000 in
set_option maxRecDepth 100000 in
theorem pq14.calls (a0:ByteArray) (r:Bool) (w:World) (h:pq14.f a0=some r) :
  Calls Tryz.prog 101 #[.string a0] w fun e w'=>e=.returned (.bool r)∧Drawn0 w w':=by
 have H:(if a0.toList=([]:List UInt8) then (some true) else (if a0.toList=([46]:List UInt8) then (some true) else (if a0.toList=([46,46]:List UInt8) then (some true) else ((strings_IndexByte.f a0 0).bind fun t250=>(some (decide (t250 ≥ 0)))))))=some r:=h
 clear h
 by_cases c2:a0.toList=([]:List UInt8)
 ·rw [if_pos c2] at H
  have c2b0:(a0.toList == ([]:List UInt8))=true:=beq_iff_eq.mpr c2
  have c2b1:(a0.toList != ([]:List UInt8))=false:=bne_eq_false_iff_eq.mpr c2
  clear c2
  obtain rfl:=Option.some.inj H
  go_enter Tryz.func101,Tryz.ntmps101
  go_wp2
  go_ret
  exact ⟨by first|rfl|(simp;done)|(simp [*];done),by repeat (first|exact Drawn0.refl _|apply Drawn0.step)⟩
 ·rw [if_neg c2] at H
  have c2b0:(a0.toList == ([]:List UInt8))=false:=beq_eq_false_iff_ne.mpr c2
  have c2b1:(a0.toList != ([]:List UInt8))=true:=bne_iff_ne.mpr c2
  by_cases c3:a0.toList=([46]:List UInt8)
  ·rw [if_pos c3] at H
   have c3b0:(a0.toList == ([46]:List UInt8))=true:=beq_iff_eq.mpr c3
   have c3b1:(a0.toList != ([46]:List UInt8))=false:=bne_eq_false_iff_eq.mpr c3
   clear c3
   obtain rfl:=Option.some.inj H
   go_enter Tryz.func101,Tryz.ntmps101
   go_wp2
   go_ret
   exact ⟨by first|rfl|(simp;done)|(simp [*];done),by repeat (first|exact Drawn0.refl _|apply Drawn0.step)⟩
  ·rw [if_neg c3] at H
   have c3b0:(a0.toList == ([46]:List UInt8))=false:=beq_eq_false_iff_ne.mpr c3
   have c3b1:(a0.toList != ([46]:List UInt8))=true:=bne_iff_ne.mpr c3
   by_cases c4:a0.toList=([46,46]:List UInt8)
   ·rw [if_pos c4] at H
    have c4b0:(a0.toList == ([46,46]:List UInt8))=true:=beq_iff_eq.mpr c4
    have c4b1:(a0.toList != ([46,46]:List UInt8))=false:=bne_eq_false_iff_eq.mpr c4
    clear c4
    obtain rfl:=Option.some.inj H
    go_enter Tryz.func101,Tryz.ntmps101
    go_wp2
    go_ret
    exact ⟨by first|rfl|(simp;done)|(simp [*];done),by repeat (first|exact Drawn0.refl _|apply Drawn0.step)⟩
   ·rw [if_neg c4] at H
    have c4b0:(a0.toList == ([46,46]:List UInt8))=false:=beq_eq_false_iff_ne.mpr c4
    have c4b1:(a0.toList != ([46,46]:List UInt8))=true:=bne_iff_ne.mpr c4
    replace H:=Option.bind_eq_some_iff.mp H
    obtain ⟨t250,A50,H⟩:=H
    replace H:(some (decide (t250 ≥ 0)))=some r:=H
    have A5:=pz4.mk A50
    clear A50
    obtain rfl:=Option.some.inj H
    go_enter Tryz.func101,Tryz.ntmps101
    go_wp2_with (first|(go_at_call 137;(with_reducible refine (strings_IndexByte.calls a0 0 t250 _ A5.out).mono ?_);rintro e w' ⟨rfl,⟨nd,rfl⟩⟩))
    go_ret
    exact ⟨by first|rfl|(simp;done)|(simp [*];done),by repeat (first|exact Drawn0.refl _|apply Drawn0.step)⟩
def pq6.l0:Nat→List ByteArray→Int→Int→Option (Int)
 | 0,_,_,_=>none
 | k + 1,x0,x7,x8=>if x8<x7 then (if 0≤x8 then (if x8<(x0.length:Int) then ((pq14.f (rdOf ByteArray.empty x0 x8)).bind fun t252=>(if t252=true then (some x8) else (pq6.l0 k x0 x7 (wrap64 (x8 + 1))))) else (none)) else (none)) else (some (-1))
def pq6.f (k:Nat) (l0:List ByteArray) (a1:Unit):Option (Int):=pq6.l0 k l0 (l0.length:Int) 0
set_option maxHeartbeats 8000000 in
set_option maxRecDepth 100000 in
theorem pq6.calls (k:Nat) (A0:Option Addr) (c0:Nat) (l0:List ByteArray) (a1:Unit) (r:Int) (w:World) (hr0:Kd.C Kd.string w A0 l0.length l0) (hc0:l0.length≤c0) (h:pq6.f k l0 a1=some r) :
  Calls Tryz.prog 178 #[.slice A0 l0.length c0,.func (.func 101) #[] #[]] w fun e w'=>e=.returned (.int .i64 r)∧Drawn0 w w':=by
 have HR0:=pz4.mk hr0
 have HC0:=pz4.mk hc0
 clear hr0 hc0
 have H:(pq6.l0 k l0 (l0.length:Int) 0)=some r:=h
 clear h
 have H':=pz4.mk H
 clear H
 go_enter Tryz.func178,Tryz.ntmps178
 go_wp2
 go_loopg [8] k (fun kq v8 w'=>∃ (x8_1:Int),v8=.int .i64 x8_1∧pz4 (pq6.l0 kq l0 (l0.length:Int) x8_1=some r)∧pz4 (kq≤k)∧Drawn0 w w')
 case atStart=>exact ⟨(0),(by first|rfl|(simp;done)|(simp [*];done)),H',⟨Nat.le_refl _⟩,by repeat (first|exact Drawn0.refl _|apply Drawn0.step)⟩
 case round =>
  clear H'
  try clear c2;try clear p2
  obtain ⟨x8_1,rfl,HA,HK1,⟨m1,rfl⟩⟩:=hrel
  cases gk with
  | zero=>exact absurd HA.out (by simp [pq6.l0])
  | succ k1 =>
   have H:=HA.out
   clear HA
   simp only [pq6.l0] at H
   by_cases c3:x8_1<(l0.length:Int)
   ·rw [if_pos c3] at H
    have c3b0:decide (x8_1<(l0.length:Int))=true:=decide_eq_true c3
    clear c3
    by_cases c4:0≤x8_1
    ·rw [if_pos c4] at H
     have c4b0:decide (0≤x8_1)=true:=decide_eq_true c4
     clear c4
     by_cases c5:x8_1<(l0.length:Int)
     ·rw [if_pos c5] at H
      have c5b0:decide (x8_1<(l0.length:Int))=true:=decide_eq_true c5
      clear c5
      replace H:=Option.bind_eq_some_iff.mp H
      obtain ⟨t252,A60,H⟩:=H
      replace H:(if t252=true then (some x8_1) else (pq6.l0 k1 l0 (l0.length:Int) (wrap64 (x8_1 + 1))))=some r:=H
      have A6:=pz4.mk A60
      clear A60
      by_cases c7:t252=true
      ·subst c7
       have H1:(some x8_1)=some r:=by rw [if_pos rfl] at H;exact H
       clear H
       have H:=H1
       clear H1
       obtain rfl:=Option.some.inj H
       have p251:0≤(x8_1:Int):=of_decide_eq_true (by first|(with_reducible assumption)|assumption)
       have q251:x8_1<(l0.length:Int):=of_decide_eq_true (by first|(with_reducible assumption)|assumption)
       obtain ⟨ad251,e251,hx251_0⟩:=Kd.at_string HR0.out x8_1 p251 q251
       cases e251
       replace p251:=eq_true p251
       replace q251:=eq_true q251
       go_wp2_with (first|(go_at_call 101;(with_reducible refine (pq14.calls (rdOf ByteArray.empty l0 x8_1) true _ A6.out).mono ?_);rintro e w' ⟨rfl,⟨nd,rfl⟩⟩))
       go_ret
       exact ⟨by first|rfl|(simp;done)|(simp [*];done),by repeat (first|exact Drawn0.refl _|apply Drawn0.step)⟩
      ·replace c7:=Bool.eq_false_iff.mpr c7
       subst c7
       have H1:(pq6.l0 k1 l0 (l0.length:Int) (wrap64 (x8_1 + 1)))=some r:=by rw [if_neg (show ¬ (false=true) by decide)] at H;exact H
       clear H
       have H:=H1
       clear H1
       have H':=pz4.mk H
       clear H
       have p251:0≤(x8_1:Int):=of_decide_eq_true (by first|(with_reducible assumption)|assumption)
       have q251:x8_1<(l0.length:Int):=of_decide_eq_true (by first|(with_reducible assumption)|assumption)
       obtain ⟨ad251,e251,hx251_0⟩:=Kd.at_string HR0.out x8_1 p251 q251
       cases e251
       replace p251:=eq_true p251
       replace q251:=eq_true q251
       go_wp2_with (first|(go_at_call 101;(with_reducible refine (pq14.calls (rdOf ByteArray.empty l0 x8_1) false _ A6.out).mono ?_);rintro e w' ⟨rfl,⟨nd,rfl⟩⟩))
       go_roundg k1
       case measure=>have:=HK1.out;omega
       case rel=>exact ⟨(wrap64 (x8_1 + 1)),(by first|rfl|(simp;done)|(simp [*];done)),H',⟨by have:=HK1.out;omega⟩,by repeat (first|exact Drawn0.refl _|apply Drawn0.step)⟩
     ·rw [if_neg c5] at H
      exact absurd H (by simp)
    ·rw [if_neg c4] at H
     exact absurd H (by simp)
   ·rw [if_neg c3] at H
    have c3b0:decide (x8_1<(l0.length:Int))=false:=decide_eq_false c3
    clear c3
    obtain rfl:=Option.some.inj H
    go_wp2
    go_ret
    exact ⟨by first|rfl|(simp;done)|(simp [*];done),by repeat (first|exact Drawn0.refl _|apply Drawn0.step)⟩
def pq2.f (k:Nat) (l0:List ByteArray) (a1:Unit):Option (Bool):=(pq6.f k l0 a1).bind fun t253=>(some (decide (t253 ≥ 0)))
set_option maxHeartbeats 8000000 in
set_option maxRecDepth 100000 in
theorem pq2.calls (k:Nat) (A0:Option Addr) (c0:Nat) (l0:List ByteArray) (a1:Unit) (r:Bool) (w:World) (hr0:Kd.C Kd.string w A0 l0.length l0) (hc0:l0.length≤c0) (h:pq2.f k l0 a1=some r) :
  Calls Tryz.prog 143 #[.slice A0 l0.length c0,.func (.func 101) #[] #[]] w fun e w'=>e=.returned (.bool r)∧Drawn0 w w':=by
 have HR0:=pz4.mk hr0
 have HC0:=pz4.mk hc0
 clear hr0 hc0
 have H:((pq6.f k l0 a1).bind fun t253=>(some (decide (t253 ≥ 0))))=some r:=h
 clear h
 replace H:=Option.bind_eq_some_iff.mp H
 obtain ⟨t253,A30,H⟩:=H
 replace H:(some (decide (t253 ≥ 0)))=some r:=H
 have A3:=pz4.mk A30
 clear A30
 obtain rfl:=Option.some.inj H
 go_enter Tryz.func143,Tryz.ntmps143
 go_wp2_with (first|((with_reducible refine pz8 (f:=178) rfl ?_);refine goesL_ (some 7) rfl rfl Tryz.func178 (by kernel_rfl) rfl #[.slice A0 l0.length c0,.func (.func 101) #[] #[]] rfl (by (try simp only [List.map_toArray,List.map_cons,List.map_nil]);first|done|rfl|(simp only [List.length_drop,List.length_take];rfl)) ?_;(with_reducible refine (pq6.calls k _ _ l0 a1 t253 _ ?side1 ?side2 A3.out).mono ?_);(case side1=>repeat (first|exact HR0.out|(with_reducible refine Kd.C_alloc ?_ _)|(with_reducible refine Kd.C_drewN ?_ _)|(with_reducible refine Kd.C_drew ?_)));(case side2=>exact HC0.out);rintro e w' ⟨rfl,⟨nd,rfl⟩⟩;refine ⟨_,rfl,?_⟩))
 go_ret
 exact ⟨by first|rfl|(simp;done)|(simp [*];done),by repeat (first|exact Drawn0.refl _|apply Drawn0.step)⟩
def pq13.f (a0:ByteArray):Option (Bool):=some (decide ((a0.size:Int) > 251))
set_option maxHeartbeats 8000000 in
set_option maxRecDepth 100000 in
theorem pq13.calls (a0:ByteArray) (r:Bool) (w:World) (h:pq13.f a0=some r) :
  Calls Tryz.prog 144 #[.string a0] w fun e w'=>e=.returned (.bool r)∧Drawn0 w w':=by
 have H:(some (decide ((a0.size:Int) > 251)))=some r:=h
 clear h
 obtain rfl:=Option.some.inj H
 go_enter Tryz.func144,Tryz.ntmps144
 go_wp2
 go_ret
 exact ⟨by first|rfl|(simp;done)|(simp [*];done),by repeat (first|exact Drawn0.refl _|apply Drawn0.step)⟩
def pq4.l0:Nat→List ByteArray→Int→Int→Option (Int)
 | 0,_,_,_=>none
 | k + 1,x0,x7,x8=>if x8<x7 then (if 0≤x8 then (if x8<(x0.length:Int) then ((pq13.f (rdOf ByteArray.empty x0 x8)).bind fun t255=>(if t255=true then (some x8) else (pq4.l0 k x0 x7 (wrap64 (x8 + 1))))) else (none)) else (none)) else (some (-1))
def pq4.f (k:Nat) (l0:List ByteArray) (a1:Unit):Option (Int):=pq4.l0 k l0 (l0.length:Int) 0
set_option maxHeartbeats 8000000 in
set_option maxRecDepth 100000 in
theorem pq4.calls (k:Nat) (A0:Option Addr) (c0:Nat) (l0:List ByteArray) (a1:Unit) (r:Int) (w:World) (hr0:Kd.C Kd.string w A0 l0.length l0) (hc0:l0.length≤c0) (h:pq4.f k l0 a1=some r) :
  Calls Tryz.prog 178 #[.slice A0 l0.length c0,.func (.func 144) #[] #[]] w fun e w'=>e=.returned (.int .i64 r)∧Drawn0 w w':=by
 have HR0:=pz4.mk hr0
 have HC0:=pz4.mk hc0
 clear hr0 hc0
 have H:(pq4.l0 k l0 (l0.length:Int) 0)=some r:=h
 clear h
 have H':=pz4.mk H
 clear H
 go_enter Tryz.func178,Tryz.ntmps178
 go_wp2
 go_loopg [8] k (fun kq v8 w'=>∃ (x8_1:Int),v8=.int .i64 x8_1∧pz4 (pq4.l0 kq l0 (l0.length:Int) x8_1=some r)∧pz4 (kq≤k)∧Drawn0 w w')
 case atStart=>exact ⟨(0),(by first|rfl|(simp;done)|(simp [*];done)),H',⟨Nat.le_refl _⟩,by repeat (first|exact Drawn0.refl _|apply Drawn0.step)⟩
 case round =>
  clear H'
  try clear p2
  obtain ⟨x8_1,rfl,HA,HK1,⟨m1,rfl⟩⟩:=hrel
  cases gk with
  | zero=>exact absurd HA.out (by simp [pq4.l0])
  | succ k1 =>
   have H:=HA.out
   clear HA
   simp only [pq4.l0] at H
   by_cases c3:x8_1<(l0.length:Int)
   ·rw [if_pos c3] at H
    have c3b0:decide (x8_1<(l0.length:Int))=true:=decide_eq_true c3
    clear c3
    by_cases c4:0≤x8_1
    ·rw [if_pos c4] at H
     have c4b0:decide (0≤x8_1)=true:=decide_eq_true c4
     clear c4
     by_cases c5:x8_1<(l0.length:Int)
     ·rw [if_pos c5] at H
      have c5b0:decide (x8_1<(l0.length:Int))=true:=decide_eq_true c5
      clear c5
      replace H:=Option.bind_eq_some_iff.mp H
      obtain ⟨t255,A60,H⟩:=H
      replace H:(if t255=true then (some x8_1) else (pq4.l0 k1 l0 (l0.length:Int) (wrap64 (x8_1 + 1))))=some r:=H
      have A6:=pz4.mk A60
      clear A60
      by_cases c7:t255=true
      ·subst c7
       have H1:(some x8_1)=some r:=by rw [if_pos rfl] at H;exact H
       clear H
       have H:=H1
       clear H1
       obtain rfl:=Option.some.inj H
       have p254:0≤(x8_1:Int):=of_decide_eq_true (by first|(with_reducible assumption)|assumption)
       have q254:x8_1<(l0.length:Int):=of_decide_eq_true (by first|(with_reducible assumption)|assumption)
       obtain ⟨ad254,e254,hx254_0⟩:=Kd.at_string HR0.out x8_1 p254 q254
       cases e254
       replace p254:=eq_true p254
       replace q254:=eq_true q254
       go_wp2_with (first|(go_at_call 144;(with_reducible refine (pq13.calls (rdOf ByteArray.empty l0 x8_1) true _ A6.out).mono ?_);rintro e w' ⟨rfl,⟨nd,rfl⟩⟩))
       go_ret
       exact ⟨by first|rfl|(simp;done)|(simp [*];done),by repeat (first|exact Drawn0.refl _|apply Drawn0.step)⟩
      ·replace c7:=Bool.eq_false_iff.mpr c7
       subst c7
       have H1:(pq4.l0 k1 l0 (l0.length:Int) (wrap64 (x8_1 + 1)))=some r:=by rw [if_neg (show ¬ (false=true) by decide)] at H;exact H
       clear H
       have H:=H1
       clear H1
       have H':=pz4.mk H
       clear H
       have p254:0≤(x8_1:Int):=of_decide_eq_true (by first|(with_reducible assumption)|assumption)
       have q254:x8_1<(l0.length:Int):=of_decide_eq_true (by first|(with_reducible assumption)|assumption)
       obtain ⟨ad254,e254,hx254_0⟩:=Kd.at_string HR0.out x8_1 p254 q254
       cases e254
       replace p254:=eq_true p254
       replace q254:=eq_true q254
       go_wp2_with (first|(go_at_call 144;(with_reducible refine (pq13.calls (rdOf ByteArray.empty l0 x8_1) false _ A6.out).mono ?_);rintro e w' ⟨rfl,⟨nd,rfl⟩⟩))
       go_roundg k1
       case measure=>have:=HK1.out;omega
       case rel=>exact ⟨(wrap64 (x8_1 + 1)),(by first|rfl|(simp;done)|(simp [*];done)),H',⟨by have:=HK1.out;omega⟩,by repeat (first|exact Drawn0.refl _|apply Drawn0.step)⟩
     ·rw [if_neg c5] at H
      exact absurd H (by simp)
    ·rw [if_neg c4] at H
     exact absurd H (by simp)
   ·rw [if_neg c3] at H
    have c3b0:decide (x8_1<(l0.length:Int))=false:=decide_eq_false c3
    clear c3
    obtain rfl:=Option.some.inj H
    go_wp2
    go_ret
    exact ⟨by first|rfl|(simp;done)|(simp [*];done),by repeat (first|exact Drawn0.refl _|apply Drawn0.step)⟩
def pq1.f (k:Nat) (l0:List ByteArray) (a1:Unit):Option (Bool):=(pq4.f k l0 a1).bind fun t256=>(some (decide (t256 ≥ 0)))
set_option maxHeartbeats 8000000 in
set_option maxRecDepth 100000 in
theorem pq1.calls (k:Nat) (A0:Option Addr) (c0:Nat) (l0:List ByteArray) (a1:Unit) (r:Bool) (w:World) (hr0:Kd.C Kd.string w A0 l0.length l0) (hc0:l0.length≤c0) (h:pq1.f k l0 a1=some r) :
  Calls Tryz.prog 143 #[.slice A0 l0.length c0,.func (.func 144) #[] #[]] w fun e w'=>e=.returned (.bool r)∧Drawn0 w w':=by
 have HR0:=pz4.mk hr0
 have HC0:=pz4.mk hc0
 clear hr0 hc0
 have H:((pq4.f k l0 a1).bind fun t256=>(some (decide (t256 ≥ 0))))=some r:=h
 clear h
 replace H:=Option.bind_eq_some_iff.mp H
 obtain ⟨t256,A30,H⟩:=H
 replace H:(some (decide (t256 ≥ 0)))=some r:=H
 have A3:=pz4.mk A30
 clear A30
 obtain rfl:=Option.some.inj H
 go_enter Tryz.func143,Tryz.ntmps143
 go_wp2_with (first|((with_reducible refine pz8 (f:=178) rfl ?_);refine goesL_ (some 7) rfl rfl Tryz.func178 (by kernel_rfl) rfl #[.slice A0 l0.length c0,.func (.func 144) #[] #[]] rfl (by (try simp only [List.map_toArray,List.map_cons,List.map_nil]);first|done|rfl|(simp only [List.length_drop,List.length_take];rfl)) ?_;(with_reducible refine (pq4.calls k _ _ l0 a1 t256 _ ?side1 ?side2 A3.out).mono ?_);(case side1=>repeat (first|exact HR0.out|(with_reducible refine Kd.C_alloc ?_ _)|(with_reducible refine Kd.C_drewN ?_ _)|(with_reducible refine Kd.C_drew ?_)));(case side2=>exact HC0.out);rintro e w' ⟨rfl,⟨nd,rfl⟩⟩;refine ⟨_,rfl,?_⟩))
 go_ret
 exact ⟨by first|rfl|(simp;done)|(simp [*];done),by repeat (first|exact Drawn0.refl _|apply Drawn0.step)⟩
def stringslite_HasPrefix.f (a0:ByteArray) (a1:ByteArray):Option (Bool):=if (a0.size:Int) ≥ (a1.size:Int) then (if 0≤(a1.size:Int) then (if (a1.size:Int)≤(a0.size:Int) then (some ((a0.extract 0 ((a1.size:Int):Int).toNat).toList == a1.toList)) else (none)) else (none)) else (some false)
set_option maxHeartbeats 8000000 in
set_option maxRecDepth 100000 in
theorem stringslite_HasPrefix.calls (a0:ByteArray) (a1:ByteArray) (r:Bool) (w:World) (h:stringslite_HasPrefix.f a0 a1=some r) :
  Calls Tryz.prog 145 #[.string a0,.string a1] w fun e w'=>e=.returned (.bool r)∧Drawn0 w w':=by
 have H:(if (a0.size:Int) ≥ (a1.size:Int) then (if 0≤(a1.size:Int) then (if (a1.size:Int)≤(a0.size:Int) then (some ((a0.extract 0 ((a1.size:Int):Int).toNat).toList == a1.toList)) else (none)) else (none)) else (some false))=some r:=h
 clear h
 by_cases c3:(a0.size:Int) ≥ (a1.size:Int)
 ·rw [if_pos c3] at H
  have c3b0:decide ((a1.size:Int)≤(a0.size:Int))=true:=decide_eq_true c3
  have c3b1:decide (a1.size≤a0.size)=true:=decide_eq_true (Int.ofNat_le.mp c3)
  clear c3
  by_cases c4:0≤(a1.size:Int)
  ·rw [if_pos c4] at H
   have c4b0:=eq_true c4
   have c4b1:decide (0≤(a1.size:Int))=true:=decide_eq_true c4
   clear c4
   by_cases c5:(a1.size:Int)≤(a0.size:Int)
   ·rw [if_pos c5] at H
    have c5b0:=eq_true c5
    have c5b1:decide ((a1.size:Int)≤(a0.size:Int))=true:=decide_eq_true c5
    clear c5
    obtain rfl:=Option.some.inj H
    go_enter Tryz.func145,Tryz.ntmps145
    go_wp2
    go_ret
    exact ⟨by first|rfl|(simp;done)|(simp [*];done),by repeat (first|exact Drawn0.refl _|apply Drawn0.step)⟩
   ·rw [if_neg c5] at H
    exact absurd H (by simp)
  ·rw [if_neg c4] at H
   exact absurd H (by simp)
 ·rw [if_neg c3] at H
  have c3b0:decide ((a1.size:Int)≤(a0.size:Int))=false:=decide_eq_false c3
  have c3b1:decide (a1.size≤a0.size)=false:=decide_eq_false (fun h=>c3 (Int.ofNat_le.mpr h))
  clear c3
  obtain rfl:=Option.some.inj H
  go_enter Tryz.func145,Tryz.ntmps145
  go_wp2
  go_ret
  exact ⟨by first|rfl|(simp;done)|(simp [*];done),by repeat (first|exact Drawn0.refl _|apply Drawn0.step)⟩
def pq10.f (a0:ByteArray) (a1:ByteArray):Option (Bool):=(stringslite_HasPrefix.f a0 a1).bind fun t192=>(some t192)
set_option maxHeartbeats 8000000 in
set_option maxRecDepth 100000 in
theorem pq10.calls (a0:ByteArray) (a1:ByteArray) (r:Bool) (w:World) (h:pq10.f a0 a1=some r) :
  Calls Tryz.prog 102 #[.string a0,.string a1] w fun e w'=>e=.returned (.bool r)∧Drawn0 w w':=by
 have H:((stringslite_HasPrefix.f a0 a1).bind fun t192=>(some t192))=some r:=h
 clear h
 replace H:=Option.bind_eq_some_iff.mp H
 obtain ⟨t192,A30,H⟩:=H
 replace H:(some t192)=some r:=H
 have A3:=pz4.mk A30
 clear A30
 obtain rfl:=Option.some.inj H
 go_enter Tryz.func102,Tryz.ntmps102
 go_wp2_with (first|((with_reducible refine pz8 (f:=145) rfl ?_);refine goesL_ (some 7) rfl rfl Tryz.func145 (by kernel_rfl) rfl #[.string a0,.string a1] rfl (by (try simp only [List.map_toArray,List.map_cons,List.map_nil]);first|done|rfl|(simp only [List.length_drop,List.length_take];rfl)) ?_;(with_reducible refine (stringslite_HasPrefix.calls a0 a1 t192 _ A3.out).mono ?_);rintro e w' ⟨rfl,⟨nd,rfl⟩⟩;refine ⟨_,rfl,?_⟩))
 go_ret
 exact ⟨by first|rfl|(simp;done)|(simp [*];done),by repeat (first|exact Drawn0.refl _|apply Drawn0.step)⟩
def paths_is.f (k:Nat) (a0:ByteArray):Option (Bool):=(strings_Split.f a0 (⟨#[47]⟩:ByteArray)).bind fun t257=>(if 0≤(wrap64 ((t257.length:Int) - 1)) then (if (wrap64 ((t257.length:Int) - 1))<(t257.length:Int) then ((pq10.f (rdOf ByteArray.empty t257 (wrap64 ((t257.length:Int) - 1))) (⟨#[46,119,104,46]⟩:ByteArray)).bind fun t261=>(if t261=true then (if (a0.size:Int)≤4096 then (if ((rdOf ByteArray.empty t257 (wrap64 ((t257.length:Int) - 1))).size:Int)≤255 then ((pq2.f k t257 ()).bind fun t262=>(if t262=true then (some false) else (if (wrap64 ((t257.length:Int) - 1))≤(t257.length:Int) then ((pq1.f k (t257.take ((wrap64 ((t257.length:Int) - 1)):Int).toNat) ()).bind fun t267=>(some (!t267))) else (none)))) else (some false)) else (some false)) else (if (a0.size:Int)≤4092 then (if ((rdOf ByteArray.empty t257 (wrap64 ((t257.length:Int) - 1))).size:Int)≤251 then ((pq2.f k t257 ()).bind fun t268=>(if t268=true then (some false) else (if (wrap64 ((t257.length:Int) - 1))≤(t257.length:Int) then ((pq1.f k (t257.take ((wrap64 ((t257.length:Int) - 1)):Int).toNat) ()).bind fun t273=>(some (!t273))) else (none)))) else (some false)) else (some false)))) else (none)) else (none))
set_option maxHeartbeats 8000000 in
set_option maxRecDepth 100000 in
theorem paths_is.calls (k:Nat) (a0:ByteArray) (r:Bool) (w:World) (hG:GL w) (h:paths_is.f k a0=some r) :
  Calls Tryz.prog 100 #[.string a0] w fun e w'=>e=.returned (.bool r)∧Below w.heap.size w w':=by
 have HB:=pz4.mk (Below.refl w.heap.size w)
 have H:((strings_Split.f a0 (⟨#[47]⟩:ByteArray)).bind fun t257=>(if 0≤(wrap64 ((t257.length:Int) - 1)) then (if (wrap64 ((t257.length:Int) - 1))<(t257.length:Int) then ((pq10.f (rdOf ByteArray.empty t257 (wrap64 ((t257.length:Int) - 1))) (⟨#[46,119,104,46]⟩:ByteArray)).bind fun t261=>(if t261=true then (if (a0.size:Int)≤4096 then (if ((rdOf ByteArray.empty t257 (wrap64 ((t257.length:Int) - 1))).size:Int)≤255 then ((pq2.f k t257 ()).bind fun t262=>(if t262=true then (some false) else (if (wrap64 ((t257.length:Int) - 1))≤(t257.length:Int) then ((pq1.f k (t257.take ((wrap64 ((t257.length:Int) - 1)):Int).toNat) ()).bind fun t267=>(some (!t267))) else (none)))) else (some false)) else (some false)) else (if (a0.size:Int)≤4092 then (if ((rdOf ByteArray.empty t257 (wrap64 ((t257.length:Int) - 1))).size:Int)≤251 then ((pq2.f k t257 ()).bind fun t268=>(if t268=true then (some false) else (if (wrap64 ((t257.length:Int) - 1))≤(t257.length:Int) then ((pq1.f k (t257.take ((wrap64 ((t257.length:Int) - 1)):Int).toNat) ()).bind fun t273=>(some (!t273))) else (none)))) else (some false)) else (some false)))) else (none)) else (none)))=some r:=h
 clear h
 replace H:=Option.bind_eq_some_iff.mp H
 obtain ⟨t257,A20,H⟩:=H
 replace H:(if 0≤(wrap64 ((t257.length:Int) - 1)) then (if (wrap64 ((t257.length:Int) - 1))<(t257.length:Int) then ((pq10.f (rdOf ByteArray.empty t257 (wrap64 ((t257.length:Int) - 1))) (⟨#[46,119,104,46]⟩:ByteArray)).bind fun t261=>(if t261=true then (if (a0.size:Int)≤4096 then (if ((rdOf ByteArray.empty t257 (wrap64 ((t257.length:Int) - 1))).size:Int)≤255 then ((pq2.f k t257 ()).bind fun t262=>(if t262=true then (some false) else (if (wrap64 ((t257.length:Int) - 1))≤(t257.length:Int) then ((pq1.f k (t257.take ((wrap64 ((t257.length:Int) - 1)):Int).toNat) ()).bind fun t267=>(some (!t267))) else (none)))) else (some false)) else (some false)) else (if (a0.size:Int)≤4092 then (if ((rdOf ByteArray.empty t257 (wrap64 ((t257.length:Int) - 1))).size:Int)≤251 then ((pq2.f k t257 ()).bind fun t268=>(if t268=true then (some false) else (if (wrap64 ((t257.length:Int) - 1))≤(t257.length:Int) then ((pq1.f k (t257.take ((wrap64 ((t257.length:Int) - 1)):Int).toNat) ()).bind fun t273=>(some (!t273))) else (none)))) else (some false)) else (some false)))) else (none)) else (none))=some r:=H
 have A2:=pz4.mk A20
 clear A20
 obtain ⟨ji3,hji3⟩:∃ j_:Int,(wrap64 ((t257.length:Int) - 1))=j_:=⟨_,rfl⟩
 replace H:(if 0≤(ji3) then (if (ji3)<(t257.length:Int) then ((pq10.f (rdOf ByteArray.empty t257 (ji3)) (⟨#[46,119,104,46]⟩:ByteArray)).bind fun t261=>(if t261=true then (if (a0.size:Int)≤4096 then (if ((rdOf ByteArray.empty t257 (ji3)).size:Int)≤255 then ((pq2.f k t257 ()).bind fun t262=>(if t262=true then (some false) else (if (ji3)≤(t257.length:Int) then ((pq1.f k (t257.take ((ji3):Int).toNat) ()).bind fun t267=>(some (!t267))) else (none)))) else (some false)) else (some false)) else (if (a0.size:Int)≤4092 then (if ((rdOf ByteArray.empty t257 (ji3)).size:Int)≤251 then ((pq2.f k t257 ()).bind fun t268=>(if t268=true then (some false) else (if (ji3)≤(t257.length:Int) then ((pq1.f k (t257.take ((ji3):Int).toNat) ()).bind fun t273=>(some (!t273))) else (none)))) else (some false)) else (some false)))) else (none)) else (none))=some r:=by first|(rw [hji3] at H;exact H)|(simp only [hji3] at H ⊢;exact H)
 (try rw [hji3] at A2)
 have hji3w:(IntKind.i64.wrap ((t257.length:Int) - 1))=ji3:=(i64_w _).trans hji3
 by_cases c4:0≤(ji3)
 ·rw [if_pos c4] at H
  have c4b0:decide (0≤(ji3))=true:=decide_eq_true c4
  clear c4
  by_cases c5:(ji3)<(t257.length:Int)
  ·rw [if_pos c5] at H
   have c5b0:decide ((ji3)<(t257.length:Int))=true:=decide_eq_true c5
   clear c5
   replace H:=Option.bind_eq_some_iff.mp H
   obtain ⟨t261,A60,H⟩:=H
   replace H:(if t261=true then (if (a0.size:Int)≤4096 then (if ((rdOf ByteArray.empty t257 (ji3)).size:Int)≤255 then ((pq2.f k t257 ()).bind fun t262=>(if t262=true then (some false) else (if (ji3)≤(t257.length:Int) then ((pq1.f k (t257.take ((ji3):Int).toNat) ()).bind fun t267=>(some (!t267))) else (none)))) else (some false)) else (some false)) else (if (a0.size:Int)≤4092 then (if ((rdOf ByteArray.empty t257 (ji3)).size:Int)≤251 then ((pq2.f k t257 ()).bind fun t268=>(if t268=true then (some false) else (if (ji3)≤(t257.length:Int) then ((pq1.f k (t257.take ((ji3):Int).toNat) ()).bind fun t273=>(some (!t273))) else (none)))) else (some false)) else (some false)))=some r:=H
   have A6:=pz4.mk A60
   clear A60
   by_cases c7:t261=true
   ·subst c7
    have H1:(if (a0.size:Int)≤4096 then (if ((rdOf ByteArray.empty t257 (ji3)).size:Int)≤255 then ((pq2.f k t257 ()).bind fun t262=>(if t262=true then (some false) else (if (ji3)≤(t257.length:Int) then ((pq1.f k (t257.take ((ji3):Int).toNat) ()).bind fun t267=>(some (!t267))) else (none)))) else (some false)) else (some false))=some r:=by rw [if_pos rfl] at H;exact H
    clear H
    have H:=H1
    clear H1
    by_cases c8:(a0.size:Int)≤4096
    ·rw [if_pos c8] at H
     have c8b0:decide ((a0.size:Int)≤4096)=true:=decide_eq_true c8
     have c8b1:decide (a0.size≤4096)=true:=decide_eq_true (by omega)
     clear c8
     by_cases c9:((rdOf ByteArray.empty t257 (ji3)).size:Int)≤255
     ·rw [if_pos c9] at H
      have c9b0:decide (((rdOf ByteArray.empty t257 (ji3)).size:Int)≤255)=true:=decide_eq_true c9
      have c9b1:decide ((rdOf ByteArray.empty t257 (ji3)).size≤255)=true:=decide_eq_true (by omega)
      clear c9
      replace H:=Option.bind_eq_some_iff.mp H
      obtain ⟨t262,A100,H⟩:=H
      replace H:(if t262=true then (some false) else (if (ji3)≤(t257.length:Int) then ((pq1.f k (t257.take ((ji3):Int).toNat) ()).bind fun t267=>(some (!t267))) else (none)))=some r:=H
      have A10:=pz4.mk A100
      clear A100
      by_cases c11:t262=true
      ·subst c11
       have H1:(some false)=some r:=by rw [if_pos rfl] at H;exact H
       clear H
       have H:=H1
       clear H1
       obtain rfl:=Option.some.inj H
       go_enter Tryz.func100,Tryz.ntmps100
       go_wp2_with (first|((with_reducible refine pz8 (f:=142) rfl ?_);refine goesL_ (some 8) rfl rfl Tryz.func142 (by kernel_rfl) rfl #[.string a0,.string (⟨#[47]⟩:ByteArray)] rfl (by (try simp only [List.map_toArray,List.map_cons,List.map_nil]);first|done|rfl|(simp only [List.length_drop,List.length_take];rfl)) ?_;(with_reducible refine (strings_Split.calls a0 (⟨#[47]⟩:ByteArray) t257 _ (hG.ext (by repeat (first|(with_reducible first|exact HB.out|apply pz3|apply pz1|apply pz2)|exact HB.out))) A2.out).mono ?_);rintro e w12 ⟨v258,rfl,ho0,hb⟩;refine ⟨_,rfl,?_⟩;have n0_:=pz4.mk (Kd.R_lower ho0 (below_size (by repeat (first|(with_reducible first|exact HB.out|apply pz3|apply pz1|apply pz2)|exact HB.out))));have n1_:=pz4.mk (below_step (by repeat (first|(with_reducible first|exact HB.out|apply pz3|apply pz1|apply pz2)|exact HB.out)) hb);clear HB;have HO259:=n0_;have HB:=n1_;clear n0_ n1_;(try clear hb);(try clear hb2);(try clear hk);(try clear hi);(try clear ho0);obtain ⟨Ao13,co13,eo13⟩:=Kd.R_slice HO259.out;subst eo13;have p260:0≤((ji3):Int):=of_decide_eq_true (by first|(with_reducible assumption)|assumption);have q260:(ji3)<(t257.length:Int):=of_decide_eq_true (by first|(with_reducible assumption)|assumption);obtain ⟨ad260,e260,hx260_0⟩:=Kd.at_string (Kd.R_reads' HO259.out).2.2 (ji3) p260 q260;cases e260;replace p260:=eq_true p260;replace q260:=eq_true q260)|((with_reducible refine pz8 (f:=102) rfl ?_);refine goesL_ (some 16) rfl rfl Tryz.func102 (by kernel_rfl) rfl #[.string (rdOf ByteArray.empty t257 (ji3)),.string (⟨#[46,119,104,46]⟩:ByteArray)] rfl (by (try simp only [List.map_toArray,List.map_cons,List.map_nil]);first|done|(simp only [hji3];rfl)|rfl|(simp only [List.length_drop,List.length_take];rfl)) ?_;(with_reducible refine (pq10.calls (rdOf ByteArray.empty t257 (ji3)) (⟨#[46,119,104,46]⟩:ByteArray) true _ A6.out).mono ?_);rintro e w' ⟨rfl,⟨nd,rfl⟩⟩;refine ⟨_,rfl,?_⟩)|(go_at_call 143;(with_reducible refine (pq2.calls k _ _ t257 () true _ ?side1 ?side2 A10.out).mono ?_);(case side1=>repeat (first|exact (Kd.R_reads' HO259.out).2.2|(with_reducible refine Kd.C_alloc ?_ _)|(with_reducible refine Kd.C_drewN ?_ _)|(with_reducible refine Kd.C_drew ?_)));(case side2=>exact (Kd.R_reads' HO259.out).2.1);rintro e w' ⟨rfl,⟨nd,rfl⟩⟩))
       go_ret
       exact ⟨by first|rfl|(simp [pz6,pz5] <;> rfl)|(simp only [← hji3];first|rfl|(simp [pz6,pz5] <;> rfl))|(simp [*,pz6,pz5] <;> rfl),by repeat (first|(with_reducible first|exact HB.out|apply pz3|apply pz1|apply pz2)|exact HB.out)⟩
      ·replace c11:=Bool.eq_false_iff.mpr c11
       subst c11
       have H1:(if (ji3)≤(t257.length:Int) then ((pq1.f k (t257.take ((ji3):Int).toNat) ()).bind fun t267=>(some (!t267))) else (none))=some r:=by rw [if_neg (show ¬ (false=true) by decide)] at H;exact H
       clear H
       have H:=H1
       clear H1
       have c14b0:=eq_true (of_decide_eq_true (by first|(with_reducible assumption)|assumption):0≤(ji3))
       by_cases c15:(ji3)≤(t257.length:Int)
       ·rw [if_pos c15] at H
        have c15b0:=eq_true c15
        have c15b1:decide ((ji3)≤(t257.length:Int))=true:=decide_eq_true c15
        clear c15
        obtain ⟨y263,hy263⟩:∃ y_:List ByteArray,y_=(t257.take ((ji3):Int).toNat):=⟨_,rfl⟩
        replace H:((pq1.f k y263 ()).bind fun t267=>(some (!t267)))=some r:=by first|(rw [hy263];with_reducible exact H)|(have H2_:=(Option.bind_some _ _).symm.trans H;rw [hy263];with_reducible exact H2_)|(have H2_:=(Option.bind_some _ _).symm.trans H;with_reducible exact H2_)|with_reducible exact H|(rw [hy263];exact H)|exact H
        have Ny263:=pz4.mk hy263
        clear hy263
        replace H:=Option.bind_eq_some_iff.mp H
        obtain ⟨t267,A160,H⟩:=H
        replace H:(some (!t267))=some r:=H
        have A16:=pz4.mk A160
        clear A160
        obtain rfl:=Option.some.inj H
        go_enter Tryz.func100,Tryz.ntmps100
        go_wp2_with (first|((with_reducible refine pz8 (f:=142) rfl ?_);refine goesL_ (some 8) rfl rfl Tryz.func142 (by kernel_rfl) rfl #[.string a0,.string (⟨#[47]⟩:ByteArray)] rfl (by (try simp only [List.map_toArray,List.map_cons,List.map_nil]);first|done|rfl|(simp only [List.length_drop,List.length_take];rfl)) ?_;(with_reducible refine (strings_Split.calls a0 (⟨#[47]⟩:ByteArray) t257 _ (hG.ext (by repeat (first|(with_reducible first|exact HB.out|apply pz3|apply pz1|apply pz2)|exact HB.out))) A2.out).mono ?_);rintro e w17 ⟨v258,rfl,ho0,hb⟩;refine ⟨_,rfl,?_⟩;have n0_:=pz4.mk (Kd.R_lower ho0 (below_size (by repeat (first|(with_reducible first|exact HB.out|apply pz3|apply pz1|apply pz2)|exact HB.out))));have n1_:=pz4.mk (below_step (by repeat (first|(with_reducible first|exact HB.out|apply pz3|apply pz1|apply pz2)|exact HB.out)) hb);clear HB;have HO259:=n0_;have HB:=n1_;clear n0_ n1_;(try clear hb);(try clear hb2);(try clear hk);(try clear hi);(try clear ho0);obtain ⟨Ao18,co18,eo18⟩:=Kd.R_slice HO259.out;subst eo18;have p260:0≤((ji3):Int):=of_decide_eq_true (by first|(with_reducible assumption)|assumption);have q260:(ji3)<(t257.length:Int):=of_decide_eq_true (by first|(with_reducible assumption)|assumption);obtain ⟨ad260,e260,hx260_0⟩:=Kd.at_string (Kd.R_reads' HO259.out).2.2 (ji3) p260 q260;cases e260;replace p260:=eq_true p260;replace q260:=eq_true q260)|((with_reducible refine pz8 (f:=102) rfl ?_);refine goesL_ (some 16) rfl rfl Tryz.func102 (by kernel_rfl) rfl #[.string (rdOf ByteArray.empty t257 (ji3)),.string (⟨#[46,119,104,46]⟩:ByteArray)] rfl (by (try simp only [List.map_toArray,List.map_cons,List.map_nil]);first|done|(simp only [hji3];rfl)|rfl|(simp only [List.length_drop,List.length_take];rfl)) ?_;(with_reducible refine (pq10.calls (rdOf ByteArray.empty t257 (ji3)) (⟨#[46,119,104,46]⟩:ByteArray) true _ A6.out).mono ?_);rintro e w' ⟨rfl,⟨nd,rfl⟩⟩;refine ⟨_,rfl,?_⟩)|(go_at_call 143;(with_reducible refine (pq2.calls k _ _ t257 () false _ ?side1 ?side2 A10.out).mono ?_);(case side1=>repeat (first|exact (Kd.R_reads' HO259.out).2.2|(with_reducible refine Kd.C_alloc ?_ _)|(with_reducible refine Kd.C_drewN ?_ _)|(with_reducible refine Kd.C_drew ?_)));(case side2=>exact (Kd.R_reads' HO259.out).2.1);rintro e w' ⟨rfl,⟨nd,rfl⟩⟩;have q19:((ji3):Int)≤((t257.length:Int):Int):=of_decide_eq_true (by first|(with_reducible assumption)|assumption);obtain ⟨i019,hi019,_,hsz19,_⟩:=info_parts info9;have hroom19:t257.length≤co18:=(Kd.R_reads' HO259.out).2.1;have hC19:Kd.C Kd.string _ (some ad260) t257.length t257:=(Kd.R_reads' HO259.out).2.2;have hcut19:=cut_to (P:=Tryz.prog) 86 9 .i64 Tryz.underlying86 hi019 (some ad260) t257.length co18 (ji3) (of_decide_eq_true (by first|(with_reducible assumption)|assumption)) q19 hroom19;have hr19:=Kd.C_take (m:=((ji3):Int).toNat) hC19 (by omega);have hy19:y263.length=((ji3):Int).toNat:=(by rw [Ny263.out,List.length_take];omega);rw [← Ny263.out] at hr19;rw [← hy19] at hcut19;have HR266:=pz4.mk hr19;have HC266:=pz4.mk (show y263.length≤co18 from by omega);clear hr19 hC19 hroom19 hi019 hsz19;have KY19:=pz4.mk hy19;clear hy19;have KL19:=pz4.mk (show ((ji3):Int).toNat≤t257.length from by omega);replace q19:=eq_true q19)|(go_at_call 143;(with_reducible refine (pq1.calls k _ _ y263 () t267 _ ?side1 ?side2 A16.out).mono ?_);(case side1=>repeat (first|exact (by repeat (first|(with_reducible exact HR266.out)|(with_reducible refine Kd.C_alloc ?_ _)|(with_reducible refine Kd.C_drewN ?_ _)|(with_reducible refine Kd.C_drew ?_)|exact HR266.out))|(with_reducible refine Kd.C_alloc ?_ _)|(with_reducible refine Kd.C_drewN ?_ _)|(with_reducible refine Kd.C_drew ?_)));(case side2=>exact HC266.out);rintro e w' ⟨rfl,⟨nd,rfl⟩⟩))
        go_ret
        exact ⟨by first|rfl|(simp [pz6,pz5] <;> rfl)|(simp only [← hji3];first|rfl|(simp [pz6,pz5] <;> rfl))|(simp [*,pz6,pz5] <;> rfl),by repeat (first|(with_reducible first|exact HB.out|apply pz3|apply pz1|apply pz2)|exact HB.out)⟩
       ·rw [if_neg c15] at H
        exact absurd H (by simp)
     ·rw [if_neg c9] at H
      have c9b0:decide (((rdOf ByteArray.empty t257 (ji3)).size:Int)≤255)=false:=decide_eq_false c9
      have c9b1:decide ((rdOf ByteArray.empty t257 (ji3)).size≤255)=false:=decide_eq_false (by omega)
      clear c9
      obtain rfl:=Option.some.inj H
      go_enter Tryz.func100,Tryz.ntmps100
      go_wp2_with (first|((with_reducible refine pz8 (f:=142) rfl ?_);refine goesL_ (some 8) rfl rfl Tryz.func142 (by kernel_rfl) rfl #[.string a0,.string (⟨#[47]⟩:ByteArray)] rfl (by (try simp only [List.map_toArray,List.map_cons,List.map_nil]);first|done|rfl|(simp only [List.length_drop,List.length_take];rfl)) ?_;(with_reducible refine (strings_Split.calls a0 (⟨#[47]⟩:ByteArray) t257 _ (hG.ext (by repeat (first|(with_reducible first|exact HB.out|apply pz3|apply pz1|apply pz2)|exact HB.out))) A2.out).mono ?_);rintro e w20 ⟨v258,rfl,ho0,hb⟩;refine ⟨_,rfl,?_⟩;have n0_:=pz4.mk (Kd.R_lower ho0 (below_size (by repeat (first|(with_reducible first|exact HB.out|apply pz3|apply pz1|apply pz2)|exact HB.out))));have n1_:=pz4.mk (below_step (by repeat (first|(with_reducible first|exact HB.out|apply pz3|apply pz1|apply pz2)|exact HB.out)) hb);clear HB;have HO259:=n0_;have HB:=n1_;clear n0_ n1_;(try clear hb);(try clear hb2);(try clear hk);(try clear hi);(try clear ho0);obtain ⟨Ao21,co21,eo21⟩:=Kd.R_slice HO259.out;subst eo21;have p260:0≤((ji3):Int):=of_decide_eq_true (by first|(with_reducible assumption)|assumption);have q260:(ji3)<(t257.length:Int):=of_decide_eq_true (by first|(with_reducible assumption)|assumption);obtain ⟨ad260,e260,hx260_0⟩:=Kd.at_string (Kd.R_reads' HO259.out).2.2 (ji3) p260 q260;cases e260;replace p260:=eq_true p260;replace q260:=eq_true q260)|((with_reducible refine pz8 (f:=102) rfl ?_);refine goesL_ (some 16) rfl rfl Tryz.func102 (by kernel_rfl) rfl #[.string (rdOf ByteArray.empty t257 (ji3)),.string (⟨#[46,119,104,46]⟩:ByteArray)] rfl (by (try simp only [List.map_toArray,List.map_cons,List.map_nil]);first|done|(simp only [hji3];rfl)|rfl|(simp only [List.length_drop,List.length_take];rfl)) ?_;(with_reducible refine (pq10.calls (rdOf ByteArray.empty t257 (ji3)) (⟨#[46,119,104,46]⟩:ByteArray) true _ A6.out).mono ?_);rintro e w' ⟨rfl,⟨nd,rfl⟩⟩;refine ⟨_,rfl,?_⟩))
      go_ret
      exact ⟨by first|rfl|(simp [pz6,pz5] <;> rfl)|(simp only [← hji3];first|rfl|(simp [pz6,pz5] <;> rfl))|(simp [*,pz6,pz5] <;> rfl),by repeat (first|(with_reducible first|exact HB.out|apply pz3|apply pz1|apply pz2)|exact HB.out)⟩
    ·rw [if_neg c8] at H
     have c8b0:decide ((a0.size:Int)≤4096)=false:=decide_eq_false c8
     have c8b1:decide (a0.size≤4096)=false:=decide_eq_false (by omega)
     clear c8
     obtain rfl:=Option.some.inj H
     go_enter Tryz.func100,Tryz.ntmps100
     go_wp2_with (first|((with_reducible refine pz8 (f:=142) rfl ?_);refine goesL_ (some 8) rfl rfl Tryz.func142 (by kernel_rfl) rfl #[.string a0,.string (⟨#[47]⟩:ByteArray)] rfl (by (try simp only [List.map_toArray,List.map_cons,List.map_nil]);first|done|rfl|(simp only [List.length_drop,List.length_take];rfl)) ?_;(with_reducible refine (strings_Split.calls a0 (⟨#[47]⟩:ByteArray) t257 _ (hG.ext (by repeat (first|(with_reducible first|exact HB.out|apply pz3|apply pz1|apply pz2)|exact HB.out))) A2.out).mono ?_);rintro e w22 ⟨v258,rfl,ho0,hb⟩;refine ⟨_,rfl,?_⟩;have n0_:=pz4.mk (Kd.R_lower ho0 (below_size (by repeat (first|(with_reducible first|exact HB.out|apply pz3|apply pz1|apply pz2)|exact HB.out))));have n1_:=pz4.mk (below_step (by repeat (first|(with_reducible first|exact HB.out|apply pz3|apply pz1|apply pz2)|exact HB.out)) hb);clear HB;have HO259:=n0_;have HB:=n1_;clear n0_ n1_;(try clear hb);(try clear hb2);(try clear hk);(try clear hi);(try clear ho0);obtain ⟨Ao23,co23,eo23⟩:=Kd.R_slice HO259.out;subst eo23;have p260:0≤((ji3):Int):=of_decide_eq_true (by first|(with_reducible assumption)|assumption);have q260:(ji3)<(t257.length:Int):=of_decide_eq_true (by first|(with_reducible assumption)|assumption);obtain ⟨ad260,e260,hx260_0⟩:=Kd.at_string (Kd.R_reads' HO259.out).2.2 (ji3) p260 q260;cases e260;replace p260:=eq_true p260;replace q260:=eq_true q260)|((with_reducible refine pz8 (f:=102) rfl ?_);refine goesL_ (some 16) rfl rfl Tryz.func102 (by kernel_rfl) rfl #[.string (rdOf ByteArray.empty t257 (ji3)),.string (⟨#[46,119,104,46]⟩:ByteArray)] rfl (by (try simp only [List.map_toArray,List.map_cons,List.map_nil]);first|done|(simp only [hji3];rfl)|rfl|(simp only [List.length_drop,List.length_take];rfl)) ?_;(with_reducible refine (pq10.calls (rdOf ByteArray.empty t257 (ji3)) (⟨#[46,119,104,46]⟩:ByteArray) true _ A6.out).mono ?_);rintro e w' ⟨rfl,⟨nd,rfl⟩⟩;refine ⟨_,rfl,?_⟩))
     go_ret
     exact ⟨by first|rfl|(simp [pz6,pz5] <;> rfl)|(simp only [← hji3];first|rfl|(simp [pz6,pz5] <;> rfl))|(simp [*,pz6,pz5] <;> rfl),by repeat (first|(with_reducible first|exact HB.out|apply pz3|apply pz1|apply pz2)|exact HB.out)⟩
   ·replace c7:=Bool.eq_false_iff.mpr c7
    subst c7
    have H1:(if (a0.size:Int)≤4092 then (if ((rdOf ByteArray.empty t257 (ji3)).size:Int)≤251 then ((pq2.f k t257 ()).bind fun t268=>(if t268=true then (some false) else (if (ji3)≤(t257.length:Int) then ((pq1.f k (t257.take ((ji3):Int).toNat) ()).bind fun t273=>(some (!t273))) else (none)))) else (some false)) else (some false))=some r:=by rw [if_neg (show ¬ (false=true) by decide)] at H;exact H
    clear H
    have H:=H1
    clear H1
    by_cases c24:(a0.size:Int)≤4092
    ·rw [if_pos c24] at H
     have c24b0:decide ((a0.size:Int)≤4092)=true:=decide_eq_true c24
     have c24b1:decide (a0.size≤4092)=true:=decide_eq_true (by omega)
     clear c24
     by_cases c25:((rdOf ByteArray.empty t257 (ji3)).size:Int)≤251
     ·rw [if_pos c25] at H
      have c25b0:decide (((rdOf ByteArray.empty t257 (ji3)).size:Int)≤251)=true:=decide_eq_true c25
      have c25b1:decide ((rdOf ByteArray.empty t257 (ji3)).size≤251)=true:=decide_eq_true (by omega)
      clear c25
      replace H:=Option.bind_eq_some_iff.mp H
      obtain ⟨t268,A260,H⟩:=H
      replace H:(if t268=true then (some false) else (if (ji3)≤(t257.length:Int) then ((pq1.f k (t257.take ((ji3):Int).toNat) ()).bind fun t273=>(some (!t273))) else (none)))=some r:=H
      have A26:=pz4.mk A260
      clear A260
      by_cases c27:t268=true
      ·subst c27
       have H1:(some false)=some r:=by rw [if_pos rfl] at H;exact H
       clear H
       have H:=H1
       clear H1
       obtain rfl:=Option.some.inj H
       go_enter Tryz.func100,Tryz.ntmps100
       go_wp2_with (first|((with_reducible refine pz8 (f:=142) rfl ?_);refine goesL_ (some 8) rfl rfl Tryz.func142 (by kernel_rfl) rfl #[.string a0,.string (⟨#[47]⟩:ByteArray)] rfl (by (try simp only [List.map_toArray,List.map_cons,List.map_nil]);first|done|rfl|(simp only [List.length_drop,List.length_take];rfl)) ?_;(with_reducible refine (strings_Split.calls a0 (⟨#[47]⟩:ByteArray) t257 _ (hG.ext (by repeat (first|(with_reducible first|exact HB.out|apply pz3|apply pz1|apply pz2)|exact HB.out))) A2.out).mono ?_);rintro e w28 ⟨v258,rfl,ho0,hb⟩;refine ⟨_,rfl,?_⟩;have n0_:=pz4.mk (Kd.R_lower ho0 (below_size (by repeat (first|(with_reducible first|exact HB.out|apply pz3|apply pz1|apply pz2)|exact HB.out))));have n1_:=pz4.mk (below_step (by repeat (first|(with_reducible first|exact HB.out|apply pz3|apply pz1|apply pz2)|exact HB.out)) hb);clear HB;have HO259:=n0_;have HB:=n1_;clear n0_ n1_;(try clear hb);(try clear hb2);(try clear hk);(try clear hi);(try clear ho0);obtain ⟨Ao29,co29,eo29⟩:=Kd.R_slice HO259.out;subst eo29;have p260:0≤((ji3):Int):=of_decide_eq_true (by first|(with_reducible assumption)|assumption);have q260:(ji3)<(t257.length:Int):=of_decide_eq_true (by first|(with_reducible assumption)|assumption);obtain ⟨ad260,e260,hx260_0⟩:=Kd.at_string (Kd.R_reads' HO259.out).2.2 (ji3) p260 q260;cases e260;replace p260:=eq_true p260;replace q260:=eq_true q260)|((with_reducible refine pz8 (f:=102) rfl ?_);refine goesL_ (some 16) rfl rfl Tryz.func102 (by kernel_rfl) rfl #[.string (rdOf ByteArray.empty t257 (ji3)),.string (⟨#[46,119,104,46]⟩:ByteArray)] rfl (by (try simp only [List.map_toArray,List.map_cons,List.map_nil]);first|done|(simp only [hji3];rfl)|rfl|(simp only [List.length_drop,List.length_take];rfl)) ?_;(with_reducible refine (pq10.calls (rdOf ByteArray.empty t257 (ji3)) (⟨#[46,119,104,46]⟩:ByteArray) false _ A6.out).mono ?_);rintro e w' ⟨rfl,⟨nd,rfl⟩⟩;refine ⟨_,rfl,?_⟩)|(go_at_call 143;(with_reducible refine (pq2.calls k _ _ t257 () true _ ?side1 ?side2 A26.out).mono ?_);(case side1=>repeat (first|exact (Kd.R_reads' HO259.out).2.2|(with_reducible refine Kd.C_alloc ?_ _)|(with_reducible refine Kd.C_drewN ?_ _)|(with_reducible refine Kd.C_drew ?_)));(case side2=>exact (Kd.R_reads' HO259.out).2.1);rintro e w' ⟨rfl,⟨nd,rfl⟩⟩))
       go_ret
       exact ⟨by first|rfl|(simp [pz6,pz5] <;> rfl)|(simp only [← hji3];first|rfl|(simp [pz6,pz5] <;> rfl))|(simp [*,pz6,pz5] <;> rfl),by repeat (first|(with_reducible first|exact HB.out|apply pz3|apply pz1|apply pz2)|exact HB.out)⟩
      ·replace c27:=Bool.eq_false_iff.mpr c27
       subst c27
       have H1:(if (ji3)≤(t257.length:Int) then ((pq1.f k (t257.take ((ji3):Int).toNat) ()).bind fun t273=>(some (!t273))) else (none))=some r:=by rw [if_neg (show ¬ (false=true) by decide)] at H;exact H
       clear H
       have H:=H1
       clear H1
       have c30b0:=eq_true (of_decide_eq_true (by first|(with_reducible assumption)|assumption):0≤(ji3))
       by_cases c31:(ji3)≤(t257.length:Int)
       ·rw [if_pos c31] at H
        have c31b0:=eq_true c31
        have c31b1:decide ((ji3)≤(t257.length:Int))=true:=decide_eq_true c31
        clear c31
        obtain ⟨y269,hy269⟩:∃ y_:List ByteArray,y_=(t257.take ((ji3):Int).toNat):=⟨_,rfl⟩
        replace H:((pq1.f k y269 ()).bind fun t273=>(some (!t273)))=some r:=by first|(rw [hy269];with_reducible exact H)|(have H2_:=(Option.bind_some _ _).symm.trans H;rw [hy269];with_reducible exact H2_)|(have H2_:=(Option.bind_some _ _).symm.trans H;with_reducible exact H2_)|with_reducible exact H|(rw [hy269];exact H)|exact H
        have Ny269:=pz4.mk hy269
        clear hy269
        replace H:=Option.bind_eq_some_iff.mp H
        obtain ⟨t273,A320,H⟩:=H
        replace H:(some (!t273))=some r:=H
        have A32:=pz4.mk A320
        clear A320
        obtain rfl:=Option.some.inj H
        go_enter Tryz.func100,Tryz.ntmps100
        go_wp2_with (first|((with_reducible refine pz8 (f:=142) rfl ?_);refine goesL_ (some 8) rfl rfl Tryz.func142 (by kernel_rfl) rfl #[.string a0,.string (⟨#[47]⟩:ByteArray)] rfl (by (try simp only [List.map_toArray,List.map_cons,List.map_nil]);first|done|rfl|(simp only [List.length_drop,List.length_take];rfl)) ?_;(with_reducible refine (strings_Split.calls a0 (⟨#[47]⟩:ByteArray) t257 _ (hG.ext (by repeat (first|(with_reducible first|exact HB.out|apply pz3|apply pz1|apply pz2)|exact HB.out))) A2.out).mono ?_);rintro e w33 ⟨v258,rfl,ho0,hb⟩;refine ⟨_,rfl,?_⟩;have n0_:=pz4.mk (Kd.R_lower ho0 (below_size (by repeat (first|(with_reducible first|exact HB.out|apply pz3|apply pz1|apply pz2)|exact HB.out))));have n1_:=pz4.mk (below_step (by repeat (first|(with_reducible first|exact HB.out|apply pz3|apply pz1|apply pz2)|exact HB.out)) hb);clear HB;have HO259:=n0_;have HB:=n1_;clear n0_ n1_;(try clear hb);(try clear hb2);(try clear hk);(try clear hi);(try clear ho0);obtain ⟨Ao34,co34,eo34⟩:=Kd.R_slice HO259.out;subst eo34;have p260:0≤((ji3):Int):=of_decide_eq_true (by first|(with_reducible assumption)|assumption);have q260:(ji3)<(t257.length:Int):=of_decide_eq_true (by first|(with_reducible assumption)|assumption);obtain ⟨ad260,e260,hx260_0⟩:=Kd.at_string (Kd.R_reads' HO259.out).2.2 (ji3) p260 q260;cases e260;replace p260:=eq_true p260;replace q260:=eq_true q260)|((with_reducible refine pz8 (f:=102) rfl ?_);refine goesL_ (some 16) rfl rfl Tryz.func102 (by kernel_rfl) rfl #[.string (rdOf ByteArray.empty t257 (ji3)),.string (⟨#[46,119,104,46]⟩:ByteArray)] rfl (by (try simp only [List.map_toArray,List.map_cons,List.map_nil]);first|done|(simp only [hji3];rfl)|rfl|(simp only [List.length_drop,List.length_take];rfl)) ?_;(with_reducible refine (pq10.calls (rdOf ByteArray.empty t257 (ji3)) (⟨#[46,119,104,46]⟩:ByteArray) false _ A6.out).mono ?_);rintro e w' ⟨rfl,⟨nd,rfl⟩⟩;refine ⟨_,rfl,?_⟩)|(go_at_call 143;(with_reducible refine (pq2.calls k _ _ t257 () false _ ?side1 ?side2 A26.out).mono ?_);(case side1=>repeat (first|exact (Kd.R_reads' HO259.out).2.2|(with_reducible refine Kd.C_alloc ?_ _)|(with_reducible refine Kd.C_drewN ?_ _)|(with_reducible refine Kd.C_drew ?_)));(case side2=>exact (Kd.R_reads' HO259.out).2.1);rintro e w' ⟨rfl,⟨nd,rfl⟩⟩;have q35:((ji3):Int)≤((t257.length:Int):Int):=of_decide_eq_true (by first|(with_reducible assumption)|assumption);obtain ⟨i035,hi035,_,hsz35,_⟩:=info_parts info9;have hroom35:t257.length≤co34:=(Kd.R_reads' HO259.out).2.1;have hC35:Kd.C Kd.string _ (some ad260) t257.length t257:=(Kd.R_reads' HO259.out).2.2;have hcut35:=cut_to (P:=Tryz.prog) 86 9 .i64 Tryz.underlying86 hi035 (some ad260) t257.length co34 (ji3) (of_decide_eq_true (by first|(with_reducible assumption)|assumption)) q35 hroom35;have hr35:=Kd.C_take (m:=((ji3):Int).toNat) hC35 (by omega);have hy35:y269.length=((ji3):Int).toNat:=(by rw [Ny269.out,List.length_take];omega);rw [← Ny269.out] at hr35;rw [← hy35] at hcut35;have HR272:=pz4.mk hr35;have HC272:=pz4.mk (show y269.length≤co34 from by omega);clear hr35 hC35 hroom35 hi035 hsz35;have KY35:=pz4.mk hy35;clear hy35;have KL35:=pz4.mk (show ((ji3):Int).toNat≤t257.length from by omega);replace q35:=eq_true q35)|(go_at_call 143;(with_reducible refine (pq1.calls k _ _ y269 () t273 _ ?side1 ?side2 A32.out).mono ?_);(case side1=>repeat (first|exact (by repeat (first|(with_reducible exact HR272.out)|(with_reducible refine Kd.C_alloc ?_ _)|(with_reducible refine Kd.C_drewN ?_ _)|(with_reducible refine Kd.C_drew ?_)|exact HR272.out))|(with_reducible refine Kd.C_alloc ?_ _)|(with_reducible refine Kd.C_drewN ?_ _)|(with_reducible refine Kd.C_drew ?_)));(case side2=>exact HC272.out);rintro e w' ⟨rfl,⟨nd,rfl⟩⟩))
        go_ret
        exact ⟨by first|rfl|(simp [pz6,pz5] <;> rfl)|(simp only [← hji3];first|rfl|(simp [pz6,pz5] <;> rfl))|(simp [*,pz6,pz5] <;> rfl),by repeat (first|(with_reducible first|exact HB.out|apply pz3|apply pz1|apply pz2)|exact HB.out)⟩
       ·rw [if_neg c31] at H
        exact absurd H (by simp)
     ·rw [if_neg c25] at H
      have c25b0:decide (((rdOf ByteArray.empty t257 (ji3)).size:Int)≤251)=false:=decide_eq_false c25
      have c25b1:decide ((rdOf ByteArray.empty t257 (ji3)).size≤251)=false:=decide_eq_false (by omega)
      clear c25
      obtain rfl:=Option.some.inj H
      go_enter Tryz.func100,Tryz.ntmps100
      go_wp2_with (first|((with_reducible refine pz8 (f:=142) rfl ?_);refine goesL_ (some 8) rfl rfl Tryz.func142 (by kernel_rfl) rfl #[.string a0,.string (⟨#[47]⟩:ByteArray)] rfl (by (try simp only [List.map_toArray,List.map_cons,List.map_nil]);first|done|rfl|(simp only [List.length_drop,List.length_take];rfl)) ?_;(with_reducible refine (strings_Split.calls a0 (⟨#[47]⟩:ByteArray) t257 _ (hG.ext (by repeat (first|(with_reducible first|exact HB.out|apply pz3|apply pz1|apply pz2)|exact HB.out))) A2.out).mono ?_);rintro e w36 ⟨v258,rfl,ho0,hb⟩;refine ⟨_,rfl,?_⟩;have n0_:=pz4.mk (Kd.R_lower ho0 (below_size (by repeat (first|(with_reducible first|exact HB.out|apply pz3|apply pz1|apply pz2)|exact HB.out))));have n1_:=pz4.mk (below_step (by repeat (first|(with_reducible first|exact HB.out|apply pz3|apply pz1|apply pz2)|exact HB.out)) hb);clear HB;have HO259:=n0_;have HB:=n1_;clear n0_ n1_;(try clear hb);(try clear hb2);(try clear hk);(try clear hi);(try clear ho0);obtain ⟨Ao37,co37,eo37⟩:=Kd.R_slice HO259.out;subst eo37;have p260:0≤((ji3):Int):=of_decide_eq_true (by first|(with_reducible assumption)|assumption);have q260:(ji3)<(t257.length:Int):=of_decide_eq_true (by first|(with_reducible assumption)|assumption);obtain ⟨ad260,e260,hx260_0⟩:=Kd.at_string (Kd.R_reads' HO259.out).2.2 (ji3) p260 q260;cases e260;replace p260:=eq_true p260;replace q260:=eq_true q260)|((with_reducible refine pz8 (f:=102) rfl ?_);refine goesL_ (some 16) rfl rfl Tryz.func102 (by kernel_rfl) rfl #[.string (rdOf ByteArray.empty t257 (ji3)),.string (⟨#[46,119,104,46]⟩:ByteArray)] rfl (by (try simp only [List.map_toArray,List.map_cons,List.map_nil]);first|done|(simp only [hji3];rfl)|rfl|(simp only [List.length_drop,List.length_take];rfl)) ?_;(with_reducible refine (pq10.calls (rdOf ByteArray.empty t257 (ji3)) (⟨#[46,119,104,46]⟩:ByteArray) false _ A6.out).mono ?_);rintro e w' ⟨rfl,⟨nd,rfl⟩⟩;refine ⟨_,rfl,?_⟩))
      go_ret
      exact ⟨by first|rfl|(simp [pz6,pz5] <;> rfl)|(simp only [← hji3];first|rfl|(simp [pz6,pz5] <;> rfl))|(simp [*,pz6,pz5] <;> rfl),by repeat (first|(with_reducible first|exact HB.out|apply pz3|apply pz1|apply pz2)|exact HB.out)⟩
    ·rw [if_neg c24] at H
     have c24b0:decide ((a0.size:Int)≤4092)=false:=decide_eq_false c24
     have c24b1:decide (a0.size≤4092)=false:=decide_eq_false (by omega)
     clear c24
     obtain rfl:=Option.some.inj H
     go_enter Tryz.func100,Tryz.ntmps100
     go_wp2_with (first|((with_reducible refine pz8 (f:=142) rfl ?_);refine goesL_ (some 8) rfl rfl Tryz.func142 (by kernel_rfl) rfl #[.string a0,.string (⟨#[47]⟩:ByteArray)] rfl (by (try simp only [List.map_toArray,List.map_cons,List.map_nil]);first|done|rfl|(simp only [List.length_drop,List.length_take];rfl)) ?_;(with_reducible refine (strings_Split.calls a0 (⟨#[47]⟩:ByteArray) t257 _ (hG.ext (by repeat (first|(with_reducible first|exact HB.out|apply pz3|apply pz1|apply pz2)|exact HB.out))) A2.out).mono ?_);rintro e w38 ⟨v258,rfl,ho0,hb⟩;refine ⟨_,rfl,?_⟩;have n0_:=pz4.mk (Kd.R_lower ho0 (below_size (by repeat (first|(with_reducible first|exact HB.out|apply pz3|apply pz1|apply pz2)|exact HB.out))));have n1_:=pz4.mk (below_step (by repeat (first|(with_reducible first|exact HB.out|apply pz3|apply pz1|apply pz2)|exact HB.out)) hb);clear HB;have HO259:=n0_;have HB:=n1_;clear n0_ n1_;(try clear hb);(try clear hb2);(try clear hk);(try clear hi);(try clear ho0);obtain ⟨Ao39,co39,eo39⟩:=Kd.R_slice HO259.out;subst eo39;have p260:0≤((ji3):Int):=of_decide_eq_true (by first|(with_reducible assumption)|assumption);have q260:(ji3)<(t257.length:Int):=of_decide_eq_true (by first|(with_reducible assumption)|assumption);obtain ⟨ad260,e260,hx260_0⟩:=Kd.at_string (Kd.R_reads' HO259.out).2.2 (ji3) p260 q260;cases e260;replace p260:=eq_true p260;replace q260:=eq_true q260)|((with_reducible refine pz8 (f:=102) rfl ?_);refine goesL_ (some 16) rfl rfl Tryz.func102 (by kernel_rfl) rfl #[.string (rdOf ByteArray.empty t257 (ji3)),.string (⟨#[46,119,104,46]⟩:ByteArray)] rfl (by (try simp only [List.map_toArray,List.map_cons,List.map_nil]);first|done|(simp only [hji3];rfl)|rfl|(simp only [List.length_drop,List.length_take];rfl)) ?_;(with_reducible refine (pq10.calls (rdOf ByteArray.empty t257 (ji3)) (⟨#[46,119,104,46]⟩:ByteArray) false _ A6.out).mono ?_);rintro e w' ⟨rfl,⟨nd,rfl⟩⟩;refine ⟨_,rfl,?_⟩))
     go_ret
     exact ⟨by first|rfl|(simp [pz6,pz5] <;> rfl)|(simp only [← hji3];first|rfl|(simp [pz6,pz5] <;> rfl))|(simp [*,pz6,pz5] <;> rfl),by repeat (first|(with_reducible first|exact HB.out|apply pz3|apply pz1|apply pz2)|exact HB.out)⟩
  ·rw [if_neg c5] at H
   exact absurd H (by simp)
 ·rw [if_neg c4] at H
  exact absurd H (by simp)
def paths_split.f (a0:ByteArray):Option (ByteArray×ByteArray):=(strings_LastIndex.f a0 (⟨#[47]⟩:ByteArray)).bind fun t103=>(if 0≤(mx t103 0) then (if (mx t103 0)≤(a0.size:Int) then (if 0≤(wrap64 (t103 + 1)) then (if (wrap64 (t103 + 1))≤(a0.size:Int) then (some (a0.extract 0 ((mx t103 0):Int).toNat,a0.extract ((wrap64 (t103 + 1)):Int).toNat a0.size)) else (none)) else (none)) else (none)) else (none))
set_option maxHeartbeats 8000000 in
set_option maxRecDepth 100000 in
theorem paths_split.calls (a0:ByteArray) (r1:ByteArray) (r2:ByteArray) (w:World) (h:paths_split.f a0=some (r1,r2)) :
  Calls Tryz.prog 41 #[.string a0] w fun e w'=>e=.returned (.tuple #[.string r1,.string r2])∧Below w.heap.size w w':=by
 have HB:=pz4.mk (Below.refl w.heap.size w)
 have H:((strings_LastIndex.f a0 (⟨#[47]⟩:ByteArray)).bind fun t103=>(if 0≤(mx t103 0) then (if (mx t103 0)≤(a0.size:Int) then (if 0≤(wrap64 (t103 + 1)) then (if (wrap64 (t103 + 1))≤(a0.size:Int) then (some (a0.extract 0 ((mx t103 0):Int).toNat,a0.extract ((wrap64 (t103 + 1)):Int).toNat a0.size)) else (none)) else (none)) else (none)) else (none)))=some (r1,r2):=h
 clear h
 replace H:=Option.bind_eq_some_iff.mp H
 obtain ⟨t103,A20,H⟩:=H
 replace H:(if 0≤(mx t103 0) then (if (mx t103 0)≤(a0.size:Int) then (if 0≤(wrap64 (t103 + 1)) then (if (wrap64 (t103 + 1))≤(a0.size:Int) then (some (a0.extract 0 ((mx t103 0):Int).toNat,a0.extract ((wrap64 (t103 + 1)):Int).toNat a0.size)) else (none)) else (none)) else (none)) else (none))=some (r1,r2):=H
 have A2:=pz4.mk A20
 clear A20
 obtain ⟨ji3,hji3⟩:∃ j_:Int,(mx t103 0)=j_:=⟨_,rfl⟩
 replace H:(if 0≤(ji3) then (if (ji3)≤(a0.size:Int) then (if 0≤(wrap64 (t103 + 1)) then (if (wrap64 (t103 + 1))≤(a0.size:Int) then (some (a0.extract 0 ((ji3):Int).toNat,a0.extract ((wrap64 (t103 + 1)):Int).toNat a0.size)) else (none)) else (none)) else (none)) else (none))=some (r1,r2):=by first|(rw [hji3] at H;exact H)|(simp only [hji3] at H ⊢;exact H)
 (try rw [hji3] at A2)
 (try (have hji3l:0≤ji3:=by (rw [← hji3];unfold mx;(repeat' split) <;> omega)))
 (try (have hji3m:0≤ji3:=by omega))
 have hji3_:(if t103<0 then 0 else t103)=ji3:=hji3
 by_cases c4:0≤(ji3)
 ·rw [if_pos c4] at H
  have c4b0:=eq_true c4
  have c4b1:decide (0≤(ji3))=true:=decide_eq_true c4
  clear c4
  by_cases c5:(ji3)≤(a0.size:Int)
  ·rw [if_pos c5] at H
   have c5b0:=eq_true c5
   have c5b1:decide ((ji3)≤(a0.size:Int))=true:=decide_eq_true c5
   clear c5
   obtain ⟨ji6,hji6⟩:∃ j_:Int,(wrap64 (t103 + 1))=j_:=⟨_,rfl⟩
   replace H:(if 0≤(ji6) then (if (ji6)≤(a0.size:Int) then (some (a0.extract 0 ((ji3):Int).toNat,a0.extract ((ji6):Int).toNat a0.size)) else (none)) else (none))=some (r1,r2):=by first|(rw [hji6] at H;exact H)|(simp only [hji6] at H ⊢;exact H)
   (try rw [hji6] at A2)
   have hji6w:(IntKind.i64.wrap (t103 + 1))=ji6:=(i64_w _).trans hji6
   by_cases c7:0≤(ji6)
   ·rw [if_pos c7] at H
    have c7b0:=eq_true c7
    have c7b1:decide (0≤(ji6))=true:=decide_eq_true c7
    clear c7
    by_cases c8:(ji6)≤(a0.size:Int)
    ·rw [if_pos c8] at H
     have c8b0:=eq_true c8
     have c8b1:decide ((ji6)≤(a0.size:Int))=true:=decide_eq_true c8
     clear c8
     simp only [Option.some.injEq,Prod.mk.injEq] at H
     obtain ⟨rfl,rfl⟩:=H
     go_enter Tryz.func41,Tryz.ntmps41
     go_wp2_with (first|(go_at_call 74;(with_reducible refine (strings_LastIndex.calls a0 (⟨#[47]⟩:ByteArray) t103 _ A2.out).mono ?_);rintro e w' ⟨rfl,⟨nd,rfl⟩⟩;(try first|exact ⟨rfl,_,World.drewN_drewN _ _ _⟩|exact ⟨rfl,_,Eq.trans (World.drewN_drewN _ _ _) (congrArg (World.drewN _) (Nat.add_assoc _ _ _))⟩)))
     repeat (go_quiet (first|(go_at_call 74;(with_reducible refine (strings_LastIndex.calls a0 (⟨#[47]⟩:ByteArray) t103 _ A2.out).mono ?_);rintro e w' ⟨rfl,⟨nd,rfl⟩⟩;(try first|exact ⟨rfl,_,World.drewN_drewN _ _ _⟩|exact ⟨rfl,_,Eq.trans (World.drewN_drewN _ _ _) (congrArg (World.drewN _) (Nat.add_assoc _ _ _))⟩)));try go_wp2_with (first|(go_at_call 74;(with_reducible refine (strings_LastIndex.calls a0 (⟨#[47]⟩:ByteArray) t103 _ A2.out).mono ?_);rintro e w' ⟨rfl,⟨nd,rfl⟩⟩;(try first|exact ⟨rfl,_,World.drewN_drewN _ _ _⟩|exact ⟨rfl,_,Eq.trans (World.drewN_drewN _ _ _) (congrArg (World.drewN _) (Nat.add_assoc _ _ _))⟩))))
     go_ret2
     exact ⟨by first|rfl|(simp [pz6,pz5] <;> rfl)|(simp only [← hji3,← hji6];first|rfl|(simp [pz6,pz5] <;> rfl))|(simp [*,pz6,pz5] <;> rfl),by repeat (first|(with_reducible first|exact HB.out|apply pz3|apply pz1|apply pz2)|exact HB.out)⟩
    ·rw [if_neg c8] at H
     exact absurd H (by simp)
   ·rw [if_neg c7] at H
    exact absurd H (by simp)
  ·rw [if_neg c5] at H
   exact absurd H (by simp)
 ·rw [if_neg c4] at H
  exact absurd H (by simp)
def paths_Mark.f (k:Nat) (a0:ByteArray):Option (Int×ByteArray×Bool):=(paths_split.f a0).bind fun bt274=>((strings_CutPrefix.f bt274.2 (⟨#[46,119,104,46]⟩:ByteArray)).bind fun bt276=>((paths_is.f k a0).bind fun t278=>(if t278=true then (if bt276.2=true then (if bt274.2.toList=([46,119,104,46,46,119,104,46,46,111,112,113]:List UInt8) then (some (2,bt274.1,true)) else ((pq14.f bt276.1).bind fun t279=>(if t279=true then (some (0,(⟨#[]⟩:ByteArray),false)) else ((pq10.f bt276.1 (⟨#[46,119,104,46]⟩:ByteArray)).bind fun t280=>(if t280=true then (some (0,(⟨#[]⟩:ByteArray),false)) else ((paths_below.f bt274.1 bt276.1).bind fun t281=>(some (1,t281,true)))))))) else (some (0,a0,true))) else (some (0,(⟨#[]⟩:ByteArray),false)))))
set_option maxHeartbeats 8000000 in
set_option maxRecDepth 100000 in
theorem paths_Mark.calls (k:Nat) (a0:ByteArray) (r1:Int) (r2:ByteArray) (r3:Bool) (w:World) (hG:GL w) (h:paths_Mark.f k a0=some (r1,r2,r3)) :
  Calls Tryz.prog 67 #[.string a0] w fun e w'=>e=.returned (.tuple #[.int .i64 r1,.string r2,.bool r3])∧Below w.heap.size w w':=by
 have HB:=pz4.mk (Below.refl w.heap.size w)
 have H:((paths_split.f a0).bind fun bt274=>((strings_CutPrefix.f bt274.2 (⟨#[46,119,104,46]⟩:ByteArray)).bind fun bt276=>((paths_is.f k a0).bind fun t278=>(if t278=true then (if bt276.2=true then (if bt274.2.toList=([46,119,104,46,46,119,104,46,46,111,112,113]:List UInt8) then (some (2,bt274.1,true)) else ((pq14.f bt276.1).bind fun t279=>(if t279=true then (some (0,(⟨#[]⟩:ByteArray),false)) else ((pq10.f bt276.1 (⟨#[46,119,104,46]⟩:ByteArray)).bind fun t280=>(if t280=true then (some (0,(⟨#[]⟩:ByteArray),false)) else ((paths_below.f bt274.1 bt276.1).bind fun t281=>(some (1,t281,true)))))))) else (some (0,a0,true))) else (some (0,(⟨#[]⟩:ByteArray),false))))))=some (r1,r2,r3):=h
 clear h
 replace H:=Option.bind_eq_some_iff.mp H
 obtain ⟨⟨t274,t275⟩,A20,H⟩:=H
 replace H:((strings_CutPrefix.f t275 (⟨#[46,119,104,46]⟩:ByteArray)).bind fun bt276=>((paths_is.f k a0).bind fun t278=>(if t278=true then (if bt276.2=true then (if t275.toList=([46,119,104,46,46,119,104,46,46,111,112,113]:List UInt8) then (some (2,t274,true)) else ((pq14.f bt276.1).bind fun t279=>(if t279=true then (some (0,(⟨#[]⟩:ByteArray),false)) else ((pq10.f bt276.1 (⟨#[46,119,104,46]⟩:ByteArray)).bind fun t280=>(if t280=true then (some (0,(⟨#[]⟩:ByteArray),false)) else ((paths_below.f t274 bt276.1).bind fun t281=>(some (1,t281,true)))))))) else (some (0,a0,true))) else (some (0,(⟨#[]⟩:ByteArray),false)))))=some (r1,r2,r3):=H
 have A2:=pz4.mk A20
 clear A20
 replace H:=Option.bind_eq_some_iff.mp H
 obtain ⟨⟨t276,t277⟩,A30,H⟩:=H
 replace H:((paths_is.f k a0).bind fun t278=>(if t278=true then (if t277=true then (if t275.toList=([46,119,104,46,46,119,104,46,46,111,112,113]:List UInt8) then (some (2,t274,true)) else ((pq14.f t276).bind fun t279=>(if t279=true then (some (0,(⟨#[]⟩:ByteArray),false)) else ((pq10.f t276 (⟨#[46,119,104,46]⟩:ByteArray)).bind fun t280=>(if t280=true then (some (0,(⟨#[]⟩:ByteArray),false)) else ((paths_below.f t274 t276).bind fun t281=>(some (1,t281,true)))))))) else (some (0,a0,true))) else (some (0,(⟨#[]⟩:ByteArray),false))))=some (r1,r2,r3):=H
 have A3:=pz4.mk A30
 clear A30
 replace H:=Option.bind_eq_some_iff.mp H
 obtain ⟨t278,A40,H⟩:=H
 replace H:(if t278=true then (if t277=true then (if t275.toList=([46,119,104,46,46,119,104,46,46,111,112,113]:List UInt8) then (some (2,t274,true)) else ((pq14.f t276).bind fun t279=>(if t279=true then (some (0,(⟨#[]⟩:ByteArray),false)) else ((pq10.f t276 (⟨#[46,119,104,46]⟩:ByteArray)).bind fun t280=>(if t280=true then (some (0,(⟨#[]⟩:ByteArray),false)) else ((paths_below.f t274 t276).bind fun t281=>(some (1,t281,true)))))))) else (some (0,a0,true))) else (some (0,(⟨#[]⟩:ByteArray),false)))=some (r1,r2,r3):=H
 have A4:=pz4.mk A40
 clear A40
 by_cases c5:t278=true
 ·subst c5
  have H1:(if t277=true then (if t275.toList=([46,119,104,46,46,119,104,46,46,111,112,113]:List UInt8) then (some (2,t274,true)) else ((pq14.f t276).bind fun t279=>(if t279=true then (some (0,(⟨#[]⟩:ByteArray),false)) else ((pq10.f t276 (⟨#[46,119,104,46]⟩:ByteArray)).bind fun t280=>(if t280=true then (some (0,(⟨#[]⟩:ByteArray),false)) else ((paths_below.f t274 t276).bind fun t281=>(some (1,t281,true)))))))) else (some (0,a0,true)))=some (r1,r2,r3):=by rw [if_pos rfl] at H;exact H
  clear H
  have H:=H1
  clear H1
  by_cases c6:t277=true
  ·subst c6
   have H1:(if t275.toList=([46,119,104,46,46,119,104,46,46,111,112,113]:List UInt8) then (some (2,t274,true)) else ((pq14.f t276).bind fun t279=>(if t279=true then (some (0,(⟨#[]⟩:ByteArray),false)) else ((pq10.f t276 (⟨#[46,119,104,46]⟩:ByteArray)).bind fun t280=>(if t280=true then (some (0,(⟨#[]⟩:ByteArray),false)) else ((paths_below.f t274 t276).bind fun t281=>(some (1,t281,true))))))))=some (r1,r2,r3):=by rw [if_pos rfl] at H;exact H
   clear H
   have H:=H1
   clear H1
   by_cases c7:t275.toList=([46,119,104,46,46,119,104,46,46,111,112,113]:List UInt8)
   ·rw [if_pos c7] at H
    have c7b0:(t275.toList == ([46,119,104,46,46,119,104,46,46,111,112,113]:List UInt8))=true:=beq_iff_eq.mpr c7
    have c7b1:(t275.toList != ([46,119,104,46,46,119,104,46,46,111,112,113]:List UInt8))=false:=bne_eq_false_iff_eq.mpr c7
    clear c7
    simp only [Option.some.injEq,Prod.mk.injEq] at H
    obtain ⟨rfl,rfl,rfl⟩:=H
    go_enter Tryz.func67,Tryz.ntmps67
    go_wp2_with (first|((with_reducible refine pz8 (f:=41) rfl ?_);refine goesL_ (some 11) rfl rfl Tryz.func41 (by kernel_rfl) rfl #[.string a0] rfl (by (try simp only [List.map_toArray,List.map_cons,List.map_nil]);first|done|rfl|(simp only [List.length_drop,List.length_take];rfl)) ?_;(with_reducible refine (paths_split.calls a0 t274 t275 _ A2.out).mono ?_);rintro e w8 ⟨rfl,hb⟩;refine ⟨_,rfl,?_⟩;have n0_:=pz4.mk (below_step (by repeat (first|(with_reducible first|exact HB.out|apply pz3|apply pz1|apply pz2)|exact HB.out)) hb);clear HB;have HB:=n0_;clear n0_;(try clear hb);(try clear hb2);(try clear hk);(try clear hi))|((with_reducible refine pz8 (f:=99) rfl ?_);refine goesL_ (some 16) rfl rfl Tryz.func99 (by kernel_rfl) rfl #[.string t275,.string (⟨#[46,119,104,46]⟩:ByteArray)] rfl (by (try simp only [List.map_toArray,List.map_cons,List.map_nil]);first|done|rfl|(simp only [List.length_drop,List.length_take];rfl)) ?_;(with_reducible refine (strings_CutPrefix.calls t275 (⟨#[46,119,104,46]⟩:ByteArray) t276 true _ A3.out).mono ?_);rintro e w' ⟨rfl,⟨nd,rfl⟩⟩;refine ⟨_,rfl,?_⟩)|((with_reducible refine pz8 (f:=100) rfl ?_);refine goesL_ (some 21) rfl rfl Tryz.func100 (by kernel_rfl) rfl #[.string a0] rfl (by (try simp only [List.map_toArray,List.map_cons,List.map_nil]);first|done|rfl|(simp only [List.length_drop,List.length_take];rfl)) ?_;(with_reducible refine (paths_is.calls k a0 true _ (hG.ext (by repeat (first|(with_reducible first|exact HB.out|apply pz3|apply pz1|apply pz2)|exact HB.out))) A4.out).mono ?_);rintro e w9 ⟨rfl,hb⟩;refine ⟨_,rfl,?_⟩;have n0_:=pz4.mk (below_step (by repeat (first|(with_reducible first|exact HB.out|apply pz3|apply pz1|apply pz2)|exact HB.out)) hb);clear HB;have HB:=n0_;clear n0_;(try clear hb);(try clear hb2);(try clear hk);(try clear hi)))
    go_ret3
    exact ⟨by first|rfl|(simp [pz6,pz5] <;> rfl)|(simp [*,pz6,pz5] <;> rfl),by repeat (first|(with_reducible first|exact HB.out|apply pz3|apply pz1|apply pz2)|exact HB.out)⟩
   ·rw [if_neg c7] at H
    have c7b0:(t275.toList == ([46,119,104,46,46,119,104,46,46,111,112,113]:List UInt8))=false:=beq_eq_false_iff_ne.mpr c7
    have c7b1:(t275.toList != ([46,119,104,46,46,119,104,46,46,111,112,113]:List UInt8))=true:=bne_iff_ne.mpr c7
    replace H:=Option.bind_eq_some_iff.mp H
    obtain ⟨t279,A100,H⟩:=H
    replace H:(if t279=true then (some (0,(⟨#[]⟩:ByteArray),false)) else ((pq10.f t276 (⟨#[46,119,104,46]⟩:ByteArray)).bind fun t280=>(if t280=true then (some (0,(⟨#[]⟩:ByteArray),false)) else ((paths_below.f t274 t276).bind fun t281=>(some (1,t281,true))))))=some (r1,r2,r3):=H
    have A10:=pz4.mk A100
    clear A100
    by_cases c11:t279=true
    ·subst c11
     have H1:(some (0,(⟨#[]⟩:ByteArray),false))=some (r1,r2,r3):=by rw [if_pos rfl] at H;exact H
     clear H
     have H:=H1
     clear H1
     simp only [Option.some.injEq,Prod.mk.injEq] at H
     obtain ⟨rfl,rfl,rfl⟩:=H
     go_enter Tryz.func67,Tryz.ntmps67
     go_wp2_with (first|((with_reducible refine pz8 (f:=41) rfl ?_);refine goesL_ (some 11) rfl rfl Tryz.func41 (by kernel_rfl) rfl #[.string a0] rfl (by (try simp only [List.map_toArray,List.map_cons,List.map_nil]);first|done|rfl|(simp only [List.length_drop,List.length_take];rfl)) ?_;(with_reducible refine (paths_split.calls a0 t274 t275 _ A2.out).mono ?_);rintro e w12 ⟨rfl,hb⟩;refine ⟨_,rfl,?_⟩;have n0_:=pz4.mk (below_step (by repeat (first|(with_reducible first|exact HB.out|apply pz3|apply pz1|apply pz2)|exact HB.out)) hb);clear HB;have HB:=n0_;clear n0_;(try clear hb);(try clear hb2);(try clear hk);(try clear hi))|((with_reducible refine pz8 (f:=99) rfl ?_);refine goesL_ (some 16) rfl rfl Tryz.func99 (by kernel_rfl) rfl #[.string t275,.string (⟨#[46,119,104,46]⟩:ByteArray)] rfl (by (try simp only [List.map_toArray,List.map_cons,List.map_nil]);first|done|rfl|(simp only [List.length_drop,List.length_take];rfl)) ?_;(with_reducible refine (strings_CutPrefix.calls t275 (⟨#[46,119,104,46]⟩:ByteArray) t276 true _ A3.out).mono ?_);rintro e w' ⟨rfl,⟨nd,rfl⟩⟩;refine ⟨_,rfl,?_⟩)|((with_reducible refine pz8 (f:=100) rfl ?_);refine goesL_ (some 21) rfl rfl Tryz.func100 (by kernel_rfl) rfl #[.string a0] rfl (by (try simp only [List.map_toArray,List.map_cons,List.map_nil]);first|done|rfl|(simp only [List.length_drop,List.length_take];rfl)) ?_;(with_reducible refine (paths_is.calls k a0 true _ (hG.ext (by repeat (first|(with_reducible first|exact HB.out|apply pz3|apply pz1|apply pz2)|exact HB.out))) A4.out).mono ?_);rintro e w13 ⟨rfl,hb⟩;refine ⟨_,rfl,?_⟩;have n0_:=pz4.mk (below_step (by repeat (first|(with_reducible first|exact HB.out|apply pz3|apply pz1|apply pz2)|exact HB.out)) hb);clear HB;have HB:=n0_;clear n0_;(try clear hb);(try clear hb2);(try clear hk);(try clear hi))|((with_reducible refine pz8 (f:=101) rfl ?_);refine goesL_ (some 33) rfl rfl Tryz.func101 (by kernel_rfl) rfl #[.string t276] rfl (by (try simp only [List.map_toArray,List.map_cons,List.map_nil]);first|done|rfl|(simp only [List.length_drop,List.length_take];rfl)) ?_;(with_reducible refine (pq14.calls t276 true _ A10.out).mono ?_);rintro e w' ⟨rfl,⟨nd,rfl⟩⟩;refine ⟨_,rfl,?_⟩))
     go_ret3
     exact ⟨by first|rfl|(simp [pz6,pz5] <;> rfl)|(simp [*,pz6,pz5] <;> rfl),by repeat (first|(with_reducible first|exact HB.out|apply pz3|apply pz1|apply pz2)|exact HB.out)⟩
    ·replace c11:=Bool.eq_false_iff.mpr c11
     subst c11
     have H1:((pq10.f t276 (⟨#[46,119,104,46]⟩:ByteArray)).bind fun t280=>(if t280=true then (some (0,(⟨#[]⟩:ByteArray),false)) else ((paths_below.f t274 t276).bind fun t281=>(some (1,t281,true)))))=some (r1,r2,r3):=by rw [if_neg (show ¬ (false=true) by decide)] at H;exact H
     clear H
     have H:=H1
     clear H1
     replace H:=Option.bind_eq_some_iff.mp H
     obtain ⟨t280,A140,H⟩:=H
     replace H:(if t280=true then (some (0,(⟨#[]⟩:ByteArray),false)) else ((paths_below.f t274 t276).bind fun t281=>(some (1,t281,true))))=some (r1,r2,r3):=H
     have A14:=pz4.mk A140
     clear A140
     by_cases c15:t280=true
     ·subst c15
      have H1:(some (0,(⟨#[]⟩:ByteArray),false))=some (r1,r2,r3):=by rw [if_pos rfl] at H;exact H
      clear H
      have H:=H1
      clear H1
      simp only [Option.some.injEq,Prod.mk.injEq] at H
      obtain ⟨rfl,rfl,rfl⟩:=H
      go_enter Tryz.func67,Tryz.ntmps67
      go_wp2_with (first|((with_reducible refine pz8 (f:=41) rfl ?_);refine goesL_ (some 11) rfl rfl Tryz.func41 (by kernel_rfl) rfl #[.string a0] rfl (by (try simp only [List.map_toArray,List.map_cons,List.map_nil]);first|done|rfl|(simp only [List.length_drop,List.length_take];rfl)) ?_;(with_reducible refine (paths_split.calls a0 t274 t275 _ A2.out).mono ?_);rintro e w16 ⟨rfl,hb⟩;refine ⟨_,rfl,?_⟩;have n0_:=pz4.mk (below_step (by repeat (first|(with_reducible first|exact HB.out|apply pz3|apply pz1|apply pz2)|exact HB.out)) hb);clear HB;have HB:=n0_;clear n0_;(try clear hb);(try clear hb2);(try clear hk);(try clear hi))|((with_reducible refine pz8 (f:=99) rfl ?_);refine goesL_ (some 16) rfl rfl Tryz.func99 (by kernel_rfl) rfl #[.string t275,.string (⟨#[46,119,104,46]⟩:ByteArray)] rfl (by (try simp only [List.map_toArray,List.map_cons,List.map_nil]);first|done|rfl|(simp only [List.length_drop,List.length_take];rfl)) ?_;(with_reducible refine (strings_CutPrefix.calls t275 (⟨#[46,119,104,46]⟩:ByteArray) t276 true _ A3.out).mono ?_);rintro e w' ⟨rfl,⟨nd,rfl⟩⟩;refine ⟨_,rfl,?_⟩)|((with_reducible refine pz8 (f:=100) rfl ?_);refine goesL_ (some 21) rfl rfl Tryz.func100 (by kernel_rfl) rfl #[.string a0] rfl (by (try simp only [List.map_toArray,List.map_cons,List.map_nil]);first|done|rfl|(simp only [List.length_drop,List.length_take];rfl)) ?_;(with_reducible refine (paths_is.calls k a0 true _ (hG.ext (by repeat (first|(with_reducible first|exact HB.out|apply pz3|apply pz1|apply pz2)|exact HB.out))) A4.out).mono ?_);rintro e w17 ⟨rfl,hb⟩;refine ⟨_,rfl,?_⟩;have n0_:=pz4.mk (below_step (by repeat (first|(with_reducible first|exact HB.out|apply pz3|apply pz1|apply pz2)|exact HB.out)) hb);clear HB;have HB:=n0_;clear n0_;(try clear hb);(try clear hb2);(try clear hk);(try clear hi))|((with_reducible refine pz8 (f:=101) rfl ?_);refine goesL_ (some 33) rfl rfl Tryz.func101 (by kernel_rfl) rfl #[.string t276] rfl (by (try simp only [List.map_toArray,List.map_cons,List.map_nil]);first|done|rfl|(simp only [List.length_drop,List.length_take];rfl)) ?_;(with_reducible refine (pq14.calls t276 false _ A10.out).mono ?_);rintro e w' ⟨rfl,⟨nd,rfl⟩⟩;refine ⟨_,rfl,?_⟩)|(go_at_call 102;(with_reducible refine (pq10.calls t276 (⟨#[46,119,104,46]⟩:ByteArray) true _ A14.out).mono ?_);rintro e w' ⟨rfl,⟨nd,rfl⟩⟩))
      go_ret3
      exact ⟨by first|rfl|(simp [pz6,pz5] <;> rfl)|(simp [*,pz6,pz5] <;> rfl),by repeat (first|(with_reducible first|exact HB.out|apply pz3|apply pz1|apply pz2)|exact HB.out)⟩
     ·replace c15:=Bool.eq_false_iff.mpr c15
      subst c15
      have H1:((paths_below.f t274 t276).bind fun t281=>(some (1,t281,true)))=some (r1,r2,r3):=by rw [if_neg (show ¬ (false=true) by decide)] at H;exact H
      clear H
      have H:=H1
      clear H1
      replace H:=Option.bind_eq_some_iff.mp H
      obtain ⟨t281,A180,H⟩:=H
      replace H:(some (1,t281,true))=some (r1,r2,r3):=H
      have A18:=pz4.mk A180
      clear A180
      simp only [Option.some.injEq,Prod.mk.injEq] at H
      obtain ⟨rfl,rfl,rfl⟩:=H
      go_enter Tryz.func67,Tryz.ntmps67
      go_wp2_with (first|((with_reducible refine pz8 (f:=41) rfl ?_);refine goesL_ (some 11) rfl rfl Tryz.func41 (by kernel_rfl) rfl #[.string a0] rfl (by (try simp only [List.map_toArray,List.map_cons,List.map_nil]);first|done|rfl|(simp only [List.length_drop,List.length_take];rfl)) ?_;(with_reducible refine (paths_split.calls a0 t274 t275 _ A2.out).mono ?_);rintro e w19 ⟨rfl,hb⟩;refine ⟨_,rfl,?_⟩;have n0_:=pz4.mk (below_step (by repeat (first|(with_reducible first|exact HB.out|apply pz3|apply pz1|apply pz2)|exact HB.out)) hb);clear HB;have HB:=n0_;clear n0_;(try clear hb);(try clear hb2);(try clear hk);(try clear hi))|((with_reducible refine pz8 (f:=99) rfl ?_);refine goesL_ (some 16) rfl rfl Tryz.func99 (by kernel_rfl) rfl #[.string t275,.string (⟨#[46,119,104,46]⟩:ByteArray)] rfl (by (try simp only [List.map_toArray,List.map_cons,List.map_nil]);first|done|rfl|(simp only [List.length_drop,List.length_take];rfl)) ?_;(with_reducible refine (strings_CutPrefix.calls t275 (⟨#[46,119,104,46]⟩:ByteArray) t276 true _ A3.out).mono ?_);rintro e w' ⟨rfl,⟨nd,rfl⟩⟩;refine ⟨_,rfl,?_⟩)|((with_reducible refine pz8 (f:=100) rfl ?_);refine goesL_ (some 21) rfl rfl Tryz.func100 (by kernel_rfl) rfl #[.string a0] rfl (by (try simp only [List.map_toArray,List.map_cons,List.map_nil]);first|done|rfl|(simp only [List.length_drop,List.length_take];rfl)) ?_;(with_reducible refine (paths_is.calls k a0 true _ (hG.ext (by repeat (first|(with_reducible first|exact HB.out|apply pz3|apply pz1|apply pz2)|exact HB.out))) A4.out).mono ?_);rintro e w20 ⟨rfl,hb⟩;refine ⟨_,rfl,?_⟩;have n0_:=pz4.mk (below_step (by repeat (first|(with_reducible first|exact HB.out|apply pz3|apply pz1|apply pz2)|exact HB.out)) hb);clear HB;have HB:=n0_;clear n0_;(try clear hb);(try clear hb2);(try clear hk);(try clear hi))|((with_reducible refine pz8 (f:=101) rfl ?_);refine goesL_ (some 33) rfl rfl Tryz.func101 (by kernel_rfl) rfl #[.string t276] rfl (by (try simp only [List.map_toArray,List.map_cons,List.map_nil]);first|done|rfl|(simp only [List.length_drop,List.length_take];rfl)) ?_;(with_reducible refine (pq14.calls t276 false _ A10.out).mono ?_);rintro e w' ⟨rfl,⟨nd,rfl⟩⟩;refine ⟨_,rfl,?_⟩)|(go_at_call 102;(with_reducible refine (pq10.calls t276 (⟨#[46,119,104,46]⟩:ByteArray) false _ A14.out).mono ?_);rintro e w' ⟨rfl,⟨nd,rfl⟩⟩)|((with_reducible refine pz8 (f:=94) rfl ?_);refine goesL_ (some 40) rfl rfl Tryz.func94 (by kernel_rfl) rfl #[.string t274,.string t276] rfl (by (try simp only [List.map_toArray,List.map_cons,List.map_nil]);first|done|rfl|(simp only [List.length_drop,List.length_take];rfl)) ?_;(with_reducible refine (paths_below.calls t274 t276 t281 _ A18.out).mono ?_);rintro e w' ⟨rfl,⟨nd,rfl⟩⟩;refine ⟨_,rfl,?_⟩))
      go_ret3
      exact ⟨by first|rfl|(simp [pz6,pz5] <;> rfl)|(simp [*,pz6,pz5] <;> rfl),by repeat (first|(with_reducible first|exact HB.out|apply pz3|apply pz1|apply pz2)|exact HB.out)⟩
  ·replace c6:=Bool.eq_false_iff.mpr c6
   subst c6
   have H1:(some (0,a0,true))=some (r1,r2,r3):=by rw [if_neg (show ¬ (false=true) by decide)] at H;exact H
   clear H
   have H:=H1
   clear H1
   simp only [Option.some.injEq,Prod.mk.injEq] at H
   obtain ⟨rfl,rfl,rfl⟩:=H
   go_enter Tryz.func67,Tryz.ntmps67
   go_wp2_with (first|((with_reducible refine pz8 (f:=41) rfl ?_);refine goesL_ (some 11) rfl rfl Tryz.func41 (by kernel_rfl) rfl #[.string a0] rfl (by (try simp only [List.map_toArray,List.map_cons,List.map_nil]);first|done|rfl|(simp only [List.length_drop,List.length_take];rfl)) ?_;(with_reducible refine (paths_split.calls a0 t274 t275 _ A2.out).mono ?_);rintro e w21 ⟨rfl,hb⟩;refine ⟨_,rfl,?_⟩;have n0_:=pz4.mk (below_step (by repeat (first|(with_reducible first|exact HB.out|apply pz3|apply pz1|apply pz2)|exact HB.out)) hb);clear HB;have HB:=n0_;clear n0_;(try clear hb);(try clear hb2);(try clear hk);(try clear hi))|((with_reducible refine pz8 (f:=99) rfl ?_);refine goesL_ (some 16) rfl rfl Tryz.func99 (by kernel_rfl) rfl #[.string t275,.string (⟨#[46,119,104,46]⟩:ByteArray)] rfl (by (try simp only [List.map_toArray,List.map_cons,List.map_nil]);first|done|rfl|(simp only [List.length_drop,List.length_take];rfl)) ?_;(with_reducible refine (strings_CutPrefix.calls t275 (⟨#[46,119,104,46]⟩:ByteArray) t276 false _ A3.out).mono ?_);rintro e w' ⟨rfl,⟨nd,rfl⟩⟩;refine ⟨_,rfl,?_⟩)|((with_reducible refine pz8 (f:=100) rfl ?_);refine goesL_ (some 21) rfl rfl Tryz.func100 (by kernel_rfl) rfl #[.string a0] rfl (by (try simp only [List.map_toArray,List.map_cons,List.map_nil]);first|done|rfl|(simp only [List.length_drop,List.length_take];rfl)) ?_;(with_reducible refine (paths_is.calls k a0 true _ (hG.ext (by repeat (first|(with_reducible first|exact HB.out|apply pz3|apply pz1|apply pz2)|exact HB.out))) A4.out).mono ?_);rintro e w22 ⟨rfl,hb⟩;refine ⟨_,rfl,?_⟩;have n0_:=pz4.mk (below_step (by repeat (first|(with_reducible first|exact HB.out|apply pz3|apply pz1|apply pz2)|exact HB.out)) hb);clear HB;have HB:=n0_;clear n0_;(try clear hb);(try clear hb2);(try clear hk);(try clear hi)))
   go_ret3
   exact ⟨by first|rfl|(simp [pz6,pz5] <;> rfl)|(simp [*,pz6,pz5] <;> rfl),by repeat (first|(with_reducible first|exact HB.out|apply pz3|apply pz1|apply pz2)|exact HB.out)⟩
 ·replace c5:=Bool.eq_false_iff.mpr c5
  subst c5
  have H1:(some (0,(⟨#[]⟩:ByteArray),false))=some (r1,r2,r3):=by rw [if_neg (show ¬ (false=true) by decide)] at H;exact H
  clear H
  have H:=H1
  clear H1
  simp only [Option.some.injEq,Prod.mk.injEq] at H
  obtain ⟨rfl,rfl,rfl⟩:=H
  go_enter Tryz.func67,Tryz.ntmps67
  go_wp2_with (first|((with_reducible refine pz8 (f:=41) rfl ?_);refine goesL_ (some 11) rfl rfl Tryz.func41 (by kernel_rfl) rfl #[.string a0] rfl (by (try simp only [List.map_toArray,List.map_cons,List.map_nil]);first|done|rfl|(simp only [List.length_drop,List.length_take];rfl)) ?_;(with_reducible refine (paths_split.calls a0 t274 t275 _ A2.out).mono ?_);rintro e w23 ⟨rfl,hb⟩;refine ⟨_,rfl,?_⟩;have n0_:=pz4.mk (below_step (by repeat (first|(with_reducible first|exact HB.out|apply pz3|apply pz1|apply pz2)|exact HB.out)) hb);clear HB;have HB:=n0_;clear n0_;(try clear hb);(try clear hb2);(try clear hk);(try clear hi))|((with_reducible refine pz8 (f:=99) rfl ?_);refine goesL_ (some 16) rfl rfl Tryz.func99 (by kernel_rfl) rfl #[.string t275,.string (⟨#[46,119,104,46]⟩:ByteArray)] rfl (by (try simp only [List.map_toArray,List.map_cons,List.map_nil]);first|done|rfl|(simp only [List.length_drop,List.length_take];rfl)) ?_;(with_reducible refine (strings_CutPrefix.calls t275 (⟨#[46,119,104,46]⟩:ByteArray) t276 t277 _ A3.out).mono ?_);rintro e w' ⟨rfl,⟨nd,rfl⟩⟩;refine ⟨_,rfl,?_⟩)|((with_reducible refine pz8 (f:=100) rfl ?_);refine goesL_ (some 21) rfl rfl Tryz.func100 (by kernel_rfl) rfl #[.string a0] rfl (by (try simp only [List.map_toArray,List.map_cons,List.map_nil]);first|done|rfl|(simp only [List.length_drop,List.length_take];rfl)) ?_;(with_reducible refine (paths_is.calls k a0 false _ (hG.ext (by repeat (first|(with_reducible first|exact HB.out|apply pz3|apply pz1|apply pz2)|exact HB.out))) A4.out).mono ?_);rintro e w24 ⟨rfl,hb⟩;refine ⟨_,rfl,?_⟩;have n0_:=pz4.mk (below_step (by repeat (first|(with_reducible first|exact HB.out|apply pz3|apply pz1|apply pz2)|exact HB.out)) hb);clear HB;have HB:=n0_;clear n0_;(try clear hb);(try clear hb2);(try clear hk);(try clear hi)))
  go_ret3
  exact ⟨by first|rfl|(simp [pz6,pz5] <;> rfl)|(simp [*,pz6,pz5] <;> rfl),by repeat (first|(with_reducible first|exact HB.out|apply pz3|apply pz1|apply pz2)|exact HB.out)⟩
end Go.Proofs.Zq
end
