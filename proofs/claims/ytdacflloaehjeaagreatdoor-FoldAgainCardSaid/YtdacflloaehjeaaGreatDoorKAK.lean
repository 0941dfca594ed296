/- A part of a proof of statements of this seat: what its walks and its laws lean on; joined by a program of this repo (wip/pack.py) out of the texts XFold, XTrees, XFold2, XLw, XFew18, XSm18, Last, Again. -/
import Derived.Deep.Slices
import Derived.Test.YtdacflloaehjeaaGreatDoorKAE
import Derived.Test.YtdacflloaehjeaaGreatDoorKAJ
set_option linter.unusedSimpArgs false
set_option linter.unusedVariables false
section
namespace Go.Proofs.YtdacflloaehjeaaGreatDoorQ
open Go.RowKit Go.Shelf Go.Proofs.YtdacflloaehjeaaGreatDoor Go.Proofs.YtdacflloaehjeaaGreatDoorW.PrintWords Go.Proofs.YtdacflloaehjeaaGreatDoorW.PrintLast Go.Proofs.YtdacflloaehjeaaGreatDoorW.PrintMore
open Go.Proofs.YtdacflloaehjeaaGreatDoorT (applyM ontoGo ontoM rightT Ch)
theorem steps_calls (w:World) (v0 v1:Value) (A0:Option Addr) (n0 c0:Nat) (A1:Option Addr) (n1 c1:Nat) (e0:v0=.slice A0 n0 c0) (e1:v1=.slice A1 n1 c1):Calls Tryz.prog 69 #[v0,v1] w fun e w' =>
    e=.returned (.func (.func 107) #[] #[.pointer (some ⟨w.heap.size + 1,0,none⟩),.pointer (some ⟨w.heap.size,0,none⟩)])∧w'=(w.alloc (.cells #[v0] 22 (0,0))).alloc (.cells #[v1] 47 (0,0)):=by
  subst e0
  subst e1
  go_enter Tryz.func69,Tryz.ntmps69
  go_wp2
  go_ret
  exact ⟨rfl,rfl⟩
theorem set_far (W:World) (a b:Nat) (u:Value) (h:a≠b):(W.setCell ⟨a,0,none⟩ u).heap[b]?=W.heap[b]?:=by
  simp only [World.setCell,Array.getElem?_modify]
  rw [if_neg h]
theorem own_lt {W:World} {nb b:Nat} {v:Value} {l:List (Str×Nd)} (h:Go.Proofs.YtdacflloaehjeaaGreatDoor.Owr eCells 39 11 nb W v l) (hb:W.heap.size≤b):v.ownBlock=none∨v.ownBlock≠some b:=by
  rcases h.2 with ⟨hv,_⟩|⟨g,cap,cur,hv,_,hg,_⟩
  · subst hv;exact .inl rfl
  · subst hv
    refine .inr fun h=>?_
    have h1:g=b:=Option.some.inj h
    have h2:=(Array.getElem?_eq_some_iff.1 hg).1
    omega
structure Box3 (W:World) (n:Nat) (u4 u5 u6:Value):Prop where
  b4:W.heap[n]?=some (.cells #[u4] 22 (0,0))
  b5:W.heap[n + 1]?=some (.cells #[u5] 3 (0,0))
  b6:W.heap[n + 1 + 1]?=some (.cells #[u6] 43 (0,0))
theorem Box3.ext {W W':World} {n:Nat} {u4 u5 u6:Value} (h:Box3 W n u4 u5 u6) (hb:Below W.heap.size W W'):Box3 W' n u4 u5 u6:=⟨blk_below h.b4 hb,blk_below h.b5 hb,blk_below h.b6 hb⟩
theorem three_new (w:World) (o1 o2 o3:Obj):(((w.alloc o1).alloc o2).alloc o3).heap[w.heap.size]?=some o1∧(((w.alloc o1).alloc o2).alloc o3).heap[w.heap.size + 1]?=some o2∧(((w.alloc o1).alloc o2).alloc o3).heap[w.heap.size + 1 + 1]?=some o3:=by
  have h4:=World.alloc_heap_new w o1
  have h5:=World.alloc_heap_new (w.alloc o1) o2
  have h6:=World.alloc_heap_new ((w.alloc o1).alloc o2) o3
  simp only [World.size_alloc] at h5 h6
  exact ⟨(Below.heap_alloc _ _ _ (by simp;omega)).trans ((Below.heap_alloc _ _ _ (by simp)).trans h4),(Below.heap_alloc _ _ _ (by simp)).trans h5,h6⟩
theorem box3_new (w:World) (u4 u5 u6:Value):Box3 (((w.alloc (.cells #[u4] 22 (0,0))).alloc (.cells #[u5] 3 (0,0))).alloc (.cells #[u6] 43 (0,0))) w.heap.size u4 u5 u6 :=
  ⟨(three_new w _ _ _).1,(three_new w _ _ _).2.1,(three_new w _ _ _).2.2⟩
theorem Box3.put {w W:World} {n:Nat} {u4 u5 u6:Value} (h:Box3 W n u4 u5 u6) (hn:w.heap.size≤n) (hb:Below w.heap.size w W) (x y z:Value) :
    Box3 (((W.setCell ⟨n,0,none⟩ x).setCell ⟨n + 1,0,none⟩ y).setCell ⟨n + 1 + 1,0,none⟩ z) n x y z∧Below w.heap.size w (((W.setCell ⟨n,0,none⟩ x).setCell ⟨n + 1,0,none⟩ y).setCell ⟨n + 1 + 1,0,none⟩ z):=by
  have o:∀ (V:World) (a b:Nat) (u:Value),a≠b→(V.setCell ⟨a,0,none⟩ u).heap[b]?=V.heap[b]?:=set_far
  have h5:(W.setCell ⟨n,0,none⟩ x).heap[n + 1]?=some (.cells #[u5] 3 (0,0)):=(o _ _ _ _ (by omega)).trans h.b5
  have h6:((W.setCell ⟨n,0,none⟩ x).setCell ⟨n + 1,0,none⟩ y).heap[n + 1 + 1]?=some (.cells #[u6] 43 (0,0)):=((o _ _ _ _ (by omega)).trans (o _ _ _ _ (by omega))).trans h.b6
  refine ⟨⟨((o _ _ _ _ (by omega)).trans (o _ _ _ _ (by omega))).trans (Go.Proofs.YtdacflloaehjeaaGreatDoor.heap_set h.b4 0 x),(o _ _ _ _ (by omega)).trans (Go.Proofs.YtdacflloaehjeaaGreatDoor.heap_set h5 0 y),Go.Proofs.YtdacflloaehjeaaGreatDoor.heap_set h6 0 z⟩,?_⟩
  exact ((hb.setCell (p:=⟨n,0,none⟩) hn x).setCell (p:=⟨n + 1,0,none⟩) (by show _≤n + 1;omega) y).setCell (p:=⟨n + 1 + 1,0,none⟩) (by show _≤n + 1 + 1;omega) z
theorem res3 {W:World} {n:Nat} {x y z:Value} (h:Box3 W n x y z) (tmps:Array Value) (h4:tmps[4]?.getD undef=.pointer (some ⟨n,0,none⟩)) (h5:tmps[5]?.getD undef=.pointer (some ⟨n + 1,0,none⟩)) (h6:tmps[6]?.getD undef=.pointer (some ⟨n + 1 + 1,0,none⟩)) :
    (results Tryz.f35 tmps).run Tryz.prog W=.ok (.tuple #[x,y,z]) W:=by
  have q4:W.cell? ⟨n,0,none⟩=some x:=Go.Proofs.YtdacflloaehjeaaGreatDoor.blk_cell h.b4 0
  have q5:W.cell? ⟨n + 1,0,none⟩=some y:=Go.Proofs.YtdacflloaehjeaaGreatDoor.blk_cell h.b5 0
  have q6:W.cell? ⟨n + 1 + 1,0,none⟩=some z:=Go.Proofs.YtdacflloaehjeaaGreatDoor.blk_cell h.b6 0
  have hu4:=Tryz.underlying22
  have hu5:=Tryz.underlying3
  have hu6:=Tryz.underlying43
  simp [results,Tryz.f35,go_sem,q4,q5,q6,h4,h5,h6,hu4,hu5,hu6]
theorem RecAt.ext {L D:Nat} {r:Loop} {W W':World} (h:RecAt L D r W) (hb:Below W.heap.size W W'):RecAt L D r W' :=
  ⟨(hb.block _ (Array.getElem?_eq_some_iff.1 h.1).1).trans h.1,(hb.block _ (Array.getElem?_eq_some_iff.1 h.2).1).trans h.2⟩
theorem RecAt.set {L D b:Nat} {r:Loop} {W:World} (h:RecAt L D r W) (u:Value) (hL:b≠L) (hD:b≠D):RecAt L D r (W.setCell ⟨b,0,none⟩ u):=⟨(set_far W b L u hL).trans h.1,(set_far W b D u hD).trans h.2⟩
theorem Box3.set {W:World} {n b:Nat} {u4 u5 u6:Value} (h:Box3 W n u4 u5 u6) (u:Value) (h4:b≠n) (h5:b≠n + 1) (h6:b≠n + 1 + 1):Box3 (W.setCell ⟨b,0,none⟩ u) n u4 u5 u6:=⟨(set_far W b n u h4).trans h.b4,(set_far W b (n + 1) u h5).trans h.b5,(set_far W b (n + 1 + 1) u h6).trans h.b6⟩
theorem put_cell (W:World) (L b j:Nat) (o:Obj) (h:b≠L):(W.putObj L o).cell? ⟨b,j,none⟩=W.cell? ⟨b,j,none⟩:=by
  unfold World.cell?
  rw [World.putObj_heap_other h]
theorem Box3.far {W:World} {n L:Nat} {u4 u5 u6:Value} (h:Box3 W n u4 u5 u6) (o:Obj) (hL:n + 1 + 1<L):Box3 (W.putObj L o) n u4 u5 u6:=⟨(World.putObj_heap_other (by omega)).trans h.b4,(World.putObj_heap_other (by omega)).trans h.b5,(World.putObj_heap_other (by omega)).trans h.b6⟩
theorem box_end {w W2:World} {n L D sb tb nb:Nat} {u4 u5 u6 q:Value} {c:Option Value} {k:Option Obj} {r:Loop} {l:List (Str×Nd)} (hn:w.heap.size≤n) (h3:Box3 W2 n u4 u5 u6) (hb:Below w.heap.size w W2) (hr:RecAt L D r W2) (ho:Go.Proofs.YtdacflloaehjeaaGreatDoor.Owr eCells 39 11 nb W2 q l)
    (hs:W2.cell? ⟨sb,0,none⟩=c) (ht:W2.heap[tb]?=k) (hz:nb≤W2.heap.size) (h1:n + 1 + 1<sb) (h2:n + 1 + 1<tb) (h4:n + 1 + 1<D) (h5:n + 1 + 1<L) (h6:n + 1 + 1<nb) {x y z:Value} :
    ∀ V,V=(((W2.setCell ⟨n,0,none⟩ x).setCell ⟨n + 1,0,none⟩ y).setCell ⟨n + 1 + 1,0,none⟩ z).drew →
    RecAt L D r V∧(V.cell? ⟨sb,0,none⟩=c∧V.heap[tb]?=k∧Go.Proofs.YtdacflloaehjeaaGreatDoor.Owr eCells 39 11 nb V q l∧Below w.heap.size w V∧nb≤V.heap.size)∧Box3 V n x y z:=by
  rintro V rfl
  obtain ⟨p1,p2⟩:=h3.put (w:=w) hn hb x y z
  have hr3:=((hr.set (b:=n) x (by omega) (by omega)).set (b:=n + 1) y (by omega) (by omega)).set (b:=n + 1 + 1) z (by omega) (by omega)
  refine ⟨⟨hr3.1,hr3.2⟩,⟨?_,?_,?_,p2.drew,?_⟩,⟨p1.b4,p1.b5,p1.b6⟩⟩
  · refine Eq.trans ?_ hs
    exact (((World.cell?_setCell_far _ ⟨n + 1 + 1,0,none⟩ ⟨sb,0,none⟩ z (by show n + 1 + 1≠sb;omega)).trans (World.cell?_setCell_far _ ⟨n + 1,0,none⟩ ⟨sb,0,none⟩ y (by show n + 1≠sb;omega))).trans (World.cell?_setCell_far _ ⟨n,0,none⟩ ⟨sb,0,none⟩ x (by show n≠sb;omega)))
  · exact (((set_far _ _ _ _ (by omega)).trans (set_far _ _ _ _ (by omega))).trans (set_far _ _ _ _ (by omega))).trans ht
  · exact ((((ho.kept (grownBy_setCell' _ n x) (own_block ho (by omega))).kept (grownBy_setCell' _ (n + 1) y) (own_block ho (by omega))).kept (grownBy_setCell' _ (n + 1 + 1) z) (own_block ho (by omega)))).ext (Below.refl _ _).drew
  · simp;exact hz
attribute [local go_sem] Oper.semAt_some
set_option maxRecDepth 100000 in
set_option maxHeartbeats 4000000 in
theorem onto_calls (w:World) (hG:GL w) (A0:Option Addr) (c0:Nat) (l0:List S39) (hr0:Kd.C k39 w A0 l0.length l0) (hc0:l0.length≤c0) (hf0:rowFits' l0)
    (A1:Option Addr) (c1:Nat) (s:List (List S59)) (hS:Kd.C (Kd.slice 59 k59) w A1 s.length s) (hs:s.length≤1000000) (hf:∀ l ∈ s,lyrFits' l) :
    Calls Tryz.prog 35 #[.slice A0 l0.length c0,.slice A1 s.length c1] w fun e w'=>∃ v:Value,e=.returned (.tuple #[v,.int .i64 ((ontoM Y (l0.map enOf) (s.map (List.map chOf))).2.1:Int),.int .i64 (ontoM Y (l0.map enOf) (s.map (List.map chOf))).2.2]) ∧
      Go.Proofs.YtdacflloaehjeaaGreatDoor.Owr eCells 39 11 w.heap.size w' v (ontoM Y (l0.map enOf) (s.map (List.map chOf))).1∧Below w.heap.size w w':=by
  have HR0:=Lib.hid hr0
  have HC0:=Lib.hid hc0
  have HF0:=Lib.hid hf0
  have HS:=Lib.hid hS
  have HL:=Lib.hid hs
  have HF:=Lib.hid hf
  clear hr0 hc0 hf0 hS hs hf
  refine (callsIn_wide (n:=6)).1 ?_
  refine callsIn_of_wp_marks Tryz.func35 rfl trivial ?_ rfl
  simp only [Tryz.ntmps35,List.size_toArray,List.length_cons,List.length_nil,Nat.reduceAdd,Nat.reduceSub,Array.replicate_succ,Array.replicate_zero,List.push_toArray,List.append_toArray,List.nil_append,List.cons_append]
  gi_wp2_with fail
  have hbx:=box3_new w (.slice none 0 0) (.int .i64 0) (.int .i64 0)
  have hbw:Below w.heap.size w (((w.alloc (.cells #[.slice none 0 0] 22 (0,0))).alloc (.cells #[.int .i64 0] 3 (0,0))).alloc (.cells #[.int .i64 0] 43 (0,0))):=(((Below.refl _ w).alloc (Nat.le_refl _) _).alloc (by simp) _).alloc (by simp;omega) _
  have hsz:(((w.alloc (.cells #[.slice none 0 0] 22 (0,0))).alloc (.cells #[.int .i64 0] 3 (0,0))).alloc (.cells #[.int .i64 0] 43 (0,0))).heap.size=w.heap.size + 1 + 1 + 1:=by simp
  generalize ((w.alloc (.cells #[.slice none 0 0] 22 (0,0))).alloc (.cells #[.int .i64 0] 3 (0,0))).alloc (.cells #[.int .i64 0] 43 (0,0))=wa at hbx hbw hsz ⊢
  have HRT:=tright_calls wa (hG.ext hbw) A0 c0 l0 (Kd.C_below HR0.out hbw) HC0.out HF0.out.1 HF0.out.2
  refine ⟨trivial,(callsIn_wide.2 HRT).mono ?_⟩
  clear HRT
  rintro e w1 ⟨rfl,hb⟩
  have HBX:=Lib.hid (hbx.ext hb)
  have HW1:=Lib.hid (Go.Proofs.YtdacflloaehjeaaGreatDoor.below_then hbw hb)
  have HZ1:Hid (w.heap.size + 1 + 1 + 1≤w1.heap.size):=Lib.hid (by have:=hb.size;omega)
  clear hbx hbw hsz hb
  have q4:w1.cell? ⟨w.heap.size,0,none⟩=some (.slice none 0 0):=Go.Proofs.YtdacflloaehjeaaGreatDoor.blk_cell HBX.out.b4 0
  have q5:w1.cell? ⟨w.heap.size + 1,0,none⟩=some (.int .i64 0):=Go.Proofs.YtdacflloaehjeaaGreatDoor.blk_cell HBX.out.b5 0
  have q6:w1.cell? ⟨w.heap.size + 1 + 1,0,none⟩=some (.int .i64 0):=Go.Proofs.YtdacflloaehjeaaGreatDoor.blk_cell HBX.out.b6 0
  have d4:=Go.Proofs.YtdacflloaehjeaaGreatDoor.blk_free HBX.out.b4 0
  have d5:=Go.Proofs.YtdacflloaehjeaaGreatDoor.blk_free HBX.out.b5 0
  have d6:=Go.Proofs.YtdacflloaehjeaaGreatDoor.blk_free HBX.out.b6 0
  cases hrt:rightT Y (l0.map enOf) with
  | false =>
    have HM:Hid (ontoM Y (l0.map enOf) (s.map (List.map chOf))=([],0,1)):=Lib.hid (by unfold ontoM;rw [hrt];rfl)
    have HP:=HBX.out.put (w:=w) (Nat.le_refl _) HW1.out (.slice none 0 0) (.int .i64 0) (.int .i64 1)
    gi_wp2_with fail
    refine ⟨_,res3 HP.1 _ rfl rfl rfl,?_⟩
    exact ⟨_,by rw [HM.out];rfl,by rw [HM.out];exact Go.Proofs.YtdacflloaehjeaaGreatDoor.Owr.nil _ _ _ _ _,HP.2⟩
  | true =>
  have HM:Hid (ontoM Y (l0.map enOf) (s.map (List.map chOf))=ontoGo Y 0 (l0.map enOf) (s.map (List.map chOf))):=Lib.hid (by unfold ontoM;rw [hrt];rfl)
  clear hrt q4 q5 q6 d4 d5 d6
  gi_wp2_with fail
  refine ⟨trivial,(callsIn_wide.2 (clone_en_calls w1 A0 c0 l0 (Kd.C_below HR0.out HW1.out) HF0.out.2)).mono ?_⟩
  rintro e w2 ⟨cl,rfl,ho,hb⟩
  obtain ⟨acl,ccl,rfl,_,_⟩:=Go.Proofs.YtdacflloaehjeaaGreatDoor.Owr.val ho
  simp only [List.length_map] at ho
  have HCL:=Lib.hid ho
  have HBX2:=Lib.hid (HBX.out.ext hb)
  have HW2:=Lib.hid (Go.Proofs.YtdacflloaehjeaaGreatDoor.below_then HW1.out hb)
  have HZ2:Hid (w.heap.size + 1 + 1 + 1≤w2.heap.size):=Lib.hid (by have:=hb.size;have:=HZ1.out;omega)
  have HZZ:=Lib.hid hb.size
  clear ho hb HBX HW1
  gi_wp2_with fail
  refine ⟨trivial,(callsIn_wide.2 (steps_calls _ _ _ A0 l0.length c0 A1 s.length c1 rfl rfl)).mono ?_⟩
  rintro e w5 ⟨rfl,hw5⟩
  simp only [World.size_alloc] at hw5 ⊢
  have HN:Hid (w5.heap.size=w2.heap.size + 1 + 1 + 1):=Lib.hid (by rw [hw5];simp)
  have hb5:Below w2.heap.size w2 w5:=by rw [hw5];exact (((Below.refl _ w2).alloc (Nat.le_refl _) _).alloc (by simp) _).alloc (by simp;omega) _
  obtain ⟨k7,kt,ks⟩:w5.heap[w2.heap.size]?=some (.cells #[.slice acl l0.length ccl] 22 (0,0))∧w5.heap[w2.heap.size + 1]?=some (.cells #[.slice A0 l0.length c0] 22 (0,0))∧w5.heap[w2.heap.size + 1 + 1]?=some (.cells #[.slice A1 s.length c1] 47 (0,0)):=by rw [hw5];simpa using three_new w2 _ _ _
  have HO7:=Lib.hid k7
  have HTB:=Lib.hid kt
  have HSB:=Lib.hid ks
  have HCL5:=Lib.hid (Go.Proofs.YtdacflloaehjeaaGreatDoor.Owr.ext HCL.out hb5)
  have HBX5:=Lib.hid (HBX2.out.ext hb5)
  have HW5:=Lib.hid (Go.Proofs.YtdacflloaehjeaaGreatDoor.below_then HW2.out hb5)
  have HCB:Hid (∀ b,b<w.heap.size + 1 + 1 + 1∨w2.heap.size≤b→(Value.slice acl l0.length ccl).ownBlock=none∨(Value.slice acl l0.length ccl).ownBlock≠some b):=Lib.hid fun b hb=>hb.elim (fun h=>own_block HCL.out (by have:=HZ1.out;omega)) (fun h=>own_lt HCL.out h)
  clear k7 kt ks hw5 hb5 HCL HBX2 HW2
  gi_wp2_with fail
  have hw2:=HZ2.out
  have hn5:=HN.out
  refine range_mem rfl (by omega) (gf:=107) (lb:=#[.pointer (some ⟨w2.heap.size + 1 + 1,0,none⟩),.pointer (some ⟨w2.heap.size + 1,0,none⟩)]) rfl trivial (enters_of Tryz.func107 (by kernel_rfl) rfl)
    (fun pe W=>Below w.heap.size w W∧((pe=none∧∃ t u,ontoGo Y 0 (l0.map enOf) (s.map (List.map chOf))=(t,s.length,0)∧W.heap[w2.heap.size]?=some (.cells #[u] 22 (0,0))∧Go.Proofs.YtdacflloaehjeaaGreatDoor.Owr eCells 39 11 w.heap.size W u t∧(∀ b,b<w.heap.size + 1 + 1 + 1∨w2.heap.size≤b∧b<w5.heap.size + 1 + 1→u.ownBlock=none∨u.ownBlock≠some b)∧Box3 W w.heap.size (.slice none 0 0) (.int .i64 0) (.int .i64 0)) ∨
      (pe=some .ret∧∃ (i:Nat) (err:Int),ontoGo Y 0 (l0.map enOf) (s.map (List.map chOf))=([],i,err)∧Box3 W w.heap.size (.slice none 0 0) (.int .i64 i) (.int .i64 err)))) ?hit ?hdone ?hstop
  case hit =>
    intro fn hfn W1 hW1 hrec
    generalize hrd:(Rec fn _ _ _ _ w5.heap.size)=rd at hrec ⊢
    have hb1:Below w5.heap.size w5 W1:=by rw [hW1];exact ((Below.refl _ w5).alloc (Nat.le_refl _) _).alloc (by simp) _
    have hs1:W1.heap.size=w5.heap.size + 1 + 1:=by rw [hW1];simp
    clear hW1
    refine (steps1_in 4 w hG A1 c1 s HS.out HL.out HF.out (w2.heap.size + 1 + 1) (w2.heap.size + 1) (w5.heap.size + 1 + 1) (w5.heap.size + 1) (by omega) (by omega) (by omega) (by omega)
      (fun i _ v W=>RecAt (w5.heap.size + 1) w5.heap.size (rd .ready none) W∧Box3 W w.heap.size (.slice none 0 0) (.int .i64 0) (.int .i64 0)∧(∃ u,W.heap[w2.heap.size]?=some (.cells #[u] 22 (0,0))∧(i=0→u=.slice acl l0.length ccl)∧(i≠0→u=v))∧(i=0→Go.Proofs.YtdacflloaehjeaaGreatDoor.Owr eCells 39 11 w1.heap.size W (.slice acl l0.length ccl) (l0.map enOf)))
      (fun i err W=>RecAt (w5.heap.size + 1) w5.heap.size (rd .done (some .ret)) W∧Box3 W w.heap.size (.slice none 0 0) (.int .i64 i) (.int .i64 err))
      ?hX ?hY W1 (l0.map enOf) (.slice A0 l0.length c0) ?h0 (.inl ⟨rfl,A0,c0,l0,rfl,HC0.out,HR0.out,rfl⟩) HF0.out.1 (by rw [List.length_map];exact HF0.out.2)
      (Go.Proofs.YtdacflloaehjeaaGreatDoor.blk_cell (blk_below HSB.out hb1) 0) (blk_below HTB.out hb1) (by omega) (Go.Proofs.YtdacflloaehjeaaGreatDoor.below_then HW5.out hb1)).mono ?_
    case h0 =>
      exact ⟨hrec,HBX5.out.ext hb1,⟨_,blk_below HO7.out hb1,fun _=>rfl,fun h=>absurd rfl h⟩,fun _=>Go.Proofs.YtdacflloaehjeaaGreatDoor.Owr.ext HCL5.out hb1⟩
    case hX =>
      rintro i t v W u ⟨x1,x2,⟨z,x3,x4,x5⟩,x6⟩ hn
      exact ⟨x1.set u (by omega) (by omega),x2.set u (by omega) (by omega) (by omega),⟨z,(set_far _ _ _ u (by omega)).trans x3,x4,x5⟩,fun h=>(x6 h).kept (grownBy_setCell' _ _ _) (HCB.out _ (.inr (by omega)))⟩
    case hY =>
      rintro i t v W V x rows err hi _ ⟨x1,x2,⟨z,x3,_,_⟩,_⟩ hn hbV hbW ho
      obtain ⟨ax,cx,rfl,_,_⟩:=Go.Proofs.YtdacflloaehjeaaGreatDoor.Owr.val ho
      have r1:=x1.ext hbW
      have r2:=x2.ext hbW
      have r3:=blk_below x3 hbW
      have hnV:w5.heap.size + 1 + 1≤V.heap.size:=Nat.le_trans hn hbW.size
      subst hrd
      refine (yield_mem (by omega) hfn r1 rfl (fun W'=>(W'.cell? ⟨w2.heap.size + 1 + 1,0,none⟩=V.cell? ⟨w2.heap.size + 1 + 1,0,none⟩∧W'.heap[w2.heap.size + 1]?=V.heap[w2.heap.size + 1]?∧Go.Proofs.YtdacflloaehjeaaGreatDoor.Owr eCells 39 11 (w5.heap.size + 1 + 1) W' (.slice ax rows.length cx) rows∧Below w.heap.size w W'∧w5.heap.size + 1 + 1≤W'.heap.size)∧err=0∧Box3 W' w.heap.size (.slice none 0 0) (.int .i64 0) (.int .i64 0)∧W'.heap[w2.heap.size]?=some (.cells #[.slice ax rows.length cx] 22 (0,0)))
        (fun c W'=>(W'.cell? ⟨w2.heap.size + 1 + 1,0,none⟩=V.cell? ⟨w2.heap.size + 1 + 1,0,none⟩∧W'.heap[w2.heap.size + 1]?=V.heap[w2.heap.size + 1]?∧Go.Proofs.YtdacflloaehjeaaGreatDoor.Owr eCells 39 11 (w5.heap.size + 1 + 1) W' (.slice ax rows.length cx) rows∧Below w.heap.size w W'∧w5.heap.size + 1 + 1≤W'.heap.size)∧c=.ret∧err≠0∧Box3 W' w.heap.size (.slice none 0 0) (.int .i64 i) (.int .i64 err)) ?_).mono ?_
      · clear hn5
        gi_wp2_with fail
        refine ⟨r1.ext (Go.Proofs.YtdacflloaehjeaaGreatDoor.below_new _ _),?_⟩
        intro W2 hW2 hr2
        replace hW2:=hW2.out
        replace hr2:=hr2.out
        have hn5:=HN.out
        have hV1:=Go.Proofs.YtdacflloaehjeaaGreatDoor.below_new V (.cells #[.slice ax rows.length cx,.int .i64 err] 91 (0,0))
        have k9:W2.heap[V.heap.size]?=some (.cells #[.slice ax rows.length cx,.int .i64 err] 91 (0,0)):=by rw [hW2];exact (World.putObj_heap_other (by omega)).trans (World.alloc_heap_new V _)
        have k3:Box3 W2 w.heap.size (.slice none 0 0) (.int .i64 0) (.int .i64 0):=by rw [hW2];exact (r2.ext hV1).far _ (by omega)
        have k7:W2.heap[w2.heap.size]?=some (.cells #[z] 22 (0,0)):=by rw [hW2];exact (World.putObj_heap_other (by omega)).trans (blk_below r3 hV1)
        have ks:W2.cell? ⟨w2.heap.size + 1 + 1,0,none⟩=V.cell? ⟨w2.heap.size + 1 + 1,0,none⟩:=by rw [hW2];exact (put_cell _ _ _ _ _ (by omega)).trans (hV1.cell (by show w2.heap.size + 1 + 1<V.heap.size;omega))
        have kt:W2.heap[w2.heap.size + 1]?=V.heap[w2.heap.size + 1]?:=by rw [hW2];exact (World.putObj_heap_other (by omega)).trans (hV1.block (w2.heap.size + 1) (by have:=hnV;have:=hn5;omega))
        have ko:Go.Proofs.YtdacflloaehjeaaGreatDoor.Owr eCells 39 11 (w5.heap.size + 1 + 1) W2 (.slice ax rows.length cx) rows:=by rw [hW2];exact (Go.Proofs.YtdacflloaehjeaaGreatDoor.Owr.ext ho hV1).kept (grownBy_putObj' _ _ _) (own_block ho (by omega))
        have kb:Below w.heap.size w W2:=by
          have h1:=Go.Proofs.YtdacflloaehjeaaGreatDoor.below_then hbV hV1
          rw [hW2]
          exact h1.trans (belowK_b (w:=w) (Nat.le_refl _) _ (w5.heap.size + 1) _ _ (by omega) (r1.ext hV1).1 rfl rfl)
        have kz:w5.heap.size + 1 + 1≤W2.heap.size:=by rw [hW2];simp;omega
        have K3:=Lib.hid k3
        have K7:=Lib.hid k7
        have KS:=Lib.hid ks
        have KT:=Lib.hid kt
        have KO:=Lib.hid ko
        have KB:=Lib.hid kb
        have KZ:=Lib.hid kz
        have KR:=Lib.hid hr2
        have q9:W2.cell? ⟨V.heap.size,0,none⟩=some (.slice ax rows.length cx):=Go.Proofs.YtdacflloaehjeaaGreatDoor.blk_cell k9 0
        have q8:W2.cell? ⟨V.heap.size,1,none⟩=some (.int .i64 err):=Go.Proofs.YtdacflloaehjeaaGreatDoor.blk_cell k9 1
        have q7:W2.cell? ⟨w2.heap.size,0,none⟩=some z:=Go.Proofs.YtdacflloaehjeaaGreatDoor.blk_cell k7 0
        have d7:=Go.Proofs.YtdacflloaehjeaaGreatDoor.blk_free k7 0
        have q4:W2.cell? ⟨w.heap.size,0,none⟩=some (.slice none 0 0):=Go.Proofs.YtdacflloaehjeaaGreatDoor.blk_cell k3.b4 0
        have q5:W2.cell? ⟨w.heap.size + 1,0,none⟩=some (.int .i64 0):=Go.Proofs.YtdacflloaehjeaaGreatDoor.blk_cell k3.b5 0
        have q6:W2.cell? ⟨w.heap.size + 1 + 1,0,none⟩=some (.int .i64 0):=Go.Proofs.YtdacflloaehjeaaGreatDoor.blk_cell k3.b6 0
        have d4:=Go.Proofs.YtdacflloaehjeaaGreatDoor.blk_free k3.b4 0
        have d5:=Go.Proofs.YtdacflloaehjeaaGreatDoor.blk_free k3.b5 0
        have d6:=Go.Proofs.YtdacflloaehjeaaGreatDoor.blk_free k3.b6 0
        clear hn5 hW2 hr2 k9 k3 k7 ks kt ko kb kz hV1 x1 x2 x3 r1 r2 r3 ho hbV hbW
        by_cases herr:err=0
        · subst herr
          gi_wp2_with fail
          have hn5:=HN.out
          exact ⟨KR.out.set _ (by omega) (by omega),⟨(World.cell?_setCell_far W2 ⟨w2.heap.size,0,none⟩ ⟨w2.heap.size + 1 + 1,0,none⟩ _ (by show w2.heap.size≠w2.heap.size + 1 + 1;omega)).trans KS.out,(set_far _ _ _ _ (by omega)).trans KT.out,KO.out.kept (grownBy_setCell' _ _ _) (own_block KO.out (by omega)),KB.out.setCell (p:=⟨w2.heap.size,0,none⟩) (by show w.heap.size≤w2.heap.size;omega) _,by rw [World.size_setCell];exact KZ.out⟩,K3.out.set _ (by omega) (by omega) (by omega),Go.Proofs.YtdacflloaehjeaaGreatDoor.heap_set K7.out 0 _⟩
        · have he1:(err != 0)=true:=by simpa using herr
          have HER:=Lib.hid herr
          clear herr
          gi_wp2_with fail
          gi_region
          all_goals gi_wp2
          all_goals (have hn5:=HN.out)
          all_goals (have hfin:=box_end (x:=.slice none 0 0) (y:=.int .i64 i) (z:=.int .i64 err) (Nat.le_refl _) K3.out KB.out KR.out KO.out KS.out KT.out KZ.out (by omega) (by omega) (by omega) (by omega) (by omega) _ rfl)
          all_goals exact ⟨hfin.1,hfin.2.1,rfl,HER.out,hfin.2.2⟩
      · rintro e W' (⟨rfl,hr,V3,rfl,hr3,⟨k1,k2,k3,k4,k5⟩,h0,hbx,h7⟩|⟨rfl,c,hr,V3,rfl,hr3,⟨k1,k2,k3,k4,k5⟩,rfl,hne,hbx⟩)
        · exact ⟨⟨(put_cell _ _ _ _ _ (by omega)).trans k1,(World.putObj_heap_other (by omega)).trans k2,k3.kept (grownBy_putObj' _ _ _) (own_block k3 (by omega)),k4.trans (belowK_b (w:=w) (Nat.le_refl _) _ (w5.heap.size + 1) _ _ (by omega) hr3.1 rfl rfl),by simp;exact k5⟩,
            .inl ⟨rfl,fun _=>⟨hr,hbx.far _ (by omega),⟨_,(World.putObj_heap_other (by omega)).trans h7,fun h=>absurd h (Nat.succ_ne_zero _),fun _=>rfl⟩,fun h=>absurd h (Nat.succ_ne_zero _)⟩,fun h=>absurd h0 h⟩⟩
        · exact ⟨⟨(put_cell _ _ _ _ _ (by omega)).trans k1,(World.putObj_heap_other (by omega)).trans k2,k3.kept (grownBy_putObj' _ _ _) (own_block k3 (by omega)),k4.trans (belowK_b (w:=w) (Nat.le_refl _) _ (w5.heap.size + 1) _ _ (by omega) hr3.1 rfl rfl),by simp;exact k5⟩,
            .inr ⟨rfl,hne,hr,hbx.far _ (by omega)⟩⟩
    rintro e W' ⟨he,hb,(⟨x,t,h1,h2,h3,⟨x1,x2,⟨u,x3,x4,x5⟩,x6⟩⟩|⟨i,err,h1,h2,⟨x1,x2⟩⟩)⟩
    · have hboth:Go.Proofs.YtdacflloaehjeaaGreatDoor.Owr eCells 39 11 w.heap.size W' u t∧∀ b,b<w.heap.size + 1 + 1 + 1∨w2.heap.size≤b∧b<w5.heap.size + 1 + 1→u.ownBlock=none∨u.ownBlock≠some b:=by
        by_cases hl:s.length=0
        · obtain rfl:=List.eq_nil_of_length_eq_zero hl
          obtain rfl:l0.map enOf=t:=congrArg Prod.fst h1
          rw [x4 rfl]
          exact ⟨own_low (x6 rfl) (by have:=HZ1.out;omega),fun b hb=>HCB.out b (hb.imp id And.left)⟩
        · rw [x5 hl]
          rcases h2 with ⟨h,_⟩|h
          · exact absurd h hl
          · exact ⟨own_low h (by omega),fun b hb=>own_block h (by omega)⟩
      exact ⟨he,.ready,none,(fun h=>by cases h),x1,hb,.inl ⟨rfl,t,u,h1,x3,hboth.1,hboth.2,x2⟩⟩
    · exact ⟨he,.done,some .ret,(fun h=>by cases h),x1,hb,.inr ⟨rfl,i,err,h2,x2⟩⟩
  case hdone =>
    rintro W o ⟨hb,(⟨_,t,u,h1,h2,h3,h4,h5⟩|⟨h,_⟩)⟩ hl o' hd
    · obtain ⟨au,cu,rfl,_,_⟩:=Go.Proofs.YtdacflloaehjeaaGreatDoor.Owr.val h3
      have HM2:Hid (ontoM Y (l0.map enOf) (s.map (List.map chOf))=(t,s.length,0)):=Lib.hid (HM.out.trans h1)
      have k1:=h3.kept (grownBy_putObj' W (w5.heap.size + 1) (.loop o')) (h4 _ (.inr ⟨by omega,by omega⟩))
      have k2:(W.putObj (w5.heap.size + 1) (.loop o')).heap[w2.heap.size]?=some (.cells #[.slice au t.length cu] 22 (0,0)):=(World.putObj_heap_other (by omega)).trans h2
      have k3:=h5.far (.loop o') (L:=w5.heap.size + 1) (by omega)
      have k4:(W.putObj (w5.heap.size + 1) (.loop o')).heap[w5.heap.size]?=some (.deferred (some [])):=(World.putObj_heap_other (by omega)).trans hd
      have k5:Below w.heap.size w (W.putObj (w5.heap.size + 1) (.loop o')):=hb.trans (belowK_b (w:=w) (Nat.le_refl _) W (w5.heap.size + 1) _ _ (by omega) hl rfl rfl)
      generalize W.putObj (w5.heap.size + 1) (.loop o')=V at k1 k2 k3 k4 k5 ⊢
      have q7:V.cell? ⟨w2.heap.size,0,none⟩=some (.slice au t.length cu):=Go.Proofs.YtdacflloaehjeaaGreatDoor.blk_cell k2 0
      have q4:V.cell? ⟨w.heap.size,0,none⟩=some (.slice none 0 0):=Go.Proofs.YtdacflloaehjeaaGreatDoor.blk_cell k3.b4 0
      have q5:V.cell? ⟨w.heap.size + 1,0,none⟩=some (.int .i64 0):=Go.Proofs.YtdacflloaehjeaaGreatDoor.blk_cell k3.b5 0
      have q6:V.cell? ⟨w.heap.size + 1 + 1,0,none⟩=some (.int .i64 0):=Go.Proofs.YtdacflloaehjeaaGreatDoor.blk_cell k3.b6 0
      have d4:=Go.Proofs.YtdacflloaehjeaaGreatDoor.blk_free k3.b4 0
      have d5:=Go.Proofs.YtdacflloaehjeaaGreatDoor.blk_free k3.b5 0
      have d6:=Go.Proofs.YtdacflloaehjeaaGreatDoor.blk_free k3.b6 0
      have HK1:=Lib.hid k1
      have HK3:=Lib.hid k3
      have HK4:=Lib.hid k4
      have HK5:=Lib.hid k5
      have HH4:=Lib.hid h4
      clear k1 k2 k3 k4 k5 h1 h2 h3 h4 h5 hb hl hd
      have HP:=HK3.out.put (w:=w) (Nat.le_refl _) HK5.out (.slice au t.length cu) (.int .i64 s.length) (.int .i64 0)
      have hD:(((V.setCell ⟨w.heap.size,0,none⟩ (.slice au t.length cu)).setCell ⟨w.heap.size + 1,0,none⟩ (.int .i64 s.length)).setCell ⟨w.heap.size + 1 + 1,0,none⟩ (.int .i64 0)).heap[w5.heap.size]?=some (.deferred (some [])):=(((set_far _ _ _ _ (by omega)).trans (set_far _ _ _ _ (by omega))).trans (set_far _ _ _ _ (by omega))).trans HK4.out
      have hO:=((HK1.out.kept (grownBy_setCell' V w.heap.size (.slice au t.length cu)) (HH4.out _ (.inl (by omega)))).kept (grownBy_setCell' _ (w.heap.size + 1) (.int .i64 s.length)) (HH4.out _ (.inl (by omega)))).kept (grownBy_setCell' _ (w.heap.size + 1 + 1) (.int .i64 0)) (HH4.out _ (.inl (by omega)))
      have HD:=Lib.hid hD
      have HO:=Lib.hid (hO.kept (grownBy_putObj' _ w5.heap.size (.deferred none)) (HH4.out _ (.inr ⟨by omega,by omega⟩)))
      have HPB:=Lib.hid (HP.2.trans (belowK_b (w:=w) (Nat.le_refl _) _ w5.heap.size _ (.deferred none) (by omega) hD rfl rfl))
      have HPX:=Lib.hid (HP.1.far (.deferred none) (L:=w5.heap.size) (by omega))
      clear HP hD hO
      gi_wp2_with fail
      rw [← hn5]
      refine ⟨by simp,.inl ⟨_,_,rfl,run_takeDeferred HD.out,?_⟩⟩
      exact ⟨_,res3 HPX.out _ rfl rfl rfl,⟨_,by rw [HM2.out],by rw [HM2.out];exact HO.out,HPB.out⟩⟩
    · cases h
  case hstop =>
    rintro c W o ⟨hb,(⟨h,_⟩|⟨h,i,err,h1,h2⟩)⟩ hl o' hd
    · cases h
    · obtain rfl:=Option.some.inj h
      have HM2:Hid (ontoM Y (l0.map enOf) (s.map (List.map chOf))=([],i,err)):=Lib.hid (HM.out.trans h1)
      have k3:=h2.far (.loop o') (L:=w5.heap.size + 1) (by omega)
      have k4:(W.putObj (w5.heap.size + 1) (.loop o')).heap[w5.heap.size]?=some (.deferred (some [])):=(World.putObj_heap_other (by omega)).trans hd
      have k5:Below w.heap.size w (W.putObj (w5.heap.size + 1) (.loop o')):=hb.trans (belowK_b (w:=w) (Nat.le_refl _) W (w5.heap.size + 1) _ _ (by omega) hl rfl rfl)
      generalize W.putObj (w5.heap.size + 1) (.loop o')=V at k3 k4 k5 ⊢
      have HD:=Lib.hid k4
      have HPB:=Lib.hid (k5.trans (belowK_b (w:=w) (Nat.le_refl _) _ w5.heap.size _ (.deferred none) (by omega) k4 rfl rfl))
      have HPX:=Lib.hid (k3.far (.deferred none) (L:=w5.heap.size) (by omega))
      clear k3 k4 k5 h1 h2 hb hl hd
      gi_wp2_with fail
      rw [← hn5]
      refine ⟨by simp,.inl ⟨_,_,rfl,run_takeDeferred HD.out,?_⟩⟩
      exact ⟨_,res3 HPX.out _ rfl rfl rfl,⟨_,by rw [HM2.out],by rw [HM2.out];exact Go.Proofs.YtdacflloaehjeaaGreatDoor.Owr.nil _ _ _ _ _,HPB.out⟩⟩
end Go.Proofs.YtdacflloaehjeaaGreatDoorQ
end
section
namespace Go.Proofs.YtdacflloaehjeaaGreatDoorQ
open Go.RowKit Go.Shelf Go.Proofs.YtdacflloaehjeaaGreatDoor Go.Proofs.YtdacflloaehjeaaGreatDoorW.PrintWords Go.Proofs.YtdacflloaehjeaaGreatDoorW.PrintLast Go.Proofs.YtdacflloaehjeaaGreatDoorW.PrintMore
open Go.Proofs.YtdacflloaehjeaaGreatDoorT (applyM ontoGo treesGo Ch)
def enc1 (v:Value):List Value:=[v]
theorem enc1_len (v:Value):(enc1 v).length=1:=rfl
structure TsAt (nb:Nat) (W:World) (out:Value) (vs:List Value) (Ts:List (List (Str×Nd))):Prop where
  own:Go.Proofs.YtdacflloaehjeaaGreatDoor.Owr enc1 22 1 nb W out vs
  len:vs.length=Ts.length
  rows:∀ (j:Nat) x t,vs[j]?=some x→Ts[j]?=some t→Go.Proofs.YtdacflloaehjeaaGreatDoor.Owr eCells 39 11 nb W x t
theorem own1_block {W:World} {nb b:Nat} {v:Value} {l:List Value} (h:Go.Proofs.YtdacflloaehjeaaGreatDoor.Owr enc1 22 1 nb W v l) (hb:b<nb):v.ownBlock=none∨v.ownBlock≠some b:=by
  rcases h.2 with ⟨hv,_⟩|⟨g,cap,cur,hv,hg,_⟩
  · subst hv;exact .inl rfl
  · subst hv
    refine .inr fun h=>?_
    have:g=b:=Option.some.inj h
    omega
theorem own_apart {W:World} {nb nb':Nat} {x out:Value} {t:List (Str×Nd)} {vs:List Value} (h:Go.Proofs.YtdacflloaehjeaaGreatDoor.Owr eCells 39 11 nb W x t) (h1:Go.Proofs.YtdacflloaehjeaaGreatDoor.Owr enc1 22 1 nb' W out vs):x.ownBlock=none∨x.ownBlock≠out.ownBlock:=by
  rcases h.2 with ⟨hv,_⟩|⟨g,cap,cur,hv,hg,hgg,_⟩
  · subst hv;exact .inl rfl
  · rcases h1.2 with ⟨hv1,_⟩|⟨g1,cap1,cur1,hv1,hg1,hgg1,_⟩
    · subst hv;subst hv1;exact .inr (fun h=>by cases h)
    · subst hv;subst hv1
      refine .inr fun h=>?_
      have e:g=g1:=Option.some.inj h
      subst e
      rw [hgg] at hgg1
      cases hgg1
theorem TsAt.kept {nb b:Nat} {W W':World} {out:Value} {vs:List Value} {Ts:List (List (Str×Nd))} (h:TsAt nb W out vs Ts) (hg:W.grownBy W' (some b)) (hb:b<nb):TsAt nb W' out vs Ts :=
  ⟨h.own.kept hg (own1_block h.own hb),h.len,fun j x t h1 h2=>(h.rows j x t h1 h2).kept hg (own_block (h.rows j x t h1 h2) hb)⟩
theorem TsAt.ext {nb:Nat} {W W':World} {out:Value} {vs:List Value} {Ts:List (List (Str×Nd))} (h:TsAt nb W out vs Ts) (hb:Below W.heap.size W W'):TsAt nb W' out vs Ts :=
  ⟨h.own.ext hb,h.len,fun j x t h1 h2=>(h.rows j x t h1 h2).ext hb⟩
theorem TsAt.snoc {nb:Nat} {W W':World} {out out':Value} {vs:List Value} {Ts:List (List (Str×Nd))} (h:TsAt nb W out vs Ts) {x:Value} {t:List (Str×Nd)} (hx:Go.Proofs.YtdacflloaehjeaaGreatDoor.Owr eCells 39 11 nb W x t)
    (ho:Go.Proofs.YtdacflloaehjeaaGreatDoor.Owr enc1 22 1 nb W' out' (vs ++ [x])) (hg:W.grownBy W' out.ownBlock):TsAt nb W' out' (vs ++ [x]) (Ts ++ [t]):=by
  refine ⟨ho,by simp [h.len],fun j y u h1 h2=>?_⟩
  by_cases hj:j<vs.length
  · rw [List.getElem?_append_left hj] at h1
    rw [List.getElem?_append_left (by rw [← h.len];exact hj)] at h2
    have hr:=h.rows j y u h1 h2
    exact hr.kept hg (own_apart hr h.own)
  · rw [List.getElem?_append_right (by omega)] at h1
    rw [List.getElem?_append_right (by have:=h.len;omega)] at h2
    have e:j - vs.length=0:=by
      apply Classical.byContradiction
      intro hne
      rw [List.getElem?_eq_none (by simp;omega)] at h1
      cases h1
    rw [e] at h1
    rw [show j - Ts.length=0 from by have:=h.len;omega] at h2
    obtain rfl:=Option.some.inj h1
    obtain rfl:=Option.some.inj h2
    exact hx.kept hg (own_apart hx h.own)
theorem TsAt.low {nb b:Nat} {W:World} {out:Value} {vs:List Value} {Ts:List (List (Str×Nd))} (h:TsAt nb W out vs Ts) (hb:b≤nb):TsAt b W out vs Ts:=by
  refine ⟨⟨h.own.1,?_⟩,h.len,fun j x t h1 h2=>own_low (h.rows j x t h1 h2) hb⟩
  rcases h.own.2 with h0|⟨g,cap,cur,hv,hg,rest⟩
  · exact .inl h0
  · exact .inr ⟨g,cap,cur,hv,Nat.le_trans hb hg,rest⟩
theorem set_far_k (W:World) (a k b:Nat) (u:Value) (h:a≠b):(W.setCell ⟨a,k,none⟩ u).heap[b]?=W.heap[b]?:=by
  simp only [World.setCell,Array.getElem?_modify]
  rw [if_neg h]
theorem TsAt.set {nb g cap k:Nat} {W:World} {vs:List Value} {Ts:List (List (Str×Nd))} (h:TsAt nb W (.slice (some ⟨g,0,none⟩) vs.length cap) vs Ts) (hk:k<vs.length) {x:Value} {t:List (Str×Nd)} (ht:Ts[k]?=some t)
    (hx:Go.Proofs.YtdacflloaehjeaaGreatDoor.Owr eCells 39 11 nb W x t):TsAt nb (W.setCell ⟨g,k,none⟩ x) (.slice (some ⟨g,0,none⟩) (vs.set k x).length cap) (vs.set k x) Ts:=by
  have hp:=own_put enc1_len h.own hk x
  have e:W.setCells g (k * 1) (enc1 x)=W.setCell ⟨g,k,none⟩ x:=by rw [Nat.mul_one];rfl
  have hg:W.grownBy (W.setCell ⟨g,k,none⟩ x) (some g):=by rw [← e];exact setCells_grown _ _ _ _
  rw [e] at hp
  refine ⟨hp,by rw [List.length_set];exact h.len,fun j y u h1 h2=>?_⟩
  by_cases hj:j=k
  · subst hj
    rw [List.getElem?_set_self hk] at h1
    obtain rfl:=Option.some.inj h1
    rw [ht] at h2
    obtain rfl:=Option.some.inj h2
    exact hx.kept hg (own_apart hx h.own)
  · rw [List.getElem?_set_ne (fun e=>hj e.symm)] at h1
    have hr:=h.rows j y u h1 h2
    exact hr.kept hg (own_apart hr h.own)
theorem TsAt.C {nb:Nat} {W:World} {out:Value} {vs:List Value} {Ts:List (List (Str×Nd))} (h:TsAt nb W out vs Ts) :
    ∃ A c,out=.slice A (Ts.map (List.map ofEn)).length c∧(Ts.map (List.map ofEn)).length≤c∧Kd.C (Kd.slice 39 k39) W A (Ts.map (List.map ofEn)).length (Ts.map (List.map ofEn)):=by
  obtain ⟨A,c,rfl,hn,hc⟩:=Go.Proofs.YtdacflloaehjeaaGreatDoor.Owr.val h.own
  have hl:(Ts.map (List.map ofEn)).length=vs.length:=by rw [List.length_map,h.len]
  refine ⟨A,c,by rw [hl],by rw [hl];exact hc,rfl,?_,fun h0=>?_⟩
  · rw [hl]
    rcases h.own.2 with ⟨_,h0⟩|⟨g,cap,cur,hv,_,_,h1,h2,_⟩
    · omega
    · unfold maxLen at h2;omega
  · cases A with
    | none=>exact absurd (hn rfl).1 (fun e=>by rw [hl,e] at h0;simp at h0)
    | some ad =>
      refine ⟨ad,rfl,fun j p hp=>?_⟩
      rw [List.getElem?_map] at hp
      obtain ⟨t,ht,rfl⟩:=Option.map_eq_some_iff.1 hp
      have hj:j<vs.length:=by
        rw [h.len]
        exact (List.getElem?_eq_some_iff.1 ht).1
      have hr:=h.rows j _ t (List.getElem?_eq_getElem hj) ht
      obtain ⟨A1,c1,hv,hc1,hk⟩:=own_C hr
      refine ⟨[vs[j]],rfl,⟨A1,c1,by rw [hv],hc1,hk⟩,fun i u hu=>?_⟩
      obtain ⟨b,o,ha,hcell⟩:=h.own.row enc1_len j _ (List.getElem?_eq_getElem hj)
      obtain rfl:=Option.some.inj ha
      have:=hcell i u hu
      show W.cell? ((⟨b,o,none⟩:Addr).add (j * 1 + i))=_
      rw [Go.Proofs.YtdacflloaehjeaaGreatDoor.add_at,← Nat.add_assoc]
      exact this
theorem RecAt.kept {L D:Nat} {r:Loop} {W W':World} {row:Option Nat} (h:RecAt L D r W) (hg:W.grownBy W' row) (hL:row≠some L) (hD:row≠some D):RecAt L D r W' :=
  ⟨(hg.block _ (Array.getElem?_eq_some_iff.1 h.1).1 (fun e=>hL e.symm)).trans h.1,(hg.block _ (Array.getElem?_eq_some_iff.1 h.2).1 (fun e=>hD e.symm)).trans h.2⟩
theorem own1_ne {W:World} {nb b:Nat} {v:Value} {l:List Value} (h:Go.Proofs.YtdacflloaehjeaaGreatDoor.Owr enc1 22 1 nb W v l) (hb:b<nb):v.ownBlock≠some b:=fun e=>(own1_block h hb).elim (fun h=>by rw [h] at e;cases e) (fun h=>h e)
def TsBox (nb b:Nat) (Ts:List (List (Str×Nd))) (W:World):Prop:=∃ out vs,W.heap[b]?=some (.cells #[out] 32 (0,0))∧TsAt nb W out vs Ts
def tsNext (err:Int) (Ts:List (List (Str×Nd))) (rows:List (Str×Nd)):List (List (Str×Nd)):=if err=0 then Ts ++ [rows] else Ts
theorem trees_le:∀ (S:List (List (Ch Str Nd))) (t:List (Str×Nd)),(treesGo Y t S).length≤S.length
  | [],t=>Nat.le_refl _
  | l :: r,t=>by
    unfold treesGo
    split
    · rw [List.length_cons,List.length_cons];exact Nat.succ_le_succ (trees_le r _)
    · exact Nat.zero_le _
def normalOnly (Q:Exit→Act→World→Prop):Exit→Act→World→Prop
  | .normal,a,w=>Q .normal a w
  | _,_,_=>False
theorem wpIn_normal {n:Nat} {P:Program} {c:Code} {Q:Exit→Act→World→Prop} {a:Act} {w:World} (h:c.wp P (normalOnly Q) a w):c.wpIn Fence.wide n P Q a w :=
  wpIn_mono (wpIn_wide.2 h) (fun e a w h=>by cases e <;> first|exact h|exact h.elim)
theorem info_ts:(Tryz.prog.info? 22).map (fun i=>(i.zero,i.size,i.bytes))=some (some (.slice none 0 0),1,24):=by kernel_rfl
attribute [local go_sem] Oper.semAt_some
set_option maxRecDepth 100000 in
set_option maxHeartbeats 4000000 in
theorem trees_calls (w:World) (hG:GL w) (A1:Option Addr) (c1:Nat) (s:List (List S59)) (hS:Kd.C (Kd.slice 59 k59) w A1 s.length s) (hs:s.length≤1000000) (hf:∀ l ∈ s,lyrFits' l) :
    Calls Tryz.prog 38 #[.slice A1 s.length c1] w fun e w'=>∃ (v:Value) (vs:List Value),e=.returned v∧TsAt w.heap.size w' v vs (treesGo Y [] (s.map (List.map chOf)))∧Below w.heap.size w w':=by
  have HS:=Lib.hid hS
  have HL:=Lib.hid hs
  have HF:=Lib.hid hf
  obtain ⟨i0,hi,hz0,hz1,hz2⟩:=info_parts info_ts
  have HI:=Lib.hid hi
  have HZ0:=Lib.hid hz0
  have HZ1:=Lib.hid hz1
  have HZ2:=Lib.hid hz2
  have hu50:=Tryz.underlying32
  clear hS hs hf hi hz0 hz1 hz2
  refine (callsIn_wide (n:=6)).1 ?_
  refine callsIn_of_wp_marks Tryz.func38 rfl trivial ?_ rfl
  simp only [Tryz.ntmps38,List.size_toArray,List.length_cons,List.length_nil,Nat.reduceAdd,Nat.reduceSub,Array.replicate_succ,Array.replicate_zero,List.push_toArray,List.append_toArray,List.nil_append,List.cons_append]
  gi_wp2_with fail
  refine ⟨trivial,(callsIn_wide.2 (steps_calls _ _ _ none 0 0 A1 s.length c1 rfl rfl)).mono ?_⟩
  rintro e w5 ⟨rfl,hw5⟩
  simp only [World.size_alloc] at hw5 ⊢
  have HN:Hid (w5.heap.size=w.heap.size + 1 + 1 + 1):=Lib.hid (by rw [hw5];simp)
  have hb5:Below w.heap.size w w5:=by rw [hw5];exact (((Below.refl _ w).alloc (Nat.le_refl _) _).alloc (by simp) _).alloc (by simp;omega) _
  obtain ⟨k3,kt,ks⟩:w5.heap[w.heap.size]?=some (.cells #[.slice none 0 0] 32 (0,0))∧w5.heap[w.heap.size + 1]?=some (.cells #[.slice none 0 0] 22 (0,0))∧w5.heap[w.heap.size + 1 + 1]?=some (.cells #[.slice A1 s.length c1] 47 (0,0)):=by rw [hw5];simpa using three_new w _ _ _
  have HO3:=Lib.hid k3
  have HTB:=Lib.hid kt
  have HSB:=Lib.hid ks
  have HW5:=Lib.hid hb5
  clear k3 kt ks hw5 hb5
  gi_wp2_with fail
  have hn5:=HN.out
  refine range_mem rfl (by omega) (gf:=107) (lb:=#[.pointer (some ⟨w.heap.size + 1 + 1,0,none⟩),.pointer (some ⟨w.heap.size + 1,0,none⟩)]) rfl trivial (enters_of Tryz.func107 (by kernel_rfl) rfl)
    (fun pe W=>pe=none∧Below w.heap.size w W∧∃ out vs Ts,W.heap[w.heap.size]?=some (.cells #[out] 32 (0,0))∧TsAt (w5.heap.size + 1 + 1) W out vs Ts∧treesGo Y [] (s.map (List.map chOf))=Ts∧w5.heap.size + 1 + 1≤W.heap.size) ?hit ?hdone ?hstop
  case hit =>
    intro fn hfn W1 hW1 hrec
    generalize hrd:(Rec fn _ _ _ _ w5.heap.size)=rd at hrec ⊢
    have hb1:Below w5.heap.size w5 W1:=by rw [hW1];exact ((Below.refl _ w5).alloc (Nat.le_refl _) _).alloc (by simp) _
    have hs1:W1.heap.size=w5.heap.size + 1 + 1:=by rw [hW1];simp
    clear hW1
    refine (steps1_in 4 w hG A1 c1 s HS.out HL.out HF.out (w.heap.size + 1 + 1) (w.heap.size + 1) (w5.heap.size + 1 + 1) (w5.heap.size + 1) (by omega) (by omega) (by omega) (by omega)
      (fun i t _ W=>RecAt (w5.heap.size + 1) w5.heap.size (rd .ready none) W∧w5.heap.size + 1 + 1≤W.heap.size∧∃ out vs Ts,W.heap[w.heap.size]?=some (.cells #[out] 32 (0,0))∧TsAt (w5.heap.size + 1 + 1) W out vs Ts∧Ts.length=i∧treesGo Y [] (s.map (List.map chOf))=Ts ++ treesGo Y t ((s.drop i).map (List.map chOf)))
      (fun i err W=>RecAt (w5.heap.size + 1) w5.heap.size (rd .ready none) W∧w5.heap.size + 1 + 1≤W.heap.size∧∃ out vs Ts,W.heap[w.heap.size]?=some (.cells #[out] 32 (0,0))∧TsAt (w5.heap.size + 1 + 1) W out vs Ts∧treesGo Y [] (s.map (List.map chOf))=Ts)
      ?hX ?hY W1 [] (.slice none 0 0) ?h0 (.inl ⟨rfl,none,0,[],rfl,Nat.le_refl _,Kd.C_nil _ _,rfl⟩) rfl (by simp)
      (Go.Proofs.YtdacflloaehjeaaGreatDoor.blk_cell (blk_below HSB.out hb1) 0) (blk_below HTB.out hb1) (by omega) (Go.Proofs.YtdacflloaehjeaaGreatDoor.below_then HW5.out hb1)).mono ?_
    case h0 =>
      exact ⟨hrec,by omega,_,[],[],blk_below HO3.out hb1,⟨Go.Proofs.YtdacflloaehjeaaGreatDoor.Owr.nil _ _ _ _ _,rfl,fun j x t h _=>by simp at h⟩,rfl,by rw [List.drop_zero];rfl⟩
    case hX =>
      rintro i t v W u ⟨x1,x2,out,vs,Ts,x3,x4,x5,x6⟩ hn
      exact ⟨x1.set u (by omega) (by omega),by rw [World.size_setCell];exact x2,out,vs,Ts,(set_far _ _ _ u (by omega)).trans x3,x4.kept (grownBy_setCell' _ _ _) (by omega),x5,x6⟩
    case hY =>
      rintro i t v W V x rows err hi hae ⟨x1,x2,out,vs,Ts,x3,x4,x5,x6⟩ hn hbV hbW ho
      obtain ⟨ax,cx,rfl,_,_⟩:=Go.Proofs.YtdacflloaehjeaaGreatDoor.Owr.val ho
      have r1:=x1.ext hbW
      have r3:=blk_below x3 hbW
      have r4:=x4.ext hbW
      have hnV:w5.heap.size + 1 + 1≤V.heap.size:=Nat.le_trans hn hbW.size
      have hT:treesGo Y [] (s.map (List.map chOf))=Ts ++ if err=0 then rows :: treesGo Y rows ((s.drop (i + 1)).map (List.map chOf)) else []:=by
        rw [x6,List.drop_eq_getElem_cons hi]
        show Ts ++ treesGo Y t (s[i].map chOf :: (s.drop (i + 1)).map (List.map chOf))=_
        simp only [treesGo,hae]
      have HT:=Lib.hid hT
      have HLT:=Lib.hid x5
      subst hrd
      refine (yield_mem (by omega) hfn r1 rfl (fun W'=>(W'.cell? ⟨w.heap.size + 1 + 1,0,none⟩=V.cell? ⟨w.heap.size + 1 + 1,0,none⟩∧W'.heap[w.heap.size + 1]?=V.heap[w.heap.size + 1]?∧Go.Proofs.YtdacflloaehjeaaGreatDoor.Owr eCells 39 11 (w5.heap.size + 1 + 1) W' (.slice ax rows.length cx) rows∧Below w.heap.size w W'∧w5.heap.size + 1 + 1≤W'.heap.size) ∧
          TsBox (w5.heap.size + 1 + 1) w.heap.size (tsNext err Ts rows) W')
        (fun _ _=>False) ?_).mono ?_
      · clear hn5
        gi_wp2_with fail
        refine ⟨r1.ext (Go.Proofs.YtdacflloaehjeaaGreatDoor.below_new _ _),?_⟩
        intro W2 hW2 hr2
        replace hW2:=hW2.out
        replace hr2:=hr2.out
        have hn5:=HN.out
        have hV1:=Go.Proofs.YtdacflloaehjeaaGreatDoor.below_new V (.cells #[.slice ax rows.length cx,.int .i64 err] 91 (0,0))
        have k9:W2.heap[V.heap.size]?=some (.cells #[.slice ax rows.length cx,.int .i64 err] 91 (0,0)):=by rw [hW2];exact (World.putObj_heap_other (by omega)).trans (World.alloc_heap_new V _)
        have k3:W2.heap[w.heap.size]?=some (.cells #[out] 32 (0,0)):=by rw [hW2];exact (World.putObj_heap_other (by omega)).trans (blk_below r3 hV1)
        have ks:W2.cell? ⟨w.heap.size + 1 + 1,0,none⟩=V.cell? ⟨w.heap.size + 1 + 1,0,none⟩:=by rw [hW2];exact (put_cell _ _ _ _ _ (by omega)).trans (hV1.cell (by show w.heap.size + 1 + 1<V.heap.size;omega))
        have kt:W2.heap[w.heap.size + 1]?=V.heap[w.heap.size + 1]?:=by rw [hW2];exact (World.putObj_heap_other (by omega)).trans (hV1.block (w.heap.size + 1) (by omega))
        have ko:Go.Proofs.YtdacflloaehjeaaGreatDoor.Owr eCells 39 11 (w5.heap.size + 1 + 1) W2 (.slice ax rows.length cx) rows:=by rw [hW2];exact (Go.Proofs.YtdacflloaehjeaaGreatDoor.Owr.ext ho hV1).kept (grownBy_putObj' _ _ _) (own_block ho (by omega))
        have k4:TsAt (w5.heap.size + 1 + 1) W2 out vs Ts:=by rw [hW2];exact (r4.ext hV1).kept (grownBy_putObj' _ _ _) (by omega)
        have kb:Below w.heap.size w W2:=by
          have h1:=Go.Proofs.YtdacflloaehjeaaGreatDoor.below_then hbV hV1
          rw [hW2]
          exact h1.trans (belowK_b (w:=w) (Nat.le_refl _) _ (w5.heap.size + 1) _ _ (by omega) (r1.ext hV1).1 rfl rfl)
        have kz:w5.heap.size + 1 + 1≤W2.heap.size:=by rw [hW2];simp;omega
        have K3:=Lib.hid k3
        have K4:=Lib.hid k4
        have KS:=Lib.hid ks
        have KT:=Lib.hid kt
        have KO:=Lib.hid ko
        have KB:=Lib.hid kb
        have KZ:=Lib.hid kz
        have KR:=Lib.hid hr2
        have HVS:Hid (vs.length<s.length):=Lib.hid (by rw [k4.len,HLT.out];exact hi)
        have q9:W2.cell? ⟨V.heap.size,0,none⟩=some (.slice ax rows.length cx):=Go.Proofs.YtdacflloaehjeaaGreatDoor.blk_cell k9 0
        have q8:W2.cell? ⟨V.heap.size,1,none⟩=some (.int .i64 err):=Go.Proofs.YtdacflloaehjeaaGreatDoor.blk_cell k9 1
        have q3:W2.cell? ⟨w.heap.size,0,none⟩=some out:=Go.Proofs.YtdacflloaehjeaaGreatDoor.blk_cell k3 0
        have d3:=Go.Proofs.YtdacflloaehjeaaGreatDoor.blk_free k3 0
        clear hn5 hW2 hr2 k9 k3 k4 ks kt ko kb kz hV1 x1 x2 x3 x4 x5 x6 r1 r3 r4 ho hbV hbW hT
        by_cases herr:err=0
        · subst herr
          gi_wp2_with (gi_at_builtin;refine wpListIn_append_own _ rfl _ _ 32 rfl (w5.heap.size + 1 + 1) 22 i0 (.slice none 0 0) 1 24 Tryz.underlying32 HI.out HZ0.out HZ1.out HZ2.out rfl (by decide) out vs.length (flat enc1 vs) rfl (K4.out.own.alloc _) ⟨W2.heap.size,0,none⟩ 1 1 [.slice ax rows.length cx] rfl rfl (cell_one_new _ _ _) (by simp [Value.oneCell']) ?b1 ?b2 ?b3 ?_)
          case b1=>have:=HVS.out;have:=HL.out;unfold maxLen;omega
          case b2=>have:=HVS.out;have:=HL.out;omega
          case b3=>have:=KZ.out;simp;omega
          intro v' w1 hown' hgrow _
          obtain ⟨g',cap',rfl⟩:=ownsRow_succ hown'
          have hn5:=HN.out
          have hA:=Go.Proofs.YtdacflloaehjeaaGreatDoor.below_new W2 (.cells #[.slice ax rows.length cx] 22 (0,0))
          have ka:=K4.out.ext hA
          have hx:=Go.Proofs.YtdacflloaehjeaaGreatDoor.Owr.ext KO.out hA
          have hne:∀ b,b<w5.heap.size + 1 + 1→out.ownBlock≠some b:=fun b hb=>own1_ne K4.out.own hb
          have ho':Go.Proofs.YtdacflloaehjeaaGreatDoor.Owr enc1 22 1 (w5.heap.size + 1 + 1) w1 (.slice (some ⟨g',0,none⟩) (vs.length + 1) cap') (vs ++ [.slice ax rows.length cx]):=by
            unfold Go.Proofs.YtdacflloaehjeaaGreatDoor.Owr
            rw [flat_append,List.length_append]
            exact hown'
          have k4:=ka.snoc hx ho' hgrow
          have kz:=KZ.out
          have k3:w1.heap[w.heap.size]?=some (.cells #[out] 32 (0,0)):=(hgrow.block _ (by simp;omega) (fun e=>hne _ (by omega) e.symm)).trans (blk_below K3.out hA)
          have kr:=(KR.out.ext hA).kept hgrow (hne _ (by omega)) (hne _ (by omega))
          have hsb:w1.heap[w.heap.size + 1 + 1]?=W2.heap[w.heap.size + 1 + 1]?:=(hgrow.block _ (by simp;omega) (fun e=>hne _ (by omega) e.symm)).trans (hA.block _ (by omega))
          have ks:w1.cell? ⟨w.heap.size + 1 + 1,0,none⟩=W2.cell? ⟨w.heap.size + 1 + 1,0,none⟩:=by unfold World.cell?;rw [hsb]
          have kt:w1.heap[w.heap.size + 1]?=W2.heap[w.heap.size + 1]?:=(hgrow.block _ (by simp;omega) (fun e=>hne _ (by omega) e.symm)).trans (hA.block _ (by omega))
          have ko:=hx.kept hgrow (own_apart hx ka.own)
          have kb:=(Go.Proofs.YtdacflloaehjeaaGreatDoor.below_then KB.out hA).grown hgrow (Go.Proofs.YtdacflloaehjeaaGreatDoor.below_then KB.out hA).size (fun j hj=>Nat.le_of_not_lt fun h=>hne j (by omega) hj)
          have kz1:w5.heap.size + 1 + 1≤w1.heap.size:=Nat.le_trans kz (Nat.le_trans hA.size hgrow.size)
          have M3:=Lib.hid k3
          have M4:=Lib.hid k4
          have MR:=Lib.hid kr
          have MS:=Lib.hid (ks.trans KS.out)
          have MT:=Lib.hid (kt.trans KT.out)
          have MO:=Lib.hid ko
          have MB:=Lib.hid kb
          have MZ:=Lib.hid kz1
          have q3':w1.cell? ⟨w.heap.size,0,none⟩=some out:=Go.Proofs.YtdacflloaehjeaaGreatDoor.blk_cell k3 0
          have d3':=Go.Proofs.YtdacflloaehjeaaGreatDoor.blk_free k3 0
          clear hn5 hA ka hx hne ho' k4 kz k3 kr hsb ks kt ko kb kz1 hown' hgrow q9 q8 q3 d3
          gi_wp2_with fail
          have hn5:=HN.out
          exact ⟨MR.out.set _ (by omega) (by omega),⟨(World.cell?_setCell_far w1 ⟨w.heap.size,0,none⟩ ⟨w.heap.size + 1 + 1,0,none⟩ _ (by show w.heap.size≠w.heap.size + 1 + 1;omega)).trans MS.out,(set_far _ _ _ _ (by omega)).trans MT.out,MO.out.kept (grownBy_setCell' _ _ _) (own_block MO.out (by omega)),MB.out.setCell (p:=⟨w.heap.size,0,none⟩) (Nat.le_refl _) _,by rw [World.size_setCell];exact MZ.out⟩,_,_,Go.Proofs.YtdacflloaehjeaaGreatDoor.heap_set M3.out 0 _,M4.out.kept (grownBy_setCell' _ _ _) (by omega)⟩
        · have he1:(err == 0)=false:=by simpa using herr
          gi_wp2_with fail
          exact ⟨KR.out,⟨KS.out,KT.out,KO.out,KB.out,KZ.out⟩,out,vs,K3.out,by unfold tsNext;rw [if_neg herr];exact K4.out⟩
      · rintro e W' (⟨rfl,hr,V3,rfl,hr3,⟨k1,k2,k3,k4,k5⟩,hG5⟩|⟨rfl,c,hr,V3,rfl,hr3,h⟩)
        · obtain ⟨out',vs',h3,h4⟩:=hG5
          obtain ⟨Ts',h5⟩:∃ Ts',Ts'=tsNext err Ts rows:=⟨_,rfl⟩
          rw [← h5] at h4
          have hbox:∀ o,(V3.putObj (w5.heap.size + 1) o).heap[w.heap.size]?=some (.cells #[out'] 32 (0,0)):=fun o=>(World.putObj_heap_other (by omega)).trans h3
          have hts:=fun o=>h4.kept (grownBy_putObj' V3 (w5.heap.size + 1) o) (by omega)
          refine ⟨⟨(put_cell _ _ _ _ _ (by omega)).trans k1,(World.putObj_heap_other (by omega)).trans k2,k3.kept (grownBy_putObj' _ _ _) (own_block k3 (by omega)),k4.trans (belowK_b (w:=w) (Nat.le_refl _) _ (w5.heap.size + 1) _ _ (by omega) hr3.1 rfl rfl),by simp;exact k5⟩,
            .inl ⟨rfl,fun he=>⟨hr,by simp;exact k5,out',vs',Ts',hbox _,hts _,?_,?_⟩,fun he=>⟨hr,by simp;exact k5,out',vs',Ts',hbox _,hts _,?_⟩⟩⟩
          · rw [h5];unfold tsNext;rw [if_pos he,List.length_append,HLT.out];rfl
          · rw [HT.out,h5];unfold tsNext;rw [if_pos he,if_pos he,List.append_assoc];rfl
          · rw [HT.out,h5];unfold tsNext;rw [if_neg he,if_neg he,List.append_nil]
        · exact h.elim
    rintro e W' ⟨he,hb,(⟨x,t,h1,h2,h3,⟨x1,x2,out,vs,Ts,x3,x4,x5,x6⟩⟩|⟨i,err,h1,h2,⟨x1,x2,out,vs,Ts,x3,x4,x5⟩⟩)⟩
    · exact ⟨he,.ready,none,(fun h=>by cases h),x1,rfl,hb,out,vs,Ts,x3,x4,by rw [x6,List.drop_eq_nil_of_le (Nat.le_refl _)];exact List.append_nil _,x2⟩
    · exact ⟨he,.ready,none,(fun h=>by cases h),x1,rfl,hb,out,vs,Ts,x3,x4,x5,x2⟩
  case hstop =>
    rintro c W o ⟨h,_⟩
    cases h
  case hdone =>
    rintro W o ⟨_,hb,out,vs,Ts,h1,h2,h3,h4⟩ hl o' hd
    obtain ⟨ao,co,rfl,_,_⟩:=Go.Proofs.YtdacflloaehjeaaGreatDoor.Owr.val h2.own
    have k1:(W.putObj (w5.heap.size + 1) (.loop o')).heap[w.heap.size]?=some (.cells #[.slice ao vs.length co] 32 (0,0)):=(World.putObj_heap_other (by omega)).trans h1
    have k2:=h2.kept (grownBy_putObj' W (w5.heap.size + 1) (.loop o')) (by omega)
    have k4:(W.putObj (w5.heap.size + 1) (.loop o')).heap[w5.heap.size]?=some (.deferred (some [])):=(World.putObj_heap_other (by omega)).trans hd
    have k5:Below w.heap.size w (W.putObj (w5.heap.size + 1) (.loop o')):=hb.trans (belowK_b (w:=w) (Nat.le_refl _) W (w5.heap.size + 1) _ _ (by omega) hl rfl rfl)
    have k6:w5.heap.size + 1 + 1≤(W.putObj (w5.heap.size + 1) (.loop o')).heap.size:=by simp;exact h4
    generalize W.putObj (w5.heap.size + 1) (.loop o')=V at k1 k2 k4 k5 k6 ⊢
    have HLV:Hid (vs.length=Ts.length):=Lib.hid k2.len
    have HT3:=Lib.hid h3
    have HI0:Hid (V.heap[w.heap.size]?=some (.cells #[.slice ao vs.length co] 32 (0,0))∧TsAt (w5.heap.size + 1 + 1) V (.slice ao vs.length co) vs Ts∧V.heap[w5.heap.size]?=some (.deferred (some []))∧Below w.heap.size w V∧w5.heap.size + 1 + 1≤V.heap.size):=Lib.hid ⟨k1,k2,k4,k5,k6⟩
    have HLS:Hid (Ts.length≤s.length):=Lib.hid (by
      rw [← h3]
      have h9:=trees_le (s.map (List.map chOf)) []
      rwa [List.length_map] at h9)
    have q3:V.cell? ⟨w.heap.size,0,none⟩=some (.slice ao vs.length co):=Go.Proofs.YtdacflloaehjeaaGreatDoor.blk_cell k1 0
    generalize hvl:vs.length=n at *
    clear k1 k2 k4 k5 k6 h1 h2 h3 h4 hb hl hd hn5
    gi_wp2_with fail
    gi_loopw [21] (fun p wr=>∃ (k:Nat) (us:List Value),p=.int .i64 k∧Hid (us.length=n)∧Hid (k≤n)∧Hid (wr.heap[w.heap.size]?=some (.cells #[.slice ao n co] 32 (0,0))∧TsAt (w5.heap.size + 1 + 1) wr (.slice ao n co) us Ts∧wr.heap[w5.heap.size]?=some (.deferred (some []))∧Below w.heap.size w wr∧w5.heap.size + 1 + 1≤wr.heap.size)) (fun p _=>n - (intOf p).toNat)
    case atStart=>exact ⟨0,vs,rfl,Lib.hid hvl,Lib.hid (Nat.zero_le _),HI0⟩
    case round =>
      clear HI0 q3
      obtain ⟨k,us,rfl,HUL,HKN,HI⟩:=hrel
      obtain ⟨g1,g2,g3,g4,g5⟩:=HI.out
      have q3:wr.cell? ⟨w.heap.size,0,none⟩=some (.slice ao n co):=Go.Proofs.YtdacflloaehjeaaGreatDoor.blk_cell g1 0
      by_cases hk:k<n
      · have hkl:k<us.length:=by rw [HUL.out];exact hk
        obtain ⟨g,rfl⟩:∃ g,ao=some ⟨g,0,none⟩:=by
          rcases g2.own.2 with ⟨hv,h0⟩|⟨g,cap,cur,hv,_⟩
          · omega
          · cases hv;exact ⟨g,rfl⟩
        have hkt:k<Ts.length:=by rw [← g2.len];exact hkl
        have hr:=g2.rows k _ _ (List.getElem?_eq_getElem hkl) (List.getElem?_eq_getElem hkt)
        obtain ⟨t,ht⟩:∃ t,t=Ts[k]:=⟨_,rfl⟩
        have htk:Ts[k]?=some t:=by rw [List.getElem?_eq_getElem hkt,ht]
        have htl:t.length≤5000:=(YtdacflloaehjeaaGreatDoorT.trees_right (Y:=Y) (by rw [HT3.out,ht];exact List.getElem_mem hkt)).len
        rw [← ht] at hr
        obtain ⟨ak,ck,hxk,hck,hkc⟩:=own_C hr
        have hcell:wr.cell? ⟨g,k,none⟩=some us[k]:=by
          obtain ⟨b,o,ha,hc⟩:=g2.own.row enc1_len k _ (List.getElem?_eq_getElem hkl)
          cases ha
          simpa using hc 0 us[k] rfl
        have hfree:wr.frozen? ⟨g,k,none⟩=false:=by
          rcases g2.own.2 with ⟨hv,h0⟩|⟨g',cap,cur,hv,_,hgg,_⟩
          · omega
          · cases hv;exact Go.Proofs.YtdacflloaehjeaaGreatDoor.blk_free hgg k
        rw [hxk,List.length_map] at hcell
        have HCL:=Lib.hid hkc
        have HTK:=Lib.hid htk
        have HTL:=Lib.hid htl
        have QK:=Lib.hid hcell
        have DK:=Lib.hid hfree
        have Q3:=Lib.hid q3
        have HKL:=Lib.hid hkl
        have hk0:(0:Int)≤(k:Int):=by omega
        have hk1:(k:Int)<(n:Int):=by omega
        have hnb:n≤1000000:=by have h1:=HLS.out;have h2:=HL.out;have h3:=HLV.out;omega
        clear hr ht htk htl hxk hck hkc hcell hfree g1 g2 g3 g4 g5
        gi_wp2_with fail
        refine wpIn_normal ?_
        refine start_ (n:=9) (S:=fun w'=>Below wr.heap.size wr w') (ds:=[8]) (ms 9 0) (by kernel_rfl) rfl rfl (Below.refl _ _).drew (fun hHeld=>?_)
        (refine take_ (i:=0) (N:=some 24) (v:=?_) (a':=?_) (ms 9 1) rfl rfl (by kernel_rfl) (fun _ _ _ h=>h) (Or.inl ⟨by rfl,?_⟩) hHeld ?_ ?_;rotate_left;(intro w' hS';have hc0:=pw_cell_below hS' Q3.out;go_simp;with_reducible rfl);rotate_left;(simp only [aP,i64_w,i32_w];rfl))
        (refine pU 1 25 ?_ (ms 9 2) rfl rfl (by kernel_rfl) (fun _ _ _=>id) (by rfl) ?_ ?_ ?_ ?_;rotate_left;(intro w';go_simp;with_reducible rfl);rotate_left;(simp only [aP,i64_w,i32_w];rfl))
        (refine take_ (i:=2) (N:=some 26) (v:=?_) (a':=?_) (ms 9 3) rfl rfl (by kernel_rfl) (fun _ _ _ h=>h) (Or.inl ⟨by rfl,?_⟩) hHeld ?_ ?_;rotate_left;(intro w' hS';have hc0:=pw_cell_below hS' Q3.out;go_simp;with_reducible rfl);rotate_left;(simp only [aP,i64_w,i32_w];rfl))
        (refine pU 3 27 ?_ (ms 9 4) rfl rfl (by kernel_rfl) (fun _ _ _=>id) (by rfl) ?_ ?_ ?_ ?_;rotate_left;(intro w';go_simp;with_reducible rfl);rotate_left;(simp only [aP,i64_w,i32_w];rfl))
        (refine pU 4 28 ?_ (ms 9 5) rfl rfl (by kernel_rfl) (fun _ _ _=>id) (by rfl) ?_ ?_ ?_ ?_;rotate_left;(intro w';go_simp;with_reducible rfl);rotate_left;(simp only [aP,i64_w,i32_w];rfl))
        (refine take_ (i:=5) (N:=some 29) (v:=?_) (a':=?_) (ms 9 6) rfl rfl (by kernel_rfl) (fun _ _ _ h=>h) (Or.inl ⟨by rfl,?_⟩) hHeld ?_ ?_;rotate_left;(intro w' hS';have hc0:=pw_cell_below hS' QK.out;go_simp;with_reducible rfl);rotate_left;(simp only [aP,i64_w,i32_w];rfl))
        refine one_ (i:=6) (N:=some 30) (ms 9 7) rfl rfl (by kernel_rfl) (by decide) (fun K hK=>?_)
        refine goes_ Tryz.func68 (by kernel_rfl) rfl #[.slice ak t.length ck] (by rfl) rfl rfl (by simp only [List.map_toArray,List.map_cons,List.map_nil];rfl) ?_
        have hcl:=clone_en_calls wr.drew ak ck (t.map ofEn) (Kd.C_below HCL.out (Below.refl _ _).drew) (by rw [List.length_map];have:=HTL.out;omega)
        rw [ens_back,List.length_map] at hcl
        refine hcl.mono ?_
        rintro x w6 ⟨v6,rfl,ho6,hb6⟩
        refine ⟨_,rfl,?_⟩
        obtain ⟨a6,c6,rfl,_,_⟩:=Go.Proofs.YtdacflloaehjeaaGreatDoor.Owr.val ho6
        have HB6:Hid (Below wr.heap.size wr w6):=Lib.hid (Go.Proofs.YtdacflloaehjeaaGreatDoor.below_then hHeld hb6)
        have HO6:=Lib.hid ho6
        clear hb6 ho6 hcl
        refine hK.out _ _ HB6.out (fun hHeld=>?_)
        clear hK K
        refine norm_ (a':=?_) ?_ ?_
        rotate_left
        · show Act.put _ (some 30) _=_
          (simp only [aP,i64_w,i32_w];rfl)
        (refine pU 7 31 ?_ (ms 9 8) rfl rfl (by kernel_rfl) (fun _ _ _=>id) (by rfl) ?_ ?_ ?_ ?_;rotate_left;(intro w';go_simp;with_reducible rfl);rotate_left;(simp only [aP,i64_w,i32_w];rfl))
        have qk6:=pw_cell_below HB6.out QK.out
        have dk6:w6.frozen? ⟨g,k,none⟩=false:=by
          have h1:=HI.out.2.1
          rcases h1.own.2 with ⟨hv,h0⟩|⟨g',cap,cur,hv,_,hgg,_⟩
          · have:=HKL.out;omega
          · cases hv;exact Go.Proofs.YtdacflloaehjeaaGreatDoor.blk_free (blk_below hgg HB6.out) k
        refine last_ (i:=8) (N:=none) (ms 9 9) rfl rfl (by kernel_rfl) (by decide) (fun K hK=>?_)
        refine skip_ (w1:=?_) (by rfl) rfl ?_ ?_
        rotate_left
        · go_simp
          rfl
        refine hK.out _ _ ?_
        clear hK K
        refine done_ (by kernel_rfl) ?_
        simp only [normalOnly]
        gi_wp2_with fail
        go_roundw
        case rel =>
          obtain ⟨g1,g2,g3,g4,g5⟩:=HI.out
          have hn5:=HN.out
          have hul:=HUL.out
          have hgb:w5.heap.size + 1 + 1≤g:=by
            rcases g2.own.2 with ⟨hv,h0⟩|⟨g',cap,cur,hv,hg,_⟩
            · have:=HKL.out;omega
            · cases hv;exact hg
          have t1:=g2.ext HB6.out
          rw [← hul] at t1
          have t2:=t1.set HKL.out HTK.out (own_low HO6.out (by simpa using g5))
          rw [List.length_set,hul] at t2
          refine ⟨k + 1,us.set k (.slice a6 t.length c6),by go_num,Lib.hid (by rw [List.length_set];exact hul),Lib.hid hk,Lib.hid ⟨(set_far_k _ _ _ _ _ (by omega)).trans (blk_below g1 HB6.out),t2,(set_far_k _ _ _ _ _ (by omega)).trans ((HB6.out.block _ (Array.getElem?_eq_some_iff.1 g3).1).trans g3),(Go.Proofs.YtdacflloaehjeaaGreatDoor.below_then g4 HB6.out).setCell (p:=⟨g,k,none⟩) (by show w.heap.size≤g;omega) _,by rw [World.size_setCell];exact Nat.le_trans g5 HB6.out.size⟩⟩
        case measure=>simp [intOf];omega
      · have he:k=n:=by have:=HKN.out;omega
        subst he
        have HF1:=Lib.hid g3
        have HF2:=Lib.hid ((g2.kept (grownBy_putObj' wr w5.heap.size (.deferred none)) (by omega)).low (b:=w.heap.size) (by have:=HN.out;omega))
        have HF3:Hid (Below w.heap.size w (wr.putObj w5.heap.size (.deferred none))):=Lib.hid (g4.trans (belowK_b (w:=w) (Nat.le_refl _) _ w5.heap.size _ (.deferred none) (by have:=HN.out;omega) g3 rfl rfl))
        clear g1 g2 g3 g4 g5
        gi_wp2_with fail
        refine ⟨by simp,.inl ⟨_,_,rfl,run_takeDeferred HF1.out,?_⟩⟩
        exact ⟨_,results_tmp rfl _ _ _,_,us,rfl,by rw [HT3.out];exact HF2.out,HF3.out⟩
end Go.Proofs.YtdacflloaehjeaaGreatDoorQ
end
section
namespace Go.Proofs.YtdacflloaehjeaaGreatDoorQ
open Go.RowKit Go.Proofs.YtdacflloaehjeaaGreatDoor Go.Proofs.YtdacflloaehjeaaGreatDoorW.PrintWords Go.Proofs.YtdacflloaehjeaaGreatDoorW.PrintLast Go.Proofs.YtdacflloaehjeaaGreatDoorW.PrintMore
open Go.Proofs.YtdacflloaehjeaaGreatDoorT (applyM ontoGo ontoM treesGo Ch)
theorem fold_calls (w:World) (hG:GL w) (A1:Option Addr) (c1:Nat) (s:List (List S59)) (hS:Kd.C (Kd.slice 59 k59) w A1 s.length s) (hs:s.length≤1000000) (hf:∀ l ∈ s,lyrFits' l) :
    Calls Tryz.prog 37 #[.slice A1 s.length c1] w fun e w'=>∃ v:Value,e=.returned (.tuple #[v,.int .i64 ((ontoM Y [] (s.map (List.map chOf))).2.1:Int),.int .i64 (ontoM Y [] (s.map (List.map chOf))).2.2]) ∧
      Go.Proofs.YtdacflloaehjeaaGreatDoor.Owr eCells 39 11 w.heap.size w' v (ontoM Y [] (s.map (List.map chOf))).1∧Below w.heap.size w w':=by
  have HC:=Lib.hid (onto_calls w hG none 0 [] (Kd.C_nil _ _) (Nat.le_refl _) ⟨rfl,by simp⟩ A1 c1 s hS hs hf)
  clear hS hs hf
  go_enter Tryz.func37,Tryz.ntmps37
  go_wp2_with fail
  refine HC.out.mono ?_
  rintro e w1 ⟨v,rfl,ho,hb⟩
  have HO:=Lib.hid ho
  have HB:=Lib.hid hb
  clear ho hb HC
  obtain ⟨R,hR⟩:∃ R,R=ontoM Y ([]:List (Str×Nd)) (s.map (List.map chOf)):=⟨_,rfl⟩
  rw [show List.map enOf ([]:List S39)=[] from rfl,← hR] at HO ⊢
  have HR:=Lib.hid hR
  clear hR
  go_wp2_with fail
  refine bodyPost_ret (v:=.tuple #[v,.int .i64 R.2.1,.int .i64 R.2.2]) (by simp [results,Tryz.f37,go_sem]) rfl ?_
  rw [← HR.out]
  exact ⟨v,rfl,HO.out,HB.out⟩
theorem sum_le:∀ (l:List Nat) (b:Nat),(∀ x ∈ l,x≤b)→l.sum≤l.length * b
  | [],b,_=>by simp
  | x :: r,b,h=>by
    have h1:=sum_le r b (fun y hy=>h y (by simp [hy]))
    have h2:=h x (by simp)
    rw [List.sum_cons,List.length_cons,Nat.succ_mul]
    omega
set_option maxRecDepth 100000 in
theorem count_calls (w:World) (A:Option Addr) (c:Nat) (s:List (List S59)) (hS:Kd.C (Kd.slice 59 k59) w A s.length s) (hs:s.length≤1000000) (hl:∀ l ∈ s,l.length≤1000000) :
    Calls Tryz.prog 40 #[.slice A s.length c] w fun e w'=>e=.returned (.int .i64 ((s.map List.length).sum:Nat))∧Below w.heap.size w w':=by
  have HS:=Lib.hid hS
  have HN:=Lib.hid hs
  have HL:=Lib.hid hl
  clear hS hs hl
  go_enter Tryz.func40,Tryz.ntmps40
  go_wp2
  go_loopg [3,8] (s.length + 1) (fun gq v u wr=>∃ (z i:Nat),v=.int .i64 z∧u=.int .i64 i∧s.length<gq + i∧Hid (i≤s.length)∧Hid (z=((s.take i).map List.length).sum)∧Hid (Below w.heap.size w wr))
  case atStart=>exact ⟨0,0,rfl,rfl,by omega,Lib.hid (by omega),Lib.hid (by simp),Lib.hid (Below.refl _ _)⟩
  case round =>
    obtain ⟨z,i,rfl,rfl,hgi,HI,HZ,HB⟩:=hrel
    by_cases hi:i<s.length
    · cases gk with
      | zero=>omega
      | succ g1 =>
        obtain ⟨ad,A1,c1,rfl,hc,hl1,hk1⟩:=s_at HS.out i hi
        have hm:=HL.out _ (List.getElem_mem hi)
        have hz:z≤1000000 * 1000000:=by
          rw [HZ.out]
          have h1:=sum_le ((s.take i).map List.length) 1000000 (fun x hx=>by
            obtain ⟨y,hy,rfl⟩:=List.mem_map.1 hx
            exact HL.out y (List.mem_of_mem_take hy))
          rw [List.length_map,List.length_take] at h1
          exact Nat.le_trans h1 (Nat.mul_le_mul_right _ (by have:=HN.out;omega))
        have HZ2:Hid (z + s[i].length=((s.take (i + 1)).map List.length).sum):=Lib.hid (by rw [List.take_succ_eq_append_getElem hi,List.map_append,List.sum_append,← HZ.out];simp)
        have q1:=pw_cell_below HB.out hc
        have HII:Hid (i + 1≤s.length):=Lib.hid hi
        have hnn:=HN.out
        clear hc hl1 hk1
        go_wp2_with fail
        go_roundg g1
        case measure=>omega
        case rel=>exact ⟨z + s[i].length,i + 1,by go_num,by go_num,by omega,HII,HZ2,HB⟩
    · have he:i=s.length:=by have:=HI.out;omega
      subst he
      go_wp2_with fail
      go_ret
      refine ⟨?_,HB.out⟩
      rw [HZ.out,List.take_of_length_le (Nat.le_refl _)]
      rfl
theorem stk_take {w:World} {A:Option Addr} {xs:List (List S59)} (h:Kd.C (Kd.slice 59 k59) w A xs.length xs) (n:Nat):Kd.C (Kd.slice 59 k59) w A (xs.take n).length (xs.take n):=by
  obtain ⟨_,hm,hr⟩:=h
  refine ⟨rfl,by rw [List.length_take];omega,fun h0=>?_⟩
  obtain ⟨ad,ha,hc⟩:=hr (by rw [List.length_take] at h0;omega)
  refine ⟨ad,ha,fun j p hp=>?_⟩
  rw [List.getElem?_take] at hp
  split at hp
  · exact hc j p hp
  · cases hp
theorem stk_drop {w:World} {ad:Addr} {xs:List (List S59)} (h:Kd.C (Kd.slice 59 k59) w (some ad) xs.length xs) (n:Nat):Kd.C (Kd.slice 59 k59) w (some (ad.add n)) (xs.drop n).length (xs.drop n):=by
  obtain ⟨_,hm,hr⟩:=h
  refine ⟨rfl,by rw [List.length_drop];omega,fun h0=>?_⟩
  obtain ⟨ad',ha,hc⟩:=hr (by rw [List.length_drop] at h0;omega)
  obtain rfl:=Option.some.inj ha
  refine ⟨_,rfl,fun j p hp=>?_⟩
  rw [List.getElem?_drop] at hp
  obtain ⟨c,h1,h2,h3⟩:=hc (n + j) p hp
  refine ⟨c,h1,h2,fun i u hu=>?_⟩
  rw [Addr.add_add]
  have:=h3 i u hu
  have e:(n + j) * (Kd.slice 59 k59).sz + i=n + (j * (Kd.slice 59 k59).sz + i):=by
    show (n + j) * 1 + i=n + (j * 1 + i)
    omega
  rwa [e] at this
theorem stk_nil {w:World} (A:Option Addr):Kd.C (Kd.slice 59 k59) w A ([]:List (List S59)).length []:=⟨rfl,by simp,fun h=>absurd h (Nat.lt_irrefl 0)⟩
end Go.Proofs.YtdacflloaehjeaaGreatDoorQ
end
section
namespace Go.Proofs.YtdacflloaehjeaaGreatDoorQ
open Go.RowKit Go.Proofs.YtdacflloaehjeaaGreatDoor Go.Proofs.YtdacflloaehjeaaGreatDoorW.PrintWords Go.Proofs.YtdacflloaehjeaaGreatDoorW.PrintLast Go.Proofs.YtdacflloaehjeaaGreatDoorW.PrintMore
open Go.Proofs.YtdacflloaehjeaaGreatDoorT (applyM RightT getL parM underM Ch)
theorem same_c (w:World) (A0:Option Addr) (c0:Nat) (l0:List S39) (hr0:Kd.C k39 w A0 l0.length l0) (hc0:l0.length≤c0) (n0:l0.length≤1000000)
    (A1:Option Addr) (c1:Nat) (l1:List S39) (hr1:Kd.C k39 w A1 l1.length l1) (hc1:l1.length≤c1) (d:Bool) (hd:d=true↔l0=l1) :
    Calls Tryz.prog 21 #[.slice A0 l0.length c0,.slice A1 l1.length c1] w fun x w'=>x=.returned (.bool d)∧Below w.heap.size w w':=by
  obtain ⟨k,hk⟩:=(same_ev l0 l1 (by omega) hd).rounds
  exact (onionskinref08_Same.calls k A0 c0 l0 A1 c1 l1 _ w hr0 hc0 hr1 hc1 hk).mono fun _ _ ⟨h1,h2⟩=>⟨h1,h2.below⟩
end Go.Proofs.YtdacflloaehjeaaGreatDoorQ
end
section
namespace Go.Proofs.YtdacflloaehjeaaGreatDoorQ
open Go.RowKit Go.Proofs.YtdacflloaehjeaaGreatDoor Go.Proofs.YtdacflloaehjeaaGreatDoorW.PrintWords Go.Proofs.YtdacflloaehjeaaGreatDoorW.PrintLast Go.Proofs.YtdacflloaehjeaaGreatDoorW.PrintMore
open Go.Proofs.YtdacflloaehjeaaGreatDoorT (applyM ontoGo ontoM rightT RightT Ch)
set_option maxRecDepth 100000 in
set_option maxHeartbeats 4000000 in
theorem few18_calls (w:World) (A:Option Addr) (c:Nat) (s:List (List S59)) (hS:Kd.C (Kd.slice 59 k59) w A s.length s) (hz:∀ l ∈ s,SzC l∧l.length≤1000000000000000) (hn:s.length≤1000000000000000) :
    Calls Tryz.prog 34 #[.slice A s.length c] w fun e w'=>∃ b,e=.returned (.bool b)∧(b=true→s.length≤12∧∀ l ∈ s,lyrFits' l)∧Below w.heap.size w w':=by
  have HS:=Lib.hid hS
  have HZ:=Lib.hid hz
  have HN:=Lib.hid hn
  clear hS hz hn
  go_enter Tryz.func34,Tryz.ntmps34
  go_wp2
  go_loopg [3,4] (s.length + 1) (fun gq v u wr=>∃ (z:Int) (i:Nat),v=.int .i64 z∧u=.int .i64 i∧s.length<gq + i∧Hid (i≤s.length)∧Hid (∀ l ∈ s.take i,lyrFits' l)∧Hid (Below w.heap.size w wr))
  case atStart=>exact ⟨0,0,rfl,rfl,by omega,Lib.hid (by omega),Lib.hid (fun l h=>by simp at h),Lib.hid (Below.refl _ _)⟩
  case round =>
    obtain ⟨z,i,rfl,rfl,hgi,HI,HF,HB⟩:=hrel
    by_cases hi:i<s.length
    · cases gk with
      | zero=>omega
      | succ g1 =>
        obtain ⟨ad,A1,c1,rfl,hc,hl1,hk1⟩:=s_at HS.out i hi
        have hm:=HZ.out _ (List.getElem_mem hi)
        obtain ⟨b,e0,q0⟩:=few16_ev s[i] hm.1 hm.2
        obtain ⟨k0,e0⟩:=e0.rounds
        have HQ:Hid (b=true→lyrFits' s[i]):=Lib.hid fun h=>fitsC_of (q0 h)
        have HC:=Lib.hid hc
        have HFW:=Lib.hid (onionskinlaw16_Few.calls k0 A1 c1 s[i] b wr (Kd.C_below hk1 HB.out) hl1 e0)
        have HII:Hid (i + 1≤s.length):=Lib.hid hi
        have q1:=pw_cell_below HB.out hc
        have hnn:=HN.out
        clear hc hm e0 q0 hl1 hk1
        go_wp2_with fail
        refine HFW.out.mono ?_
        rintro x w2 ⟨rfl,hd⟩
        have HB2:=Lib.hid (Go.Proofs.YtdacflloaehjeaaGreatDoor.below_then HB.out hd.below)
        clear hd q1 HFW
        cases b with
        | false =>
          go_wp2_with fail
          go_ret
          exact ⟨false,rfl,(fun h=>by cases h),HB2.out⟩
        | true =>
          have q2:=pw_cell_below HB2.out HC.out
          have HF2:Hid (∀ l ∈ s.take (i + 1),lyrFits' l):=Lib.hid (fun l hl=>by
            rw [List.take_succ_eq_append_getElem hi] at hl
            rcases List.mem_append.1 hl with h|h
            · exact HF.out l h
            · rw [List.mem_singleton.1 h];exact HQ.out rfl)
          go_wp2_with fail
          go_roundg g1
          case measure=>omega
          case rel=>exact ⟨_,i + 1,rfl,by go_num,by omega,HII,HF2,HB2⟩
    · have he:i=s.length:=by have:=HI.out;omega
      subst he
      have HF2:Hid (∀ l ∈ s,lyrFits' l):=Lib.hid (by have:=HF.out;rwa [List.take_of_length_le (Nat.le_refl _)] at this)
      by_cases h12:s.length≤12
      · have h1:decide ((s.length:Int)≤12)=true:=by simp;omega
        go_wp2_with fail
        go_ret
        exact ⟨_,rfl,fun _=>⟨h12,HF2.out⟩,HB.out⟩
      · have h1:decide ((s.length:Int)≤12)=false:=by simp;omega
        go_wp2_with fail
        go_ret
        exact ⟨false,rfl,(fun h=>by cases h),HB.out⟩
theorem onto_fits:∀ (S:List (List (Ch Str Nd))) (k:Nat) (t:List (Str×Nd)),rowFits t=true→t.length≤1000000→(∀ l ∈ S,lyrFits l=true)→rowFits (ontoGo Y k t S).1=true∧(ontoGo Y k t S).1.length≤1000000
  | [],k,t,h,hl,_=>⟨h,hl⟩
  | l :: r,k,t,h,hl,hf=>by
    unfold ontoGo
    obtain ⟨a,e,hae⟩:∃ a e,applyM Y t l=(a,e):=⟨_,_,rfl⟩
    rw [hae]
    dsimp only
    by_cases he:e=0
    · subst he
      rw [if_pos rfl]
      exact onto_fits r _ a (fit_apply hae h (hf l (by simp))) (by have:=fit_len hae;omega) (fun x hx=>hf x (by simp [hx]))
    · rw [if_neg he]
      exact ⟨rfl,by simp⟩
theorem ontoM_fits (S:List (List (Ch Str Nd))) (t:List (Str×Nd)) (h:rowFits t=true) (hl:t.length≤1000000) (hf:∀ l ∈ S,lyrFits l=true):rowFits (ontoM Y t S).1=true∧(ontoM Y t S).1.length≤1000000:=by
  unfold ontoM
  split
  · exact onto_fits S 0 t h hl hf
  · exact ⟨rfl,by simp⟩
theorem s_fits {s:List (List S59)} (h:∀ l ∈ s,lyrFits' l):∀ l ∈ s.map (List.map chOf),lyrFits l=true:=by
  intro l hl
  obtain ⟨m,hm,rfl⟩:=List.mem_map.1 hl
  exact (h m hm).1
end Go.Proofs.YtdacflloaehjeaaGreatDoorQ
end
section
namespace Go.Proofs.YtdacflloaehjeaaGreatDoorQ
open Go.RowKit Go.WideMaps Go.Maps Go.Proofs.YtdacflloaehjeaaGreatDoor Go.Proofs.YtdacflloaehjeaaGreatDoorW.PrintWords Go.Proofs.YtdacflloaehjeaaGreatDoorW.PrintLast Go.Proofs.YtdacflloaehjeaaGreatDoorW.PrintMore
open Go.Proofs.YtdacflloaehjeaaGreatDoorT (applyM ontoGo ontoM treesGo Ch)
def m18:List (List (Ch Str Nd)):=[[⟨[97],0,dN⟩,⟨[97,47,98],0,zeroN⟩],[⟨[97,47,98],1,zeroN⟩],[⟨[120,47,121],0,zeroN⟩]]
def s18:List (List S59):=m18.map (List.map ofCh)
theorem s18_back (l:List (List (Ch Str Nd))):(l.map (List.map ofCh)).map (List.map chOf)=l:=by
  rw [List.map_map]
  exact (List.map_congr_left (fun x _=>chs_back x)).trans (List.map_id _)
theorem o18a:ontoM Y [] (m18.take 2)=([([97],dN)],2,0):=by kernel_rfl
theorem o18b:ontoM Y [] m18=([],2,10):=by kernel_rfl
theorem o18c:ontoM Y ([]:List (Str×Nd)) []=([],0,0):=by kernel_rfl
theorem o18d:treesGo Y [] m18=[[([97],dN),([97,47,98],zeroN)],[([97],dN)]]:=by kernel_rfl
theorem o18e:ontoM Y [([120],dN)] (m18.drop 2)=([([120],dN),([120,47,121],zeroN)],1,0):=by kernel_rfl
theorem o18f:ontoM Y [([120,47,121],zeroN)] []=([],0,1):=by kernel_rfl
theorem stk_block {w:World} {g:Nat} {T:TypeId} {vs:List Value} {xs:List (List S59)} (h:w.heap[g]?=some (.cells vs.toArray T (0,0))) (hm:xs.length≤9223372036854775807)
    (hx:∀ (j:Nat) (p:List S59),xs[j]?=some p→∃ A c,vs[j]?=some (.slice A p.length c)∧p.length≤c∧Kd.C k59 w A p.length p) :
    Kd.C (Kd.slice 59 k59) w (some ⟨g,0,none⟩) xs.length xs:=by
  refine ⟨rfl,hm,fun _=>⟨_,rfl,fun j p hp=>?_⟩⟩
  obtain ⟨A,c,hv,hc,hk⟩:=hx j p hp
  refine ⟨[.slice A p.length c],rfl,⟨A,c,rfl,hc,hk⟩,fun i u hu=>?_⟩
  have e0:i=0:=by
    apply Classical.byContradiction
    intro hne
    rw [List.getElem?_eq_none (by simp;omega)] at hu
    cases hu
  subst e0
  obtain rfl:=Option.some.inj hu
  show w.cell? ((⟨g,0,none⟩:Addr).add (j * 1 + 0))=_
  rw [Go.Proofs.YtdacflloaehjeaaGreatDoor.add_at,Nat.zero_add,Nat.mul_one,Nat.add_zero,Go.Proofs.YtdacflloaehjeaaGreatDoor.blk_cell h]
  simpa using hv
theorem chs_C {w:World} {g:Nat} {l:List (Ch Str Nd)} (h:w.heap[g]?=some (.cells (flat chCells l).toArray 59 (0,0))) (hl:l.length≤1000000):Kd.C k59 w (some ⟨g,0,none⟩) (l.map ofCh).length (l.map ofCh) :=
  ch_C (by rw [chs_back];exact row_of_block chCells_len (by unfold maxLen;omega) h) (by rw [List.length_map];omega)
theorem ens_C {w:World} {g:Nat} {l:List (Str×Nd)} (h:w.heap[g]?=some (.cells (flat eCells l).toArray 39 (0,0))) (hl:l.length≤1000000):Kd.C k39 w (some ⟨g,0,none⟩) (l.map ofEn).length (l.map ofEn) :=
  en_C (by rw [ens_back];exact row_of_block eCells_len (by unfold maxLen;omega) h) (by rw [List.length_map];omega)
section
variable {P:Program} {ops:Array Oper} {Q:Exit→Act→World→Prop}
theorem make_ {oi:Oper} {N:Option Tmp} {a:Act} {w w1:World} {K:Act→World→Prop} {v:Value} (hw:Region.wanted oi (yielded ops a.tmps)=true) (hN:oi.dst=N) (hrun:(execOp a.eval oi).run P w=.ok (.value v) w1)
    (h:K (a.put N v) w1):if Region.wanted oi (yielded ops a.tmps)=true then Oper.wp P oi a w K Q else K (a.put N undef) w:=by
  rw [if_pos hw]
  subst hN
  unfold Oper.wp
  rw [hrun]
  exact h
end
theorem fits18:∀ l ∈ s18,lyrFits' l:=by
  intro l hl
  obtain ⟨m,hm,rfl⟩:=List.mem_map.1 hl
  have h9:∀ m ∈ m18,lyrFits m=true∧m.length≤1000000:=by
    intro m hm
    simp only [m18,List.mem_cons,List.not_mem_nil,or_false] at hm
    rcases hm with rfl|rfl|rfl <;> exact ⟨by kernel_rfl,by simp⟩
  exact ⟨by rw [chs_back];exact (h9 m hm).1,by rw [List.length_map];exact (h9 m hm).2⟩
set_option maxRecDepth 100000 in
set_option maxHeartbeats 4000000 in
theorem small18_calls (w:World) (hG:GL w):Calls Tryz.prog 33 #[] w fun e w'=>e=.returned (.bool true)∧Below w.heap.size w w':=by
  have h31:=Tryz.underlying35
  go_enter Tryz.func33,Tryz.ntmps33
  go_wp2_with (first|((with_reducible refine gate_dst (N:=1) rfl ?_);refine box_event rfl (N:=1) rfl (cs:=ndZero) (t:=35) ?hr ?_;(case hr=>first|(go_simp;done)|(go_simp;rfl));intro g1 hg w2 hb2 hbl2;have HB1:=Lib.hid hb2;have HBL1:=Lib.hid hbl2;have HGE1:Hid (w.heap.size≤g1):=Lib.hid (by rw [hg];exact Nat.le_refl _);clear hg hb2 hbl2;go_frame)|((with_reducible refine gate_store (t:=35) (p:=1) rfl ?_);refine wpList_store_agg rfl rfl 35 _ _ rfl g1 (ndCells dN).toArray rfl rfl 35 ndZero HB1.out rfl rfl (ndCells_all _) ?_;intro w3 hb3 hg3;have HB3:=Lib.hid hb3;have HBL3:Hid (Below w.heap.size w w3):=Lib.hid (HBL1.out.grown hg3 HBL1.out.size (fun j hj=>by cases hj;exact HGE1.out));clear hb3 hg3)|((with_reducible refine gate_dst (N:=19) rfl ?_);refine build_event rfl (N:=19) rfl 35 _ rfl (ndCells dN).toArray (by kernel_rfl) ?_;go_frame)|((with_reducible refine gate_dst (N:=20) rfl ?_);refine wpList_load_agg rfl 35 _ rfl _ rfl (ndCells dN) _ (lies_of HB3.out) h31 rfl rfl ?_;go_frame)|((with_reducible refine gate_dst (N:=21) rfl ?_);refine build_event rfl (N:=21) rfl 59 _ rfl (chCells ⟨[97],0,dN⟩).toArray (by kernel_rfl) ?_;go_frame)|((with_reducible refine gate_dst (N:=22) rfl ?_);refine build_event rfl (N:=22) rfl 59 _ rfl (chCells ⟨[97,47,98],0,zeroN⟩).toArray (by kernel_rfl) ?_;go_frame)|((with_reducible refine gate_dst (N:=23) rfl ?_);refine row_event rfl (N:=23) rfl (cs:=(flat chCells [⟨[97],0,dN⟩,⟨[97,47,98],0,zeroN⟩]).toArray) (t:=59) (n:=2) (by kernel_rfl) ?_;intro g23 hg w23 hb hbl;have HB23:=Lib.hid hb;have HBL23:=Lib.hid hbl;clear hg hb hbl;go_frame)|((with_reducible refine gate_dst (N:=24) rfl ?_);refine build_event rfl (N:=24) rfl 59 _ rfl (chCells ⟨[97,47,98],1,zeroN⟩).toArray (by kernel_rfl) ?_;go_frame)|((with_reducible refine gate_dst (N:=25) rfl ?_);refine row_event rfl (N:=25) rfl (cs:=(flat chCells [⟨[97,47,98],1,zeroN⟩]).toArray) (t:=59) (n:=1) (by kernel_rfl) ?_;intro g25 hg w25 hb hbl;have HB25:=Lib.hid hb;have HBL25:=Lib.hid hbl;clear hg hb hbl;go_frame)|((with_reducible refine gate_dst (N:=26) rfl ?_);refine build_event rfl (N:=26) rfl 59 _ rfl (chCells ⟨[120,47,121],0,zeroN⟩).toArray (by kernel_rfl) ?_;go_frame)|((with_reducible refine gate_dst (N:=27) rfl ?_);refine row_event rfl (N:=27) rfl (cs:=(flat chCells [⟨[120,47,121],0,zeroN⟩]).toArray) (t:=59) (n:=1) (by kernel_rfl) ?_;intro g27 hg w27 hb hbl;have HB27:=Lib.hid hb;have HBL27:=Lib.hid hbl;clear hg hb hbl;go_frame)|((with_reducible refine gate_dst (N:=28) rfl ?_);refine row_event rfl (N:=28) rfl (cs:=([.slice (some ⟨g23,0,none⟩) 2 2,.slice (some ⟨g25,0,none⟩) 1 1,.slice (some ⟨g27,0,none⟩) 1 1]).toArray) (t:=25) (n:=3) (by kernel_rfl) ?_;intro g28 hg w28 hb hbl;have HB28:=Lib.hid hb;have HBL28:=Lib.hid hbl;clear hg hb hbl;go_frame))
  have HW28:=Lib.hid (Go.Proofs.YtdacflloaehjeaaGreatDoor.below_then (Go.Proofs.YtdacflloaehjeaaGreatDoor.below_then (Go.Proofs.YtdacflloaehjeaaGreatDoor.below_then (Go.Proofs.YtdacflloaehjeaaGreatDoor.below_then HBL3.out HBL23.out) HBL25.out) HBL27.out) HBL28.out)
  have k23:=blk_below (blk_below (blk_below HB23.out HBL25.out) HBL27.out) HBL28.out
  have k25:=blk_below (blk_below HB25.out HBL27.out) HBL28.out
  have k27:=blk_below HB27.out HBL28.out
  have HN28:=Lib.hid (blk_below (blk_below (blk_below (blk_below HB3.out HBL23.out) HBL25.out) HBL27.out) HBL28.out)
  have HSTK:Hid (Kd.C (Kd.slice 59 k59) w28 (some ⟨g28,0,none⟩) s18.length s18):=Lib.hid (stk_block HB28.out (by decide) (fun j p hp=>by
    match j,hp with
    | 0,hp=>obtain rfl:=Option.some.inj hp;exact ⟨_,_,rfl,by decide,chs_C k23 (by decide)⟩
    | 1,hp=>obtain rfl:=Option.some.inj hp;exact ⟨_,_,rfl,by decide,chs_C k25 (by decide)⟩
    | 2,hp=>obtain rfl:=Option.some.inj hp;exact ⟨_,_,rfl,by decide,chs_C k27 (by decide)⟩
    | j + 3,hp=>cases hp))
  clear k23 k25 k27 HB3 HBL3 HB23 HBL23 HB25 HBL25 HB27 HBL27 HB28 HBL28 HB1 HBL1 HGE1
  have e18:s18.map (List.map chOf)=m18:=s18_back m18
  have c1:=fold_calls w28 (hG.ext HW28.out) (some ⟨g28,0,none⟩) 3 (s18.take 2) (stk_take HSTK.out 2) (by decide) (fun l hl=>fits18 l (List.mem_of_mem_take hl))
  rw [List.map_take,e18,o18a] at c1
  have C1:=Lib.hid c1
  clear c1
  go_wp2_with fail
  refine C1.out.mono ?_
  rintro e w32 ⟨v3,rfl,ho,hb⟩
  obtain ⟨a3,c3,rfl,_,_⟩:=Go.Proofs.YtdacflloaehjeaaGreatDoor.Owr.val ho
  have HO3:=Lib.hid ho
  have HW32:=Lib.hid (Go.Proofs.YtdacflloaehjeaaGreatDoor.below_then HW28.out hb)
  have HN32:=Lib.hid (blk_below HN28.out hb)
  have HS32:=Lib.hid (Kd.C_below HSTK.out hb)
  clear ho hb C1 HN28 HSTK HW28
  have c2:=fold_calls w32 (hG.ext HW32.out) (some ⟨g28,0,none⟩) 3 s18 HS32.out (by decide) fits18
  rw [e18,o18b] at c2
  have C2:=Lib.hid c2
  clear c2
  go_wp2_with fail
  refine C2.out.mono ?_
  rintro e w38 ⟨v6,rfl,ho,hb⟩
  obtain ⟨a6,c6,rfl,_,_⟩:=Go.Proofs.YtdacflloaehjeaaGreatDoor.Owr.val ho
  have HW38:=Lib.hid (Go.Proofs.YtdacflloaehjeaaGreatDoor.below_then HW32.out hb)
  have HN38:=Lib.hid (blk_below HN32.out hb)
  have HS38:=Lib.hid (Kd.C_below HS32.out hb)
  have HO3a:=Lib.hid (Go.Proofs.YtdacflloaehjeaaGreatDoor.Owr.ext HO3.out hb)
  clear ho hb C2 HN32 HS32 HW32 HO3
  have c3':=fold_calls w38 (hG.ext HW38.out) none 0 [] (stk_nil none) (by decide) (fun l h=>by cases h)
  rw [List.map_nil,o18c] at c3'
  have C3:=Lib.hid c3'
  clear c3'
  go_wp2_with fail
  refine C3.out.mono ?_
  rintro e w43 ⟨v9,rfl,ho,hb⟩
  obtain ⟨a9,c9,rfl,_,_⟩:=Go.Proofs.YtdacflloaehjeaaGreatDoor.Owr.val ho
  have HW43:=Lib.hid (Go.Proofs.YtdacflloaehjeaaGreatDoor.below_then HW38.out hb)
  have HN43:=Lib.hid (blk_below HN38.out hb)
  have HS43:=Lib.hid (Kd.C_below HS38.out hb)
  have HO3b:=Lib.hid (Go.Proofs.YtdacflloaehjeaaGreatDoor.Owr.ext HO3a.out hb)
  clear ho hb C3 HN38 HS38 HW38 HO3a
  have c4:=trees_calls w43 (hG.ext HW43.out) (some ⟨g28,0,none⟩) 3 s18 HS43.out (by decide) fits18
  rw [e18,o18d] at c4
  have C4:=Lib.hid c4
  clear c4
  go_wp2_with fail
  refine C4.out.mono ?_
  rintro e w47 ⟨v12,vs,rfl,hts,hb⟩
  obtain ⟨x0,x1,rfl⟩:∃ x0 x1,vs=[x0,x1]:=by
    match vs,hts.len with
    | [x0,x1],_=>exact ⟨x0,x1,rfl⟩
  obtain ⟨a12,c12,rfl,_,_⟩:=Go.Proofs.YtdacflloaehjeaaGreatDoor.Owr.val hts.own
  have HTS:=Lib.hid hts
  have HW47:=Lib.hid (Go.Proofs.YtdacflloaehjeaaGreatDoor.below_then HW43.out hb)
  have HN47:=Lib.hid (blk_below HN43.out hb)
  have HS47:=Lib.hid (Kd.C_below HS43.out hb)
  have HO3c:=Lib.hid (Go.Proofs.YtdacflloaehjeaaGreatDoor.Owr.ext HO3b.out hb)
  clear hts hb C4 HN43 HS43 HW43 HO3b
  have e2:(s18.drop 2).map (List.map chOf)=m18.drop 2:=by rw [List.map_drop,e18]
  go_upto_region 7 with (fail)
  refine start_ (n:=13) (S:=fun w'=>Below w47.heap.size w47 w') (ds:=[]) (ms 13 0) (by kernel_rfl) rfl rfl (Below.refl _ _).drew (fun hHeld=>?_)
  refine take_ (i:=0) (N:=some 50) (v:=.agg (ndCells dN).toArray) (a':=?_) (ms 13 1) rfl rfl (by kernel_rfl) (fun _ _ _ h=>h) (yi_agg (by rfl) 35 _ rfl _ rfl _ _ (fun w' hb=>lies_of (blk_below HN47.out hb)) h31 rfl rfl) hHeld ?_ ?_
  rotate_left
  · (simp only [aP,i64_w,i32_w];rfl)
  refine pure_ (i:=1) (N:=some 51) (v:=.agg (eCells ([120],dN)).toArray) (a':=?_) (ms 13 2) rfl rfl (by kernel_rfl) (fun _ _ _ h=>h) (Or.inl ⟨by rfl,fun w'=>by kernel_rfl⟩) ?_ ?_
  rotate_left
  · (simp only [aP,i64_w,i32_w];rfl)
  refine pU 3 53 ?_ (bm 13 11) rfl rfl (by kernel_rfl) (fun _ _ _=>id) (by rfl) ?_ ?_ ?_ ?_
  rotate_left
  · intro w'
    go_simp
    with_reducible rfl
  rotate_left
  · (simp only [aP,i64_w,i32_w];rfl)
  refine pU 4 54 ?_ (bm 13 27) rfl rfl (by kernel_rfl) (fun _ _ _=>id) (by rfl) ?_ ?_ ?_ ?_
  rotate_left
  · intro w'
    go_simp
    with_reducible rfl
  rotate_left
  · (simp only [aP,i64_w,i32_w];rfl)
  obtain ⟨wA,hwA⟩:∃ wA,wA=w47.drew.alloc (.cells (flat eCells [([120],dN)]).toArray 39 (0,0)):=⟨_,rfl⟩
  have hA:Below w47.heap.size w47 wA:=by rw [hwA];exact (Below.refl _ _).drew.alloc (Nat.le_refl _) _
  have hgA:wA.heap[w47.heap.size]?=some (.cells (flat eCells [([120],dN)]).toArray 39 (0,0)):=by rw [hwA];exact World.alloc_heap_new w47.drew _
  refine one_ (i:=2) (N:=some 52) (ms 13 5) rfl rfl (by kernel_rfl) (by decide) (fun K hK=>?_)
  refine make_ (v:=.slice (some ⟨w47.heap.size,0,none⟩) 1 1) (w1:=wA) (by rfl) rfl (by rw [hwA];kernel_rfl) ?_
  refine hK.out _ _ hA (fun hHeld=>?_)
  clear hK K hwA
  refine norm_ (a':=?_) ?_ ?_
  rotate_left
  · show Act.put _ (some 52) _=_
    (simp only [aP,i64_w,i32_w];rfl)
  have HWA:=Lib.hid (Go.Proofs.YtdacflloaehjeaaGreatDoor.below_then HW47.out hA)
  have HAA:=Lib.hid hA
  have c5:=onto_calls wA (hG.ext HWA.out) (some ⟨w47.heap.size,0,none⟩) 1 [ofEn ([120],dN)] (ens_C (l:=[([120],dN)]) hgA (by decide)) (by decide) ⟨by kernel_rfl,by decide⟩ (some ⟨g28,2,none⟩) 1 (s18.drop 2) (stk_drop (Kd.C_below HS47.out hA) 2) (by decide) (fun l hl=>fits18 l (List.mem_of_mem_drop hl))
  rw [e2,show List.map enOf [ofEn ([120],dN)]=[([120],dN)] from rfl,o18e] at c5
  refine one_ (i:=5) (N:=some 55) (ms 13 6) rfl rfl (by kernel_rfl) (by decide) (fun K hK=>?_)
  refine goes_ Tryz.func35 (by kernel_rfl) rfl #[.slice (some ⟨w47.heap.size,0,none⟩) 1 1,.slice (some ⟨g28,2,none⟩) 1 1] (by rfl) rfl rfl (by simp only [List.map_toArray,List.map_cons,List.map_nil];rfl) ?_
  refine c5.mono ?_
  rintro e w55 ⟨v13,rfl,ho,hb⟩
  refine ⟨_,rfl,?_⟩
  obtain ⟨a13,c13,rfl,_,_⟩:=Go.Proofs.YtdacflloaehjeaaGreatDoor.Owr.val ho
  have HO13:=Lib.hid ho
  have HB55:=Lib.hid (Go.Proofs.YtdacflloaehjeaaGreatDoor.below_then HAA.out hb)
  clear c5 ho hb hA hgA
  refine hK.out _ _ HB55.out (fun hHeld=>?_)
  clear hK K
  refine norm_ (a':=?_) ?_ ?_
  rotate_left
  · show Act.put _ (some 55) _=_
    (simp only [aP,i64_w,i32_w];rfl)
  (refine pU 6 49 ?_ (ms 13 7) rfl rfl (by kernel_rfl) (fun _ _ _=>id) (by rfl) ?_ ?_ ?_ ?_;rotate_left;(intro w';go_simp;with_reducible rfl);rotate_left;(simp only [aP,i64_w,i32_w];rfl))
  (refine pU 7 56 ?_ (ms 13 8) rfl rfl (by kernel_rfl) (fun _ _ _=>id) (by rfl) ?_ ?_ ?_ ?_;rotate_left;(intro w';go_simp;with_reducible rfl);rotate_left;(simp only [aP,i64_w,i32_w];rfl))
  (refine pU 8 57 ?_ (ms 13 9) rfl rfl (by kernel_rfl) (fun _ _ _=>id) (by rfl) ?_ ?_ ?_ ?_;rotate_left;(intro w';go_simp;with_reducible rfl);rotate_left;(simp only [aP,i64_w,i32_w];rfl))
  (refine pU 9 58 ?_ (ms 13 10) rfl rfl (by kernel_rfl) (fun _ _ _=>id) (by rfl) ?_ ?_ ?_ ?_;rotate_left;(intro w';go_simp;with_reducible rfl);rotate_left;(simp only [aP,i64_w,i32_w];rfl))
  (refine pU 10 13 ?_ (ms 13 11) rfl rfl (by kernel_rfl) (fun _ _ _=>id) (by rfl) ?_ ?_ ?_ ?_;rotate_left;(intro w';go_simp;with_reducible rfl);rotate_left;(simp only [aP,i64_w,i32_w];rfl))
  (refine pU 11 14 ?_ (ms 13 12) rfl rfl (by kernel_rfl) (fun _ _ _=>id) (by rfl) ?_ ?_ ?_ ?_;rotate_left;(intro w';go_simp;with_reducible rfl);rotate_left;(simp only [aP,i64_w,i32_w];rfl))
  (refine pU 12 15 ?_ (ms 13 13) rfl rfl (by kernel_rfl) (fun _ _ _=>id) (by rfl) ?_ ?_ ?_ ?_;rotate_left;(intro w';go_simp;with_reducible rfl);rotate_left;(simp only [aP,i64_w,i32_w];rfl))
  refine done_ (by kernel_rfl) ?_
  have HW55:=Lib.hid (Go.Proofs.YtdacflloaehjeaaGreatDoor.below_then HW47.out HB55.out)
  have HS55:=Lib.hid (Kd.C_below HS47.out HB55.out)
  have HTS5:=Lib.hid (HTS.out.ext HB55.out)
  have HO35:=Lib.hid (Go.Proofs.YtdacflloaehjeaaGreatDoor.Owr.ext HO3c.out HB55.out)
  clear HW47 HN47 HS47 HTS HO3c HB55 HAA HWA
  go_wp2_with (first|((with_reducible refine gate_dst (N:=60) rfl ?_);refine build_event rfl (N:=60) rfl 39 _ rfl (eCells ([120,47,121],zeroN)).toArray (by kernel_rfl) ?_;go_frame)|((with_reducible refine gate_dst (N:=61) rfl ?_);refine row_event rfl (N:=61) rfl (cs:=(flat eCells [([120,47,121],zeroN)]).toArray) (t:=39) (n:=1) (by kernel_rfl) ?_;intro g61 hg w61 hb hbl;have HB61:=Lib.hid hb;have HBL61:=Lib.hid hbl;clear hg hb hbl;go_frame))
  have HW61:=Lib.hid (Go.Proofs.YtdacflloaehjeaaGreatDoor.below_then HW55.out HBL61.out)
  have c6:=onto_calls w61 (hG.ext HW61.out) (some ⟨g61,0,none⟩) 1 [ofEn ([120,47,121],zeroN)] (ens_C (l:=[([120,47,121],zeroN)]) HB61.out (by decide)) (by decide) ⟨by kernel_rfl,by decide⟩ none 0 [] (stk_nil none) (by decide) (fun l h=>by cases h)
  rw [List.map_nil,show List.map enOf [ofEn ([120,47,121],zeroN)]=[([120,47,121],zeroN)] from rfl,o18f] at c6
  refine c6.mono ?_
  rintro e w62 ⟨v16,rfl,ho,hb⟩
  obtain ⟨a16,c16,rfl,_,_⟩:=Go.Proofs.YtdacflloaehjeaaGreatDoor.Owr.val ho
  have HB62:Hid (Below w55.heap.size w55 w62):=Lib.hid (Go.Proofs.YtdacflloaehjeaaGreatDoor.below_then HBL61.out hb)
  have HW62:=Lib.hid (Go.Proofs.YtdacflloaehjeaaGreatDoor.below_then HW55.out HB62.out)
  have HS62:=Lib.hid (Kd.C_below HS55.out HB62.out)
  have hts:=HTS5.out.ext HB62.out
  have ho3:=Go.Proofs.YtdacflloaehjeaaGreatDoor.Owr.ext HO35.out HB62.out
  have ho13:=Go.Proofs.YtdacflloaehjeaaGreatDoor.Owr.ext HO13.out HB62.out
  obtain ⟨b3,o3,ha3,hc3⟩:=ho3.row eCells_len 0 _ rfl
  obtain ⟨b13,o13,ha13,hc13⟩:=ho13.row eCells_len 1 _ rfl
  subst ha3
  subst ha13
  have q3:w62.cell? ⟨b3,o3,none⟩=some (S [97]):=by simpa using hc3 0 _ rfl
  have q13:w62.cell? ⟨b13,o13 + 11,none⟩=some (S [120,47,121]):=by simpa using hc13 0 _ rfl
  obtain ⟨b12,o12,ha12,hc12⟩:=hts.own.row enc1_len 0 _ rfl
  obtain ⟨b12',o12',ha12',hc12'⟩:=hts.own.row enc1_len 1 _ rfl
  subst ha12
  cases ha12'
  have q12:w62.cell? ⟨b12,o12,none⟩=some x0:=by simpa using hc12 0 _ rfl
  have q12':w62.cell? ⟨b12,o12 + 1,none⟩=some x1:=by simpa using hc12' 0 _ rfl
  obtain ⟨ax0,cx0,hx0,_,_⟩:=Go.Proofs.YtdacflloaehjeaaGreatDoor.Owr.val (hts.rows 0 x0 _ rfl rfl)
  obtain ⟨ax1,cx1,hx1,_,_⟩:=Go.Proofs.YtdacflloaehjeaaGreatDoor.Owr.val (hts.rows 1 x1 _ rfl rfl)
  subst hx0
  subst hx1
  clear c6 ho hb hts ho3 ho13 hc3 hc13 hc12 hc12' HTS5 HO35 HO13 HS55 HW55 HB61 HBL61 HW61
  go_wp2_with fail
  refine (count_calls w62 (some ⟨g28,0,none⟩) 3 s18 HS62.out (by decide) (fun l hl=>(fits18 l hl).2)).mono ?_
  rintro e w63 ⟨rfl,hb⟩
  have HW63:=Lib.hid (Go.Proofs.YtdacflloaehjeaaGreatDoor.below_then HW62.out hb)
  clear hb
  go_wp2_with fail
  go_ret
  exact ⟨rfl,HW63.out⟩
end Go.Proofs.YtdacflloaehjeaaGreatDoorQ
end
section
namespace Go.Proofs.YtdacflloaehjeaaGreatDoorQ
open Go.RowKit Go.Proofs.YtdacflloaehjeaaGreatDoor Go.Proofs.YtdacflloaehjeaaGreatDoorW.PrintWords Go.Proofs.YtdacflloaehjeaaGreatDoorW.PrintLast Go.Proofs.YtdacflloaehjeaaGreatDoorW.PrintMore
open Go.Proofs.YtdacflloaehjeaaGreatDoorT (applyM ontoGo ontoM treesGo rightT RightT Ch)
theorem trees_fits:∀ (S:List (List (Ch Str Nd))) (t:List (Str×Nd)),rowFits t=true→(∀ l ∈ S,lyrFits l=true)→∀ x ∈ treesGo Y t S,rowFits x=true∧x.length≤5000
  | [],t,_,_,x,hx=>by cases hx
  | l :: r,t,h,hf,x,hx=>by
    obtain ⟨a,e,hae⟩:∃ a e,applyM Y t l=(a,e):=⟨_,_,rfl⟩
    unfold treesGo at hx
    rw [hae] at hx
    by_cases he:e=0
    · subst he
      have ha:=fit_apply hae h (hf l (by simp))
      simp only [if_true] at hx
      rcases List.mem_cons.1 hx with rfl|hx
      · exact ⟨ha,fit_len hae⟩
      · exact trees_fits r a ha (fun y hy=>hf y (by simp [hy])) x hx
    · simp only [he,if_false] at hx
      cases hx
theorem last_plain (S:List (List (Ch Str Nd))):(treesGo Y [] S).length=(ontoM Y [] S).2.1∧(((ontoM Y [] S).2.2=0∧(ontoM Y [] S).2.1=S.length∧(S=[]→(ontoM Y [] S).1=[])∧(S≠[]→(treesGo Y [] S).getLast?=some (ontoM Y [] S).1)) ∨
    ((ontoM Y [] S).2.2≠0∧(ontoM Y [] S).2.1<S.length∧(ontoM Y [] S).1=[])):=by
  have hr:rightT Y ([]:List (Str×Nd))=true:=rfl
  unfold ontoM
  rw [if_pos hr]
  refine ⟨by have:=YtdacflloaehjeaaGreatDoorT.trees_len (Y:=Y) 0 [] S;omega,?_⟩
  by_cases h0:(ontoGo Y 0 [] S).2.2=0
  · have h1:=YtdacflloaehjeaaGreatDoorT.onto_right ((YtdacflloaehjeaaGreatDoorT.rightT_iff Y).1 hr) h0
    refine .inl ⟨h0,by rw [h1.2,Nat.zero_add],fun h=>by subst h;rfl,fun h=>YtdacflloaehjeaaGreatDoorT.trees_last h h0⟩
  · have h1:=YtdacflloaehjeaaGreatDoorT.onto_err h0
    exact .inr ⟨h0,by have:=h1.2;omega,h1.1⟩
set_option maxRecDepth 100000 in
set_option maxHeartbeats 1000000 in
theorem foldLast_calls (w:World) (hG:GL w) (A1:Option Addr) (c1:Nat) (s:List (List S59)) (hS:Kd.C (Kd.slice 59 k59) w A1 s.length s) (hc1:s.length≤c1) (hz:∀ l ∈ s,SzC l∧l.length≤1000000000000000) (hn:s.length≤1000000000000000) :
    Calls Tryz.prog 9 #[.slice A1 s.length c1] w fun e w'=>e=.returned (.bool true)∧Below w.heap.size w w':=by
  have HS:=Lib.hid hS
  have HZ:=Lib.hid hz
  have HN:=Lib.hid hn
  clear hS hc1 hz hn
  go_enter Tryz.func9,Tryz.ntmps9
  go_wp2_with fail
  refine (small18_calls w hG).mono ?_
  rintro x w2 ⟨rfl,hb⟩
  have HB2:=Lib.hid hb
  clear hb
  go_wp2_with fail
  refine (few18_calls w2 A1 c1 s (Kd.C_below HS.out HB2.out) HZ.out HN.out).mono ?_
  rintro x w3 ⟨b1,rfl,hb1,hb⟩
  have F1:=Lib.hid hb1
  have HB3:=Lib.hid (Go.Proofs.YtdacflloaehjeaaGreatDoor.below_then HB2.out hb)
  clear hb HB2 hb1
  cases b1 with
  | false =>
    go_wp2_with fail
    go_ret
    exact ⟨rfl,HB3.out⟩
  | true =>
  have HF1:=Lib.hid (F1.out rfl).2
  have HL:Hid (s.length≤12):=Lib.hid (F1.out rfl).1
  clear F1 HZ HN
  have c5':=fold_calls w3 (hG.ext HB3.out) A1 c1 s (Kd.C_below HS.out HB3.out) (by have:=HL.out;omega) HF1.out
  obtain ⟨R,hR⟩:∃ R,R=ontoM Y ([]:List (Str×Nd)) (s.map (List.map chOf)):=⟨_,rfl⟩
  have hpl:=last_plain (s.map (List.map chOf))
  have hfr:=ontoM_fits (s.map (List.map chOf)) [] rfl (by simp) (s_fits HF1.out)
  rw [← hR] at c5' hpl hfr
  rw [List.length_map] at hpl
  have C5:=Lib.hid c5'
  have HPL:=Lib.hid hpl
  have HFR:=Lib.hid hfr
  clear c5' hR hpl hfr
  go_wp2_with fail
  refine C5.out.mono ?_
  rintro x w4 ⟨v5,rfl,ho5,hb⟩
  obtain ⟨A5,c5,rfl,hc5,hk5⟩:=own_C ho5
  simp only [List.length_map] at hc5 hk5 ⊢
  have HB4:=Lib.hid (Go.Proofs.YtdacflloaehjeaaGreatDoor.below_then HB3.out hb)
  have HC5:=Lib.hid hc5
  have HK5:=Lib.hid hk5
  clear hb ho5 hc5 hk5 C5 HB3
  have c8':=trees_calls w4 (hG.ext HB4.out) A1 c1 s (Kd.C_below HS.out HB4.out) (by have:=HL.out;omega) HF1.out
  obtain ⟨Ts,hT⟩:∃ Ts,Ts=treesGo Y ([]:List (Str×Nd)) (s.map (List.map chOf)):=⟨_,rfl⟩
  have hft:∀ x ∈ Ts,rowFits x=true∧x.length≤5000∧rightT Y x=true:=fun x hx=>by
    rw [hT] at hx
    have h1:=trees_fits (s.map (List.map chOf)) [] rfl (s_fits HF1.out) x hx
    exact ⟨h1.1,h1.2,(YtdacflloaehjeaaGreatDoorT.rightT_iff Y).2 (YtdacflloaehjeaaGreatDoorT.trees_right hx)⟩
  have hpl:=HPL.out
  rw [← hT] at c8' hpl
  have C8:=Lib.hid c8'
  have HFT:=Lib.hid hft
  obtain ⟨R1,R2,R3⟩:=R
  have h2:Ts.length=R2:=hpl.1
  subst h2
  have HPP:=Lib.hid hpl.2
  clear c8' hT hft hpl HPL
  go_wp2_with fail
  refine C8.out.mono ?_
  rintro x w5 ⟨v8,vs,rfl,hts,hb⟩
  obtain ⟨A8,c8,rfl,_,_⟩:=Go.Proofs.YtdacflloaehjeaaGreatDoor.Owr.val hts.own
  have HTS:=Lib.hid hts
  have hvl:=hts.len
  rw [hvl] at HTS ⊢
  have HB5:=Lib.hid (Go.Proofs.YtdacflloaehjeaaGreatDoor.below_then HB4.out hb)
  have HK55:=Lib.hid (Kd.C_below HK5.out hb)
  clear hb hts C8 HB4 HK5
  have hlim:=HL.out
  obtain ⟨bb,hbb⟩:∃ bb,bb=(R3 == 0):=⟨_,rfl⟩
  have hA:(R3 == 0)=bb:=hbb.symm
  have hB:((Ts.length:Int) == (s.length:Int))=bb:=by
    rw [hbb]
    rcases HPP.out with ⟨he,hn,_,_⟩|⟨he,hn,_⟩
    · rw [he,hn];simp
    · rw [show (R3 == 0)=false from by simpa using he]
      simp;omega
  have HTL:Hid (Ts.length≤12):=Lib.hid (by rcases HPP.out with ⟨_,hn,_⟩|⟨_,hn,_⟩ <;> omega)
  have htl:=HTL.out
  clear hbb
  go_wp2_with fail
  go_loopg [9] (Ts.length + 1) (fun gq v wr=>∃ i:Nat,v=.int .i64 i∧Ts.length<gq + i∧Hid (i≤Ts.length)∧Hid (Below w5.heap.size w5 wr))
  case atStart=>exact ⟨0,rfl,by omega,Lib.hid (by omega),Lib.hid (Below.refl _ _)⟩
  case round =>
    obtain ⟨i,rfl,hgi,HI,HB⟩:=hrel
    by_cases hi:i<Ts.length
    · cases gk with
      | zero=>omega
      | succ g1 =>
        obtain ⟨b,o,ha,hcell⟩:=HTS.out.own.row enc1_len i _ (List.getElem?_eq_getElem (by rw [HTS.out.len];exact hi))
        subst ha
        have hrow:=HTS.out.rows i _ _ (List.getElem?_eq_getElem (by rw [HTS.out.len];exact hi)) (List.getElem?_eq_getElem hi)
        have hce:=hcell 0 _ rfl
        rw [Nat.mul_one,Nat.add_zero] at hce
        obtain ⟨Ai,ci,hx,hci,hki⟩:=own_C hrow
        rw [hx] at hce
        simp only [List.length_map] at hce hci hki
        have hfi:=HFT.out _ (List.getElem_mem hi)
        have q1:=pw_cell_below HB.out hce
        have htr:=tright_calls wr (hG.ext (Go.Proofs.YtdacflloaehjeaaGreatDoor.below_then HB5.out HB.out)) Ai ci (Ts[i].map ofEn) (by simpa using Kd.C_below hki HB.out) (by simpa using hci) (by rw [ens_back];exact hfi.1) (by rw [List.length_map];omega)
        rw [ens_back,hfi.2.2,List.length_map] at htr
        have HTR:=Lib.hid htr
        have HII:Hid (i + 1≤Ts.length):=Lib.hid hi
        clear hrow hce hx hci hki hfi htr hcell
        go_wp2_with fail
        refine HTR.out.mono ?_
        rintro x w7 ⟨rfl,hb⟩
        have HB7:=Lib.hid (Go.Proofs.YtdacflloaehjeaaGreatDoor.below_then HB.out hb)
        clear hb q1 HTR
        go_wp2_with fail
        go_roundg g1
        case measure=>omega
        case rel=>exact ⟨i + 1,by go_num,by omega,HII,HB7⟩
    · have hie:i=Ts.length:=by have:=HI.out;omega
      subst hie
      have HBF:=Lib.hid (Go.Proofs.YtdacflloaehjeaaGreatDoor.below_then HB5.out HB.out)
      rcases HPP.out with ⟨he,hn,h0,h1⟩|⟨he,hn,h0⟩
      · subst he
        by_cases hs:s=[]
        · subst hs
          have hr1:R1=[]:=h0 rfl
          subst hr1
          clear h0 h1 hA hB
          go_wp2_with fail
          go_ret
          exact ⟨rfl,HBF.out⟩
        · have hlast:=h1 (by intro h;exact hs (List.map_eq_nil_iff.1 h))
          have hpos:0<s.length:=by cases s with|nil=>exact absurd rfl hs|cons _ _=>simp
          have hpt:s.length - 1<Ts.length:=by omega
          have hlt:Ts[s.length - 1]=R1:=by
            rw [List.getLast?_eq_getElem?,hn,List.getElem?_eq_getElem hpt] at hlast
            exact Option.some.inj hlast
          obtain ⟨b,o,ha,hcell⟩:=HTS.out.own.row enc1_len (s.length - 1) _ (List.getElem?_eq_getElem (by rw [HTS.out.len];exact hpt))
          subst ha
          have hrow:=HTS.out.rows (s.length - 1) _ _ (List.getElem?_eq_getElem (by rw [HTS.out.len];exact hpt)) (List.getElem?_eq_getElem hpt)
          have hce:=hcell 0 _ rfl
          rw [Nat.mul_one,Nat.add_zero] at hce
          obtain ⟨Ai,ci,hx,hci,hki⟩:=own_C hrow
          rw [hx] at hce
          rw [hlt] at hce hci hki
          have hsm:=same_c wr A5 c5 (R1.map ofEn) (by simpa using Kd.C_below HK55.out HB.out) (by simpa using HC5.out) (by rw [List.length_map];exact HFR.out.2) Ai ci (R1.map ofEn) (Kd.C_below hki HB.out) hci true (by simp)
          simp only [List.length_map] at hce hsm
          have q1:=pw_cell_below HB.out hce
          have HSM:=Lib.hid hsm
          have hz1:(s.length == 0)=false:=by simp;omega
          have hz2:decide (0<s.length)=true:=by simpa using hpos
          clear hrow hce hx hci hki hsm hcell hlast hlt h0 h1 hA hB
          go_wp2_with fail
          with_reducible refine HSM.out.mono ?_
          rintro x w8 ⟨rfl,hb⟩
          have HB8:=Lib.hid (Go.Proofs.YtdacflloaehjeaaGreatDoor.below_then HBF.out hb)
          clear hb
          go_wp2_with fail
          go_ret
          exact ⟨rfl,HB8.out⟩
      · skip
        subst h0
        have he1:(R3 != 0)=true:=by simpa using he
        clear he hA hB
        go_wp2_with fail
        go_ret
        exact ⟨rfl,HBF.out⟩
end Go.Proofs.YtdacflloaehjeaaGreatDoorQ
end
section
namespace Go.Proofs.YtdacflloaehjeaaGreatDoorQ
open Go.RowKit Go.Proofs.YtdacflloaehjeaaGreatDoor Go.Proofs.YtdacflloaehjeaaGreatDoorW.PrintWords Go.Proofs.YtdacflloaehjeaaGreatDoorW.PrintLast Go.Proofs.YtdacflloaehjeaaGreatDoorW.PrintMore
open Go.Proofs.YtdacflloaehjeaaGreatDoorT (applyM ontoGo ontoM rightT RightT Ch)
abbrev SlV:=Option Addr×Nat×Nat
def encS (x:SlV):List Value:=[.slice x.1 x.2.1 x.2.2]
theorem encS_len (x:SlV):(encS x).length=1:=rfl
theorem encS_one:∀ x:SlV,∀ u ∈ encS x,u.oneCell'=true:=by
  intro x u hu
  rw [List.mem_singleton.1 hu]
  rfl
theorem info_ly:(Tryz.prog.info? 25).map (fun i=>(i.zero,i.size,i.bytes))=some (some (.slice none 0 0),1,24):=by kernel_rfl
def LyAt (w:World) (vs:List SlV) (xs:List (List S59)):Prop:=vs.length=xs.length∧∀ (j:Nat) (p:List S59),xs[j]?=some p→∃ A c,vs[j]?=some (A,p.length,c)∧p.length≤c∧Kd.C k59 w A p.length p
theorem LyAt.ext {w w1:World} {vs:List SlV} {xs:List (List S59)} (h:LyAt w vs xs) (hb:Below w.heap.size w w1):LyAt w1 vs xs:=⟨h.1,fun j p hp=>by
  obtain ⟨A,c,h1,h2,h3⟩:=h.2 j p hp
  exact ⟨A,c,h1,h2,Kd.C_below h3 hb⟩⟩
theorem LyAt.take {w:World} {vs:List SlV} {xs:List (List S59)} (h:LyAt w vs xs) (n:Nat):LyAt w (vs.take n) (xs.take n):=⟨by rw [List.length_take,List.length_take,h.1],fun j p hp=>by
  rw [List.getElem?_take] at hp ⊢
  split at hp
  · rename_i hj
    rw [if_pos hj]
    exact h.2 j p hp
  · cases hp⟩
theorem LyAt.drop {w:World} {vs:List SlV} {xs:List (List S59)} (h:LyAt w vs xs) (n:Nat):LyAt w (vs.drop n) (xs.drop n):=⟨by rw [List.length_drop,List.length_drop,h.1],fun j p hp=>by
  rw [List.getElem?_drop] at hp ⊢
  exact h.2 _ p hp⟩
theorem LyAt.append {w:World} {vs us:List SlV} {xs ys:List (List S59)} (h:LyAt w vs xs) (k:LyAt w us ys):LyAt w (vs ++ us) (xs ++ ys):=⟨by rw [List.length_append,List.length_append,h.1,k.1],fun j p hp=>by
  by_cases hj:j<xs.length
  · rw [List.getElem?_append_left hj] at hp
    rw [List.getElem?_append_left (by rw [h.1];exact hj)]
    exact h.2 j p hp
  · rw [List.getElem?_append_right (by omega)] at hp
    rw [List.getElem?_append_right (by rw [h.1];omega),h.1]
    exact k.2 _ p hp⟩
theorem stk_vals {w:World} {ad:Addr} {xs:List (List S59)} (h:Kd.C (Kd.slice 59 k59) w (some ad) xs.length xs) :
    ∃ vs:List SlV,LyAt w vs xs∧∀ n,LiesAt w (ad.add n) (flat encS (vs.drop n)):=by
  have hch:∃ F:Nat→SlV,∀ i,i<xs.length→w.cell? (ad.add i)=some (.slice (F i).1 (F i).2.1 (F i).2.2)∧∀ p,xs[i]?=some p→(F i).2.1=p.length∧p.length≤(F i).2.2∧Kd.C k59 w (F i).1 p.length p:=by
    refine Deep.choose_lt (p:=fun i (x:SlV)=>w.cell? (ad.add i)=some (.slice x.1 x.2.1 x.2.2)∧∀ p,xs[i]?=some p→x.2.1=p.length∧p.length≤x.2.2∧Kd.C k59 w x.1 p.length p) fun i hi=>?_
    obtain ⟨ad',A0,c0,h1,h2,h3,h4⟩:=s_at h i hi
    obtain rfl:=Option.some.inj h1
    refine ⟨(A0,xs[i].length,c0),h2,fun p hp=>?_⟩
    rw [List.getElem?_eq_getElem hi] at hp
    obtain rfl:=Option.some.inj hp
    exact ⟨rfl,h3,h4⟩
  obtain ⟨F,hF⟩:=hch
  refine ⟨(List.range xs.length).map F,⟨by simp,fun j p hp=>?_⟩,fun n j u hu=>?_⟩
  · have hj:j<xs.length:=(List.getElem?_eq_some_iff.1 hp).1
    obtain ⟨h1,h2,h3⟩:=(hF j hj).2 p hp
    exact ⟨(F j).1,(F j).2.2,by rw [List.getElem?_map,List.getElem?_range hj,Option.map_some,← h1],h2,h3⟩
  · obtain ⟨i,jj,x,h1,h2,rfl⟩:=flat_get encS_len _ j u hu
    rw [List.getElem?_drop] at h1
    have hi:n + i<xs.length:=by
      have:=(List.getElem?_eq_some_iff.1 h1).1
      simpa using this
    rw [List.getElem?_map,List.getElem?_range hi] at h1
    obtain rfl:=Option.some.inj h1
    have e0:jj=0:=by
      apply Classical.byContradiction
      intro hne
      rw [List.getElem?_eq_none (by rw [encS_len];omega)] at h2
      cases h2
    subst e0
    obtain rfl:=Option.some.inj h2
    rw [Nat.mul_one,Nat.add_zero,Addr.add_add]
    exact (hF _ hi).1
theorem stk_own {base:Nat} {w:World} {v:Value} {us:List SlV} {xs:List (List S59)} (h:Go.Proofs.YtdacflloaehjeaaGreatDoor.Owr encS 25 1 base w v us) (hx:LyAt w us xs) :
    ∃ A c,v=.slice A xs.length c∧xs.length≤c∧Kd.C (Kd.slice 59 k59) w A xs.length xs:=by
  obtain ⟨A,c,rfl,hn,hc⟩:=Go.Proofs.YtdacflloaehjeaaGreatDoor.Owr.val h
  have hl:=hx.1
  refine ⟨A,c,by rw [hl],by rw [← hl];exact hc,rfl,?_,fun h0=>?_⟩
  · rcases h.2 with ⟨_,h0⟩|⟨g,cap,cur,hv,_,_,h1,h2,_⟩
    · omega
    · unfold maxLen at h2;omega
  · cases A with
    | none=>exact absurd (hn rfl).1 (fun e=>by rw [e] at hl;simp at hl;omega)
    | some ad =>
      refine ⟨ad,rfl,fun j p hp=>?_⟩
      obtain ⟨A1,c1,hv,hc1,hk⟩:=hx.2 j p hp
      refine ⟨[.slice A1 p.length c1],rfl,⟨A1,c1,rfl,hc1,hk⟩,fun i u hu=>?_⟩
      obtain ⟨b,o,ha,hcell⟩:=h.row encS_len j _ hv
      obtain rfl:=Option.some.inj ha
      have:=hcell i u hu
      show w.cell? ((⟨b,o,none⟩:Addr).add (j * 1 + i))=_
      rw [Go.Proofs.YtdacflloaehjeaaGreatDoor.add_at,← Nat.add_assoc]
      exact this
theorem own_far {base:Nat} {w:World} {v:Value} {us:List SlV} (h:Go.Proofs.YtdacflloaehjeaaGreatDoor.Owr encS 25 1 base w v us):∀ j,v.ownBlock=some j→base≤j:=by
  intro j hj
  rcases h.2 with ⟨hv,_⟩|⟨g,cap,cur,hv,hg,_⟩
  · subst hv;cases hj
  · subst hv
    have:g=j:=Option.some.inj hj
    omega
theorem again_plain (S:List (List (Ch Str Nd))) (k:Nat) (hk:k<S.length):(ontoM Y ([]:List (Str×Nd)) (S.take (k + 1) ++ S.drop k)).1=(ontoM Y [] S).1∧(ontoM Y ([]:List (Str×Nd)) (S.take (k + 1) ++ S.drop k)).2.2=(ontoM Y [] S).2.2:=by
  have hr:rightT Y ([]:List (Str×Nd))=true:=rfl
  have h:=YtdacflloaehjeaaGreatDoorT.onto_again (Y:=Y) (k:=0) (t:=[]) (u:=S.take k) (l:=S[k]) (v:=S.drop (k + 1))
  have e1:S.take k ++ [S[k]]=S.take (k + 1):=by rw [List.take_succ_eq_append_getElem hk]
  have e2:S.drop k=S[k] :: S.drop (k + 1):=List.drop_eq_getElem_cons hk
  have e3:S.take (k + 1) ++ S.drop k=S.take k ++ [S[k]] ++ [S[k]] ++ S.drop (k + 1):=by rw [e2,← e1];simp
  have e4:S=S.take k ++ [S[k]] ++ S.drop (k + 1):=by rw [e1,List.take_append_drop]
  unfold ontoM
  rw [if_pos hr,if_pos hr,e3]
  rw [← e4] at h
  exact h
theorem lies_left {w:World} {a:Addr} {l m:List Value} (h:LiesAt w a (l ++ m)):LiesAt w a l:=fun j v hv=>h j v (by
  rw [List.getElem?_append_left (List.getElem?_eq_some_iff.1 hv).1]
  exact hv)
set_option maxRecDepth 100000 in
set_option maxHeartbeats 1000000 in
theorem foldAgain_calls (w:World) (hG:GL w) (A1:Option Addr) (c1:Nat) (s:List (List S59)) (hS:Kd.C (Kd.slice 59 k59) w A1 s.length s) (hc1:s.length≤c1) (hz:∀ l ∈ s,SzC l∧l.length≤1000000000000000) (hn:s.length≤1000000000000000)
    (a1:Int) (_:(Lit.int .i64 a1).wf=true) :
    Calls Tryz.prog 10 #[.slice A1 s.length c1,.int .i64 a1] w fun e w'=>e=.returned (.bool true)∧Below w.heap.size w w':=by
  have HS:=Lib.hid hS
  have HZ:=Lib.hid hz
  have HN:=Lib.hid hn
  have HC1:=Lib.hid hc1
  obtain ⟨i0,hi,hz0,hz1,hz2⟩:=info_parts info_ly
  have HI:=Lib.hid hi
  have HZ0:=Lib.hid hz0
  have HZ1:=Lib.hid hz1
  have HZ2:=Lib.hid hz2
  clear hS hc1 hz hn hi hz0 hz1 hz2
  go_enter Tryz.func10,Tryz.ntmps10
  go_wp2_with fail
  refine (small18_calls w hG).mono ?_
  rintro x w2 ⟨rfl,hb⟩
  have HB2:=Lib.hid hb
  clear hb
  go_wp2_with fail
  refine (few18_calls w2 A1 c1 s (Kd.C_below HS.out HB2.out) HZ.out HN.out).mono ?_
  rintro x w3 ⟨b1,rfl,hb1,hb⟩
  have F1:=Lib.hid hb1
  have HB3:=Lib.hid (Go.Proofs.YtdacflloaehjeaaGreatDoor.below_then HB2.out hb)
  clear hb HB2 hb1
  cases b1 with
  | false =>
    go_wp2_with fail
    go_ret
    exact ⟨rfl,HB3.out⟩
  | true =>
  have HF1:=Lib.hid (F1.out rfl).2
  have HL:Hid (s.length≤12):=Lib.hid (F1.out rfl).1
  clear F1 HZ HN
  by_cases hneg:a1<0
  · have h1:decide (a1<0)=true:=by simpa using hneg
    go_wp2_with fail
    go_ret
    exact ⟨rfl,HB3.out⟩
  obtain ⟨k,rfl⟩:∃ k:Nat,a1=k:=⟨a1.toNat,by omega⟩
  have h1:decide ((k:Int)<0)=false:=by simp
  by_cases hge:s.length≤k
  · have h2:decide (s.length≤k)=true:=by simpa using hge
    go_wp2_with fail
    go_ret
    exact ⟨rfl,HB3.out⟩
  have h2:decide (s.length≤k)=false:=by simpa using hge
  have HKL:Hid (k<s.length):=Lib.hid (by omega)
  obtain ⟨ad,rfl⟩:∃ ad,A1=some ad:=by
    obtain ⟨ad,_,_,h,_⟩:=s_at HS.out k (by omega)
    exact ⟨ad,h⟩
  obtain ⟨vs,hv,hlies⟩:=stk_vals (Kd.C_below HS.out HB3.out)
  have HV:=Lib.hid hv
  have HLI:=Lib.hid hlies
  have hlim:=HL.out
  have hkl:=HKL.out
  have hcap:k + 1≤c1:=by have:=HC1.out;omega
  have hcapi:(k:Int) + 1≤(c1:Int):=by omega
  have hck:¬ c1=k:=by omega
  have hkc:k≤c1:=by omega
  clear hneg hge hv hlies
  go_wp2_with (first|((with_reducible refine gate_dst (N:=35) rfl ?_);at_builtin;refine wpList_append_lies (by rfl) _ _ 47 rfl w3.heap.size 25 1 24 i0 (.slice none 0 0) Tryz.underlying47 HI.out HZ0.out HZ1.out HZ2.out rfl (by decide) encS_len encS_one _ [] rfl (own_empty encS 1 w3.heap.size w3 (Nat.le_refl _)) ad (k + 1) c1 (vs.take (k + 1)) rfl ?c0 ?cl ?c1 ?c2 ?c3 ?_))
  case c0=>rw [List.length_take,HV.out.1];omega
  case cl=>exact lies_left (m:=flat encS (vs.drop (k + 1))) (by rw [← flat_append,List.take_append_drop];exact (by have h0:ad.add 0=ad:=(by cases ad;rfl);have:=HLI.out 0;rwa [h0,List.drop_zero] at this:LiesAt w3 ad (flat encS vs)).below (Go.Proofs.YtdacflloaehjeaaGreatDoor.below_new _ _))
  case c1=>unfold maxLen;rw [List.length_take];simp;omega
  case c2=>rw [List.length_take];simp;omega
  case c3=>simp
  intro v' w4 ho hg
  have hb4:Below w3.heap.size w3 w4:=((Below.refl w3.heap.size w3).alloc (Nat.le_refl _) _).grown hg (by simp) (fun j hj=>by simp [Value.ownBlock] at hj;omega)
  have HO:=Lib.hid ho
  have HBK:=Lib.hid (own_far ho)
  have HB4:=Lib.hid hb4
  have HSZ:Hid (w3.heap.size≤w4.heap.size):=Lib.hid hb4.size
  clear ho hg hb4
  go_wp2_with (first|((with_reducible refine gate_dst (N:=40) rfl ?_);at_builtin;refine wpList_append_lies (by rfl) _ _ 47 rfl w3.heap.size 25 1 24 i0 (.slice none 0 0) Tryz.underlying47 HI.out HZ0.out HZ1.out HZ2.out rfl (by decide) encS_len encS_one _ (vs.take (k + 1)) rfl HO.out (ad.add k) (s.length - k) (c1 - k) (vs.drop k) rfl ?d0 ?dl ?d1 ?d2 ?d3 ?_))
  case d0=>rw [List.length_drop,HV.out.1]
  case dl=>exact (HLI.out k).below HB4.out
  case d1=>unfold maxLen;rw [List.length_take,List.length_drop,HV.out.1];omega
  case d2=>rw [List.length_take,List.length_drop,HV.out.1];omega
  case d3=>exact HSZ.out
  intro v2 w5 ho hg
  have hb5:Below w3.heap.size w3 w5:=HB4.out.grown hg HSZ.out (fun j hj=>HBK.out j hj)
  obtain ⟨A5,c5,rfl,hc5,hk5⟩:=stk_own ho (((HV.out.take (k + 1)).append (HV.out.drop k)).ext hb5)
  obtain ⟨u,hu⟩:∃ u,u=s.take (k + 1) ++ s.drop k:=⟨_,rfl⟩
  have hul:u.length≤24:=by rw [hu,List.length_append,List.length_take,List.length_drop];omega
  have hfu:∀ l ∈ u,lyrFits' l:=fun l hl=>by
    rw [hu] at hl
    rcases List.mem_append.1 hl with h|h
    · exact HF1.out l (List.mem_of_mem_take h)
    · exact HF1.out l (List.mem_of_mem_drop h)
  have hap:=again_plain (s.map (List.map chOf)) k (by rw [List.length_map];exact hkl)
  rw [← List.map_take,← List.map_drop,← List.map_append,← hu] at hap
  rw [← hu] at hc5 hk5 ⊢
  have HB5:=Lib.hid (Go.Proofs.YtdacflloaehjeaaGreatDoor.below_then HB3.out hb5)
  have HS5:=Lib.hid (Kd.C_below (Kd.C_below HS.out HB3.out) hb5)
  have HK5:=Lib.hid hk5
  have HC5:=Lib.hid hc5
  clear ho hg hb5 hu hc5 hk5 HO HBK HB4 HSZ HV HLI HB3
  have cA:=fold_calls w5 (hG.ext HB5.out) (some ad) c1 s HS5.out (by omega) HF1.out
  obtain ⟨R,hR⟩:∃ R,R=ontoM Y ([]:List (Str×Nd)) (s.map (List.map chOf)):=⟨_,rfl⟩
  obtain ⟨R',hR'⟩:∃ R',R'=ontoM Y ([]:List (Str×Nd)) (u.map (List.map chOf)):=⟨_,rfl⟩
  have hfr:=ontoM_fits (s.map (List.map chOf)) [] rfl (by simp) (s_fits HF1.out)
  rw [← hR] at cA hfr hap
  rw [← hR'] at hap
  have CA:=Lib.hid cA
  have HFR:=Lib.hid hfr
  have HAP:=Lib.hid hap
  have HR':=Lib.hid hR'
  clear cA hfr hap hR hR'
  go_wp2_with fail
  refine CA.out.mono ?_
  rintro x w6 ⟨v5,rfl,ho5,hb⟩
  obtain ⟨A6,c6,rfl,hc6,hk6⟩:=own_C ho5
  have HB6:=Lib.hid (Go.Proofs.YtdacflloaehjeaaGreatDoor.below_then HB5.out hb)
  have cB:=fold_calls w6 (hG.ext HB6.out) A5 c5 u (Kd.C_below HK5.out hb) (by omega) hfu
  rw [← HR'.out] at cB
  have CB:=Lib.hid cB
  have HC6:=Lib.hid hc6
  have HK6:=Lib.hid hk6
  clear hb ho5 hc6 hk6 cB CA HR'
  go_wp2_with fail
  refine CB.out.mono ?_
  rintro x w7 ⟨v7,rfl,ho7,hb⟩
  obtain ⟨A7,c7,rfl,hc7,hk7⟩:=own_C ho7
  have HB7:=Lib.hid (Go.Proofs.YtdacflloaehjeaaGreatDoor.below_then HB6.out hb)
  have HK67:=Lib.hid (Kd.C_below HK6.out hb)
  obtain ⟨T1,n1,e1⟩:=R
  obtain ⟨T2,n2,e2⟩:=R'
  obtain ⟨h1,h2⟩:=HAP.out
  simp only at h1 h2
  subst h1 h2
  simp only [List.length_map] at hc7 hk7 HC6 HK67 HFR ⊢
  have hsm:=same_c w7 A6 c6 (T2.map ofEn) (by simpa using HK67.out) (by simpa using HC6.out) (by rw [List.length_map];exact HFR.out.2) A7 c7 (T2.map ofEn) (by simpa using hk7) (by simpa using hc7) true (by simp)
  simp only [List.length_map] at hsm
  have HSM:=Lib.hid hsm
  clear hb ho7 hc7 hk7 hsm CB
  go_wp2_with fail
  with_reducible refine HSM.out.mono ?_
  rintro x w8 ⟨rfl,hb⟩
  have HB8:=Lib.hid (Go.Proofs.YtdacflloaehjeaaGreatDoor.below_then HB7.out hb)
  clear hb
  go_wp2_with fail
  go_ret
  exact ⟨rfl,HB8.out⟩
end Go.Proofs.YtdacflloaehjeaaGreatDoorQ
end
