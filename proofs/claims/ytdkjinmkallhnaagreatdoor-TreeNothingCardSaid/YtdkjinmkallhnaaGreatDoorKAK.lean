/- A part of a proof of TreeNothingCardSaid of this seat: what its walks and its laws lean on; joined by a program of this repo (wip/pack.py) out of the texts QOnionskinlaw17TreeNothing, Nothing. -/
import Derived.Test.YtdkjinmkallhnaaGreatDoorKAB
import Derived.Test.YtdkjinmkallhnaaGreatDoorKAJ
set_option linter.unusedSimpArgs false
set_option linter.unusedVariables false
section
namespace Go.Proofs.YtdkjinmkallhnaaGreatDoorQ
open Go.RowKit Go.Proofs.YtdkjinmkallhnaaGreatDoorW.PrintWords Go.Proofs.YtdkjinmkallhnaaGreatDoorW.PrintLast Go.Proofs.YtdkjinmkallhnaaGreatDoorW.PrintMore
open Go.Proofs.YtdkjinmkallhnaaGreatDoor (GL)
attribute [local go_sem] max2_int min2_int max_two min_two max_three min_three max_four min_four
mutual
def pq10.j0:Nat→List (S40)→Bool→Bool→Option (Bool)
 | 0,_,_,_=>none
 | k + 1,x0,x3,x24=>if x24=true then (some x3) else ((tree_Apply.f x0 ([]:List (S38))).bind fun bt771=>((tree_Apply.f x0 (([(⟨(⟨#[]⟩:ByteArray),2,(⟨0,0,0,0,0,(⟨#[]⟩:ByteArray),(⟨#[]⟩:ByteArray),0,0,(⟨#[]⟩:ByteArray)⟩:S26)⟩:S38)]:List (S38)))).bind fun bt778=>(pq10.l0 k x0 x3 bt771.1 bt771.2 bt778.1 bt778.2 ([]:List (S38)) 0)))
def pq10.l0:Nat→List (S40)→Bool→List (S40)→Int→List (S40)→Int→List (S38)→Int→Option (Bool)
 | 0,_,_,_,_,_,_,_,_=>none
 | k + 1,x0,x3,x5,x6,x7,x8,x9,x10=>if x10<(x0.length:Int) then (if 0≤x10 then (if x9.length<1099511627776 then (pq10.l0 k x0 x3 x5 x6 x7 x8 (x9 ++ [(⟨(rd_T40 x0 x10).f0,0,(⟨(rd_T40 x0 x10).f1.f0,(rd_T40 x0 x10).f1.f1,(rd_T40 x0 x10).f1.f2,(rd_T40 x0 x10).f1.f3,(rd_T40 x0 x10).f1.f4,(rd_T40 x0 x10).f1.f5,(rd_T40 x0 x10).f1.f6,(rd_T40 x0 x10).f1.f7,(rd_T40 x0 x10).f1.f8,(rd_T40 x0 x10).f1.f9⟩:S26)⟩:S38)]) (wrap64 (x10 + 1))) else (none)) else (none)) else ((tree_Apply.f ([]:List (S40)) x9).bind fun bt787=>((tree_Apply.f x0 x9).bind fun bt791=>(if x3=true then (if x6=0 then ((pq11.f k x5 x0).bind fun t795=>(if t795=true then (if x8=0 then (if (x7.length:Int)=0 then (if bt787.2=0 then ((pq11.f k bt787.1 x0).bind fun t796=>(if t796=true then (if bt791.2=0 then ((pq11.f k bt791.1 x0).bind fun t797=>(some t797)) else (some false)) else (some false))) else (some false)) else (some false)) else (some false)) else (some false))) else (some false)) else (some false))))
end
def pq10.f (k:Nat) (l0:List (S40)):Option (Bool):=(onionskinlaw17_small.f).bind fun t768=>((onionskinlaw09_Few.f k l0).bind fun t769=>(if t769=true then ((tree_Right.f l0).bind fun t770=>(pq10.j0 k l0 t768 (!t770))) else (pq10.j0 k l0 t768 true)))
def pq10.T11:Bool×List (List Nat×List Nat):=(true,[([],[]),([],[]),([],[]),([1,2],[1,2]),([3],[3]),([4],[4]),([],[]),([],[]),([6,7],[6,7]),([8],[8]),([9],[9]),([5,10],[5,10]),([11],[11]),([0,12],[0,12]),([13,13,0,1,2,3,4,5,6,7,8,9,10,11,12,13],[0,13])])
def pq10.B11:List Nat:=[0,0,0,6,14,30,0,0,192,448,960,2046,4094,8191,16383]
theorem pq10.tab11:rtab .any (opsOf Tryz.f6 11)=pq10.T11:=by kernel_rfl
theorem pq10.bits11:waitsOk pq10.T11.2 pq10.B11=true:=by kernel_rfl
set_option maxHeartbeats 8000000 in
set_option maxRecDepth 100000 in
theorem pq10.calls (k:Nat) (A0:Option Addr) (c0:Nat) (l0:List (S40)) (r:Bool) (w:World) (hG:GL w) (hr0:Kd.C k40 w A0 l0.length l0) (hc0:l0.length≤c0) (h:pq10.f k l0=some r) :
  Calls Tryz.prog 6 #[.slice A0 l0.length c0] w fun e w'=>e=.returned (.bool r)∧Below w.heap.size w w':=by
 have hu38:=Tryz.underlying38
 have hu26:=Tryz.underlying26
 have HR0:=Aside0.mk hr0
 have HC0:=Aside0.mk hc0
 clear hr0 hc0
 have HB:=Aside0.mk (Below.refl w.heap.size w)
 have H:((onionskinlaw17_small.f).bind fun t768=>((onionskinlaw09_Few.f k l0).bind fun t769=>(if t769=true then ((tree_Right.f l0).bind fun t770=>(pq10.j0 k l0 t768 (!t770))) else (pq10.j0 k l0 t768 true))))=some r:=h
 clear h
 replace H:=Option.bind_eq_some_iff.mp H
 obtain ⟨t768,A20,H⟩:=H
 replace H:((onionskinlaw09_Few.f k l0).bind fun t769=>(if t769=true then ((tree_Right.f l0).bind fun t770=>(pq10.j0 k l0 t768 (!t770))) else (pq10.j0 k l0 t768 true)))=some r:=H
 have A2:=Aside0.mk A20
 clear A20
 replace H:=Option.bind_eq_some_iff.mp H
 obtain ⟨t769,A30,H⟩:=H
 replace H:(if t769=true then ((tree_Right.f l0).bind fun t770=>(pq10.j0 k l0 t768 (!t770))) else (pq10.j0 k l0 t768 true))=some r:=H
 have A3:=Aside0.mk A30
 clear A30
 have HC4:=Aside0.mk H
 clear H
 go_enter Tryz.func6,Tryz.ntmps6
 go_upto_region 3 with (first|((with_reducible refine gate_callee (f:=15) rfl ?_);refine goesL_ (some 15) rfl rfl Tryz.func15 (by kernel_rfl) rfl #[] rfl (by (try simp only [List.map_toArray,List.map_cons,List.map_nil]);first|done|rfl|(simp only [List.length_drop,List.length_take];rfl)) ?_;(with_reducible refine (onionskinlaw17_small.calls  t768 _ (hG.ext (by repeat (first|(with_reducible first|exact HB.out|apply below_alloc|apply pw_below_drewN|apply below_drew1)|exact HB.out))) A2.out).mono ?_);rintro e w5 ⟨rfl,hb⟩;refine ⟨_,rfl,?_⟩;have n0_:=Aside0.mk (below_step (by repeat (first|(with_reducible first|exact HB.out|apply below_alloc|apply pw_below_drewN|apply below_drew1)|exact HB.out)) hb);clear HB;have HB:=n0_;clear n0_;(try clear hb);(try clear hb2);(try clear hk);(try clear hi))|((with_reducible refine gate_callee (f:=16) rfl ?_);refine goesL_ (some 17) rfl rfl Tryz.func16 (by kernel_rfl) rfl #[.slice A0 l0.length c0] rfl (by (try simp only [List.map_toArray,List.map_cons,List.map_nil]);first|done|rfl|(simp only [List.length_drop,List.length_take];rfl)) ?_;(with_reducible refine (onionskinlaw09_Few.calls k _ _ l0 t769 _ ?side1 ?side2 A3.out).mono ?_);(case side1=>repeat (first|exact (Kd.C_below HR0.out HB.out)|(with_reducible refine Kd.C_alloc ?_ _)|(with_reducible refine Kd.C_drewN ?_ _)|(with_reducible refine Kd.C_drew ?_)));(case side2=>exact HC0.out);rintro e w' ⟨rfl,⟨nd,rfl⟩⟩;refine ⟨_,rfl,?_⟩))
 (try simp only [Act.put,List.setIfInBounds_toArray,List.set_cons_zero,List.set_cons_succ])
 go_cut [24] (fun v24 wc=>∃ (kq:Nat) (x24_3:Bool),v24=.bool x24_3∧Aside0 (pq10.j0 kq l0 t768 x24_3=some r)∧Aside0 (kq≤k)∧Aside0 (Below w.heap.size w wc))
 case first =>
  have H:=HC4.out
  clear HC4
  by_cases c6:t769=true
  ·subst c6
   have H1:((tree_Right.f l0).bind fun t770=>(pq10.j0 k l0 t768 (!t770)))=some r:=by rw [if_pos rfl] at H;exact H
   clear H
   have H:=H1
   clear H1
   replace H:=Option.bind_eq_some_iff.mp H
   obtain ⟨t770,A70,H⟩:=H
   replace H:(pq10.j0 k l0 t768 (!t770))=some r:=H
   have A7:=Aside0.mk A70
   clear A70
   have H':=Aside0.mk H
   clear H
   go_wp2_with (first|(go_at_call 19;(with_reducible refine (tree_Right.calls _ _ l0 t770 _ (hG.ext (by repeat (first|(with_reducible first|exact HB.out|apply below_alloc|apply pw_below_drewN|apply below_drew1)|exact HB.out))) ?side1 ?side2 A7.out).mono ?_);(case side1=>repeat (first|exact (Kd.C_below HR0.out HB.out)|(with_reducible refine Kd.C_alloc ?_ _)|(with_reducible refine Kd.C_drewN ?_ _)|(with_reducible refine Kd.C_drew ?_)));(case side2=>exact HC0.out);rintro e w8 ⟨rfl,hb⟩;have n0_:=Aside0.mk (below_step (by repeat (first|(with_reducible first|exact HB.out|apply below_alloc|apply pw_below_drewN|apply below_drew1)|exact HB.out)) hb);clear HB;have HB:=n0_;clear n0_;(try clear hb);(try clear hb2);(try clear hk);(try clear hi)))
   go_meet
   case rel=>exact ⟨_,(!t770),(by first|rfl|(simp;done)|(simp [*];done)),H',⟨by first|omega|exact Nat.le_refl _⟩,⟨by repeat (first|(with_reducible first|exact HB.out|apply below_alloc|apply pw_below_drewN|apply below_drew1)|exact HB.out)⟩⟩
  ·replace c6:=Bool.eq_false_iff.mpr c6
   subst c6
   have H1:(pq10.j0 k l0 t768 true)=some r:=by rw [if_neg (show ¬ (false=true) by decide)] at H;exact H
   clear H
   have H:=H1
   clear H1
   have H':=Aside0.mk H
   clear H
   go_wp2
   go_meet
   case rel=>exact ⟨_,(true),(by first|rfl|(simp;done)|(simp [*];done)),H',⟨by first|omega|exact Nat.le_refl _⟩,⟨by repeat (first|(with_reducible first|exact HB.out|apply below_alloc|apply pw_below_drewN|apply below_drew1)|exact HB.out)⟩⟩
 case rest =>
  clear HC4
  try clear c1;try clear p2;try clear c6
  obtain ⟨kq,x24_3,rfl,HA,HJ3,HB⟩:=hcut
  cases kq with
  | zero=>exact absurd HA.out (by simp [pq10.j0])
  | succ kj3 =>
   have H:=HA.out
   clear HA
   simp only [pq10.j0] at H
   by_cases c9:x24_3=true
   ·subst c9
    have H1:(some t768)=some r:=by rw [if_pos rfl] at H;exact H
    clear H
    have H:=H1
    clear H1
    obtain rfl:=Option.some.inj H
    go_wp2
    go_ret
    exact ⟨by first|rfl|(simp [errW_none,errW_some] <;> rfl)|(simp [*,errW_none,errW_some] <;> rfl),by repeat (first|(with_reducible first|exact HB.out|apply below_alloc|apply pw_below_drewN|apply below_drew1)|exact HB.out)⟩
   ·replace c9 := Bool.eq_false_iff.mpr c9
    subst c9
    have H1:((tree_Apply.f l0 ([]:List (S38))).bind fun bt771=>((tree_Apply.f l0 (([(⟨(⟨#[]⟩:ByteArray),2,(⟨0,0,0,0,0,(⟨#[]⟩:ByteArray),(⟨#[]⟩:ByteArray),0,0,(⟨#[]⟩:ByteArray)⟩:S26)⟩:S38)]:List (S38)))).bind fun bt778=>(pq10.l0 kj3 l0 t768 bt771.1 bt771.2 bt778.1 bt778.2 ([]:List (S38)) 0)))=some r:=by rw [if_neg (show ¬ (false=true) by decide)] at H;exact H
    clear H
    have H:=H1
    clear H1
    replace H:=Option.bind_eq_some_iff.mp H
    obtain ⟨⟨t771,t772⟩,A100,H⟩:=H
    replace H:((tree_Apply.f l0 (([(⟨(⟨#[]⟩:ByteArray),2,(⟨0,0,0,0,0,(⟨#[]⟩:ByteArray),(⟨#[]⟩:ByteArray),0,0,(⟨#[]⟩:ByteArray)⟩:S26)⟩:S38)]:List (S38)))).bind fun bt778=>(pq10.l0 kj3 l0 t768 t771 t772 bt778.1 bt778.2 ([]:List (S38)) 0))=some r:=H
    have A10:=Aside0.mk A100
    clear A100
    obtain ⟨y775,hy775⟩:∃ y_:List (S38),y_=(([(⟨(⟨#[]⟩:ByteArray),2,(⟨0,0,0,0,0,(⟨#[]⟩:ByteArray),(⟨#[]⟩:ByteArray),0,0,(⟨#[]⟩:ByteArray)⟩:S26)⟩:S38)]:List (S38))):=⟨_,rfl⟩
    replace H:((tree_Apply.f l0 y775).bind fun bt778=>(pq10.l0 kj3 l0 t768 t771 t772 bt778.1 bt778.2 ([]:List (S38)) 0))=some r:=by first|(rw [hy775];with_reducible exact H)|(have H2_:=(Option.bind_some _ _).symm.trans H;rw [hy775];with_reducible exact H2_)|(have H2_:=(Option.bind_some _ _).symm.trans H;with_reducible exact H2_)|with_reducible exact H|(rw [hy775];exact H)|exact H
    have Ny775:=Aside0.mk hy775
    clear hy775
    replace H:=Option.bind_eq_some_iff.mp H
    obtain ⟨⟨t778,t779⟩,A110,H⟩:=H
    replace H:(pq10.l0 kj3 l0 t768 t771 t772 t778 t779 ([]:List (S38)) 0)=some r:=H
    have A11:=Aside0.mk A110
    clear A110
    have H':=Aside0.mk H
    clear H
    go_wp2_with (first|((with_reducible refine gate_callee (f:=22) rfl ?_);refine goesL_ (some 28) rfl rfl Tryz.func22 (by kernel_rfl) rfl #[.slice A0 l0.length c0,.slice none 0 0] rfl (by (try simp only [List.map_toArray,List.map_cons,List.map_nil]);first|done|rfl|(simp only [List.length_drop,List.length_take];rfl)) ?_;(refine (tree_Apply.calls _ _ l0 _ _ ([]:List (S38)) t771 t772 _ (hG.ext (by repeat (first|(with_reducible first|exact HB.out|apply below_alloc|apply pw_below_drewN|apply below_drew1)|exact HB.out))) ?side1 ?side2 ?side3 ?side4 A10.out).mono ?_);(case side1=>repeat (first|exact (Kd.C_below HR0.out HB.out)|(with_reducible refine Kd.C_alloc ?_ _)|(with_reducible refine Kd.C_drewN ?_ _)|(with_reducible refine Kd.C_drew ?_)));(case side2=>exact HC0.out);(case side3=>exact Kd.C_nil _ _);(case side4=>exact Nat.le_refl _);rintro e w12 ⟨v773,rfl,ho0,hb⟩;refine ⟨_,rfl,?_⟩;have n0_:=Aside0.mk (Kd.R_lower ho0 (below_size (by repeat (first|(with_reducible first|exact HB.out|apply below_alloc|apply pw_below_drewN|apply below_drew1)|exact HB.out))));have n1_:=Aside0.mk (below_step (by repeat (first|(with_reducible first|exact HB.out|apply below_alloc|apply pw_below_drewN|apply below_drew1)|exact HB.out)) hb);clear HB;have HO774:=n0_;have HB:=n1_;clear n0_ n1_;(try clear hb);(try clear hb2);(try clear hk);(try clear hi);(try clear ho0))|((with_reducible refine gate_dst (N:=34) rfl ?_);(try (refine gate_guard (by rfl) ?_;dsimp only));refine Kd.R_lit k38 _ 38 ?hg (N:=34) ?hd (xs:=([(⟨(⟨#[]⟩:ByteArray),2,(⟨0,0,0,0,0,(⟨#[]⟩:ByteArray),(⟨#[]⟩:ByteArray),0,0,(⟨#[]⟩:ByteArray)⟩:S26)⟩:S38)]:List (S38))) (inner:=[.string (⟨#[]⟩:ByteArray),.int .i64 2,.int .i64 0,.int .i64 0,.int .i64 0,.int .i64 0,.int .i64 0,.string (⟨#[]⟩:ByteArray),.string (⟨#[]⟩:ByteArray),.int .i64 0,.int .i64 0,.string (⟨#[]⟩:ByteArray)]) (ok:=fun _=>True) (okp:=fun _=>True) ?hr ?hp (fun _ hk=>hk) trivial (Below.refl _ _) (Nat.le_refl _) (by simp) ?_;(case hd=>rfl);(case hg=>rfl);(case hr=>first|(go_simp;done)|(go_simp;rfl));(case hp=>exact (Reps.front (show Kd.M k38 _ _ _ (⟨(⟨#[]⟩:ByteArray),2,(⟨0,0,0,0,0,(⟨#[]⟩:ByteArray),(⟨#[]⟩:ByteArray),0,0,(⟨#[]⟩:ByteArray)⟩:S26)⟩:S38) [.string (⟨#[]⟩:ByteArray),.int .i64 2,.int .i64 0,.int .i64 0,.int .i64 0,.int .i64 0,.int .i64 0,.string (⟨#[]⟩:ByteArray),.string (⟨#[]⟩:ByteArray),.int .i64 0,.int .i64 0,.string (⟨#[]⟩:ByteArray)] from (k38_mkM _ _ _ (⟨(⟨#[]⟩:ByteArray),2,(⟨0,0,0,0,0,(⟨#[]⟩:ByteArray),(⟨#[]⟩:ByteArray),0,0,(⟨#[]⟩:ByteArray)⟩:S26)⟩:S38) )) rfl (Reps.none _ _) rfl));intro v776 w13 ho14 hb hg_ hnew_;clear hg_ hnew_;(first|rw [← Ny775.out] at ho14|(simp only [Int.reduceToNat] at ho14;rw [← Ny775.out] at ho14));have n0_:=Aside0.mk (Kd.R_below (by (with_reducible repeat (first|apply Kd.R_alloc|apply Kd.R_drewN|apply Kd.R_drew));exact HO774.out) hb);have n1_:=Aside0.mk (Kd.R_lower ho14 (below_size (by repeat (first|(with_reducible first|exact HB.out|apply below_alloc|apply pw_below_drewN|apply below_drew1)|exact HB.out))));have n2_:=Aside0.mk (below_step (by repeat (first|(with_reducible first|exact HB.out|apply below_alloc|apply pw_below_drewN|apply below_drew1)|exact HB.out)) hb);clear HO774;clear HB;have HO774:=n0_;have HO777:=n1_;have HB:=n2_;clear n0_ n1_ n2_;clear hb ho14;obtain ⟨Ao15,co15,eo15⟩:=Kd.R_slice HO777.out;subst eo15)|((with_reducible refine gate_callee (f:=22) rfl ?_);refine goesL_ (some 35) rfl rfl Tryz.func22 (by kernel_rfl) rfl #[.slice A0 l0.length c0,.slice Ao15 y775.length co15] rfl (by (try simp only [List.map_toArray,List.map_cons,List.map_nil]);first|done|rfl|(simp only [List.length_drop,List.length_take];rfl)) ?_;(with_reducible refine (tree_Apply.calls _ _ l0 _ _ y775 t778 t779 _ (hG.ext (by repeat (first|(with_reducible first|exact HB.out|apply below_alloc|apply pw_below_drewN|apply below_drew1)|exact HB.out))) ?side1 ?side2 ?side3 ?side4 A11.out).mono ?_);(case side1=>repeat (first|exact (Kd.C_below HR0.out HB.out)|(with_reducible refine Kd.C_alloc ?_ _)|(with_reducible refine Kd.C_drewN ?_ _)|(with_reducible refine Kd.C_drew ?_)));(case side2=>exact HC0.out);(case side3=>repeat (first|exact (Kd.R_reads' HO777.out).2.2|(with_reducible refine Kd.C_alloc ?_ _)|(with_reducible refine Kd.C_drewN ?_ _)|(with_reducible refine Kd.C_drew ?_)));(case side4=>exact (Kd.R_reads' HO777.out).2.1);rintro e w16 ⟨v780,rfl,ho0,hb⟩;refine ⟨_,rfl,?_⟩;have n0_:=Aside0.mk (Kd.R_elder' (by (with_reducible repeat (first|apply Kd.R_alloc|apply Kd.R_drewN|apply Kd.R_drew));exact HO774.out) (Kd.R_base ho0) hb);have n1_:=Aside0.mk (Kd.R_below (by (with_reducible repeat (first|apply Kd.R_alloc|apply Kd.R_drewN|apply Kd.R_drew));exact HO777.out) hb);have n2_:=Aside0.mk (Kd.R_lower (Kd.R_new' ho0 (Kd.R_lt (by (with_reducible repeat (first|apply Kd.R_alloc|apply Kd.R_drewN|apply Kd.R_drew));exact HO774.out))) (below_size (by repeat (first|(with_reducible first|exact HB.out|apply below_alloc|apply pw_below_drewN|apply below_drew1)|exact HB.out))));have n3_:=Aside0.mk (below_step (by repeat (first|(with_reducible first|exact HB.out|apply below_alloc|apply pw_below_drewN|apply below_drew1)|exact HB.out)) hb);clear HO774;clear HO777;clear HB;have HO774:=n0_;have HO777:=n1_;have HO781:=n2_;have HB:=n3_;clear n0_ n1_ n2_ n3_;(try clear hb);(try clear hb2);(try clear hk);(try clear hi);(try clear ho0)))
    go_loopg [9,10] kj3 (fun kq v9 v10 w'=>∃ (x9_2:List (S38)) (x10_2:Int),v10=.int .i64 x10_2∧Aside0 (pq10.l0 kq l0 t768 t771 t772 t778 t779 x9_2 x10_2=some r)∧Aside0 (kq≤kj3)∧Aside0 (Kd.R k40 40 w' w.heap.size (fun k_=>some k_≠(v780:Value).ownBlock) v773 t771)∧Aside0 (Kd.R k40 40 w' w.heap.size (fun k_=>some k_≠(v773:Value).ownBlock) v780 t778)∧Aside0 (Kd.R k38 38 w' w.heap.size (fun _=>True) v9 x9_2)∧Aside0 (Below w.heap.size w w'))
    case atStart=>exact ⟨(([]:List (S38))),(0),(by first|rfl|(simp;done)|(simp [*];done)),H',⟨Nat.le_refl _⟩,⟨by (with_reducible repeat (first|apply Kd.R_alloc|apply Kd.R_drewN|apply Kd.R_drew));exact Kd.R_mono HO774.out (fun _ hk=>hk.2)⟩,⟨by (with_reducible repeat (first|apply Kd.R_alloc|apply Kd.R_drewN|apply Kd.R_drew));exact Kd.R_mono HO781.out (fun _ hk=>hk.2)⟩,⟨by first|exact Kd.R_nil _ _ _ _ _|exact Kd.N_nil _ _ _ _ _|exact Kd.V_nil _ _ _ _ _|exact Kd.Q_nil _ _ _ _ _|exact Kd.S_nil _ _ _ _ _⟩,⟨by repeat (first|(with_reducible first|exact HB.out|apply below_alloc|apply pw_below_drewN|apply below_drew1)|exact HB.out)⟩⟩
    case round =>
     clear H'
     try clear c1;try clear c2;try clear p2;try clear c6;try clear c9;try clear c15;try clear c16;try clear p2
     obtain ⟨x9_2,x10_2,rfl,HA,HK2,HO_5,HO_7,HO_9,HB⟩:=hrel
     cases gk with
     | zero=>exact absurd HA.out (by simp [pq10.l0])
     | succ k2 =>
      have H:=HA.out
      clear HA
      simp only [pq10.l0] at H
      by_cases c17:x10_2<(l0.length:Int)
      ·rw [if_pos c17] at H
       have c17b0:decide (x10_2<(l0.length:Int))=true:=decide_eq_true c17
       clear c17
       by_cases c18:0≤x10_2
       ·rw [if_pos c18] at H
        have c18b0:decide (0≤x10_2)=true:=decide_eq_true c18
        clear c18
        by_cases c19:x9_2.length<1099511627776
        ·rw [if_pos c19] at H
         have LMc19:=Aside0.mk c19
         clear c19
         obtain ⟨y784,hy784⟩:∃ y_:List (S38),y_=(x9_2 ++ [(⟨(rd_T40 l0 x10_2).f0,0,(⟨(rd_T40 l0 x10_2).f1.f0,(rd_T40 l0 x10_2).f1.f1,(rd_T40 l0 x10_2).f1.f2,(rd_T40 l0 x10_2).f1.f3,(rd_T40 l0 x10_2).f1.f4,(rd_T40 l0 x10_2).f1.f5,(rd_T40 l0 x10_2).f1.f6,(rd_T40 l0 x10_2).f1.f7,(rd_T40 l0 x10_2).f1.f8,(rd_T40 l0 x10_2).f1.f9⟩:S26)⟩:S38)]):=⟨_,rfl⟩
         replace H:(pq10.l0 k2 l0 t768 t771 t772 t778 t779 y784 (wrap64 (x10_2 + 1)))=some r:=by first|(rw [hy784];with_reducible exact H)|(have H2_:=(Option.bind_some _ _).symm.trans H;rw [hy784];with_reducible exact H2_)|(have H2_:=(Option.bind_some _ _).symm.trans H;with_reducible exact H2_)|with_reducible exact H|(rw [hy784];exact H)|exact H
         have Ny784:=Aside0.mk hy784
         clear hy784
         have H':=Aside0.mk H
         clear H
         try go_wp2
         have n0_:=Aside0.mk (Kd.R_drew HO_5.out)
         have n1_:=Aside0.mk (Kd.R_drew HO_7.out)
         have n2_:=Aside0.mk (Kd.R_drew HO_9.out)
         have n3_:=Aside0.mk (below_drew1 HB.out)
         clear HO_5
         clear HO_7
         clear HO_9
         clear HB
         have HO_5:=n0_
         have HO_7:=n1_
         have HO_9:=n2_
         have HB:=n3_
         clear n0_ n1_ n2_ n3_
         have p782:0≤(x10_2:Int):=of_decide_eq_true (by first|(with_reducible assumption)|assumption)
         have q782:x10_2<(l0.length:Int):=of_decide_eq_true (by first|(with_reducible assumption)|assumption)
         obtain ⟨ad782,e782,hx782_0,hx782_1,hx782_2,hx782_3,hx782_4,hx782_5,hx782_6,hx782_7,hx782_8,hx782_9,hx782_10⟩:=at_T40 HR0.out x10_2 p782 q782
         have hw782_10:=hx782_10
         have hw782_9:=hx782_9
         have hw782_8:=hx782_8
         have hw782_7:=hx782_7
         have hw782_6:=hx782_6
         have hw782_5:=hx782_5
         have hw782_4:=hx782_4
         have hw782_3:=hx782_3
         have hw782_2:=hx782_2
         have hw782_1:=hx782_1
         have hw782_0:=hx782_0
         cases e782
         replace hx782_0:=(HB.out.cell (World.block_lt_of_cell? w _ hx782_0)).trans hx782_0
         replace hx782_1:=(HB.out.cell (World.block_lt_of_cell? w _ hx782_1)).trans hx782_1
         replace hx782_2:=(HB.out.cell (World.block_lt_of_cell? w _ hx782_2)).trans hx782_2
         replace hx782_3:=(HB.out.cell (World.block_lt_of_cell? w _ hx782_3)).trans hx782_3
         replace hx782_4:=(HB.out.cell (World.block_lt_of_cell? w _ hx782_4)).trans hx782_4
         replace hx782_5:=(HB.out.cell (World.block_lt_of_cell? w _ hx782_5)).trans hx782_5
         replace hx782_6:=(HB.out.cell (World.block_lt_of_cell? w _ hx782_6)).trans hx782_6
         replace hx782_7:=(HB.out.cell (World.block_lt_of_cell? w _ hx782_7)).trans hx782_7
         replace hx782_8:=(HB.out.cell (World.block_lt_of_cell? w _ hx782_8)).trans hx782_8
         replace hx782_9:=(HB.out.cell (World.block_lt_of_cell? w _ hx782_9)).trans hx782_9
         replace hx782_10:=(HB.out.cell (World.block_lt_of_cell? w _ hx782_10)).trans hx782_10
         replace p782:=eq_true p782
         replace q782:=eq_true q782
         have p783:0≤(x10_2:Int):=of_decide_eq_true (by first|(with_reducible assumption)|assumption)
         have q783:x10_2<(l0.length:Int):=of_decide_eq_true (by first|(with_reducible assumption)|assumption)
         obtain ⟨ad783,e783,hx783_0,hx783_1,hx783_2,hx783_3,hx783_4,hx783_5,hx783_6,hx783_7,hx783_8,hx783_9,hx783_10⟩:=at_T40 HR0.out x10_2 p783 q783
         have hw783_10:=hx783_10
         have hw783_9:=hx783_9
         have hw783_8:=hx783_8
         have hw783_7:=hx783_7
         have hw783_6:=hx783_6
         have hw783_5:=hx783_5
         have hw783_4:=hx783_4
         have hw783_3:=hx783_3
         have hw783_2:=hx783_2
         have hw783_1:=hx783_1
         have hw783_0:=hx783_0
         obtain rfl:ad782=ad783:=(by injection e783)
         replace hx783_0:=(HB.out.cell (World.block_lt_of_cell? w _ hx783_0)).trans hx783_0
         replace hx783_1:=(HB.out.cell (World.block_lt_of_cell? w _ hx783_1)).trans hx783_1
         replace hx783_2:=(HB.out.cell (World.block_lt_of_cell? w _ hx783_2)).trans hx783_2
         replace hx783_3:=(HB.out.cell (World.block_lt_of_cell? w _ hx783_3)).trans hx783_3
         replace hx783_4:=(HB.out.cell (World.block_lt_of_cell? w _ hx783_4)).trans hx783_4
         replace hx783_5:=(HB.out.cell (World.block_lt_of_cell? w _ hx783_5)).trans hx783_5
         replace hx783_6:=(HB.out.cell (World.block_lt_of_cell? w _ hx783_6)).trans hx783_6
         replace hx783_7:=(HB.out.cell (World.block_lt_of_cell? w _ hx783_7)).trans hx783_7
         replace hx783_8:=(HB.out.cell (World.block_lt_of_cell? w _ hx783_8)).trans hx783_8
         replace hx783_9:=(HB.out.cell (World.block_lt_of_cell? w _ hx783_9)).trans hx783_9
         replace hx783_10:=(HB.out.cell (World.block_lt_of_cell? w _ hx783_10)).trans hx783_10
         replace p783:=eq_true p783
         replace q783:=eq_true q783
         refine start_ (n:=15) (S:=fun w'=>w'.cell? (ad782.add ((x10_2).toNat * 11))=some (.string ((rd_T40 l0 x10_2).f0))∧w'.cell? ⟨(ad782.add ((x10_2).toNat * 11)).block,(ad782.add ((x10_2).toNat * 11)).off + 1,none⟩=some (.int .i64 ((rd_T40 l0 x10_2).f1.f0))∧w'.cell? ⟨(ad782.add ((x10_2).toNat * 11)).block,(ad782.add ((x10_2).toNat * 11)).off + 2,none⟩=some (.int .i64 ((rd_T40 l0 x10_2).f1.f1))∧w'.cell? ⟨(ad782.add ((x10_2).toNat * 11)).block,(ad782.add ((x10_2).toNat * 11)).off + 3,none⟩=some (.int .i64 ((rd_T40 l0 x10_2).f1.f2))∧w'.cell? ⟨(ad782.add ((x10_2).toNat * 11)).block,(ad782.add ((x10_2).toNat * 11)).off + 4,none⟩=some (.int .i64 ((rd_T40 l0 x10_2).f1.f3))∧w'.cell? ⟨(ad782.add ((x10_2).toNat * 11)).block,(ad782.add ((x10_2).toNat * 11)).off + 5,none⟩=some (.int .i64 ((rd_T40 l0 x10_2).f1.f4))∧w'.cell? ⟨(ad782.add ((x10_2).toNat * 11)).block,(ad782.add ((x10_2).toNat * 11)).off + 6,none⟩=some (.string ((rd_T40 l0 x10_2).f1.f5))∧w'.cell? ⟨(ad782.add ((x10_2).toNat * 11)).block,(ad782.add ((x10_2).toNat * 11)).off + 7,none⟩=some (.string ((rd_T40 l0 x10_2).f1.f6))∧w'.cell? ⟨(ad782.add ((x10_2).toNat * 11)).block,(ad782.add ((x10_2).toNat * 11)).off + 8,none⟩=some (.int .i64 ((rd_T40 l0 x10_2).f1.f7))∧w'.cell? ⟨(ad782.add ((x10_2).toNat * 11)).block,(ad782.add ((x10_2).toNat * 11)).off + 9,none⟩=some (.int .i64 ((rd_T40 l0 x10_2).f1.f8))∧w'.cell? ⟨(ad782.add ((x10_2).toNat * 11)).block,(ad782.add ((x10_2).toNat * 11)).off + 10,none⟩=some (.string ((rd_T40 l0 x10_2).f1.f9))∧w'.cell? (ad782.add ((x10_2).toNat * 11))=some (.string ((rd_T40 l0 x10_2).f0))∧w'.cell? ⟨(ad782.add ((x10_2).toNat * 11)).block,(ad782.add ((x10_2).toNat * 11)).off + 1,none⟩=some (.int .i64 ((rd_T40 l0 x10_2).f1.f0))∧w'.cell? ⟨(ad782.add ((x10_2).toNat * 11)).block,(ad782.add ((x10_2).toNat * 11)).off + 2,none⟩=some (.int .i64 ((rd_T40 l0 x10_2).f1.f1))∧w'.cell? ⟨(ad782.add ((x10_2).toNat * 11)).block,(ad782.add ((x10_2).toNat * 11)).off + 3,none⟩=some (.int .i64 ((rd_T40 l0 x10_2).f1.f2))∧w'.cell? ⟨(ad782.add ((x10_2).toNat * 11)).block,(ad782.add ((x10_2).toNat * 11)).off + 4,none⟩=some (.int .i64 ((rd_T40 l0 x10_2).f1.f3))∧w'.cell? ⟨(ad782.add ((x10_2).toNat * 11)).block,(ad782.add ((x10_2).toNat * 11)).off + 5,none⟩=some (.int .i64 ((rd_T40 l0 x10_2).f1.f4))∧w'.cell? ⟨(ad782.add ((x10_2).toNat * 11)).block,(ad782.add ((x10_2).toNat * 11)).off + 6,none⟩=some (.string ((rd_T40 l0 x10_2).f1.f5))∧w'.cell? ⟨(ad782.add ((x10_2).toNat * 11)).block,(ad782.add ((x10_2).toNat * 11)).off + 7,none⟩=some (.string ((rd_T40 l0 x10_2).f1.f6))∧w'.cell? ⟨(ad782.add ((x10_2).toNat * 11)).block,(ad782.add ((x10_2).toNat * 11)).off + 8,none⟩=some (.int .i64 ((rd_T40 l0 x10_2).f1.f7))∧w'.cell? ⟨(ad782.add ((x10_2).toNat * 11)).block,(ad782.add ((x10_2).toNat * 11)).off + 9,none⟩=some (.int .i64 ((rd_T40 l0 x10_2).f1.f8))∧w'.cell? ⟨(ad782.add ((x10_2).toNat * 11)).block,(ad782.add ((x10_2).toNat * 11)).off + 10,none⟩=some (.string ((rd_T40 l0 x10_2).f1.f9))) (ds:=[]) (bm 15 0) (by kernel_rfl) rfl rfl ⟨((HB.out.cell (World.block_lt_of_cell? w _ hw782_0)).trans hw782_0),((HB.out.cell (World.block_lt_of_cell? w _ hw782_1)).trans hw782_1),((HB.out.cell (World.block_lt_of_cell? w _ hw782_2)).trans hw782_2),((HB.out.cell (World.block_lt_of_cell? w _ hw782_3)).trans hw782_3),((HB.out.cell (World.block_lt_of_cell? w _ hw782_4)).trans hw782_4),((HB.out.cell (World.block_lt_of_cell? w _ hw782_5)).trans hw782_5),((HB.out.cell (World.block_lt_of_cell? w _ hw782_6)).trans hw782_6),((HB.out.cell (World.block_lt_of_cell? w _ hw782_7)).trans hw782_7),((HB.out.cell (World.block_lt_of_cell? w _ hw782_8)).trans hw782_8),((HB.out.cell (World.block_lt_of_cell? w _ hw782_9)).trans hw782_9),((HB.out.cell (World.block_lt_of_cell? w _ hw782_10)).trans hw782_10),((HB.out.cell (World.block_lt_of_cell? w _ hw783_0)).trans hw783_0),((HB.out.cell (World.block_lt_of_cell? w _ hw783_1)).trans hw783_1),((HB.out.cell (World.block_lt_of_cell? w _ hw783_2)).trans hw783_2),((HB.out.cell (World.block_lt_of_cell? w _ hw783_3)).trans hw783_3),((HB.out.cell (World.block_lt_of_cell? w _ hw783_4)).trans hw783_4),((HB.out.cell (World.block_lt_of_cell? w _ hw783_5)).trans hw783_5),((HB.out.cell (World.block_lt_of_cell? w _ hw783_6)).trans hw783_6),((HB.out.cell (World.block_lt_of_cell? w _ hw783_7)).trans hw783_7),((HB.out.cell (World.block_lt_of_cell? w _ hw783_8)).trans hw783_8),((HB.out.cell (World.block_lt_of_cell? w _ hw783_9)).trans hw783_9),((HB.out.cell (World.block_lt_of_cell? w _ hw783_10)).trans hw783_10)⟩ (fun hHeld=>?_);refine with_tabW pq10.tab11 pq10.bits11 (fun HT_ HW_=>?_)
         generalize wr.drew=w20 at HO_5 HO_7 HO_9 HB hx782_0 hx782_1 hx782_10 hx782_2 hx782_3 hx782_4 hx782_5 hx782_6 hx782_7 hx782_8 hx782_9 hx783_0 hx783_1 hx783_10 hx783_2 hx783_3 hx783_4 hx783_5 hx783_6 hx783_7 hx783_8 hx783_9 hHeld ⊢
         refine pT 0 44 ?_ (bm 15 1) HT_.out rfl rfl (by kernel_rfl) (fun _ _ _=>id) (by rfl) ?_ ?_ ?_ ?_
         rotate_left
         ·intro w'
          go_simp
          with_reducible rfl
         rotate_left
         ·simp only [aP,i64_w,i32_w]
          rfl
         refine pT 1 45 ?_ (bm 15 3) HT_.out rfl rfl (by kernel_rfl) (fun _ _ _=>id) (by rfl) ?_ ?_ ?_ ?_
         rotate_left
         ·intro w'
          go_simp
          with_reducible rfl
         rotate_left
         ·simp only [aP,i64_w,i32_w]
          rfl
         refine pT 2 46 ?_ (bm 15 7) HT_.out rfl rfl (by kernel_rfl) (fun _ _ _=>id) (by rfl) ?_ ?_ ?_ ?_
         rotate_left
         ·intro w'
          go_simp
          with_reducible rfl
         rotate_left
         ·simp only [aP,i64_w,i32_w]
          rfl
         refine pT 3 47 ?_ (bm 15 15) HT_.out rfl rfl (by kernel_rfl) (fun _ _ _=>id) (by rfl) ?_ ?_ ?_ ?_
         rotate_left
         ·intro w'
          go_simp
          with_reducible rfl
         rotate_left
         ·simp only [aP,i64_w,i32_w]
          rfl
         refine pT 4 48 ?_ (bm 15 31) HT_.out rfl rfl (by kernel_rfl) (fun _ _ _=>id) (by rfl) ?_ ?_ ?_ ?_
         rotate_left
         ·intro w'
          go_simp
          with_reducible rfl
         rotate_left
         ·simp only [aP,i64_w,i32_w]
          rfl
         refine pT 6 50 ?_ (bm 15 95) HT_.out rfl rfl (by kernel_rfl) (fun _ _ _=>id) (by rfl) ?_ ?_ ?_ ?_
         rotate_left
         ·intro w'
          go_simp
          with_reducible rfl
         rotate_left
         ·simp only [aP,i64_w,i32_w]
          rfl
         refine pT 7 51 ?_ (bm 15 223) HT_.out rfl rfl (by kernel_rfl) (fun _ _ _=>id) (by rfl) ?_ ?_ ?_ ?_
         rotate_left
         ·intro w'
          go_simp
          with_reducible rfl
         rotate_left
         ·simp only [aP,i64_w,i32_w]
          rfl
         refine pT 8 52 ?_ (bm 15 479) HT_.out rfl rfl (by kernel_rfl) (fun _ _ _=>id) (by rfl) ?_ ?_ ?_ ?_
         rotate_left
         ·intro w'
          go_simp
          with_reducible rfl
         rotate_left
         ·simp only [aP,i64_w,i32_w]
          rfl
         refine pT 9 53 ?_ (bm 15 991) HT_.out rfl rfl (by kernel_rfl) (fun _ _ _=>id) (by rfl) ?_ ?_ ?_ ?_
         rotate_left
         ·intro w'
          go_simp
          with_reducible rfl
         rotate_left
         ·simp only [aP,i64_w,i32_w]
          rfl
         refine take_ (i:=5) (N:=some 49) (v:=?_) (a':=?_) (bm 15 1023) rfl rfl (take_ofW HT_.out HW_.out (by kernel_rfl)) (fun _ _ _ h=>h) (Or.inl ⟨by rfl,?_⟩) hHeld ?_ ?_
         rotate_left
         ·rintro w' ⟨s0,s1,s2,s3,s4,s5,s6,s7,s8,s9,s10,s11,s12,s13,s14,s15,s16,s17,s18,s19,s20,s21⟩
          go_simp
          with_reducible rfl
         rotate_left
         ·simp only [aP,i64_w,i32_w]
          rfl
         refine take_ (i:=10) (N:=some 54) (v:=?_) (a':=?_) (bm 15 2047) rfl rfl (take_ofW HT_.out HW_.out (by kernel_rfl)) (fun _ _ _ h=>h) (Or.inl ⟨by rfl,?_⟩) hHeld ?_ ?_
         rotate_left
         ·rintro w' ⟨s0,s1,s2,s3,s4,s5,s6,s7,s8,s9,s10,s11,s12,s13,s14,s15,s16,s17,s18,s19,s20,s21⟩
          go_simp
          with_reducible rfl
         rotate_left
         ·simp only [aP,i64_w,i32_w]
          rfl
         refine pT 11 55 ?_ (bm 15 4095) HT_.out rfl rfl (by kernel_rfl) (fun _ _ _=>id) (by rfl) ?_ ?_ ?_ ?_
         rotate_left
         ·intro w'
          go_simp
          with_reducible rfl
         rotate_left
         ·simp only [aP,i64_w,i32_w]
          rfl
         refine one_ (i:=12) (N:=some 56) (bm 15 8191) rfl rfl (one_of HT_.out (by kernel_rfl)) (by decide) (fun K hK=>?_)
         refine value_ (w1:=?_) (v:=?_) (by rfl) rfl ?_ ?_
         rotate_left 2
         ·go_simp
          constructor
          ·rfl
          ·rfl
         refine hK.out _ _ ⟨(World.cell?_alloc_lt _ _ _ (World.block_lt_of_cell? _ _ (((HB.out.cell (World.block_lt_of_cell? w _ hw782_0)).trans hw782_0)))).trans (((HB.out.cell (World.block_lt_of_cell? w _ hw782_0)).trans hw782_0)),(World.cell?_alloc_lt _ _ _ (World.block_lt_of_cell? _ _ (((HB.out.cell (World.block_lt_of_cell? w _ hw782_1)).trans hw782_1)))).trans (((HB.out.cell (World.block_lt_of_cell? w _ hw782_1)).trans hw782_1)),(World.cell?_alloc_lt _ _ _ (World.block_lt_of_cell? _ _ (((HB.out.cell (World.block_lt_of_cell? w _ hw782_2)).trans hw782_2)))).trans (((HB.out.cell (World.block_lt_of_cell? w _ hw782_2)).trans hw782_2)),(World.cell?_alloc_lt _ _ _ (World.block_lt_of_cell? _ _ (((HB.out.cell (World.block_lt_of_cell? w _ hw782_3)).trans hw782_3)))).trans (((HB.out.cell (World.block_lt_of_cell? w _ hw782_3)).trans hw782_3)),(World.cell?_alloc_lt _ _ _ (World.block_lt_of_cell? _ _ (((HB.out.cell (World.block_lt_of_cell? w _ hw782_4)).trans hw782_4)))).trans (((HB.out.cell (World.block_lt_of_cell? w _ hw782_4)).trans hw782_4)),(World.cell?_alloc_lt _ _ _ (World.block_lt_of_cell? _ _ (((HB.out.cell (World.block_lt_of_cell? w _ hw782_5)).trans hw782_5)))).trans (((HB.out.cell (World.block_lt_of_cell? w _ hw782_5)).trans hw782_5)),(World.cell?_alloc_lt _ _ _ (World.block_lt_of_cell? _ _ (((HB.out.cell (World.block_lt_of_cell? w _ hw782_6)).trans hw782_6)))).trans (((HB.out.cell (World.block_lt_of_cell? w _ hw782_6)).trans hw782_6)),(World.cell?_alloc_lt _ _ _ (World.block_lt_of_cell? _ _ (((HB.out.cell (World.block_lt_of_cell? w _ hw782_7)).trans hw782_7)))).trans (((HB.out.cell (World.block_lt_of_cell? w _ hw782_7)).trans hw782_7)),(World.cell?_alloc_lt _ _ _ (World.block_lt_of_cell? _ _ (((HB.out.cell (World.block_lt_of_cell? w _ hw782_8)).trans hw782_8)))).trans (((HB.out.cell (World.block_lt_of_cell? w _ hw782_8)).trans hw782_8)),(World.cell?_alloc_lt _ _ _ (World.block_lt_of_cell? _ _ (((HB.out.cell (World.block_lt_of_cell? w _ hw782_9)).trans hw782_9)))).trans (((HB.out.cell (World.block_lt_of_cell? w _ hw782_9)).trans hw782_9)),(World.cell?_alloc_lt _ _ _ (World.block_lt_of_cell? _ _ (((HB.out.cell (World.block_lt_of_cell? w _ hw782_10)).trans hw782_10)))).trans (((HB.out.cell (World.block_lt_of_cell? w _ hw782_10)).trans hw782_10)),(World.cell?_alloc_lt _ _ _ (World.block_lt_of_cell? _ _ (((HB.out.cell (World.block_lt_of_cell? w _ hw783_0)).trans hw783_0)))).trans (((HB.out.cell (World.block_lt_of_cell? w _ hw783_0)).trans hw783_0)),(World.cell?_alloc_lt _ _ _ (World.block_lt_of_cell? _ _ (((HB.out.cell (World.block_lt_of_cell? w _ hw783_1)).trans hw783_1)))).trans (((HB.out.cell (World.block_lt_of_cell? w _ hw783_1)).trans hw783_1)),(World.cell?_alloc_lt _ _ _ (World.block_lt_of_cell? _ _ (((HB.out.cell (World.block_lt_of_cell? w _ hw783_2)).trans hw783_2)))).trans (((HB.out.cell (World.block_lt_of_cell? w _ hw783_2)).trans hw783_2)),(World.cell?_alloc_lt _ _ _ (World.block_lt_of_cell? _ _ (((HB.out.cell (World.block_lt_of_cell? w _ hw783_3)).trans hw783_3)))).trans (((HB.out.cell (World.block_lt_of_cell? w _ hw783_3)).trans hw783_3)),(World.cell?_alloc_lt _ _ _ (World.block_lt_of_cell? _ _ (((HB.out.cell (World.block_lt_of_cell? w _ hw783_4)).trans hw783_4)))).trans (((HB.out.cell (World.block_lt_of_cell? w _ hw783_4)).trans hw783_4)),(World.cell?_alloc_lt _ _ _ (World.block_lt_of_cell? _ _ (((HB.out.cell (World.block_lt_of_cell? w _ hw783_5)).trans hw783_5)))).trans (((HB.out.cell (World.block_lt_of_cell? w _ hw783_5)).trans hw783_5)),(World.cell?_alloc_lt _ _ _ (World.block_lt_of_cell? _ _ (((HB.out.cell (World.block_lt_of_cell? w _ hw783_6)).trans hw783_6)))).trans (((HB.out.cell (World.block_lt_of_cell? w _ hw783_6)).trans hw783_6)),(World.cell?_alloc_lt _ _ _ (World.block_lt_of_cell? _ _ (((HB.out.cell (World.block_lt_of_cell? w _ hw783_7)).trans hw783_7)))).trans (((HB.out.cell (World.block_lt_of_cell? w _ hw783_7)).trans hw783_7)),(World.cell?_alloc_lt _ _ _ (World.block_lt_of_cell? _ _ (((HB.out.cell (World.block_lt_of_cell? w _ hw783_8)).trans hw783_8)))).trans (((HB.out.cell (World.block_lt_of_cell? w _ hw783_8)).trans hw783_8)),(World.cell?_alloc_lt _ _ _ (World.block_lt_of_cell? _ _ (((HB.out.cell (World.block_lt_of_cell? w _ hw783_9)).trans hw783_9)))).trans (((HB.out.cell (World.block_lt_of_cell? w _ hw783_9)).trans hw783_9)),(World.cell?_alloc_lt _ _ _ (World.block_lt_of_cell? _ _ (((HB.out.cell (World.block_lt_of_cell? w _ hw783_10)).trans hw783_10)))).trans (((HB.out.cell (World.block_lt_of_cell? w _ hw783_10)).trans hw783_10))⟩ (fun hHeld=>?_)
         clear hK K
         refine norm_ (a':=?_) ?_ ?_
         rotate_left
         ·show Act.put _ (some 56) _=_
          simp only [aP,i64_w,i32_w]
          rfl
         refine one_ (i:=13) (N:=some 57) (bm 15 16383) rfl rfl (one_of HT_.out (by kernel_rfl)) (by decide) (fun K hK=>?_)
         refine Kd.R_append_step k38 (w0:=w) w.heap.size (by rfl) (.tmp 44) (.tmp 56) 30 38 (.agg #[(.string ⟨#[]⟩),(.int .i64 0),(.int .i64 0),(.int .i64 0),(.int .i64 0),(.int .i64 0),(.int .i64 0),(.string ⟨#[]⟩),(.string ⟨#[]⟩),(.int .i64 0),(.int .i64 0),(.string ⟨#[]⟩)]) 128 rfl Tryz.underlying30 info38 rfl (by decide) (by omega) u9 x9_2 (⟨(rd_T40 l0 x10_2).f0,0,(⟨(rd_T40 l0 x10_2).f1.f0,(rd_T40 l0 x10_2).f1.f1,(rd_T40 l0 x10_2).f1.f2,(rd_T40 l0 x10_2).f1.f3,(rd_T40 l0 x10_2).f1.f4,(rd_T40 l0 x10_2).f1.f5,(rd_T40 l0 x10_2).f1.f6,(rd_T40 l0 x10_2).f1.f7,(rd_T40 l0 x10_2).f1.f8,(rd_T40 l0 x10_2).f1.f9⟩:S26)⟩:S38) [.string ((rd_T40 l0 x10_2).f0),.int .i64 0,.int .i64 ((rd_T40 l0 x10_2).f1.f0),.int .i64 ((rd_T40 l0 x10_2).f1.f1),.int .i64 ((rd_T40 l0 x10_2).f1.f2),.int .i64 ((rd_T40 l0 x10_2).f1.f3),.int .i64 ((rd_T40 l0 x10_2).f1.f4),.string ((rd_T40 l0 x10_2).f1.f5),.string ((rd_T40 l0 x10_2).f1.f6),.int .i64 ((rd_T40 l0 x10_2).f1.f7),.int .i64 ((rd_T40 l0 x10_2).f1.f8),.string ((rd_T40 l0 x10_2).f1.f9)] (fun _=>True) (fun _=>False) rfl rfl ?aP (fun _ hk=>hk.elim) ?aF ?aO ?aB ?aS ?aL ?_
         (case aP=>exact k38_mkM _ _ _ (⟨(rd_T40 l0 x10_2).f0,0,(⟨(rd_T40 l0 x10_2).f1.f0,(rd_T40 l0 x10_2).f1.f1,(rd_T40 l0 x10_2).f1.f2,(rd_T40 l0 x10_2).f1.f3,(rd_T40 l0 x10_2).f1.f4,(rd_T40 l0 x10_2).f1.f5,(rd_T40 l0 x10_2).f1.f6,(rd_T40 l0 x10_2).f1.f7,(rd_T40 l0 x10_2).f1.f8,(rd_T40 l0 x10_2).f1.f9⟩:S26)⟩:S38))
         (case aB=>exact (by repeat (first|(with_reducible first|exact HB.out|apply below_alloc|apply pw_below_drewN|apply below_drew1)|exact HB.out)))
         (case aF=>exact (fun _ _=>trivial))
         (case aO=>exact (by (with_reducible repeat (first|apply Kd.R_alloc|apply Kd.R_drewN|apply Kd.R_drew));exact HO_9.out))
         (case aS=>exact (below_size (by repeat (first|(with_reducible first|exact HB.out|apply below_alloc|apply pw_below_drewN|apply below_drew1)|exact HB.out))))
         (case aL=>have:=LMc19.out;omega)
         intro v785 w21 ho hb hg hat
         rw [← Ny784.out] at ho
         have n0_:=Aside0.mk (Kd.R_over' (by (with_reducible repeat (first|apply Kd.R_alloc|apply Kd.R_drewN|apply Kd.R_drew));exact HO_5.out) (Kd.R_typed (by (with_reducible repeat (first|apply Kd.R_alloc|apply Kd.R_drewN|apply Kd.R_drew));exact HO_9.out)) (by decide) hg)
         have n1_:=Aside0.mk (Kd.R_over' (by (with_reducible repeat (first|apply Kd.R_alloc|apply Kd.R_drewN|apply Kd.R_drew));exact HO_7.out) (Kd.R_typed (by (with_reducible repeat (first|apply Kd.R_alloc|apply Kd.R_drewN|apply Kd.R_drew));exact HO_9.out)) (by decide) hg)
         have n2_:=Aside0.mk (hb)
         have n3_:=Aside0.mk (ho)
         clear HO_5
         clear HO_7
         clear HB
         clear HO_9
         have HO_5:=n0_
         have HO_7:=n1_
         have HB:=n2_
         have HO786:=n3_
         clear n0_ n1_ n2_ n3_
         clear ho hb hg hat
         refine hK.out _ _ ⟨((HB.out.cell (World.block_lt_of_cell? w _ hw782_0)).trans hw782_0),((HB.out.cell (World.block_lt_of_cell? w _ hw782_1)).trans hw782_1),((HB.out.cell (World.block_lt_of_cell? w _ hw782_2)).trans hw782_2),((HB.out.cell (World.block_lt_of_cell? w _ hw782_3)).trans hw782_3),((HB.out.cell (World.block_lt_of_cell? w _ hw782_4)).trans hw782_4),((HB.out.cell (World.block_lt_of_cell? w _ hw782_5)).trans hw782_5),((HB.out.cell (World.block_lt_of_cell? w _ hw782_6)).trans hw782_6),((HB.out.cell (World.block_lt_of_cell? w _ hw782_7)).trans hw782_7),((HB.out.cell (World.block_lt_of_cell? w _ hw782_8)).trans hw782_8),((HB.out.cell (World.block_lt_of_cell? w _ hw782_9)).trans hw782_9),((HB.out.cell (World.block_lt_of_cell? w _ hw782_10)).trans hw782_10),((HB.out.cell (World.block_lt_of_cell? w _ hw783_0)).trans hw783_0),((HB.out.cell (World.block_lt_of_cell? w _ hw783_1)).trans hw783_1),((HB.out.cell (World.block_lt_of_cell? w _ hw783_2)).trans hw783_2),((HB.out.cell (World.block_lt_of_cell? w _ hw783_3)).trans hw783_3),((HB.out.cell (World.block_lt_of_cell? w _ hw783_4)).trans hw783_4),((HB.out.cell (World.block_lt_of_cell? w _ hw783_5)).trans hw783_5),((HB.out.cell (World.block_lt_of_cell? w _ hw783_6)).trans hw783_6),((HB.out.cell (World.block_lt_of_cell? w _ hw783_7)).trans hw783_7),((HB.out.cell (World.block_lt_of_cell? w _ hw783_8)).trans hw783_8),((HB.out.cell (World.block_lt_of_cell? w _ hw783_9)).trans hw783_9),((HB.out.cell (World.block_lt_of_cell? w _ hw783_10)).trans hw783_10)⟩ (fun hHeld=>?_)
         clear hK K
         refine norm_ (a':=?_) ?_ ?_
         rotate_left
         ·show Act.put _ (some 57) _=_
          simp only [aP,i64_w,i32_w]
          rfl
         refine pT 14 9 ?_ (bm 15 32767) HT_.out rfl rfl (by kernel_rfl) (fun _ _ _=>id) (by rfl) ?_ ?_ ?_ ?_
         rotate_left
         ·intro w'
          go_simp
          with_reducible rfl
         rotate_left
         ·simp only [aP,i64_w,i32_w]
          rfl
         refine done_ (done_of HT_.out (by kernel_rfl)) ?_
         try go_wp2
         go_roundg k2
         case measure=>have:=HJ3.out;have:=HK2.out;omega
         case rel=>exact ⟨(y784),(wrap64 (x10_2 + 1)),(by first|rfl|(simp;done)|(simp [*];done)),H',⟨by have:=HJ3.out;have:=HK2.out;omega⟩,⟨by (with_reducible repeat (first|apply Kd.R_alloc|apply Kd.R_drewN|apply Kd.R_drew));exact HO_5.out⟩,⟨by (with_reducible repeat (first|apply Kd.R_alloc|apply Kd.R_drewN|apply Kd.R_drew));exact HO_7.out⟩,⟨by (with_reducible repeat (first|apply Kd.R_alloc|apply Kd.R_drewN|apply Kd.R_drew));exact HO786.out⟩,⟨by repeat (first|(with_reducible first|exact HB.out|apply below_alloc|apply pw_below_drewN|apply below_drew1)|exact HB.out)⟩⟩
        ·rw [if_neg c19] at H
         exact absurd H (by simp)
       ·rw [if_neg c18] at H
        exact absurd H (by simp)
      ·rw [if_neg c17] at H
       have c17b0:decide (x10_2<(l0.length:Int))=false:=decide_eq_false c17
       clear c17
       replace H:=Option.bind_eq_some_iff.mp H
       obtain ⟨⟨t787,t788⟩,A220,H⟩:=H
       replace H:((tree_Apply.f l0 x9_2).bind fun bt791=>(if t768=true then (if t772=0 then ((pq11.f k2 t771 l0).bind fun t795=>(if t795=true then (if t779=0 then (if (t778.length:Int)=0 then (if t788=0 then ((pq11.f k2 t787 l0).bind fun t796=>(if t796=true then (if bt791.2=0 then ((pq11.f k2 bt791.1 l0).bind fun t797=>(some t797)) else (some false)) else (some false))) else (some false)) else (some false)) else (some false)) else (some false))) else (some false)) else (some false)))=some r:=H
       have A22:=Aside0.mk A220
       clear A220
       replace H:=Option.bind_eq_some_iff.mp H
       obtain ⟨⟨t791,t792⟩,A230,H⟩:=H
       replace H:(if t768=true then (if t772=0 then ((pq11.f k2 t771 l0).bind fun t795=>(if t795=true then (if t779=0 then (if (t778.length:Int)=0 then (if t788=0 then ((pq11.f k2 t787 l0).bind fun t796=>(if t796=true then (if t792=0 then ((pq11.f k2 t791 l0).bind fun t797=>(some t797)) else (some false)) else (some false))) else (some false)) else (some false)) else (some false)) else (some false))) else (some false)) else (some false))=some r:=H
       have A23:=Aside0.mk A230
       clear A230
       by_cases c24:t768=true
       ·subst c24
        have H1:(if t772=0 then ((pq11.f k2 t771 l0).bind fun t795=>(if t795=true then (if t779=0 then (if (t778.length:Int)=0 then (if t788=0 then ((pq11.f k2 t787 l0).bind fun t796=>(if t796=true then (if t792=0 then ((pq11.f k2 t791 l0).bind fun t797=>(some t797)) else (some false)) else (some false))) else (some false)) else (some false)) else (some false)) else (some false))) else (some false))=some r:=by rw [if_pos rfl] at H;exact H
        clear H
        have H:=H1
        clear H1
        by_cases c25:t772=0
        ·rw [if_pos c25] at H
         have c25b0:(t772 == 0)=true:=beq_iff_eq.mpr c25
         have c25b1:(t772 != 0)=false:=bne_eq_false_iff_eq.mpr c25
         clear c25
         replace H:=Option.bind_eq_some_iff.mp H
         obtain ⟨t795,A260,H⟩:=H
         replace H:(if t795=true then (if t779=0 then (if (t778.length:Int)=0 then (if t788=0 then ((pq11.f k2 t787 l0).bind fun t796=>(if t796=true then (if t792=0 then ((pq11.f k2 t791 l0).bind fun t797=>(some t797)) else (some false)) else (some false))) else (some false)) else (some false)) else (some false)) else (some false))=some r:=H
         have A26:=Aside0.mk A260
         clear A260
         by_cases c27:t795=true
         ·subst c27
          have H1:(if t779=0 then (if (t778.length:Int)=0 then (if t788=0 then ((pq11.f k2 t787 l0).bind fun t796=>(if t796=true then (if t792=0 then ((pq11.f k2 t791 l0).bind fun t797=>(some t797)) else (some false)) else (some false))) else (some false)) else (some false)) else (some false))=some r:=by rw [if_pos rfl] at H;exact H
          clear H
          have H:=H1
          clear H1
          by_cases c28:t779=0
          ·rw [if_pos c28] at H
           have c28b0:(t779 == 0)=true:=beq_iff_eq.mpr c28
           have c28b1:(t779 != 0)=false:=bne_eq_false_iff_eq.mpr c28
           clear c28
           by_cases c29:(t778.length:Int)=0
           ·rw [if_pos c29] at H
            have c29b0:((t778.length:Int) == 0)=true:=beq_iff_eq.mpr c29
            have c29b1:((t778.length:Int) != 0)=false:=bne_eq_false_iff_eq.mpr c29
            clear c29
            by_cases c30:t788=0
            ·rw [if_pos c30] at H
             have c30b0:(t788 == 0)=true:=beq_iff_eq.mpr c30
             have c30b1:(t788 != 0)=false:=bne_eq_false_iff_eq.mpr c30
             clear c30
             replace H:=Option.bind_eq_some_iff.mp H
             obtain ⟨t796,A310,H⟩:=H
             replace H:(if t796=true then (if t792=0 then ((pq11.f k2 t791 l0).bind fun t797=>(some t797)) else (some false)) else (some false))=some r:=H
             have A31:=Aside0.mk A310
             clear A310
             by_cases c32:t796=true
             ·subst c32
              have H1:(if t792=0 then ((pq11.f k2 t791 l0).bind fun t797=>(some t797)) else (some false))=some r:=by rw [if_pos rfl] at H;exact H
              clear H
              have H:=H1
              clear H1
              by_cases c33:t792=0
              ·rw [if_pos c33] at H
               have c33b0:(t792 == 0)=true:=beq_iff_eq.mpr c33
               have c33b1:(t792 != 0)=false:=bne_eq_false_iff_eq.mpr c33
               clear c33
               replace H:=Option.bind_eq_some_iff.mp H
               obtain ⟨t797,A340,H⟩:=H
               replace H:(some t797)=some r:=H
               have A34:=Aside0.mk A340
               clear A340
               obtain rfl:=Option.some.inj H
               obtain ⟨Ao35,co35,eo35⟩:=Kd.R_slice HO_9.out
               subst eo35
               go_wp2_with (first|((with_reducible refine gate_callee (f:=22) rfl ?_);refine goesL_ (some 60) rfl rfl Tryz.func22 (by kernel_rfl) rfl #[.slice none 0 0,.slice Ao35 x9_2.length co35] rfl (by (try simp only [List.map_toArray,List.map_cons,List.map_nil]);first|done|rfl|(simp only [List.length_drop,List.length_take];rfl)) ?_;(refine (tree_Apply.calls _ _ ([]:List (S40)) _ _ x9_2 t787 t788 _ (hG.ext (by repeat (first|(with_reducible first|exact HB.out|apply below_alloc|apply pw_below_drewN|apply below_drew1)|exact HB.out))) ?side1 ?side2 ?side3 ?side4 A22.out).mono ?_);(case side1=>exact Kd.C_nil _ _);(case side2=>exact Nat.le_refl _);(case side3=>repeat (first|exact (Kd.R_reads' HO_9.out).2.2|(with_reducible refine Kd.C_alloc ?_ _)|(with_reducible refine Kd.C_drewN ?_ _)|(with_reducible refine Kd.C_drew ?_)));(case side4=>exact (Kd.R_reads' HO_9.out).2.1);rintro e w36 ⟨v789,rfl,ho0,hb⟩;refine ⟨_,rfl,?_⟩;have n0_:=Aside0.mk (Kd.R_elder' (by (with_reducible repeat (first|apply Kd.R_alloc|apply Kd.R_drewN|apply Kd.R_drew));exact HO_5.out) (Kd.R_base ho0) hb);have n1_:=Aside0.mk (Kd.R_elder' (by (with_reducible repeat (first|apply Kd.R_alloc|apply Kd.R_drewN|apply Kd.R_drew));exact HO_7.out) (Kd.R_base ho0) hb);have n2_:=Aside0.mk (Kd.R_below (by (with_reducible repeat (first|apply Kd.R_alloc|apply Kd.R_drewN|apply Kd.R_drew));exact HO_9.out) hb);have n3_:=Aside0.mk (Kd.R_lower (Kd.R_new' (Kd.R_new' ho0 (Kd.R_lt (by (with_reducible repeat (first|apply Kd.R_alloc|apply Kd.R_drewN|apply Kd.R_drew));exact HO_5.out))) (Kd.R_lt (by (with_reducible repeat (first|apply Kd.R_alloc|apply Kd.R_drewN|apply Kd.R_drew));exact HO_7.out))) (below_size (by repeat (first|(with_reducible first|exact HB.out|apply below_alloc|apply pw_below_drewN|apply below_drew1)|exact HB.out))));have n4_:=Aside0.mk (below_step (by repeat (first|(with_reducible first|exact HB.out|apply below_alloc|apply pw_below_drewN|apply below_drew1)|exact HB.out)) hb);clear HO_5;clear HO_7;clear HO_9;clear HB;have HO_5:=n0_;have HO_7:=n1_;have HO_9:=n2_;have HO790:=n3_;have HB:=n4_;clear n0_ n1_ n2_ n3_ n4_;(try clear hb);(try clear hb2);(try clear hk);(try clear hi);(try clear ho0))|((with_reducible refine gate_callee (f:=22) rfl ?_);refine goesL_ (some 66) rfl rfl Tryz.func22 (by kernel_rfl) rfl #[.slice A0 l0.length c0,.slice Ao35 x9_2.length co35] rfl (by (try simp only [List.map_toArray,List.map_cons,List.map_nil]);first|done|rfl|(simp only [List.length_drop,List.length_take];rfl)) ?_;(with_reducible refine (tree_Apply.calls _ _ l0 _ _ x9_2 t791 t792 _ (hG.ext (by repeat (first|(with_reducible first|exact HB.out|apply below_alloc|apply pw_below_drewN|apply below_drew1)|exact HB.out))) ?side1 ?side2 ?side3 ?side4 A23.out).mono ?_);(case side1=>repeat (first|exact (Kd.C_below HR0.out HB.out)|(with_reducible refine Kd.C_alloc ?_ _)|(with_reducible refine Kd.C_drewN ?_ _)|(with_reducible refine Kd.C_drew ?_)));(case side2=>exact HC0.out);(case side3=>repeat (first|exact (Kd.R_reads' HO_9.out).2.2|(with_reducible refine Kd.C_alloc ?_ _)|(with_reducible refine Kd.C_drewN ?_ _)|(with_reducible refine Kd.C_drew ?_)));(case side4=>exact (Kd.R_reads' HO_9.out).2.1);rintro e w37 ⟨v793,rfl,ho0,hb⟩;refine ⟨_,rfl,?_⟩;have n0_:=Aside0.mk (Kd.R_elder' (by (with_reducible repeat (first|apply Kd.R_alloc|apply Kd.R_drewN|apply Kd.R_drew));exact HO_5.out) (Kd.R_base ho0) hb);have n1_:=Aside0.mk (Kd.R_elder' (by (with_reducible repeat (first|apply Kd.R_alloc|apply Kd.R_drewN|apply Kd.R_drew));exact HO_7.out) (Kd.R_base ho0) hb);have n2_:=Aside0.mk (Kd.R_below (by (with_reducible repeat (first|apply Kd.R_alloc|apply Kd.R_drewN|apply Kd.R_drew));exact HO_9.out) hb);have n3_:=Aside0.mk (Kd.R_elder' (by (with_reducible repeat (first|apply Kd.R_alloc|apply Kd.R_drewN|apply Kd.R_drew));exact HO790.out) (Kd.R_base ho0) hb);have n4_:=Aside0.mk (Kd.R_lower (Kd.R_new' (Kd.R_new' (Kd.R_new' ho0 (Kd.R_lt (by (with_reducible repeat (first|apply Kd.R_alloc|apply Kd.R_drewN|apply Kd.R_drew));exact HO_5.out))) (Kd.R_lt (by (with_reducible repeat (first|apply Kd.R_alloc|apply Kd.R_drewN|apply Kd.R_drew));exact HO_7.out))) (Kd.R_lt (by (with_reducible repeat (first|apply Kd.R_alloc|apply Kd.R_drewN|apply Kd.R_drew));exact HO790.out))) (below_size (by repeat (first|(with_reducible first|exact HB.out|apply below_alloc|apply pw_below_drewN|apply below_drew1)|exact HB.out))));have n5_:=Aside0.mk (below_step (by repeat (first|(with_reducible first|exact HB.out|apply below_alloc|apply pw_below_drewN|apply below_drew1)|exact HB.out)) hb);clear HO_5;clear HO_7;clear HO_9;clear HO790;clear HB;have HO_5:=n0_;have HO_7:=n1_;have HO_9:=n2_;have HO790:=n3_;have HO794:=n4_;have HB:=n5_;clear n0_ n1_ n2_ n3_ n4_ n5_;(try clear hb);(try clear hb2);(try clear hk);(try clear hi);(try clear ho0);obtain ⟨Ao38,co38,eo38⟩:=Kd.R_slice HO_5.out;subst eo38)|(go_at_call 24;(with_reducible refine (pq11.calls k2 _ _ t771 _ _ l0 true _ ?side1 ?side2 ?side3 ?side4 A26.out).mono ?_);(case side1=>repeat (first|exact (Kd.R_reads' HO_5.out).2.2|(with_reducible refine Kd.C_alloc ?_ _)|(with_reducible refine Kd.C_drewN ?_ _)|(with_reducible refine Kd.C_drew ?_)));(case side2=>exact (Kd.R_reads' HO_5.out).2.1);(case side3=>repeat (first|exact (Kd.C_below HR0.out HB.out)|(with_reducible refine Kd.C_alloc ?_ _)|(with_reducible refine Kd.C_drewN ?_ _)|(with_reducible refine Kd.C_drew ?_)));(case side4=>exact HC0.out);rintro e w' ⟨rfl,⟨nd,rfl⟩⟩;obtain ⟨Ao39,co39,eo39⟩:=Kd.R_slice HO_7.out;subst eo39;obtain ⟨Ao40,co40,eo40⟩:=Kd.R_slice HO790.out;subst eo40)|(go_at_call 24;(with_reducible refine (pq11.calls k2 _ _ t787 _ _ l0 true _ ?side1 ?side2 ?side3 ?side4 A31.out).mono ?_);(case side1=>repeat (first|exact (Kd.R_reads' HO790.out).2.2|(with_reducible refine Kd.C_alloc ?_ _)|(with_reducible refine Kd.C_drewN ?_ _)|(with_reducible refine Kd.C_drew ?_)));(case side2=>exact (Kd.R_reads' HO790.out).2.1);(case side3=>repeat (first|exact (Kd.C_below HR0.out (by repeat (first|(with_reducible first|exact HB.out|apply below_alloc|apply pw_below_drewN|apply below_drew1)|exact HB.out)))|(with_reducible refine Kd.C_alloc ?_ _)|(with_reducible refine Kd.C_drewN ?_ _)|(with_reducible refine Kd.C_drew ?_)));(case side4=>exact HC0.out);rintro e w' ⟨rfl,⟨nd,rfl⟩⟩;obtain ⟨Ao41,co41,eo41⟩:=Kd.R_slice HO794.out;subst eo41)|(go_at_call 24;(with_reducible refine (pq11.calls k2 _ _ t791 _ _ l0 t797 _ ?side1 ?side2 ?side3 ?side4 A34.out).mono ?_);(case side1=>repeat (first|exact (Kd.R_reads' HO794.out).2.2|(with_reducible refine Kd.C_alloc ?_ _)|(with_reducible refine Kd.C_drewN ?_ _)|(with_reducible refine Kd.C_drew ?_)));(case side2=>exact (Kd.R_reads' HO794.out).2.1);(case side3=>repeat (first|exact (Kd.C_below HR0.out (by repeat (first|(with_reducible first|exact HB.out|apply below_alloc|apply pw_below_drewN|apply below_drew1)|exact HB.out)))|(with_reducible refine Kd.C_alloc ?_ _)|(with_reducible refine Kd.C_drewN ?_ _)|(with_reducible refine Kd.C_drew ?_)));(case side4=>exact HC0.out);rintro e w' ⟨rfl,⟨nd,rfl⟩⟩))
               go_ret
               exact ⟨by first|rfl|(simp [errW_none,errW_some] <;> rfl)|(simp [*,errW_none,errW_some] <;> rfl),by repeat (first|(with_reducible first|exact HB.out|apply below_alloc|apply pw_below_drewN|apply below_drew1)|exact HB.out)⟩
              ·rw [if_neg c33] at H
               have c33b0:(t792 == 0)=false:=beq_eq_false_iff_ne.mpr c33
               have c33b1:(t792 != 0)=true:=bne_iff_ne.mpr c33
               obtain rfl:=Option.some.inj H
               obtain ⟨Ao42,co42,eo42⟩:=Kd.R_slice HO_9.out
               subst eo42
               go_wp2_with (first|((with_reducible refine gate_callee (f:=22) rfl ?_);refine goesL_ (some 60) rfl rfl Tryz.func22 (by kernel_rfl) rfl #[.slice none 0 0,.slice Ao42 x9_2.length co42] rfl (by (try simp only [List.map_toArray,List.map_cons,List.map_nil]);first|done|rfl|(simp only [List.length_drop,List.length_take];rfl)) ?_;(refine (tree_Apply.calls _ _ ([]:List (S40)) _ _ x9_2 t787 t788 _ (hG.ext (by repeat (first|(with_reducible first|exact HB.out|apply below_alloc|apply pw_below_drewN|apply below_drew1)|exact HB.out))) ?side1 ?side2 ?side3 ?side4 A22.out).mono ?_);(case side1=>exact Kd.C_nil _ _);(case side2=>exact Nat.le_refl _);(case side3=>repeat (first|exact (Kd.R_reads' HO_9.out).2.2|(with_reducible refine Kd.C_alloc ?_ _)|(with_reducible refine Kd.C_drewN ?_ _)|(with_reducible refine Kd.C_drew ?_)));(case side4=>exact (Kd.R_reads' HO_9.out).2.1);rintro e w43 ⟨v789,rfl,ho0,hb⟩;refine ⟨_,rfl,?_⟩;have n0_:=Aside0.mk (Kd.R_elder' (by (with_reducible repeat (first|apply Kd.R_alloc|apply Kd.R_drewN|apply Kd.R_drew));exact HO_5.out) (Kd.R_base ho0) hb);have n1_:=Aside0.mk (Kd.R_elder' (by (with_reducible repeat (first|apply Kd.R_alloc|apply Kd.R_drewN|apply Kd.R_drew));exact HO_7.out) (Kd.R_base ho0) hb);have n2_:=Aside0.mk (Kd.R_below (by (with_reducible repeat (first|apply Kd.R_alloc|apply Kd.R_drewN|apply Kd.R_drew));exact HO_9.out) hb);have n3_:=Aside0.mk (Kd.R_lower (Kd.R_new' (Kd.R_new' ho0 (Kd.R_lt (by (with_reducible repeat (first|apply Kd.R_alloc|apply Kd.R_drewN|apply Kd.R_drew));exact HO_5.out))) (Kd.R_lt (by (with_reducible repeat (first|apply Kd.R_alloc|apply Kd.R_drewN|apply Kd.R_drew));exact HO_7.out))) (below_size (by repeat (first|(with_reducible first|exact HB.out|apply below_alloc|apply pw_below_drewN|apply below_drew1)|exact HB.out))));have n4_:=Aside0.mk (below_step (by repeat (first|(with_reducible first|exact HB.out|apply below_alloc|apply pw_below_drewN|apply below_drew1)|exact HB.out)) hb);clear HO_5;clear HO_7;clear HO_9;clear HB;have HO_5:=n0_;have HO_7:=n1_;have HO_9:=n2_;have HO790:=n3_;have HB:=n4_;clear n0_ n1_ n2_ n3_ n4_;(try clear hb);(try clear hb2);(try clear hk);(try clear hi);(try clear ho0))|((with_reducible refine gate_callee (f:=22) rfl ?_);refine goesL_ (some 66) rfl rfl Tryz.func22 (by kernel_rfl) rfl #[.slice A0 l0.length c0,.slice Ao42 x9_2.length co42] rfl (by (try simp only [List.map_toArray,List.map_cons,List.map_nil]);first|done|rfl|(simp only [List.length_drop,List.length_take];rfl)) ?_;(with_reducible refine (tree_Apply.calls _ _ l0 _ _ x9_2 t791 t792 _ (hG.ext (by repeat (first|(with_reducible first|exact HB.out|apply below_alloc|apply pw_below_drewN|apply below_drew1)|exact HB.out))) ?side1 ?side2 ?side3 ?side4 A23.out).mono ?_);(case side1=>repeat (first|exact (Kd.C_below HR0.out HB.out)|(with_reducible refine Kd.C_alloc ?_ _)|(with_reducible refine Kd.C_drewN ?_ _)|(with_reducible refine Kd.C_drew ?_)));(case side2=>exact HC0.out);(case side3=>repeat (first|exact (Kd.R_reads' HO_9.out).2.2|(with_reducible refine Kd.C_alloc ?_ _)|(with_reducible refine Kd.C_drewN ?_ _)|(with_reducible refine Kd.C_drew ?_)));(case side4=>exact (Kd.R_reads' HO_9.out).2.1);rintro e w44 ⟨v793,rfl,ho0,hb⟩;refine ⟨_,rfl,?_⟩;have n0_:=Aside0.mk (Kd.R_elder' (by (with_reducible repeat (first|apply Kd.R_alloc|apply Kd.R_drewN|apply Kd.R_drew));exact HO_5.out) (Kd.R_base ho0) hb);have n1_:=Aside0.mk (Kd.R_elder' (by (with_reducible repeat (first|apply Kd.R_alloc|apply Kd.R_drewN|apply Kd.R_drew));exact HO_7.out) (Kd.R_base ho0) hb);have n2_:=Aside0.mk (Kd.R_below (by (with_reducible repeat (first|apply Kd.R_alloc|apply Kd.R_drewN|apply Kd.R_drew));exact HO_9.out) hb);have n3_:=Aside0.mk (Kd.R_elder' (by (with_reducible repeat (first|apply Kd.R_alloc|apply Kd.R_drewN|apply Kd.R_drew));exact HO790.out) (Kd.R_base ho0) hb);have n4_:=Aside0.mk (Kd.R_lower (Kd.R_new' (Kd.R_new' (Kd.R_new' ho0 (Kd.R_lt (by (with_reducible repeat (first|apply Kd.R_alloc|apply Kd.R_drewN|apply Kd.R_drew));exact HO_5.out))) (Kd.R_lt (by (with_reducible repeat (first|apply Kd.R_alloc|apply Kd.R_drewN|apply Kd.R_drew));exact HO_7.out))) (Kd.R_lt (by (with_reducible repeat (first|apply Kd.R_alloc|apply Kd.R_drewN|apply Kd.R_drew));exact HO790.out))) (below_size (by repeat (first|(with_reducible first|exact HB.out|apply below_alloc|apply pw_below_drewN|apply below_drew1)|exact HB.out))));have n5_:=Aside0.mk (below_step (by repeat (first|(with_reducible first|exact HB.out|apply below_alloc|apply pw_below_drewN|apply below_drew1)|exact HB.out)) hb);clear HO_5;clear HO_7;clear HO_9;clear HO790;clear HB;have HO_5:=n0_;have HO_7:=n1_;have HO_9:=n2_;have HO790:=n3_;have HO794:=n4_;have HB:=n5_;clear n0_ n1_ n2_ n3_ n4_ n5_;(try clear hb);(try clear hb2);(try clear hk);(try clear hi);(try clear ho0);obtain ⟨Ao45,co45,eo45⟩:=Kd.R_slice HO_5.out;subst eo45)|(go_at_call 24;(with_reducible refine (pq11.calls k2 _ _ t771 _ _ l0 true _ ?side1 ?side2 ?side3 ?side4 A26.out).mono ?_);(case side1=>repeat (first|exact (Kd.R_reads' HO_5.out).2.2|(with_reducible refine Kd.C_alloc ?_ _)|(with_reducible refine Kd.C_drewN ?_ _)|(with_reducible refine Kd.C_drew ?_)));(case side2=>exact (Kd.R_reads' HO_5.out).2.1);(case side3=>repeat (first|exact (Kd.C_below HR0.out HB.out)|(with_reducible refine Kd.C_alloc ?_ _)|(with_reducible refine Kd.C_drewN ?_ _)|(with_reducible refine Kd.C_drew ?_)));(case side4=>exact HC0.out);rintro e w' ⟨rfl,⟨nd,rfl⟩⟩;obtain ⟨Ao46,co46,eo46⟩:=Kd.R_slice HO_7.out;subst eo46;obtain ⟨Ao47,co47,eo47⟩:=Kd.R_slice HO790.out;subst eo47)|(go_at_call 24;(with_reducible refine (pq11.calls k2 _ _ t787 _ _ l0 true _ ?side1 ?side2 ?side3 ?side4 A31.out).mono ?_);(case side1=>repeat (first|exact (Kd.R_reads' HO790.out).2.2|(with_reducible refine Kd.C_alloc ?_ _)|(with_reducible refine Kd.C_drewN ?_ _)|(with_reducible refine Kd.C_drew ?_)));(case side2=>exact (Kd.R_reads' HO790.out).2.1);(case side3=>repeat (first|exact (Kd.C_below HR0.out (by repeat (first|(with_reducible first|exact HB.out|apply below_alloc|apply pw_below_drewN|apply below_drew1)|exact HB.out)))|(with_reducible refine Kd.C_alloc ?_ _)|(with_reducible refine Kd.C_drewN ?_ _)|(with_reducible refine Kd.C_drew ?_)));(case side4=>exact HC0.out);rintro e w' ⟨rfl,⟨nd,rfl⟩⟩))
               go_ret
               exact ⟨by first|rfl|(simp [errW_none,errW_some] <;> rfl)|(simp [*,errW_none,errW_some] <;> rfl),by repeat (first|(with_reducible first|exact HB.out|apply below_alloc|apply pw_below_drewN|apply below_drew1)|exact HB.out)⟩
             ·replace c32:=Bool.eq_false_iff.mpr c32
              subst c32
              have H1:(some false)=some r:=by rw [if_neg (show ¬ (false=true) by decide)] at H;exact H
              clear H
              have H:=H1
              clear H1
              obtain rfl:=Option.some.inj H
              obtain ⟨Ao48,co48,eo48⟩:=Kd.R_slice HO_9.out
              subst eo48
              go_wp2_with (first|((with_reducible refine gate_callee (f:=22) rfl ?_);refine goesL_ (some 60) rfl rfl Tryz.func22 (by kernel_rfl) rfl #[.slice none 0 0,.slice Ao48 x9_2.length co48] rfl (by (try simp only [List.map_toArray,List.map_cons,List.map_nil]);first|done|rfl|(simp only [List.length_drop,List.length_take];rfl)) ?_;(refine (tree_Apply.calls _ _ ([]:List (S40)) _ _ x9_2 t787 t788 _ (hG.ext (by repeat (first|(with_reducible first|exact HB.out|apply below_alloc|apply pw_below_drewN|apply below_drew1)|exact HB.out))) ?side1 ?side2 ?side3 ?side4 A22.out).mono ?_);(case side1=>exact Kd.C_nil _ _);(case side2=>exact Nat.le_refl _);(case side3=>repeat (first|exact (Kd.R_reads' HO_9.out).2.2|(with_reducible refine Kd.C_alloc ?_ _)|(with_reducible refine Kd.C_drewN ?_ _)|(with_reducible refine Kd.C_drew ?_)));(case side4=>exact (Kd.R_reads' HO_9.out).2.1);rintro e w49 ⟨v789,rfl,ho0,hb⟩;refine ⟨_,rfl,?_⟩;have n0_:=Aside0.mk (Kd.R_elder' (by (with_reducible repeat (first|apply Kd.R_alloc|apply Kd.R_drewN|apply Kd.R_drew));exact HO_5.out) (Kd.R_base ho0) hb);have n1_:=Aside0.mk (Kd.R_elder' (by (with_reducible repeat (first|apply Kd.R_alloc|apply Kd.R_drewN|apply Kd.R_drew));exact HO_7.out) (Kd.R_base ho0) hb);have n2_:=Aside0.mk (Kd.R_below (by (with_reducible repeat (first|apply Kd.R_alloc|apply Kd.R_drewN|apply Kd.R_drew));exact HO_9.out) hb);have n3_:=Aside0.mk (Kd.R_lower (Kd.R_new' (Kd.R_new' ho0 (Kd.R_lt (by (with_reducible repeat (first|apply Kd.R_alloc|apply Kd.R_drewN|apply Kd.R_drew));exact HO_5.out))) (Kd.R_lt (by (with_reducible repeat (first|apply Kd.R_alloc|apply Kd.R_drewN|apply Kd.R_drew));exact HO_7.out))) (below_size (by repeat (first|(with_reducible first|exact HB.out|apply below_alloc|apply pw_below_drewN|apply below_drew1)|exact HB.out))));have n4_:=Aside0.mk (below_step (by repeat (first|(with_reducible first|exact HB.out|apply below_alloc|apply pw_below_drewN|apply below_drew1)|exact HB.out)) hb);clear HO_5;clear HO_7;clear HO_9;clear HB;have HO_5:=n0_;have HO_7:=n1_;have HO_9:=n2_;have HO790:=n3_;have HB:=n4_;clear n0_ n1_ n2_ n3_ n4_;(try clear hb);(try clear hb2);(try clear hk);(try clear hi);(try clear ho0))|((with_reducible refine gate_callee (f:=22) rfl ?_);refine goesL_ (some 66) rfl rfl Tryz.func22 (by kernel_rfl) rfl #[.slice A0 l0.length c0,.slice Ao48 x9_2.length co48] rfl (by (try simp only [List.map_toArray,List.map_cons,List.map_nil]);first|done|rfl|(simp only [List.length_drop,List.length_take];rfl)) ?_;(with_reducible refine (tree_Apply.calls _ _ l0 _ _ x9_2 t791 t792 _ (hG.ext (by repeat (first|(with_reducible first|exact HB.out|apply below_alloc|apply pw_below_drewN|apply below_drew1)|exact HB.out))) ?side1 ?side2 ?side3 ?side4 A23.out).mono ?_);(case side1=>repeat (first|exact (Kd.C_below HR0.out HB.out)|(with_reducible refine Kd.C_alloc ?_ _)|(with_reducible refine Kd.C_drewN ?_ _)|(with_reducible refine Kd.C_drew ?_)));(case side2=>exact HC0.out);(case side3=>repeat (first|exact (Kd.R_reads' HO_9.out).2.2|(with_reducible refine Kd.C_alloc ?_ _)|(with_reducible refine Kd.C_drewN ?_ _)|(with_reducible refine Kd.C_drew ?_)));(case side4=>exact (Kd.R_reads' HO_9.out).2.1);rintro e w50 ⟨v793,rfl,ho0,hb⟩;refine ⟨_,rfl,?_⟩;have n0_:=Aside0.mk (Kd.R_elder' (by (with_reducible repeat (first|apply Kd.R_alloc|apply Kd.R_drewN|apply Kd.R_drew));exact HO_5.out) (Kd.R_base ho0) hb);have n1_:=Aside0.mk (Kd.R_elder' (by (with_reducible repeat (first|apply Kd.R_alloc|apply Kd.R_drewN|apply Kd.R_drew));exact HO_7.out) (Kd.R_base ho0) hb);have n2_:=Aside0.mk (Kd.R_below (by (with_reducible repeat (first|apply Kd.R_alloc|apply Kd.R_drewN|apply Kd.R_drew));exact HO_9.out) hb);have n3_:=Aside0.mk (Kd.R_elder' (by (with_reducible repeat (first|apply Kd.R_alloc|apply Kd.R_drewN|apply Kd.R_drew));exact HO790.out) (Kd.R_base ho0) hb);have n4_:=Aside0.mk (Kd.R_lower (Kd.R_new' (Kd.R_new' (Kd.R_new' ho0 (Kd.R_lt (by (with_reducible repeat (first|apply Kd.R_alloc|apply Kd.R_drewN|apply Kd.R_drew));exact HO_5.out))) (Kd.R_lt (by (with_reducible repeat (first|apply Kd.R_alloc|apply Kd.R_drewN|apply Kd.R_drew));exact HO_7.out))) (Kd.R_lt (by (with_reducible repeat (first|apply Kd.R_alloc|apply Kd.R_drewN|apply Kd.R_drew));exact HO790.out))) (below_size (by repeat (first|(with_reducible first|exact HB.out|apply below_alloc|apply pw_below_drewN|apply below_drew1)|exact HB.out))));have n5_:=Aside0.mk (below_step (by repeat (first|(with_reducible first|exact HB.out|apply below_alloc|apply pw_below_drewN|apply below_drew1)|exact HB.out)) hb);clear HO_5;clear HO_7;clear HO_9;clear HO790;clear HB;have HO_5:=n0_;have HO_7:=n1_;have HO_9:=n2_;have HO790:=n3_;have HO794:=n4_;have HB:=n5_;clear n0_ n1_ n2_ n3_ n4_ n5_;(try clear hb);(try clear hb2);(try clear hk);(try clear hi);(try clear ho0);obtain ⟨Ao51,co51,eo51⟩:=Kd.R_slice HO_5.out;subst eo51)|(go_at_call 24;(with_reducible refine (pq11.calls k2 _ _ t771 _ _ l0 true _ ?side1 ?side2 ?side3 ?side4 A26.out).mono ?_);(case side1=>repeat (first|exact (Kd.R_reads' HO_5.out).2.2|(with_reducible refine Kd.C_alloc ?_ _)|(with_reducible refine Kd.C_drewN ?_ _)|(with_reducible refine Kd.C_drew ?_)));(case side2=>exact (Kd.R_reads' HO_5.out).2.1);(case side3=>repeat (first|exact (Kd.C_below HR0.out HB.out)|(with_reducible refine Kd.C_alloc ?_ _)|(with_reducible refine Kd.C_drewN ?_ _)|(with_reducible refine Kd.C_drew ?_)));(case side4=>exact HC0.out);rintro e w' ⟨rfl,⟨nd,rfl⟩⟩;obtain ⟨Ao52,co52,eo52⟩:=Kd.R_slice HO_7.out;subst eo52;obtain ⟨Ao53,co53,eo53⟩:=Kd.R_slice HO790.out;subst eo53)|(go_at_call 24;(with_reducible refine (pq11.calls k2 _ _ t787 _ _ l0 false _ ?side1 ?side2 ?side3 ?side4 A31.out).mono ?_);(case side1=>repeat (first|exact (Kd.R_reads' HO790.out).2.2|(with_reducible refine Kd.C_alloc ?_ _)|(with_reducible refine Kd.C_drewN ?_ _)|(with_reducible refine Kd.C_drew ?_)));(case side2=>exact (Kd.R_reads' HO790.out).2.1);(case side3=>repeat (first|exact (Kd.C_below HR0.out (by repeat (first|(with_reducible first|exact HB.out|apply below_alloc|apply pw_below_drewN|apply below_drew1)|exact HB.out)))|(with_reducible refine Kd.C_alloc ?_ _)|(with_reducible refine Kd.C_drewN ?_ _)|(with_reducible refine Kd.C_drew ?_)));(case side4=>exact HC0.out);rintro e w' ⟨rfl,⟨nd,rfl⟩⟩))
              go_ret
              exact ⟨by first|rfl|(simp [errW_none,errW_some] <;> rfl)|(simp [*,errW_none,errW_some] <;> rfl),by repeat (first|(with_reducible first|exact HB.out|apply below_alloc|apply pw_below_drewN|apply below_drew1)|exact HB.out)⟩
            ·rw [if_neg c30] at H
             have c30b0:(t788 == 0)=false:=beq_eq_false_iff_ne.mpr c30
             have c30b1:(t788 != 0)=true:=bne_iff_ne.mpr c30
             obtain rfl:=Option.some.inj H
             obtain ⟨Ao54,co54,eo54⟩:=Kd.R_slice HO_9.out
             subst eo54
             go_wp2_with (first|((with_reducible refine gate_callee (f:=22) rfl ?_);refine goesL_ (some 60) rfl rfl Tryz.func22 (by kernel_rfl) rfl #[.slice none 0 0,.slice Ao54 x9_2.length co54] rfl (by (try simp only [List.map_toArray,List.map_cons,List.map_nil]);first|done|rfl|(simp only [List.length_drop,List.length_take];rfl)) ?_;(refine (tree_Apply.calls _ _ ([]:List (S40)) _ _ x9_2 t787 t788 _ (hG.ext (by repeat (first|(with_reducible first|exact HB.out|apply below_alloc|apply pw_below_drewN|apply below_drew1)|exact HB.out))) ?side1 ?side2 ?side3 ?side4 A22.out).mono ?_);(case side1=>exact Kd.C_nil _ _);(case side2=>exact Nat.le_refl _);(case side3=>repeat (first|exact (Kd.R_reads' HO_9.out).2.2|(with_reducible refine Kd.C_alloc ?_ _)|(with_reducible refine Kd.C_drewN ?_ _)|(with_reducible refine Kd.C_drew ?_)));(case side4=>exact (Kd.R_reads' HO_9.out).2.1);rintro e w55 ⟨v789,rfl,ho0,hb⟩;refine ⟨_,rfl,?_⟩;have n0_:=Aside0.mk (Kd.R_elder' (by (with_reducible repeat (first|apply Kd.R_alloc|apply Kd.R_drewN|apply Kd.R_drew));exact HO_5.out) (Kd.R_base ho0) hb);have n1_:=Aside0.mk (Kd.R_elder' (by (with_reducible repeat (first|apply Kd.R_alloc|apply Kd.R_drewN|apply Kd.R_drew));exact HO_7.out) (Kd.R_base ho0) hb);have n2_:=Aside0.mk (Kd.R_below (by (with_reducible repeat (first|apply Kd.R_alloc|apply Kd.R_drewN|apply Kd.R_drew));exact HO_9.out) hb);have n3_:=Aside0.mk (Kd.R_lower (Kd.R_new' (Kd.R_new' ho0 (Kd.R_lt (by (with_reducible repeat (first|apply Kd.R_alloc|apply Kd.R_drewN|apply Kd.R_drew));exact HO_5.out))) (Kd.R_lt (by (with_reducible repeat (first|apply Kd.R_alloc|apply Kd.R_drewN|apply Kd.R_drew));exact HO_7.out))) (below_size (by repeat (first|(with_reducible first|exact HB.out|apply below_alloc|apply pw_below_drewN|apply below_drew1)|exact HB.out))));have n4_:=Aside0.mk (below_step (by repeat (first|(with_reducible first|exact HB.out|apply below_alloc|apply pw_below_drewN|apply below_drew1)|exact HB.out)) hb);clear HO_5;clear HO_7;clear HO_9;clear HB;have HO_5:=n0_;have HO_7:=n1_;have HO_9:=n2_;have HO790:=n3_;have HB:=n4_;clear n0_ n1_ n2_ n3_ n4_;(try clear hb);(try clear hb2);(try clear hk);(try clear hi);(try clear ho0))|((with_reducible refine gate_callee (f:=22) rfl ?_);refine goesL_ (some 66) rfl rfl Tryz.func22 (by kernel_rfl) rfl #[.slice A0 l0.length c0,.slice Ao54 x9_2.length co54] rfl (by (try simp only [List.map_toArray,List.map_cons,List.map_nil]);first|done|rfl|(simp only [List.length_drop,List.length_take];rfl)) ?_;(with_reducible refine (tree_Apply.calls _ _ l0 _ _ x9_2 t791 t792 _ (hG.ext (by repeat (first|(with_reducible first|exact HB.out|apply below_alloc|apply pw_below_drewN|apply below_drew1)|exact HB.out))) ?side1 ?side2 ?side3 ?side4 A23.out).mono ?_);(case side1=>repeat (first|exact (Kd.C_below HR0.out HB.out)|(with_reducible refine Kd.C_alloc ?_ _)|(with_reducible refine Kd.C_drewN ?_ _)|(with_reducible refine Kd.C_drew ?_)));(case side2=>exact HC0.out);(case side3=>repeat (first|exact (Kd.R_reads' HO_9.out).2.2|(with_reducible refine Kd.C_alloc ?_ _)|(with_reducible refine Kd.C_drewN ?_ _)|(with_reducible refine Kd.C_drew ?_)));(case side4=>exact (Kd.R_reads' HO_9.out).2.1);rintro e w56 ⟨v793,rfl,ho0,hb⟩;refine ⟨_,rfl,?_⟩;have n0_:=Aside0.mk (Kd.R_elder' (by (with_reducible repeat (first|apply Kd.R_alloc|apply Kd.R_drewN|apply Kd.R_drew));exact HO_5.out) (Kd.R_base ho0) hb);have n1_:=Aside0.mk (Kd.R_elder' (by (with_reducible repeat (first|apply Kd.R_alloc|apply Kd.R_drewN|apply Kd.R_drew));exact HO_7.out) (Kd.R_base ho0) hb);have n2_:=Aside0.mk (Kd.R_below (by (with_reducible repeat (first|apply Kd.R_alloc|apply Kd.R_drewN|apply Kd.R_drew));exact HO_9.out) hb);have n3_:=Aside0.mk (Kd.R_elder' (by (with_reducible repeat (first|apply Kd.R_alloc|apply Kd.R_drewN|apply Kd.R_drew));exact HO790.out) (Kd.R_base ho0) hb);have n4_:=Aside0.mk (Kd.R_lower (Kd.R_new' (Kd.R_new' (Kd.R_new' ho0 (Kd.R_lt (by (with_reducible repeat (first|apply Kd.R_alloc|apply Kd.R_drewN|apply Kd.R_drew));exact HO_5.out))) (Kd.R_lt (by (with_reducible repeat (first|apply Kd.R_alloc|apply Kd.R_drewN|apply Kd.R_drew));exact HO_7.out))) (Kd.R_lt (by (with_reducible repeat (first|apply Kd.R_alloc|apply Kd.R_drewN|apply Kd.R_drew));exact HO790.out))) (below_size (by repeat (first|(with_reducible first|exact HB.out|apply below_alloc|apply pw_below_drewN|apply below_drew1)|exact HB.out))));have n5_:=Aside0.mk (below_step (by repeat (first|(with_reducible first|exact HB.out|apply below_alloc|apply pw_below_drewN|apply below_drew1)|exact HB.out)) hb);clear HO_5;clear HO_7;clear HO_9;clear HO790;clear HB;have HO_5:=n0_;have HO_7:=n1_;have HO_9:=n2_;have HO790:=n3_;have HO794:=n4_;have HB:=n5_;clear n0_ n1_ n2_ n3_ n4_ n5_;(try clear hb);(try clear hb2);(try clear hk);(try clear hi);(try clear ho0);obtain ⟨Ao57,co57,eo57⟩:=Kd.R_slice HO_5.out;subst eo57)|(go_at_call 24;(with_reducible refine (pq11.calls k2 _ _ t771 _ _ l0 true _ ?side1 ?side2 ?side3 ?side4 A26.out).mono ?_);(case side1=>repeat (first|exact (Kd.R_reads' HO_5.out).2.2|(with_reducible refine Kd.C_alloc ?_ _)|(with_reducible refine Kd.C_drewN ?_ _)|(with_reducible refine Kd.C_drew ?_)));(case side2=>exact (Kd.R_reads' HO_5.out).2.1);(case side3=>repeat (first|exact (Kd.C_below HR0.out HB.out)|(with_reducible refine Kd.C_alloc ?_ _)|(with_reducible refine Kd.C_drewN ?_ _)|(with_reducible refine Kd.C_drew ?_)));(case side4=>exact HC0.out);rintro e w' ⟨rfl,⟨nd,rfl⟩⟩;obtain ⟨Ao58,co58,eo58⟩:=Kd.R_slice HO_7.out;subst eo58))
             go_ret
             exact ⟨by first|rfl|(simp [errW_none,errW_some] <;> rfl)|(simp [*,errW_none,errW_some] <;> rfl),by repeat (first|(with_reducible first|exact HB.out|apply below_alloc|apply pw_below_drewN|apply below_drew1)|exact HB.out)⟩
           ·rw [if_neg c29] at H
            have c29b0:((t778.length:Int) == 0)=false:=beq_eq_false_iff_ne.mpr c29
            have c29b1:((t778.length:Int) != 0)=true:=bne_iff_ne.mpr c29
            have c29b2:¬ (t778=[]):=fun h_=>c29 (by rw [h_];rfl)
            obtain rfl:=Option.some.inj H
            obtain ⟨Ao59,co59,eo59⟩:=Kd.R_slice HO_9.out
            subst eo59
            go_wp2_with (first|((with_reducible refine gate_callee (f:=22) rfl ?_);refine goesL_ (some 60) rfl rfl Tryz.func22 (by kernel_rfl) rfl #[.slice none 0 0,.slice Ao59 x9_2.length co59] rfl (by (try simp only [List.map_toArray,List.map_cons,List.map_nil]);first|done|rfl|(simp only [List.length_drop,List.length_take];rfl)) ?_;(refine (tree_Apply.calls _ _ ([]:List (S40)) _ _ x9_2 t787 t788 _ (hG.ext (by repeat (first|(with_reducible first|exact HB.out|apply below_alloc|apply pw_below_drewN|apply below_drew1)|exact HB.out))) ?side1 ?side2 ?side3 ?side4 A22.out).mono ?_);(case side1=>exact Kd.C_nil _ _);(case side2=>exact Nat.le_refl _);(case side3=>repeat (first|exact (Kd.R_reads' HO_9.out).2.2|(with_reducible refine Kd.C_alloc ?_ _)|(with_reducible refine Kd.C_drewN ?_ _)|(with_reducible refine Kd.C_drew ?_)));(case side4=>exact (Kd.R_reads' HO_9.out).2.1);rintro e w60 ⟨v789,rfl,ho0,hb⟩;refine ⟨_,rfl,?_⟩;have n0_:=Aside0.mk (Kd.R_elder' (by (with_reducible repeat (first|apply Kd.R_alloc|apply Kd.R_drewN|apply Kd.R_drew));exact HO_5.out) (Kd.R_base ho0) hb);have n1_:=Aside0.mk (Kd.R_elder' (by (with_reducible repeat (first|apply Kd.R_alloc|apply Kd.R_drewN|apply Kd.R_drew));exact HO_7.out) (Kd.R_base ho0) hb);have n2_:=Aside0.mk (Kd.R_below (by (with_reducible repeat (first|apply Kd.R_alloc|apply Kd.R_drewN|apply Kd.R_drew));exact HO_9.out) hb);have n3_:=Aside0.mk (Kd.R_lower (Kd.R_new' (Kd.R_new' ho0 (Kd.R_lt (by (with_reducible repeat (first|apply Kd.R_alloc|apply Kd.R_drewN|apply Kd.R_drew));exact HO_5.out))) (Kd.R_lt (by (with_reducible repeat (first|apply Kd.R_alloc|apply Kd.R_drewN|apply Kd.R_drew));exact HO_7.out))) (below_size (by repeat (first|(with_reducible first|exact HB.out|apply below_alloc|apply pw_below_drewN|apply below_drew1)|exact HB.out))));have n4_:=Aside0.mk (below_step (by repeat (first|(with_reducible first|exact HB.out|apply below_alloc|apply pw_below_drewN|apply below_drew1)|exact HB.out)) hb);clear HO_5;clear HO_7;clear HO_9;clear HB;have HO_5:=n0_;have HO_7:=n1_;have HO_9:=n2_;have HO790:=n3_;have HB:=n4_;clear n0_ n1_ n2_ n3_ n4_;(try clear hb);(try clear hb2);(try clear hk);(try clear hi);(try clear ho0))|((with_reducible refine gate_callee (f:=22) rfl ?_);refine goesL_ (some 66) rfl rfl Tryz.func22 (by kernel_rfl) rfl #[.slice A0 l0.length c0,.slice Ao59 x9_2.length co59] rfl (by (try simp only [List.map_toArray,List.map_cons,List.map_nil]);first|done|rfl|(simp only [List.length_drop,List.length_take];rfl)) ?_;(with_reducible refine (tree_Apply.calls _ _ l0 _ _ x9_2 t791 t792 _ (hG.ext (by repeat (first|(with_reducible first|exact HB.out|apply below_alloc|apply pw_below_drewN|apply below_drew1)|exact HB.out))) ?side1 ?side2 ?side3 ?side4 A23.out).mono ?_);(case side1=>repeat (first|exact (Kd.C_below HR0.out HB.out)|(with_reducible refine Kd.C_alloc ?_ _)|(with_reducible refine Kd.C_drewN ?_ _)|(with_reducible refine Kd.C_drew ?_)));(case side2=>exact HC0.out);(case side3=>repeat (first|exact (Kd.R_reads' HO_9.out).2.2|(with_reducible refine Kd.C_alloc ?_ _)|(with_reducible refine Kd.C_drewN ?_ _)|(with_reducible refine Kd.C_drew ?_)));(case side4=>exact (Kd.R_reads' HO_9.out).2.1);rintro e w61 ⟨v793,rfl,ho0,hb⟩;refine ⟨_,rfl,?_⟩;have n0_:=Aside0.mk (Kd.R_elder' (by (with_reducible repeat (first|apply Kd.R_alloc|apply Kd.R_drewN|apply Kd.R_drew));exact HO_5.out) (Kd.R_base ho0) hb);have n1_:=Aside0.mk (Kd.R_elder' (by (with_reducible repeat (first|apply Kd.R_alloc|apply Kd.R_drewN|apply Kd.R_drew));exact HO_7.out) (Kd.R_base ho0) hb);have n2_:=Aside0.mk (Kd.R_below (by (with_reducible repeat (first|apply Kd.R_alloc|apply Kd.R_drewN|apply Kd.R_drew));exact HO_9.out) hb);have n3_:=Aside0.mk (Kd.R_elder' (by (with_reducible repeat (first|apply Kd.R_alloc|apply Kd.R_drewN|apply Kd.R_drew));exact HO790.out) (Kd.R_base ho0) hb);have n4_:=Aside0.mk (Kd.R_lower (Kd.R_new' (Kd.R_new' (Kd.R_new' ho0 (Kd.R_lt (by (with_reducible repeat (first|apply Kd.R_alloc|apply Kd.R_drewN|apply Kd.R_drew));exact HO_5.out))) (Kd.R_lt (by (with_reducible repeat (first|apply Kd.R_alloc|apply Kd.R_drewN|apply Kd.R_drew));exact HO_7.out))) (Kd.R_lt (by (with_reducible repeat (first|apply Kd.R_alloc|apply Kd.R_drewN|apply Kd.R_drew));exact HO790.out))) (below_size (by repeat (first|(with_reducible first|exact HB.out|apply below_alloc|apply pw_below_drewN|apply below_drew1)|exact HB.out))));have n5_:=Aside0.mk (below_step (by repeat (first|(with_reducible first|exact HB.out|apply below_alloc|apply pw_below_drewN|apply below_drew1)|exact HB.out)) hb);clear HO_5;clear HO_7;clear HO_9;clear HO790;clear HB;have HO_5:=n0_;have HO_7:=n1_;have HO_9:=n2_;have HO790:=n3_;have HO794:=n4_;have HB:=n5_;clear n0_ n1_ n2_ n3_ n4_ n5_;(try clear hb);(try clear hb2);(try clear hk);(try clear hi);(try clear ho0);obtain ⟨Ao62,co62,eo62⟩:=Kd.R_slice HO_5.out;subst eo62)|(go_at_call 24;(with_reducible refine (pq11.calls k2 _ _ t771 _ _ l0 true _ ?side1 ?side2 ?side3 ?side4 A26.out).mono ?_);(case side1=>repeat (first|exact (Kd.R_reads' HO_5.out).2.2|(with_reducible refine Kd.C_alloc ?_ _)|(with_reducible refine Kd.C_drewN ?_ _)|(with_reducible refine Kd.C_drew ?_)));(case side2=>exact (Kd.R_reads' HO_5.out).2.1);(case side3=>repeat (first|exact (Kd.C_below HR0.out HB.out)|(with_reducible refine Kd.C_alloc ?_ _)|(with_reducible refine Kd.C_drewN ?_ _)|(with_reducible refine Kd.C_drew ?_)));(case side4=>exact HC0.out);rintro e w' ⟨rfl,⟨nd,rfl⟩⟩;obtain ⟨Ao63,co63,eo63⟩:=Kd.R_slice HO_7.out;subst eo63))
            go_ret
            exact ⟨by first|rfl|(simp [errW_none,errW_some] <;> rfl)|(simp [*,errW_none,errW_some] <;> rfl),by repeat (first|(with_reducible first|exact HB.out|apply below_alloc|apply pw_below_drewN|apply below_drew1)|exact HB.out)⟩
          ·rw [if_neg c28] at H
           have c28b0:(t779 == 0)=false:=beq_eq_false_iff_ne.mpr c28
           have c28b1:(t779 != 0)=true:=bne_iff_ne.mpr c28
           obtain rfl:=Option.some.inj H
           obtain ⟨Ao64,co64,eo64⟩:=Kd.R_slice HO_9.out
           subst eo64
           go_wp2_with (first|((with_reducible refine gate_callee (f:=22) rfl ?_);refine goesL_ (some 60) rfl rfl Tryz.func22 (by kernel_rfl) rfl #[.slice none 0 0,.slice Ao64 x9_2.length co64] rfl (by (try simp only [List.map_toArray,List.map_cons,List.map_nil]);first|done|rfl|(simp only [List.length_drop,List.length_take];rfl)) ?_;(refine (tree_Apply.calls _ _ ([]:List (S40)) _ _ x9_2 t787 t788 _ (hG.ext (by repeat (first|(with_reducible first|exact HB.out|apply below_alloc|apply pw_below_drewN|apply below_drew1)|exact HB.out))) ?side1 ?side2 ?side3 ?side4 A22.out).mono ?_);(case side1=>exact Kd.C_nil _ _);(case side2=>exact Nat.le_refl _);(case side3=>repeat (first|exact (Kd.R_reads' HO_9.out).2.2|(with_reducible refine Kd.C_alloc ?_ _)|(with_reducible refine Kd.C_drewN ?_ _)|(with_reducible refine Kd.C_drew ?_)));(case side4=>exact (Kd.R_reads' HO_9.out).2.1);rintro e w65 ⟨v789,rfl,ho0,hb⟩;refine ⟨_,rfl,?_⟩;have n0_:=Aside0.mk (Kd.R_elder' (by (with_reducible repeat (first|apply Kd.R_alloc|apply Kd.R_drewN|apply Kd.R_drew));exact HO_5.out) (Kd.R_base ho0) hb);have n1_:=Aside0.mk (Kd.R_elder' (by (with_reducible repeat (first|apply Kd.R_alloc|apply Kd.R_drewN|apply Kd.R_drew));exact HO_7.out) (Kd.R_base ho0) hb);have n2_:=Aside0.mk (Kd.R_below (by (with_reducible repeat (first|apply Kd.R_alloc|apply Kd.R_drewN|apply Kd.R_drew));exact HO_9.out) hb);have n3_:=Aside0.mk (Kd.R_lower (Kd.R_new' (Kd.R_new' ho0 (Kd.R_lt (by (with_reducible repeat (first|apply Kd.R_alloc|apply Kd.R_drewN|apply Kd.R_drew));exact HO_5.out))) (Kd.R_lt (by (with_reducible repeat (first|apply Kd.R_alloc|apply Kd.R_drewN|apply Kd.R_drew));exact HO_7.out))) (below_size (by repeat (first|(with_reducible first|exact HB.out|apply below_alloc|apply pw_below_drewN|apply below_drew1)|exact HB.out))));have n4_:=Aside0.mk (below_step (by repeat (first|(with_reducible first|exact HB.out|apply below_alloc|apply pw_below_drewN|apply below_drew1)|exact HB.out)) hb);clear HO_5;clear HO_7;clear HO_9;clear HB;have HO_5:=n0_;have HO_7:=n1_;have HO_9:=n2_;have HO790:=n3_;have HB:=n4_;clear n0_ n1_ n2_ n3_ n4_;(try clear hb);(try clear hb2);(try clear hk);(try clear hi);(try clear ho0))|((with_reducible refine gate_callee (f:=22) rfl ?_);refine goesL_ (some 66) rfl rfl Tryz.func22 (by kernel_rfl) rfl #[.slice A0 l0.length c0,.slice Ao64 x9_2.length co64] rfl (by (try simp only [List.map_toArray,List.map_cons,List.map_nil]);first|done|rfl|(simp only [List.length_drop,List.length_take];rfl)) ?_;(with_reducible refine (tree_Apply.calls _ _ l0 _ _ x9_2 t791 t792 _ (hG.ext (by repeat (first|(with_reducible first|exact HB.out|apply below_alloc|apply pw_below_drewN|apply below_drew1)|exact HB.out))) ?side1 ?side2 ?side3 ?side4 A23.out).mono ?_);(case side1=>repeat (first|exact (Kd.C_below HR0.out HB.out)|(with_reducible refine Kd.C_alloc ?_ _)|(with_reducible refine Kd.C_drewN ?_ _)|(with_reducible refine Kd.C_drew ?_)));(case side2=>exact HC0.out);(case side3=>repeat (first|exact (Kd.R_reads' HO_9.out).2.2|(with_reducible refine Kd.C_alloc ?_ _)|(with_reducible refine Kd.C_drewN ?_ _)|(with_reducible refine Kd.C_drew ?_)));(case side4=>exact (Kd.R_reads' HO_9.out).2.1);rintro e w66 ⟨v793,rfl,ho0,hb⟩;refine ⟨_,rfl,?_⟩;have n0_:=Aside0.mk (Kd.R_elder' (by (with_reducible repeat (first|apply Kd.R_alloc|apply Kd.R_drewN|apply Kd.R_drew));exact HO_5.out) (Kd.R_base ho0) hb);have n1_:=Aside0.mk (Kd.R_elder' (by (with_reducible repeat (first|apply Kd.R_alloc|apply Kd.R_drewN|apply Kd.R_drew));exact HO_7.out) (Kd.R_base ho0) hb);have n2_:=Aside0.mk (Kd.R_below (by (with_reducible repeat (first|apply Kd.R_alloc|apply Kd.R_drewN|apply Kd.R_drew));exact HO_9.out) hb);have n3_:=Aside0.mk (Kd.R_elder' (by (with_reducible repeat (first|apply Kd.R_alloc|apply Kd.R_drewN|apply Kd.R_drew));exact HO790.out) (Kd.R_base ho0) hb);have n4_:=Aside0.mk (Kd.R_lower (Kd.R_new' (Kd.R_new' (Kd.R_new' ho0 (Kd.R_lt (by (with_reducible repeat (first|apply Kd.R_alloc|apply Kd.R_drewN|apply Kd.R_drew));exact HO_5.out))) (Kd.R_lt (by (with_reducible repeat (first|apply Kd.R_alloc|apply Kd.R_drewN|apply Kd.R_drew));exact HO_7.out))) (Kd.R_lt (by (with_reducible repeat (first|apply Kd.R_alloc|apply Kd.R_drewN|apply Kd.R_drew));exact HO790.out))) (below_size (by repeat (first|(with_reducible first|exact HB.out|apply below_alloc|apply pw_below_drewN|apply below_drew1)|exact HB.out))));have n5_:=Aside0.mk (below_step (by repeat (first|(with_reducible first|exact HB.out|apply below_alloc|apply pw_below_drewN|apply below_drew1)|exact HB.out)) hb);clear HO_5;clear HO_7;clear HO_9;clear HO790;clear HB;have HO_5:=n0_;have HO_7:=n1_;have HO_9:=n2_;have HO790:=n3_;have HO794:=n4_;have HB:=n5_;clear n0_ n1_ n2_ n3_ n4_ n5_;(try clear hb);(try clear hb2);(try clear hk);(try clear hi);(try clear ho0);obtain ⟨Ao67,co67,eo67⟩:=Kd.R_slice HO_5.out;subst eo67)|(go_at_call 24;(with_reducible refine (pq11.calls k2 _ _ t771 _ _ l0 true _ ?side1 ?side2 ?side3 ?side4 A26.out).mono ?_);(case side1=>repeat (first|exact (Kd.R_reads' HO_5.out).2.2|(with_reducible refine Kd.C_alloc ?_ _)|(with_reducible refine Kd.C_drewN ?_ _)|(with_reducible refine Kd.C_drew ?_)));(case side2=>exact (Kd.R_reads' HO_5.out).2.1);(case side3=>repeat (first|exact (Kd.C_below HR0.out HB.out)|(with_reducible refine Kd.C_alloc ?_ _)|(with_reducible refine Kd.C_drewN ?_ _)|(with_reducible refine Kd.C_drew ?_)));(case side4=>exact HC0.out);rintro e w' ⟨rfl,⟨nd,rfl⟩⟩))
           go_ret
           exact ⟨by first|rfl|(simp [errW_none,errW_some] <;> rfl)|(simp [*,errW_none,errW_some] <;> rfl),by repeat (first|(with_reducible first|exact HB.out|apply below_alloc|apply pw_below_drewN|apply below_drew1)|exact HB.out)⟩
         ·replace c27:=Bool.eq_false_iff.mpr c27
          subst c27
          have H1:(some false)=some r:=by rw [if_neg (show ¬ (false=true) by decide)] at H;exact H
          clear H
          have H:=H1
          clear H1
          obtain rfl:=Option.some.inj H
          obtain ⟨Ao68,co68,eo68⟩:=Kd.R_slice HO_9.out
          subst eo68
          go_wp2_with (first|((with_reducible refine gate_callee (f:=22) rfl ?_);refine goesL_ (some 60) rfl rfl Tryz.func22 (by kernel_rfl) rfl #[.slice none 0 0,.slice Ao68 x9_2.length co68] rfl (by (try simp only [List.map_toArray,List.map_cons,List.map_nil]);first|done|rfl|(simp only [List.length_drop,List.length_take];rfl)) ?_;(refine (tree_Apply.calls _ _ ([]:List (S40)) _ _ x9_2 t787 t788 _ (hG.ext (by repeat (first|(with_reducible first|exact HB.out|apply below_alloc|apply pw_below_drewN|apply below_drew1)|exact HB.out))) ?side1 ?side2 ?side3 ?side4 A22.out).mono ?_);(case side1=>exact Kd.C_nil _ _);(case side2=>exact Nat.le_refl _);(case side3=>repeat (first|exact (Kd.R_reads' HO_9.out).2.2|(with_reducible refine Kd.C_alloc ?_ _)|(with_reducible refine Kd.C_drewN ?_ _)|(with_reducible refine Kd.C_drew ?_)));(case side4=>exact (Kd.R_reads' HO_9.out).2.1);rintro e w69 ⟨v789,rfl,ho0,hb⟩;refine ⟨_,rfl,?_⟩;have n0_:=Aside0.mk (Kd.R_elder' (by (with_reducible repeat (first|apply Kd.R_alloc|apply Kd.R_drewN|apply Kd.R_drew));exact HO_5.out) (Kd.R_base ho0) hb);have n1_:=Aside0.mk (Kd.R_elder' (by (with_reducible repeat (first|apply Kd.R_alloc|apply Kd.R_drewN|apply Kd.R_drew));exact HO_7.out) (Kd.R_base ho0) hb);have n2_:=Aside0.mk (Kd.R_below (by (with_reducible repeat (first|apply Kd.R_alloc|apply Kd.R_drewN|apply Kd.R_drew));exact HO_9.out) hb);have n3_:=Aside0.mk (Kd.R_lower (Kd.R_new' (Kd.R_new' ho0 (Kd.R_lt (by (with_reducible repeat (first|apply Kd.R_alloc|apply Kd.R_drewN|apply Kd.R_drew));exact HO_5.out))) (Kd.R_lt (by (with_reducible repeat (first|apply Kd.R_alloc|apply Kd.R_drewN|apply Kd.R_drew));exact HO_7.out))) (below_size (by repeat (first|(with_reducible first|exact HB.out|apply below_alloc|apply pw_below_drewN|apply below_drew1)|exact HB.out))));have n4_:=Aside0.mk (below_step (by repeat (first|(with_reducible first|exact HB.out|apply below_alloc|apply pw_below_drewN|apply below_drew1)|exact HB.out)) hb);clear HO_5;clear HO_7;clear HO_9;clear HB;have HO_5:=n0_;have HO_7:=n1_;have HO_9:=n2_;have HO790:=n3_;have HB:=n4_;clear n0_ n1_ n2_ n3_ n4_;(try clear hb);(try clear hb2);(try clear hk);(try clear hi);(try clear ho0))|((with_reducible refine gate_callee (f:=22) rfl ?_);refine goesL_ (some 66) rfl rfl Tryz.func22 (by kernel_rfl) rfl #[.slice A0 l0.length c0,.slice Ao68 x9_2.length co68] rfl (by (try simp only [List.map_toArray,List.map_cons,List.map_nil]);first|done|rfl|(simp only [List.length_drop,List.length_take];rfl)) ?_;(with_reducible refine (tree_Apply.calls _ _ l0 _ _ x9_2 t791 t792 _ (hG.ext (by repeat (first|(with_reducible first|exact HB.out|apply below_alloc|apply pw_below_drewN|apply below_drew1)|exact HB.out))) ?side1 ?side2 ?side3 ?side4 A23.out).mono ?_);(case side1=>repeat (first|exact (Kd.C_below HR0.out HB.out)|(with_reducible refine Kd.C_alloc ?_ _)|(with_reducible refine Kd.C_drewN ?_ _)|(with_reducible refine Kd.C_drew ?_)));(case side2=>exact HC0.out);(case side3=>repeat (first|exact (Kd.R_reads' HO_9.out).2.2|(with_reducible refine Kd.C_alloc ?_ _)|(with_reducible refine Kd.C_drewN ?_ _)|(with_reducible refine Kd.C_drew ?_)));(case side4=>exact (Kd.R_reads' HO_9.out).2.1);rintro e w70 ⟨v793,rfl,ho0,hb⟩;refine ⟨_,rfl,?_⟩;have n0_:=Aside0.mk (Kd.R_elder' (by (with_reducible repeat (first|apply Kd.R_alloc|apply Kd.R_drewN|apply Kd.R_drew));exact HO_5.out) (Kd.R_base ho0) hb);have n1_:=Aside0.mk (Kd.R_elder' (by (with_reducible repeat (first|apply Kd.R_alloc|apply Kd.R_drewN|apply Kd.R_drew));exact HO_7.out) (Kd.R_base ho0) hb);have n2_:=Aside0.mk (Kd.R_below (by (with_reducible repeat (first|apply Kd.R_alloc|apply Kd.R_drewN|apply Kd.R_drew));exact HO_9.out) hb);have n3_:=Aside0.mk (Kd.R_elder' (by (with_reducible repeat (first|apply Kd.R_alloc|apply Kd.R_drewN|apply Kd.R_drew));exact HO790.out) (Kd.R_base ho0) hb);have n4_:=Aside0.mk (Kd.R_lower (Kd.R_new' (Kd.R_new' (Kd.R_new' ho0 (Kd.R_lt (by (with_reducible repeat (first|apply Kd.R_alloc|apply Kd.R_drewN|apply Kd.R_drew));exact HO_5.out))) (Kd.R_lt (by (with_reducible repeat (first|apply Kd.R_alloc|apply Kd.R_drewN|apply Kd.R_drew));exact HO_7.out))) (Kd.R_lt (by (with_reducible repeat (first|apply Kd.R_alloc|apply Kd.R_drewN|apply Kd.R_drew));exact HO790.out))) (below_size (by repeat (first|(with_reducible first|exact HB.out|apply below_alloc|apply pw_below_drewN|apply below_drew1)|exact HB.out))));have n5_:=Aside0.mk (below_step (by repeat (first|(with_reducible first|exact HB.out|apply below_alloc|apply pw_below_drewN|apply below_drew1)|exact HB.out)) hb);clear HO_5;clear HO_7;clear HO_9;clear HO790;clear HB;have HO_5:=n0_;have HO_7:=n1_;have HO_9:=n2_;have HO790:=n3_;have HO794:=n4_;have HB:=n5_;clear n0_ n1_ n2_ n3_ n4_ n5_;(try clear hb);(try clear hb2);(try clear hk);(try clear hi);(try clear ho0);obtain ⟨Ao71,co71,eo71⟩:=Kd.R_slice HO_5.out;subst eo71)|(go_at_call 24;(with_reducible refine (pq11.calls k2 _ _ t771 _ _ l0 false _ ?side1 ?side2 ?side3 ?side4 A26.out).mono ?_);(case side1=>repeat (first|exact (Kd.R_reads' HO_5.out).2.2|(with_reducible refine Kd.C_alloc ?_ _)|(with_reducible refine Kd.C_drewN ?_ _)|(with_reducible refine Kd.C_drew ?_)));(case side2=>exact (Kd.R_reads' HO_5.out).2.1);(case side3=>repeat (first|exact (Kd.C_below HR0.out HB.out)|(with_reducible refine Kd.C_alloc ?_ _)|(with_reducible refine Kd.C_drewN ?_ _)|(with_reducible refine Kd.C_drew ?_)));(case side4=>exact HC0.out);rintro e w' ⟨rfl,⟨nd,rfl⟩⟩))
          go_ret
          exact ⟨by first|rfl|(simp [errW_none,errW_some] <;> rfl)|(simp [*,errW_none,errW_some] <;> rfl),by repeat (first|(with_reducible first|exact HB.out|apply below_alloc|apply pw_below_drewN|apply below_drew1)|exact HB.out)⟩
        ·rw [if_neg c25] at H
         have c25b0:(t772 == 0)=false:=beq_eq_false_iff_ne.mpr c25
         have c25b1:(t772 != 0)=true:=bne_iff_ne.mpr c25
         obtain rfl:=Option.some.inj H
         obtain ⟨Ao72,co72,eo72⟩:=Kd.R_slice HO_9.out
         subst eo72
         go_wp2_with (first|((with_reducible refine gate_callee (f:=22) rfl ?_);refine goesL_ (some 60) rfl rfl Tryz.func22 (by kernel_rfl) rfl #[.slice none 0 0,.slice Ao72 x9_2.length co72] rfl (by (try simp only [List.map_toArray,List.map_cons,List.map_nil]);first|done|rfl|(simp only [List.length_drop,List.length_take];rfl)) ?_;(refine (tree_Apply.calls _ _ ([]:List (S40)) _ _ x9_2 t787 t788 _ (hG.ext (by repeat (first|(with_reducible first|exact HB.out|apply below_alloc|apply pw_below_drewN|apply below_drew1)|exact HB.out))) ?side1 ?side2 ?side3 ?side4 A22.out).mono ?_);(case side1=>exact Kd.C_nil _ _);(case side2=>exact Nat.le_refl _);(case side3=>repeat (first|exact (Kd.R_reads' HO_9.out).2.2|(with_reducible refine Kd.C_alloc ?_ _)|(with_reducible refine Kd.C_drewN ?_ _)|(with_reducible refine Kd.C_drew ?_)));(case side4=>exact (Kd.R_reads' HO_9.out).2.1);rintro e w73 ⟨v789,rfl,ho0,hb⟩;refine ⟨_,rfl,?_⟩;have n0_:=Aside0.mk (Kd.R_elder' (by (with_reducible repeat (first|apply Kd.R_alloc|apply Kd.R_drewN|apply Kd.R_drew));exact HO_5.out) (Kd.R_base ho0) hb);have n1_:=Aside0.mk (Kd.R_elder' (by (with_reducible repeat (first|apply Kd.R_alloc|apply Kd.R_drewN|apply Kd.R_drew));exact HO_7.out) (Kd.R_base ho0) hb);have n2_:=Aside0.mk (Kd.R_below (by (with_reducible repeat (first|apply Kd.R_alloc|apply Kd.R_drewN|apply Kd.R_drew));exact HO_9.out) hb);have n3_:=Aside0.mk (Kd.R_lower (Kd.R_new' (Kd.R_new' ho0 (Kd.R_lt (by (with_reducible repeat (first|apply Kd.R_alloc|apply Kd.R_drewN|apply Kd.R_drew));exact HO_5.out))) (Kd.R_lt (by (with_reducible repeat (first|apply Kd.R_alloc|apply Kd.R_drewN|apply Kd.R_drew));exact HO_7.out))) (below_size (by repeat (first|(with_reducible first|exact HB.out|apply below_alloc|apply pw_below_drewN|apply below_drew1)|exact HB.out))));have n4_:=Aside0.mk (below_step (by repeat (first|(with_reducible first|exact HB.out|apply below_alloc|apply pw_below_drewN|apply below_drew1)|exact HB.out)) hb);clear HO_5;clear HO_7;clear HO_9;clear HB;have HO_5:=n0_;have HO_7:=n1_;have HO_9:=n2_;have HO790:=n3_;have HB:=n4_;clear n0_ n1_ n2_ n3_ n4_;(try clear hb);(try clear hb2);(try clear hk);(try clear hi);(try clear ho0))|((with_reducible refine gate_callee (f:=22) rfl ?_);refine goesL_ (some 66) rfl rfl Tryz.func22 (by kernel_rfl) rfl #[.slice A0 l0.length c0,.slice Ao72 x9_2.length co72] rfl (by (try simp only [List.map_toArray,List.map_cons,List.map_nil]);first|done|rfl|(simp only [List.length_drop,List.length_take];rfl)) ?_;(with_reducible refine (tree_Apply.calls _ _ l0 _ _ x9_2 t791 t792 _ (hG.ext (by repeat (first|(with_reducible first|exact HB.out|apply below_alloc|apply pw_below_drewN|apply below_drew1)|exact HB.out))) ?side1 ?side2 ?side3 ?side4 A23.out).mono ?_);(case side1=>repeat (first|exact (Kd.C_below HR0.out HB.out)|(with_reducible refine Kd.C_alloc ?_ _)|(with_reducible refine Kd.C_drewN ?_ _)|(with_reducible refine Kd.C_drew ?_)));(case side2=>exact HC0.out);(case side3=>repeat (first|exact (Kd.R_reads' HO_9.out).2.2|(with_reducible refine Kd.C_alloc ?_ _)|(with_reducible refine Kd.C_drewN ?_ _)|(with_reducible refine Kd.C_drew ?_)));(case side4=>exact (Kd.R_reads' HO_9.out).2.1);rintro e w74 ⟨v793,rfl,ho0,hb⟩;refine ⟨_,rfl,?_⟩;have n0_:=Aside0.mk (Kd.R_elder' (by (with_reducible repeat (first|apply Kd.R_alloc|apply Kd.R_drewN|apply Kd.R_drew));exact HO_5.out) (Kd.R_base ho0) hb);have n1_:=Aside0.mk (Kd.R_elder' (by (with_reducible repeat (first|apply Kd.R_alloc|apply Kd.R_drewN|apply Kd.R_drew));exact HO_7.out) (Kd.R_base ho0) hb);have n2_:=Aside0.mk (Kd.R_below (by (with_reducible repeat (first|apply Kd.R_alloc|apply Kd.R_drewN|apply Kd.R_drew));exact HO_9.out) hb);have n3_:=Aside0.mk (Kd.R_elder' (by (with_reducible repeat (first|apply Kd.R_alloc|apply Kd.R_drewN|apply Kd.R_drew));exact HO790.out) (Kd.R_base ho0) hb);have n4_:=Aside0.mk (Kd.R_lower (Kd.R_new' (Kd.R_new' (Kd.R_new' ho0 (Kd.R_lt (by (with_reducible repeat (first|apply Kd.R_alloc|apply Kd.R_drewN|apply Kd.R_drew));exact HO_5.out))) (Kd.R_lt (by (with_reducible repeat (first|apply Kd.R_alloc|apply Kd.R_drewN|apply Kd.R_drew));exact HO_7.out))) (Kd.R_lt (by (with_reducible repeat (first|apply Kd.R_alloc|apply Kd.R_drewN|apply Kd.R_drew));exact HO790.out))) (below_size (by repeat (first|(with_reducible first|exact HB.out|apply below_alloc|apply pw_below_drewN|apply below_drew1)|exact HB.out))));have n5_:=Aside0.mk (below_step (by repeat (first|(with_reducible first|exact HB.out|apply below_alloc|apply pw_below_drewN|apply below_drew1)|exact HB.out)) hb);clear HO_5;clear HO_7;clear HO_9;clear HO790;clear HB;have HO_5:=n0_;have HO_7:=n1_;have HO_9:=n2_;have HO790:=n3_;have HO794:=n4_;have HB:=n5_;clear n0_ n1_ n2_ n3_ n4_ n5_;(try clear hb);(try clear hb2);(try clear hk);(try clear hi);(try clear ho0)))
         go_ret
         exact ⟨by first|rfl|(simp [errW_none,errW_some] <;> rfl)|(simp [*,errW_none,errW_some] <;> rfl),by repeat (first|(with_reducible first|exact HB.out|apply below_alloc|apply pw_below_drewN|apply below_drew1)|exact HB.out)⟩
       ·replace c24:=Bool.eq_false_iff.mpr c24
        subst c24
        have H1:(some false)=some r:=by rw [if_neg (show ¬ (false=true) by decide)] at H;exact H
        clear H
        have H:=H1
        clear H1
        obtain rfl:=Option.some.inj H
        obtain ⟨Ao75,co75,eo75⟩:=Kd.R_slice HO_9.out
        subst eo75
        go_wp2_with (first|((with_reducible refine gate_callee (f:=22) rfl ?_);refine goesL_ (some 60) rfl rfl Tryz.func22 (by kernel_rfl) rfl #[.slice none 0 0,.slice Ao75 x9_2.length co75] rfl (by (try simp only [List.map_toArray,List.map_cons,List.map_nil]);first|done|rfl|(simp only [List.length_drop,List.length_take];rfl)) ?_;(refine (tree_Apply.calls _ _ ([]:List (S40)) _ _ x9_2 t787 t788 _ (hG.ext (by repeat (first|(with_reducible first|exact HB.out|apply below_alloc|apply pw_below_drewN|apply below_drew1)|exact HB.out))) ?side1 ?side2 ?side3 ?side4 A22.out).mono ?_);(case side1=>exact Kd.C_nil _ _);(case side2=>exact Nat.le_refl _);(case side3=>repeat (first|exact (Kd.R_reads' HO_9.out).2.2|(with_reducible refine Kd.C_alloc ?_ _)|(with_reducible refine Kd.C_drewN ?_ _)|(with_reducible refine Kd.C_drew ?_)));(case side4=>exact (Kd.R_reads' HO_9.out).2.1);rintro e w76 ⟨v789,rfl,ho0,hb⟩;refine ⟨_,rfl,?_⟩;have n0_:=Aside0.mk (Kd.R_elder' (by (with_reducible repeat (first|apply Kd.R_alloc|apply Kd.R_drewN|apply Kd.R_drew));exact HO_5.out) (Kd.R_base ho0) hb);have n1_:=Aside0.mk (Kd.R_elder' (by (with_reducible repeat (first|apply Kd.R_alloc|apply Kd.R_drewN|apply Kd.R_drew));exact HO_7.out) (Kd.R_base ho0) hb);have n2_:=Aside0.mk (Kd.R_below (by (with_reducible repeat (first|apply Kd.R_alloc|apply Kd.R_drewN|apply Kd.R_drew));exact HO_9.out) hb);have n3_:=Aside0.mk (Kd.R_lower (Kd.R_new' (Kd.R_new' ho0 (Kd.R_lt (by (with_reducible repeat (first|apply Kd.R_alloc|apply Kd.R_drewN|apply Kd.R_drew));exact HO_5.out))) (Kd.R_lt (by (with_reducible repeat (first|apply Kd.R_alloc|apply Kd.R_drewN|apply Kd.R_drew));exact HO_7.out))) (below_size (by repeat (first|(with_reducible first|exact HB.out|apply below_alloc|apply pw_below_drewN|apply below_drew1)|exact HB.out))));have n4_:=Aside0.mk (below_step (by repeat (first|(with_reducible first|exact HB.out|apply below_alloc|apply pw_below_drewN|apply below_drew1)|exact HB.out)) hb);clear HO_5;clear HO_7;clear HO_9;clear HB;have HO_5:=n0_;have HO_7:=n1_;have HO_9:=n2_;have HO790:=n3_;have HB:=n4_;clear n0_ n1_ n2_ n3_ n4_;(try clear hb);(try clear hb2);(try clear hk);(try clear hi);(try clear ho0))|((with_reducible refine gate_callee (f:=22) rfl ?_);refine goesL_ (some 66) rfl rfl Tryz.func22 (by kernel_rfl) rfl #[.slice A0 l0.length c0,.slice Ao75 x9_2.length co75] rfl (by (try simp only [List.map_toArray,List.map_cons,List.map_nil]);first|done|rfl|(simp only [List.length_drop,List.length_take];rfl)) ?_;(with_reducible refine (tree_Apply.calls _ _ l0 _ _ x9_2 t791 t792 _ (hG.ext (by repeat (first|(with_reducible first|exact HB.out|apply below_alloc|apply pw_below_drewN|apply below_drew1)|exact HB.out))) ?side1 ?side2 ?side3 ?side4 A23.out).mono ?_);(case side1=>repeat (first|exact (Kd.C_below HR0.out HB.out)|(with_reducible refine Kd.C_alloc ?_ _)|(with_reducible refine Kd.C_drewN ?_ _)|(with_reducible refine Kd.C_drew ?_)));(case side2=>exact HC0.out);(case side3=>repeat (first|exact (Kd.R_reads' HO_9.out).2.2|(with_reducible refine Kd.C_alloc ?_ _)|(with_reducible refine Kd.C_drewN ?_ _)|(with_reducible refine Kd.C_drew ?_)));(case side4=>exact (Kd.R_reads' HO_9.out).2.1);rintro e w77 ⟨v793,rfl,ho0,hb⟩;refine ⟨_,rfl,?_⟩;have n0_:=Aside0.mk (Kd.R_elder' (by (with_reducible repeat (first|apply Kd.R_alloc|apply Kd.R_drewN|apply Kd.R_drew));exact HO_5.out) (Kd.R_base ho0) hb);have n1_:=Aside0.mk (Kd.R_elder' (by (with_reducible repeat (first|apply Kd.R_alloc|apply Kd.R_drewN|apply Kd.R_drew));exact HO_7.out) (Kd.R_base ho0) hb);have n2_:=Aside0.mk (Kd.R_below (by (with_reducible repeat (first|apply Kd.R_alloc|apply Kd.R_drewN|apply Kd.R_drew));exact HO_9.out) hb);have n3_:=Aside0.mk (Kd.R_elder' (by (with_reducible repeat (first|apply Kd.R_alloc|apply Kd.R_drewN|apply Kd.R_drew));exact HO790.out) (Kd.R_base ho0) hb);have n4_:=Aside0.mk (Kd.R_lower (Kd.R_new' (Kd.R_new' (Kd.R_new' ho0 (Kd.R_lt (by (with_reducible repeat (first|apply Kd.R_alloc|apply Kd.R_drewN|apply Kd.R_drew));exact HO_5.out))) (Kd.R_lt (by (with_reducible repeat (first|apply Kd.R_alloc|apply Kd.R_drewN|apply Kd.R_drew));exact HO_7.out))) (Kd.R_lt (by (with_reducible repeat (first|apply Kd.R_alloc|apply Kd.R_drewN|apply Kd.R_drew));exact HO790.out))) (below_size (by repeat (first|(with_reducible first|exact HB.out|apply below_alloc|apply pw_below_drewN|apply below_drew1)|exact HB.out))));have n5_:=Aside0.mk (below_step (by repeat (first|(with_reducible first|exact HB.out|apply below_alloc|apply pw_below_drewN|apply below_drew1)|exact HB.out)) hb);clear HO_5;clear HO_7;clear HO_9;clear HO790;clear HB;have HO_5:=n0_;have HO_7:=n1_;have HO_9:=n2_;have HO790:=n3_;have HO794:=n4_;have HB:=n5_;clear n0_ n1_ n2_ n3_ n4_ n5_;(try clear hb);(try clear hb2);(try clear hk);(try clear hi);(try clear ho0)))
        go_ret
        exact ⟨by first|rfl|(simp [errW_none,errW_some] <;> rfl)|(simp [*,errW_none,errW_some] <;> rfl),by repeat (first|(with_reducible first|exact HB.out|apply below_alloc|apply pw_below_drewN|apply below_drew1)|exact HB.out)⟩
end Go.Proofs.YtdkjinmkallhnaaGreatDoorQ
end
section
namespace Go.Proofs.YtdkjinmkallhnaaGreatDoorQ
open Go.RowKit Go.Proofs.YtdkjinmkallhnaaGreatDoor Go.Proofs.YtdkjinmkallhnaaGreatDoorW.PrintWords Go.Proofs.YtdkjinmkallhnaaGreatDoorW.PrintLast Go.Proofs.YtdkjinmkallhnaaGreatDoorW.PrintMore
open Go.Proofs.YtdkjinmkallhnaaGreatDoorT (applyM rightT rightC Ch getL RightT allPuts)
def putS (e:S40):S38:=⟨e.f0,0,e.f1⟩
theorem puts_all (l:List S40):(l.map putS).map chOf=allPuts (l.map enOf):=by
  unfold allPuts
  rw [List.map_map,List.map_map]
  rfl
theorem fits_puts {l:List S40} (h:rowFits' l):lyrFits' (l.map putS):=by
  refine ⟨?_,by rw [List.length_map];exact h.2⟩
  rw [puts_all]
  unfold lyrFits allPuts
  rw [List.all_map]
  exact h.1
theorem apply_is {l0:List S40} {l1:List S38} (h0:rowFits' l0) (h1:lyrFits' l1) {a:List (Str×Nd)} {e:Int} (h:applyM Y (l0.map enOf) (l1.map chOf)=(a,e)):tree_Apply.f l0 l1=some (a.map ofEn,e):=by
  rw [apply_f h0 h1,h]
theorem nothing_l (l:List S40) (f0:rowFits' l) (hr:RightT Y (l.map enOf)):∀ d i,i + d=l.length→Ev (fun k=>pq10.l0 k l true l 0 [] 0 ((l.take i).map putS) (i:Int)) true:=by
  have hn:=f0.2
  have e1:tree_Apply.f ([]:List S40) (l.map putS)=some (l,0):=by
    rw [apply_is (a:=l.map enOf) (e:=0) (by exact ⟨rfl,by simp⟩) (fits_puts f0) (by rw [puts_all];exact YtdkjinmkallhnaaGreatDoorT.nothing_put hr),ens_forth]
  have e2:tree_Apply.f l (l.map putS)=some (l,0):=by
    rw [apply_is (a:=l.map enOf) (e:=0) f0 (fits_puts f0) (by rw [puts_all];exact YtdkjinmkallhnaaGreatDoorT.nothing_again hr),ens_forth]
  intro d
  induction d with
  | zero =>
    intro i hi
    have s:Ev (fun k=>pq11.f k l l) true:=same_ev l l (by omega) (d0:=true) (by simp)
    refine Ev.step (f:=fun k=>(pq11.f k l l).bind fun t1=>if t1=true then ((pq11.f k l l).bind fun t2=>if t2=true then ((pq11.f k l l).bind fun t3=>some t3) else some false) else some false) (fun k=>?_)
      (Ev.bind s (Ev.congr (f:=fun k=>(pq11.f k l l).bind fun t2=>if t2=true then ((pq11.f k l l).bind fun t3=>some t3) else some false) (fun k=>by rw [if_pos rfl])
        (Ev.bind s (Ev.congr (f:=fun k=>(pq11.f k l l).bind fun t3=>some t3) (fun k=>by rw [if_pos rfl]) (Ev.bind s (Ev.now _))))))
    simp only [pq10.l0]
    rw [if_neg (by omega),List.take_of_length_le (by omega),e1,e2]
    rfl
  | succ d ih =>
    intro i hi
    have h1:i<l.length:=by omega
    refine Ev.step (fun k=>?_) (ih (i + 1) (by omega))
    simp only [pq10.l0]
    rw [rdE h1,if_pos (by omega),if_pos (by omega),if_pos (by rw [List.length_map,List.length_take];omega),w64 (by omega) (by omega),List.take_succ_eq_append_getElem h1,List.map_append]
    rfl
theorem treeNothing_f (l0:List S40) (h0:SzE l0) (n0:l0.length≤1000000000000000):∃ k,pq10.f k l0=some true:=by
  obtain ⟨b0,e0,q0⟩:=few09_ev l0 h0 n0
  refine Ev.rounds ?_
  unfold pq10.f onionskinlaw17_small.f
  simp only [Option.bind_some]
  refine Ev.bind e0 ?_
  have end0:∀ b,Ev (fun k=>pq10.j0 k l0 b true) b:=fun b=>Ev.step (f:=fun _=>some b) (fun k=>by simp only [pq10.j0];rw [if_pos trivial]) (Ev.now _)
  cases b0 with
  | false=>exact Ev.congr (fun k=>by rw [if_neg (by decide)]) (end0 true)
  | true =>
    have f0:=fitsE_of (q0 rfl)
    cases hr:rightT Y (l0.map enOf) with
    | false=>exact Ev.congr (fun k=>by rw [if_pos rfl,right_f0 f0,hr];rfl) (end0 true)
    | true =>
      have hR:=(YtdkjinmkallhnaaGreatDoorT.rightT_iff Y).1 hr
      refine Ev.congr (f:=fun k=>pq10.j0 k l0 true false) (fun k=>by rw [if_pos rfl,right_f0 f0,hr];rfl) ?_
      refine Ev.step (fun k=>?_) (nothing_l l0 f0 hR l0.length 0 (by omega))
      simp only [pq10.j0]
      rw [if_neg (by decide),apply_is (a:=l0.map enOf) (e:=0) f0 (l1:=[]) ⟨rfl,by simp⟩ (YtdkjinmkallhnaaGreatDoorT.nothing_same hR)]
      simp only [Option.bind_some]
      rw [apply_is (a:=[]) (e:=0) f0 (l1:=[⟨⟨#[]⟩,2,⟨0,0,0,0,0,⟨#[]⟩,⟨#[]⟩,0,0,⟨#[]⟩⟩⟩]) ⟨by decide,by simp⟩ (YtdkjinmkallhnaaGreatDoorT.nothing_root hR _ rfl),ens_forth]
      rfl
end Go.Proofs.YtdkjinmkallhnaaGreatDoorQ
end
