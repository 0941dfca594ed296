/- A part of a proof of DiffBothCardSaid of this seat: what its walks and its laws lean on; joined by a program of this repo (wip/pack.py) out of the texts QSlicesRotateCmpFuncPairAtUntarAttrs2. -/
import Derived.Test.YtjghikkboekonaaGreatDoorKAB
import Derived.Test.YtjghikkboekonaaGreatDoorKAE
set_option linter.unusedSimpArgs false
set_option linter.unusedVariables false
section
namespace Go.Proofs.Zq
open Go.RowKit Go.Proofs.Zw.PrintWords Go.Proofs.Zw.PrintLast Go.Proofs.Zw.PrintMore
open Go.Proofs.YtjghikkboekonaaGreatDoor (GL)
attribute [local go_sem] max2_int min2_int max_two min_two max_three min_three max_four min_four
def pq7.l0:Nat→List (S169)→Int→Unit→Int→Int→Option ((List (S169)))
 | 0,_,_,_,_,_=>none
 | k + 1,x0,x2,x4,x10,x11=>if x10=x11 then ((pq3.f k x0 (wrap64 (x2 - x10)) x2 x10 x4).bind fun t220=>(some t220)) else (if x10 > x11 then ((pq3.f k x0 (wrap64 (x2 - x10)) x2 x11 x4).bind fun t221=>(pq7.l0 k t221 x2 x4 (wrap64 (x10 - x11)) x11)) else ((pq3.f k x0 (wrap64 (x2 - x10)) (wrap64 ((wrap64 (x2 + x11)) - x10)) x10 x4).bind fun t222=>(pq7.l0 k t222 x2 x4 x10 (wrap64 (x11 - x10)))))
def pq7.f (k:Nat) (l0:List (S169)) (a1:Int) (a2:Int) (a3:Int) (a4:Unit):Option ((List (S169))):=pq7.l0 k l0 a2 a4 (wrap64 (a2 - a1)) (wrap64 (a3 - a2))
set_option maxHeartbeats 8000000 in
set_option maxRecDepth 100000 in
theorem pq7.calls (k:Nat) (P0_:Nat→Prop) (u9000_:Value) (l0:List (S169)) (a1:Int) (a2:Int) (a3:Int) (a4:Unit) (r:List (S169)) (w0 w:World) (hB:Below w0.heap.size w0 w) (ho0:Kd.R k169 169 w w0.heap.size P0_ u9000_ l0) (h:pq7.f k l0 a1 a2 a3 a4=some r) :
  Calls Tryz.prog 217 #[u9000_,.int .i64 a1,.int .i64 a2,.int .i64 a3,.func (.func 175) #[] #[]] w fun e w'=>e=.returned (.tuple #[])∧Kd.R k169 169 w' w0.heap.size (fun k_=>(P0_ k_∨w.heap.size≤k_)) u9000_ r∧Below w0.heap.size w0 w'∧Kept w w' (fun k_=>P0_ k_):=by
 have HO0:=pz4.mk (show Kd.R k169 169 w w0.heap.size (fun k_=>(P0_ k_∨w.heap.size≤k_)) u9000_ l0 from Kd.R_mono ho0 (fun k_ hk=>(.inl hk)))
 have HK:=pz4.mk (Kept.refl w (fun k_=>P0_ k_))
 have HW0:=pz4.mk hB.size
 have HB:=pz4.mk hB
 clear hB
 have H:(pq7.l0 k l0 a2 a4 (wrap64 (a2 - a1)) (wrap64 (a3 - a2)))=some r:=h
 clear h
 have H':=pz4.mk H
 clear H
 go_enter Tryz.func217,Tryz.ntmps217
 go_wp2
 go_loopg [10,11] k (fun kq v10 v11 w'=>∃ (x0_1:List (S169)) (x10_1:Int) (x11_1:Int),v10=.int .i64 x10_1∧v11=.int .i64 x11_1∧pz4 (pq7.l0 kq x0_1 a2 a4 x10_1 x11_1=some r)∧pz4 (kq≤k)∧pz4 (Kd.R k169 169 w' w0.heap.size (fun k_=>(P0_ k_∨w.heap.size≤k_)) u9000_ x0_1)∧pz4 (Kept w w' (fun k_=>P0_ k_))∧pz4 (Below w0.heap.size w0 w'))
 case atStart=>exact ⟨(l0),(wrap64 (a2 - a1)),(wrap64 (a3 - a2)),(by first|rfl|(simp;done)|(simp [*];done)),(by first|rfl|(simp;done)|(simp [*];done)),H',⟨Nat.le_refl _⟩,⟨by (with_reducible repeat (first|apply Kd.R_alloc|apply Kd.R_drewN|apply Kd.R_drew));exact HO0.out⟩,⟨by repeat (first|(with_reducible first|exact HK.out|apply Kept.alloc|apply Kept.drewN|apply Kept.drew)|exact HK.out)⟩,⟨by repeat (first|(with_reducible first|exact HB.out|apply pz3|apply pz1|apply pz2)|exact HB.out)⟩⟩
 case round =>
  clear H'
  try clear c1;try clear p2
  obtain ⟨x0_1,x10_1,x11_1,rfl,rfl,HA,HK1,HO_0,HK,HB⟩:=hrel
  cases gk with
  | zero=>exact absurd HA.out (by simp [pq7.l0])
  | succ k1 =>
   have H:=HA.out
   clear HA
   simp only [pq7.l0] at H
   by_cases c6:x10_1=x11_1
   ·rw [if_pos c6] at H
    have c6b0:(x10_1 == x11_1)=true:=beq_iff_eq.mpr c6
    have c6b1:(x10_1 != x11_1)=false:=bne_eq_false_iff_eq.mpr c6
    clear c6
    replace H:=Option.bind_eq_some_iff.mp H
    obtain ⟨t220,A70,H⟩:=H
    replace H:(some t220)=some r:=H
    have A7:=pz4.mk A70
    clear A70
    obtain rfl:=Option.some.inj H
    obtain ⟨Ao8,co8,eo8⟩:=Kd.R_slice HO_0.out
    subst eo8
    go_wp2_with (first|((with_reducible refine pz8 (f:=227) rfl ?_);refine goesL_ (some 57) rfl rfl Tryz.func227 (by kernel_rfl) rfl #[.slice Ao8 x0_1.length co8,.int .i64 (wrap64 (a2 - x10_1)),.int .i64 a2,.int .i64 x10_1,.func (.func 175) #[] #[]] rfl (by (try simp only [List.map_toArray,List.map_cons,List.map_nil]);first|done|rfl|(simp only [List.length_drop,List.length_take];rfl)) ?_;(with_reducible refine (pq3.calls k1 (fun k_=>some k_=(.slice Ao8 x0_1.length co8:Value).ownBlock) (.slice Ao8 x0_1.length co8) x0_1 (wrap64 (a2 - x10_1)) a2 x10_1 a4 t220 w0 _ ?side1 ?side2 A7.out).mono ?_);(case side1=>repeat (first|(with_reducible first|exact HB.out|apply pz3|apply pz1|apply pz2)|exact HB.out));(case side2=>exact Kd.R_tight rfl HO_0.out);rintro e w9 ⟨rfl,hy0,hb,hkp⟩;refine ⟨_,rfl,?_⟩;have n0_:=pz4.mk (Kd.R_reok rfl hy0 (fun k_ e_=>HO_0.out.1 k_ e_));have n1_:=pz4.mk (Kept.then_ (S:=(fun k_=>P0_ k_)) (by repeat (first|(with_reducible first|exact HK.out|apply Kept.alloc|apply Kept.drewN|apply Kept.drew)|exact HK.out)) hkp (fun k_ hs_=>(fun e_=>(HO_0.out.1 k_ e_.symm)) hs_));have n2_:=pz4.mk (hb);clear HO_0;clear HK;clear HB;have HO_0:=n0_;have HK:=n1_;have HB:=n2_;clear n0_ n1_ n2_;(try clear hb);(try clear hkp);(try clear hy0)))
    first|go_end0|((try simp only [Exit.inBlock,Exit.then]);refine bodyPost_ret (results_none rfl _ _ _) rfl ?_)
    exact ⟨by first|rfl|(simp [pz6,pz5] <;> rfl)|(simp [*,pz6,pz5] <;> rfl),by (with_reducible repeat (first|apply Kd.R_alloc|apply Kd.R_drewN|apply Kd.R_drew));exact HO_0.out,by repeat (first|(with_reducible first|exact HB.out|apply pz3|apply pz1|apply pz2)|exact HB.out),by repeat (first|(with_reducible first|exact HK.out|apply Kept.alloc|apply Kept.drewN|apply Kept.drew)|exact HK.out)⟩
   ·rw [if_neg c6] at H
    have c6b0:(x10_1 == x11_1)=false:=beq_eq_false_iff_ne.mpr c6
    have c6b1:(x10_1 != x11_1)=true:=bne_iff_ne.mpr c6
    by_cases c10:x10_1 > x11_1
    ·rw [if_pos c10] at H
     have c10b0:decide (x11_1<x10_1)=true:=decide_eq_true c10
     clear c10
     replace H:=Option.bind_eq_some_iff.mp H
     obtain ⟨t221,A110,H⟩:=H
     replace H:(pq7.l0 k1 t221 a2 a4 (wrap64 (x10_1 - x11_1)) x11_1)=some r:=H
     have A11:=pz4.mk A110
     clear A110
     have H':=pz4.mk H
     clear H
     obtain ⟨Ao12,co12,eo12⟩:=Kd.R_slice HO_0.out
     subst eo12
     go_wp2_with (first|((with_reducible refine pz8 (f:=227) rfl ?_);refine goesL_ (some 31) rfl rfl Tryz.func227 (by kernel_rfl) rfl #[.slice Ao12 x0_1.length co12,.int .i64 (wrap64 (a2 - x10_1)),.int .i64 a2,.int .i64 x11_1,.func (.func 175) #[] #[]] rfl (by (try simp only [List.map_toArray,List.map_cons,List.map_nil]);first|done|rfl|(simp only [List.length_drop,List.length_take];rfl)) ?_;(with_reducible refine (pq3.calls k1 (fun k_=>some k_=(.slice Ao12 x0_1.length co12:Value).ownBlock) (.slice Ao12 x0_1.length co12) x0_1 (wrap64 (a2 - x10_1)) a2 x11_1 a4 t221 w0 _ ?side1 ?side2 A11.out).mono ?_);(case side1=>repeat (first|(with_reducible first|exact HB.out|apply pz3|apply pz1|apply pz2)|exact HB.out));(case side2=>exact Kd.R_tight rfl HO_0.out);rintro e w13 ⟨rfl,hy0,hb,hkp⟩;refine ⟨_,rfl,?_⟩;have n0_:=pz4.mk (Kd.R_reok rfl hy0 (fun k_ e_=>HO_0.out.1 k_ e_));have n1_:=pz4.mk (Kept.then_ (S:=(fun k_=>P0_ k_)) (by repeat (first|(with_reducible first|exact HK.out|apply Kept.alloc|apply Kept.drewN|apply Kept.drew)|exact HK.out)) hkp (fun k_ hs_=>(fun e_=>(HO_0.out.1 k_ e_.symm)) hs_));have n2_:=pz4.mk (hb);clear HO_0;clear HK;clear HB;have HO_0:=n0_;have HK:=n1_;have HB:=n2_;clear n0_ n1_ n2_;(try clear hb);(try clear hkp);(try clear hy0)))
     go_roundg k1
     case measure=>have:=HK1.out;omega
     case rel=>exact ⟨(t221),(wrap64 (x10_1 - x11_1)),(x11_1),(by first|rfl|(simp;done)|(simp [*];done)),(by first|rfl|(simp;done)|(simp [*];done)),H',⟨by have:=HK1.out;omega⟩,⟨by (with_reducible repeat (first|apply Kd.R_alloc|apply Kd.R_drewN|apply Kd.R_drew));exact HO_0.out⟩,⟨by repeat (first|(with_reducible first|exact HK.out|apply Kept.alloc|apply Kept.drewN|apply Kept.drew)|exact HK.out)⟩,⟨by repeat (first|(with_reducible first|exact HB.out|apply pz3|apply pz1|apply pz2)|exact HB.out)⟩⟩
    ·rw [if_neg c10] at H
     have c10b0:decide (x11_1<x10_1)=false:=decide_eq_false c10
     clear c10
     replace H:=Option.bind_eq_some_iff.mp H
     obtain ⟨t222,A140,H⟩:=H
     replace H:(pq7.l0 k1 t222 a2 a4 x10_1 (wrap64 (x11_1 - x10_1)))=some r:=H
     have A14:=pz4.mk A140
     clear A140
     have H':=pz4.mk H
     clear H
     obtain ⟨Ao15,co15,eo15⟩:=Kd.R_slice HO_0.out
     subst eo15
     go_wp2_with (first|((with_reducible refine pz8 (f:=227) rfl ?_);refine goesL_ (some 46) rfl rfl Tryz.func227 (by kernel_rfl) rfl #[.slice Ao15 x0_1.length co15,.int .i64 (wrap64 (a2 - x10_1)),.int .i64 (wrap64 ((wrap64 (a2 + x11_1)) - x10_1)),.int .i64 x10_1,.func (.func 175) #[] #[]] rfl (by (try simp only [List.map_toArray,List.map_cons,List.map_nil]);first|done|rfl|(simp only [List.length_drop,List.length_take];rfl)) ?_;(with_reducible refine (pq3.calls k1 (fun k_=>some k_=(.slice Ao15 x0_1.length co15:Value).ownBlock) (.slice Ao15 x0_1.length co15) x0_1 (wrap64 (a2 - x10_1)) (wrap64 ((wrap64 (a2 + x11_1)) - x10_1)) x10_1 a4 t222 w0 _ ?side1 ?side2 A14.out).mono ?_);(case side1=>repeat (first|(with_reducible first|exact HB.out|apply pz3|apply pz1|apply pz2)|exact HB.out));(case side2=>exact Kd.R_tight rfl HO_0.out);rintro e w16 ⟨rfl,hy0,hb,hkp⟩;refine ⟨_,rfl,?_⟩;have n0_:=pz4.mk (Kd.R_reok rfl hy0 (fun k_ e_=>HO_0.out.1 k_ e_));have n1_:=pz4.mk (Kept.then_ (S:=(fun k_=>P0_ k_)) (by repeat (first|(with_reducible first|exact HK.out|apply Kept.alloc|apply Kept.drewN|apply Kept.drew)|exact HK.out)) hkp (fun k_ hs_=>(fun e_=>(HO_0.out.1 k_ e_.symm)) hs_));have n2_:=pz4.mk (hb);clear HO_0;clear HK;clear HB;have HO_0:=n0_;have HK:=n1_;have HB:=n2_;clear n0_ n1_ n2_;(try clear hb);(try clear hkp);(try clear hy0)))
     go_roundg k1
     case measure=>have:=HK1.out;omega
     case rel=>exact ⟨(t222),(x10_1),(wrap64 (x11_1 - x10_1)),(by first|rfl|(simp;done)|(simp [*];done)),(by first|rfl|(simp;done)|(simp [*];done)),H',⟨by have:=HK1.out;omega⟩,⟨by (with_reducible repeat (first|apply Kd.R_alloc|apply Kd.R_drewN|apply Kd.R_drew));exact HO_0.out⟩,⟨by repeat (first|(with_reducible first|exact HK.out|apply Kept.alloc|apply Kept.drewN|apply Kept.drew)|exact HK.out)⟩,⟨by repeat (first|(with_reducible first|exact HB.out|apply pz3|apply pz1|apply pz2)|exact HB.out)⟩⟩
end Go.Proofs.Zq
end
