/- A part of a proof of statements of this seat: what its walks and its laws lean on; joined by a program of this repo (wip/pack.py) out of the texts QSlicesStableCmpFuncPairAtUntarAttrs2, QSlicesSortStableFuncPairAtUntarAttrs2, XSort, XClone, XAttrs, PaxP, XAtt, Mod3, Mod4, Mod7, XNode, QMktarStrange, QMktarNumber, QOctalLay, QOctalWrite, QMktarDevice, XNode2a. -/
import Derived.Test.YtjghikkboekonaaGreatDoorKAB
import Derived.Test.YtjghikkboekonaaGreatDoorKAC
import Derived.Test.YtjghikkboekonaaGreatDoorKAD
import Derived.Test.YtjghikkboekonaaGreatDoorKAE
import Derived.Test.YtjghikkboekonaaGreatDoorKAF
import Derived.Test.YtjghikkboekonaaGreatDoorKAG
set_option linter.unusedSimpArgs false
set_option linter.unusedVariables false
section
namespace Go.Proofs.Zq
open Go.RowKit Go.Proofs.Zw.PrintWords Go.Proofs.Zw.PrintLast Go.Proofs.Zw.PrintMore
open Go.Proofs.YtjghikkboekonaaGreatDoor (GL)
attribute [local go_sem] max2_int min2_int max_two min_two pz35 pz36 max_four min_four
mutual
def pq8.l0:Nat→List (S169)→Int→Unit→Int→Int→Int→Option ((List (S169)))
 | 0,_,_,_,_,_,_=>none
 | k + 1,x0,x1,x2,x6,x7,x8=>if x8≤x1 then ((pq0.f k x0 x7 x8 x2).bind fun t244=>(pq8.l0 k t244 x1 x2 x6 x8 (wrap64 (x8 + x6)))) else ((pq0.f k x0 x7 x1 x2).bind fun t245=>(pq8.l1 k t245 x1 x2 x6))
def pq8.l1:Nat→List (S169)→Int→Unit→Int→Option ((List (S169)))
 | 0,_,_,_,_=>none
 | k + 1,x0,x1,x2,x6=>if x6<x1 then (pq8.l2 k x0 x1 x2 x6 0 (wrap64 (2 * x6))) else (some x0)
def pq8.l2:Nat→List (S169)→Int→Unit→Int→Int→Int→Option ((List (S169)))
 | 0,_,_,_,_,_,_=>none
 | k + 1,x0,x1,x2,x6,x7,x8=>if x8≤x1 then ((pq5.f k x0 x7 (wrap64 (x7 + x6)) x8 x2).bind fun t246=>(pq8.l2 k t246 x1 x2 x6 x8 (wrap64 (x8 + (wrap64 (2 * x6)))))) else (if (wrap64 (x7 + x6))<x1 then ((pq5.f k x0 x7 (wrap64 (x7 + x6)) x1 x2).bind fun t247=>(pq8.l1 k t247 x1 x2 (wrap64 (x6 * 2)))) else (pq8.l1 k x0 x1 x2 (wrap64 (x6 * 2))))
end
def pq8.f (k:Nat) (l0:List (S169)) (a1:Int) (a2:Unit):Option ((List (S169))):=pq8.l0 k l0 a1 a2 20 0 20
set_option maxHeartbeats 8000000 in
set_option maxRecDepth 100000 in
theorem pq8.calls (k:Nat) (P0_:Nat→Prop) (u9000_:Value) (l0:List (S169)) (a1:Int) (a2:Unit) (r:List (S169)) (w0 w:World) (hB:Below w0.heap.size w0 w) (ho0:Kd.R k169 169 w w0.heap.size P0_ u9000_ l0) (h:pq8.f k l0 a1 a2=some r) :
  Calls Tryz.prog 195 #[u9000_,.int .i64 a1,.func (.func 175) #[] #[]] w fun e w'=>e=.returned (.tuple #[])∧Kd.R k169 169 w' w0.heap.size (fun k_=>(P0_ k_∨w.heap.size≤k_)) u9000_ r∧Below w0.heap.size w0 w'∧Kept w w' (fun k_=>P0_ k_):=by
 have HO0:=pz4.mk (show Kd.R k169 169 w w0.heap.size (fun k_=>(P0_ k_∨w.heap.size≤k_)) u9000_ l0 from Kd.R_mono ho0 (fun k_ hk=>(.inl hk)))
 have HK:=pz4.mk (Kept.refl w (fun k_=>P0_ k_))
 have HW0:=pz4.mk hB.size
 have HB:=pz4.mk hB
 clear hB
 have H:(pq8.l0 k l0 a1 a2 20 0 20)=some r:=h
 clear h
 have H':=pz4.mk H
 clear H
 go_enter Tryz.func195,Tryz.ntmps195
 go_wp2
 go_loopg [7,8] k (fun kq v7 v8 w'=>∃ (x0_1:List (S169)) (x7_1:Int) (x8_1:Int),v7=.int .i64 x7_1∧v8=.int .i64 x8_1∧pz4 (pq8.l0 kq x0_1 a1 a2 20 x7_1 x8_1=some r)∧pz4 (kq≤k)∧pz4 (Kd.R k169 169 w' w0.heap.size (fun k_=>(P0_ k_∨w.heap.size≤k_)) u9000_ x0_1)∧pz4 (Kept w w' (fun k_=>P0_ k_))∧pz4 (Below w0.heap.size w0 w'))
 case atStart=>exact ⟨(l0),(0),(20),(by first|rfl|(simp;done)|(simp [*];done)),(by first|rfl|(simp;done)|(simp [*];done)),H',⟨Nat.le_refl _⟩,⟨by (with_reducible repeat (first|apply Kd.pz16|apply Kd.pz15|apply Kd.pz19));exact HO0.out⟩,⟨by repeat (first|(with_reducible first|exact HK.out|apply Kept.alloc|apply Kept.drewN|apply Kept.drew)|exact HK.out)⟩,⟨by repeat (first|(with_reducible first|exact HB.out|apply pz3|apply pz1|apply pz2)|exact HB.out)⟩⟩
 case round =>
  clear H'
  obtain ⟨x0_1,x7_1,x8_1,rfl,rfl,HA,HK1,HO_0,HK,HB⟩:=hrel
  cases gk with
  | zero=>exact absurd HA.out (by simp [pq8.l0])
  | succ k1 =>
   have H:=HA.out
   clear HA
   simp only [pq8.l0] at H
   by_cases c4:x8_1≤a1
   ·rw [if_pos c4] at H
    have c4b0:decide (x8_1≤a1)=true:=decide_eq_true c4
    clear c4
    replace H:=Option.bind_eq_some_iff.mp H
    obtain ⟨t244,A50,H⟩:=H
    replace H:(pq8.l0 k1 t244 a1 a2 20 x8_1 (wrap64 (x8_1 + 20)))=some r:=H
    have A5:=pz4.mk A50
    clear A50
    have H':=pz4.mk H
    clear H
    obtain ⟨Ao6,co6,eo6⟩:=Kd.R_slice HO_0.out
    subst eo6
    go_wp2_with (first|((with_reducible refine pz8 (f:=206) rfl ?_);refine pz21 (some 18) rfl rfl Tryz.func206 (by kernel_rfl) rfl #[.slice Ao6 x0_1.length co6,.int .i64 x7_1,.int .i64 x8_1,.func (.func 175) #[] #[]] rfl (by (try simp only [pM]);first|done|rfl|(simp only [pL];rfl)) ?_;(with_reducible refine (pq0.calls k1 (fun k_=>some k_=(.slice Ao6 x0_1.length co6:Value).ownBlock) (.slice Ao6 x0_1.length co6) x0_1 x7_1 x8_1 a2 t244 w0 _ ?side1 ?side2 A5.out).mono ?_);(case side1=>repeat (first|(with_reducible first|exact HB.out|apply pz3|apply pz1|apply pz2)|exact HB.out));(case side2=>exact Kd.R_tight rfl HO_0.out);rintro e w7 ⟨rfl,hy0,hb,hkp⟩;refine ⟨_,rfl,?_⟩;have n0_:=pz4.mk (Kd.R_reok rfl hy0 (fun k_ e_=>HO_0.out.1 k_ e_));have n1_:=pz4.mk (Kept.then_ (S:=(fun k_=>P0_ k_)) (by repeat (first|(with_reducible first|exact HK.out|apply Kept.alloc|apply Kept.drewN|apply Kept.drew)|exact HK.out)) hkp (fun k_ hs_=>(fun e_=>(HO_0.out.1 k_ e_.symm)) hs_));have n2_:=pz4.mk (hb);clear HO_0;clear HK;clear HB;have HO_0:=n0_;have HK:=n1_;have HB:=n2_;clear n0_ n1_ n2_;(try clear hb);(try clear hkp);(try clear hy0)))
    go_roundg k1
    case measure=>have:=HK1.out;omega
    case rel=>exact ⟨(t244),(x8_1),(wrap64 (x8_1 + 20)),(by first|rfl|(simp;done)|(simp [*];done)),(by first|rfl|(simp;done)|(simp [*];done)),H',⟨by have:=HK1.out;omega⟩,⟨by (with_reducible repeat (first|apply Kd.pz16|apply Kd.pz15|apply Kd.pz19));exact HO_0.out⟩,⟨by repeat (first|(with_reducible first|exact HK.out|apply Kept.alloc|apply Kept.drewN|apply Kept.drew)|exact HK.out)⟩,⟨by repeat (first|(with_reducible first|exact HB.out|apply pz3|apply pz1|apply pz2)|exact HB.out)⟩⟩
   ·rw [if_neg c4] at H
    have c4b0:decide (x8_1≤a1)=false:=decide_eq_false c4
    clear c4
    replace H:=Option.bind_eq_some_iff.mp H
    obtain ⟨t245,A80,H⟩:=H
    replace H:(pq8.l1 k1 t245 a1 a2 20)=some r:=H
    have A8:=pz4.mk A80
    clear A80
    have H':=pz4.mk H
    clear H
    obtain ⟨Ao9,co9,eo9⟩:=Kd.R_slice HO_0.out
    subst eo9
    go_wp2_with (first|((with_reducible refine pz8 (f:=206) rfl ?_);refine pz21 (some 27) rfl rfl Tryz.func206 (by kernel_rfl) rfl #[.slice Ao9 x0_1.length co9,.int .i64 x7_1,.int .i64 a1,.func (.func 175) #[] #[]] rfl (by (try simp only [pM]);first|done|rfl|(simp only [pL];rfl)) ?_;(with_reducible refine (pq0.calls k1 (fun k_=>some k_=(.slice Ao9 x0_1.length co9:Value).ownBlock) (.slice Ao9 x0_1.length co9) x0_1 x7_1 a1 a2 t245 w0 _ ?side1 ?side2 A8.out).mono ?_);(case side1=>repeat (first|(with_reducible first|exact HB.out|apply pz3|apply pz1|apply pz2)|exact HB.out));(case side2=>exact Kd.R_tight rfl HO_0.out);rintro e w10 ⟨rfl,hy0,hb,hkp⟩;refine ⟨_,rfl,?_⟩;have n0_:=pz4.mk (Kd.R_reok rfl hy0 (fun k_ e_=>HO_0.out.1 k_ e_));have n1_:=pz4.mk (Kept.then_ (S:=(fun k_=>P0_ k_)) (by repeat (first|(with_reducible first|exact HK.out|apply Kept.alloc|apply Kept.drewN|apply Kept.drew)|exact HK.out)) hkp (fun k_ hs_=>(fun e_=>(HO_0.out.1 k_ e_.symm)) hs_));have n2_:=pz4.mk (hb);clear HO_0;clear HK;clear HB;have HO_0:=n0_;have HK:=n1_;have HB:=n2_;clear n0_ n1_ n2_;(try clear hb);(try clear hkp);(try clear hy0)))
    go_frame
    go_loopg [6] k1 (fun kq v6 w'=>∃ (x0_2:List (S169)) (x6_2:Int),v6=.int .i64 x6_2∧pz4 (pq8.l1 kq x0_2 a1 a2 x6_2=some r)∧pz4 (kq≤k1)∧pz4 (Kd.R k169 169 w' w0.heap.size (fun k_=>(P0_ k_∨w.heap.size≤k_)) (.slice Ao9 x0_1.length co9) x0_2)∧pz4 (Kept w w' (fun k_=>P0_ k_))∧pz4 (Below w0.heap.size w0 w'))
    case atStart=>exact ⟨(t245),(20),(by first|rfl|(simp;done)|(simp [*];done)),H',⟨Nat.le_refl _⟩,⟨by (with_reducible repeat (first|apply Kd.pz16|apply Kd.pz15|apply Kd.pz19));exact HO_0.out⟩,⟨by repeat (first|(with_reducible first|exact HK.out|apply Kept.alloc|apply Kept.drewN|apply Kept.drew)|exact HK.out)⟩,⟨by repeat (first|(with_reducible first|exact HB.out|apply pz3|apply pz1|apply pz2)|exact HB.out)⟩⟩
    case round =>
     clear H'
     try clear c4;try clear c4b0
     obtain ⟨x0_2,x6_2,rfl,HA,HK2,HO_0,HK,HB⟩:=hrel
     have hl0_2:=(Kd.R_reads' HO_0.out).1
     rw [hl0_2] at HO_0
     (try simp only [hl0_2])
     cases gk with
     | zero=>exact absurd HA.out (by simp [pq8.l1])
     | succ k2 =>
      have H:=HA.out
      clear HA
      simp only [pq8.l1] at H
      by_cases c11:x6_2<a1
      ·rw [if_pos c11] at H
       have c11b0:decide (x6_2<a1)=true:=decide_eq_true c11
       clear c11
       have H':=pz4.mk H
       clear H
       go_wp2
       go_loopg [7,8] k2 (fun kq v7 v8 w'=>∃ (x0_3:List (S169)) (x7_3:Int) (x8_3:Int),v7=.int .i64 x7_3∧v8=.int .i64 x8_3∧pz4 (pq8.l2 kq x0_3 a1 a2 x6_2 x7_3 x8_3=some r)∧pz4 (kq≤k2)∧pz4 (Kd.R k169 169 w' w0.heap.size (fun k_=>(P0_ k_∨w.heap.size≤k_)) (.slice Ao9 x0_2.length co9) x0_3)∧pz4 (Kept w w' (fun k_=>P0_ k_))∧pz4 (Below w0.heap.size w0 w'))
       case atStart=>exact ⟨(x0_2),(0),(wrap64 (2 * x6_2)),(by first|rfl|(simp;done)|(simp [*];done)),(by first|rfl|(simp;done)|(simp [*];done)),H',⟨Nat.le_refl _⟩,⟨by (try simp only [hl0_2]);(with_reducible repeat (first|apply Kd.pz16|apply Kd.pz15|apply Kd.pz19));exact HO_0.out⟩,⟨by repeat (first|(with_reducible first|exact HK.out|apply Kept.alloc|apply Kept.drewN|apply Kept.drew)|exact HK.out)⟩,⟨by repeat (first|(with_reducible first|exact HB.out|apply pz3|apply pz1|apply pz2)|exact HB.out)⟩⟩
       case round =>
        clear H'
        try clear c4;try clear c4b0;try clear c11;try clear c11b0
        obtain ⟨x0_3,x7_3,x8_3,rfl,rfl,HA,HK3,HO_0,HK,HB⟩:=hrel
        have hl0_3:=(Kd.R_reads' HO_0.out).1
        rw [hl0_3] at HO_0
        (try simp only [hl0_3])
        cases gk with
        | zero=>exact absurd HA.out (by simp [pq8.l2])
        | succ k3 =>
         have H:=HA.out
         clear HA
         simp only [pq8.l2] at H
         by_cases c12:x8_3≤a1
         ·rw [if_pos c12] at H
          have c12b0:decide (x8_3≤a1)=true:=decide_eq_true c12
          clear c12
          replace H:=Option.bind_eq_some_iff.mp H
          obtain ⟨t246,A130,H⟩:=H
          replace H:(pq8.l2 k3 t246 a1 a2 x6_2 x8_3 (wrap64 (x8_3 + (wrap64 (2 * x6_2)))))=some r:=H
          have A13:=pz4.mk A130
          clear A130
          have H':=pz4.mk H
          clear H
          go_wp2_with (first|((with_reducible refine pz8 (f:=207) rfl ?_);refine pz21 (some 43) rfl rfl Tryz.func207 (by kernel_rfl) rfl #[.slice Ao9 x0_3.length co9,.int .i64 x7_3,.int .i64 (wrap64 (x7_3 + x6_2)),.int .i64 x8_3,.func (.func 175) #[] #[]] rfl (by (try simp only [pM]);first|done|rfl|(simp only [pL];rfl)) ?_;(with_reducible refine (pq5.calls k3 (fun k_=>some k_=(.slice Ao9 x0_3.length co9:Value).ownBlock) (.slice Ao9 x0_3.length co9) x0_3 x7_3 (wrap64 (x7_3 + x6_2)) x8_3 a2 t246 w0 _ ?side1 ?side2 A13.out).mono ?_);(case side1=>repeat (first|(with_reducible first|exact HB.out|apply pz3|apply pz1|apply pz2)|exact HB.out));(case side2=>exact Kd.R_tight rfl HO_0.out);rintro e w14 ⟨rfl,hy0,hb,hkp⟩;refine ⟨_,rfl,?_⟩;have n0_:=pz4.mk (Kd.R_reok rfl hy0 (fun k_ e_=>HO_0.out.1 k_ e_));have n1_:=pz4.mk (Kept.then_ (S:=(fun k_=>P0_ k_)) (by repeat (first|(with_reducible first|exact HK.out|apply Kept.alloc|apply Kept.drewN|apply Kept.drew)|exact HK.out)) hkp (fun k_ hs_=>(fun e_=>(HO_0.out.1 k_ e_.symm)) hs_));have n2_:=pz4.mk (hb);clear HO_0;clear HK;clear HB;have HO_0:=n0_;have HK:=n1_;have HB:=n2_;clear n0_ n1_ n2_;(try clear hb);(try clear hkp);(try clear hy0)))
          (try simp only [← hl0_3])
          go_roundg k3
          case measure=>have:=HK1.out;have:=HK2.out;have:=HK3.out;omega
          case rel=>exact ⟨(t246),(x8_3),(wrap64 (x8_3 + (wrap64 (2 * x6_2)))),(by first|rfl|(simp;done)|(simp [*];done)),(by first|rfl|(simp;done)|(simp [*];done)),H',⟨by have:=HK1.out;have:=HK2.out;have:=HK3.out;omega⟩,⟨by (try simp only [hl0_2]);(try simp only [hl0_3]);(with_reducible repeat (first|apply Kd.pz16|apply Kd.pz15|apply Kd.pz19));exact HO_0.out⟩,⟨by repeat (first|(with_reducible first|exact HK.out|apply Kept.alloc|apply Kept.drewN|apply Kept.drew)|exact HK.out)⟩,⟨by repeat (first|(with_reducible first|exact HB.out|apply pz3|apply pz1|apply pz2)|exact HB.out)⟩⟩
         ·rw [if_neg c12] at H
          have c12b0:decide (x8_3≤a1)=false:=decide_eq_false c12
          clear c12
          by_cases c15:(wrap64 (x7_3 + x6_2))<a1
          ·rw [if_pos c15] at H
           have c15b0:decide ((wrap64 (x7_3 + x6_2))<a1)=true:=decide_eq_true c15
           clear c15
           replace H:=Option.bind_eq_some_iff.mp H
           obtain ⟨t247,A160,H⟩:=H
           replace H:(pq8.l1 k3 t247 a1 a2 (wrap64 (x6_2 * 2)))=some r:=H
           have A16:=pz4.mk A160
           clear A160
           have H':=pz4.mk H
           clear H
           go_wp2_with (first|((with_reducible refine pz8 (f:=207) rfl ?_);refine pz21 (some 60) rfl rfl Tryz.func207 (by kernel_rfl) rfl #[.slice Ao9 x0_3.length co9,.int .i64 x7_3,.int .i64 (wrap64 (x7_3 + x6_2)),.int .i64 a1,.func (.func 175) #[] #[]] rfl (by (try simp only [pM]);first|done|rfl|(simp only [pL];rfl)) ?_;(with_reducible refine (pq5.calls k3 (fun k_=>some k_=(.slice Ao9 x0_3.length co9:Value).ownBlock) (.slice Ao9 x0_3.length co9) x0_3 x7_3 (wrap64 (x7_3 + x6_2)) a1 a2 t247 w0 _ ?side1 ?side2 A16.out).mono ?_);(case side1=>repeat (first|(with_reducible first|exact HB.out|apply pz3|apply pz1|apply pz2)|exact HB.out));(case side2=>exact Kd.R_tight rfl HO_0.out);rintro e w17 ⟨rfl,hy0,hb,hkp⟩;refine ⟨_,rfl,?_⟩;have n0_:=pz4.mk (Kd.R_reok rfl hy0 (fun k_ e_=>HO_0.out.1 k_ e_));have n1_:=pz4.mk (Kept.then_ (S:=(fun k_=>P0_ k_)) (by repeat (first|(with_reducible first|exact HK.out|apply Kept.alloc|apply Kept.drewN|apply Kept.drew)|exact HK.out)) hkp (fun k_ hs_=>(fun e_=>(HO_0.out.1 k_ e_.symm)) hs_));have n2_:=pz4.mk (hb);clear HO_0;clear HK;clear HB;have HO_0:=n0_;have HK:=n1_;have HB:=n2_;clear n0_ n1_ n2_;(try clear hb);(try clear hkp);(try clear hy0)))
           (try simp only [← hl0_2,← hl0_3])
           go_roundg k3
           case measure=>have:=HK1.out;have:=HK2.out;have:=HK3.out;omega
           case rel=>exact ⟨(t247),(wrap64 (x6_2 * 2)),(by first|rfl|(simp;done)|(simp [*];done)),H',⟨by have:=HK1.out;have:=HK2.out;have:=HK3.out;omega⟩,⟨by (try simp only [hl0_2]);(try simp only [hl0_3]);(with_reducible repeat (first|apply Kd.pz16|apply Kd.pz15|apply Kd.pz19));exact HO_0.out⟩,⟨by repeat (first|(with_reducible first|exact HK.out|apply Kept.alloc|apply Kept.drewN|apply Kept.drew)|exact HK.out)⟩,⟨by repeat (first|(with_reducible first|exact HB.out|apply pz3|apply pz1|apply pz2)|exact HB.out)⟩⟩
          ·rw [if_neg c15] at H
           have c15b0:decide ((wrap64 (x7_3 + x6_2))<a1)=false:=decide_eq_false c15
           clear c15
           have H':=pz4.mk H
           clear H
           go_wp2
           (try simp only [← hl0_2,← hl0_3])
           go_roundg k3
           case measure=>have:=HK1.out;have:=HK2.out;have:=HK3.out;omega
           case rel=>exact ⟨(x0_3),(wrap64 (x6_2 * 2)),(by first|rfl|(simp;done)|(simp [*];done)),H',⟨by have:=HK1.out;have:=HK2.out;have:=HK3.out;omega⟩,⟨by (try simp only [hl0_2]);(try simp only [hl0_3]);(with_reducible repeat (first|apply Kd.pz16|apply Kd.pz15|apply Kd.pz19));exact HO_0.out⟩,⟨by repeat (first|(with_reducible first|exact HK.out|apply Kept.alloc|apply Kept.drewN|apply Kept.drew)|exact HK.out)⟩,⟨by repeat (first|(with_reducible first|exact HB.out|apply pz3|apply pz1|apply pz2)|exact HB.out)⟩⟩
      ·rw [if_neg c11] at H
       have c11b0:decide (x6_2<a1)=false:=decide_eq_false c11
       clear c11
       obtain rfl:=Option.some.inj H
       go_wp2
       first|go_end0|((try simp only [Exit.inBlock,Exit.then]);refine bodyPost_ret (results_none rfl _ _ _) rfl ?_)
       exact ⟨by first|rfl|(simp [pz6,pz5] <;> rfl)|(simp [*,pz6,pz5] <;> rfl),(by first|exact (by (with_reducible repeat (first|apply Kd.pz16|apply Kd.pz15|apply Kd.pz19));exact HO_0.out)|(simp only [hl0_2];exact (by (with_reducible repeat (first|apply Kd.pz16|apply Kd.pz15|apply Kd.pz19));exact HO_0.out))),by repeat (first|(with_reducible first|exact HB.out|apply pz3|apply pz1|apply pz2)|exact HB.out),by repeat (first|(with_reducible first|exact HK.out|apply Kept.alloc|apply Kept.drewN|apply Kept.drew)|exact HK.out)⟩
def slices_SortStableFunc_Pair_at_untar_Attrs_2.f (k:Nat) (l0:List (S169)) (a1:Unit):Option ((List (S169))):=(pq8.f k l0 (l0.length:Int) a1).bind fun t248=>(some t248)
set_option maxHeartbeats 8000000 in
set_option maxRecDepth 100000 in
theorem slices_SortStableFunc_Pair_at_untar_Attrs_2.calls (k:Nat) (P0_:Nat→Prop) (u9000_:Value) (l0:List (S169)) (a1:Unit) (r:List (S169)) (w0 w:World) (hB:Below w0.heap.size w0 w) (ho0:Kd.R k169 169 w w0.heap.size P0_ u9000_ l0) (h:slices_SortStableFunc_Pair_at_untar_Attrs_2.f k l0 a1=some r) :
  Calls Tryz.prog 174 #[u9000_,.func (.func 175) #[] #[]] w fun e w'=>e=.returned (.tuple #[])∧Kd.R k169 169 w' w0.heap.size (fun k_=>(P0_ k_∨w.heap.size≤k_)) u9000_ r∧Below w0.heap.size w0 w'∧Kept w w' (fun k_=>P0_ k_):=by
 have HO0:=pz4.mk (show Kd.R k169 169 w w0.heap.size (fun k_=>(P0_ k_∨w.heap.size≤k_)) u9000_ l0 from Kd.R_mono ho0 (fun k_ hk=>(.inl hk)))
 have HK:=pz4.mk (Kept.refl w (fun k_=>P0_ k_))
 have HW0:=pz4.mk hB.size
 have HB:=pz4.mk hB
 clear hB
 have H:((pq8.f k l0 (l0.length:Int) a1).bind fun t248=>(some t248))=some r:=h
 clear h
 replace H:=Option.bind_eq_some_iff.mp H
 obtain ⟨t248,A30,H⟩:=H
 replace H:(some t248)=some r:=H
 have A3:=pz4.mk A30
 clear A30
 obtain rfl:=Option.some.inj H
 obtain ⟨Ao4,co4,eo4⟩:=Kd.R_slice HO0.out
 subst eo4
 go_enter Tryz.func174,Tryz.ntmps174
 go_wp2_with (first|((with_reducible refine pz8 (f:=195) rfl ?_);refine pz21 (some 8) rfl rfl Tryz.func195 (by kernel_rfl) rfl #[.slice Ao4 l0.length co4,.int .i64 (l0.length:Int),.func (.func 175) #[] #[]] rfl (by (try simp only [pM]);first|done|rfl|(simp only [pL];rfl)) ?_;(with_reducible refine (pq8.calls k (fun k_=>some k_=(.slice Ao4 l0.length co4:Value).ownBlock) (.slice Ao4 l0.length co4) l0 (l0.length:Int) a1 t248 w0 _ ?side1 ?side2 A3.out).mono ?_);(case side1=>repeat (first|(with_reducible first|exact HB.out|apply pz3|apply pz1|apply pz2)|exact HB.out));(case side2=>exact Kd.R_tight rfl HO0.out);rintro e w5 ⟨rfl,hy0,hb,hkp⟩;refine ⟨_,rfl,?_⟩;have n0_:=pz4.mk (Kd.R_reok rfl hy0 (fun k_ e_=>HO0.out.1 k_ e_));have n1_:=pz4.mk (Kept.then_ (S:=(fun k_=>P0_ k_)) (by repeat (first|(with_reducible first|exact HK.out|apply Kept.alloc|apply Kept.drewN|apply Kept.drew)|exact HK.out)) hkp (fun k_ hs_=>(fun e_=>(HO0.out.1 k_ e_.symm)) hs_));have n2_:=pz4.mk (hb);clear HO0;clear HK;clear HB;have HO0:=n0_;have HK:=n1_;have HB:=n2_;clear n0_ n1_ n2_;(try clear hb);(try clear hkp);(try clear hy0)))
 first|go_end0|((try simp only [Exit.inBlock,Exit.then]);refine bodyPost_ret (results_none rfl _ _ _) rfl ?_)
 exact ⟨by first|rfl|(simp [pz6,pz5] <;> rfl)|(simp [*,pz6,pz5] <;> rfl),by (with_reducible repeat (first|apply Kd.pz16|apply Kd.pz15|apply Kd.pz19));exact HO0.out,by repeat (first|(with_reducible first|exact HB.out|apply pz3|apply pz1|apply pz2)|exact HB.out),by repeat (first|(with_reducible first|exact HK.out|apply Kept.alloc|apply Kept.drewN|apply Kept.drew)|exact HK.out)⟩
end Go.Proofs.Zq
end
section
namespace Go.Proofs.Zq
open Go.RowKit Go.Proofs.YtjghikkboekonaaGreatDoor Go.Proofs.Zw.PrintWords Go.Proofs.Zw.PrintLast Go.Proofs.Zw.PrintMore
open Go.Proofs.Zt (Dp lsD swp swR rot mvd mvu Mixed Parts Merged InOrd Fresh StA StB BlkOrd zipF sortP cmpS)
def lay (N:Nat) (f:Nat→Dp):List S169:=(List.range N).map fun i=>ofPr (f i).1
theorem lay_len (N:Nat) (f:Nat→Dp):(lay N f).length=N:=by simp [lay]
theorem lay_rd {N:Nat} (f:Nat→Dp) {i:Nat} (h:i<N):rd_T169 (lay N f) (i:Int)=ofPr (f i).1:=by
 unfold rd_T169 lay
 rw [show ((i:Nat):Int).toNat=i from rfl,List.getD_eq_getElem?_getD]
 simp [h]
theorem lay_set {N:Nat} (f:Nat→Dp) {i j:Nat} (hi:i<N) (hj:j<N):((lay N f).set i (ofPr (f j).1)).set j (ofPr (f i).1)=lay N (swp f i j):=by
 apply List.ext_getElem
 ·simp [lay]
 ·intro k h1 h2
  have hk:k<N:=by simpa [lay] using h2
  simp only [List.getElem_set,lay,List.getElem_map,List.getElem_range,swp]
  by_cases a:j=k
  ·subst a
   rw [if_pos rfl]
   by_cases b:j=i
   ·subst b;simp
   ·rw [if_neg b,if_pos rfl]
  ·rw [if_neg a]
   by_cases b:i=k
   ·subst b;simp
   ·rw [if_neg b,if_neg (fun e=>b e.symm),if_neg (fun e=>a e.symm)]
theorem lay_swap {N:Nat} (f:Nat→Dp) {i j:Nat} (hi:i<N) (hj:j<N) :
  ((lay N f).set ((i:Nat):Int).toNat (⟨(rd_T169 (lay N f) (j:Int)).f0,(rd_T169 (lay N f) (j:Int)).f1⟩:S169)).set ((j:Nat):Int).toNat (⟨(rd_T169 (lay N f) (i:Int)).f0,(rd_T169 (lay N f) (i:Int)).f1⟩:S169)=lay N (swp f i j):=by
 rw [lay_rd f hi,lay_rd f hj,← lay_set f hi hj]
 rfl
theorem wadd {a b:Nat} (h:a + b≤9223372036854775807):wrap64 ((a:Int) + (b:Int))=((a + b:Nat):Int):=by rw [wrap_in (by omega) (by omega)];omega
theorem wadd1 {a:Nat} (h:a + 1≤9223372036854775807):wrap64 ((a:Int) + 1)=((a + 1:Nat):Int):=by rw [wrap_in (by omega) (by omega)];omega
theorem wsub {a b:Nat} (h:b≤a) (h2:a≤9223372036854775807):wrap64 ((a:Int) - (b:Int))=((a - b:Nat):Int):=by rw [wrap_in (by omega) (by omega)];omega
theorem wsub1 {a:Nat} (h:1≤a) (h2:a≤9223372036854775807):wrap64 ((a:Int) - 1)=((a - 1:Nat):Int):=by rw [wrap_in (by omega) (by omega)];omega
theorem whalf {a b:Nat} (h:a + b≤9223372036854775807):wrap64 ((IntKind.u64.wrap (wrap64 ((a:Int) + (b:Int)))) / 2)=(((a + b) / 2:Nat):Int):=by
 rw [wadd h]
 have:IntKind.u64.wrap ((a + b:Nat):Int)=((a + b:Nat):Int):=by show ((a + b:Nat):Int) % 18446744073709551616=_;omega
 rw [this,wrap_in (by omega) (by omega)];omega
theorem cmp_f (p q:Str×Str):pq12.f (ofPr p).f0 (ofPr p).f1 (ofPr q).f0 (ofPr q).f1=some (cmpS p.1 q.1):=by
 unfold pq12.f strings_Compare.f
 simp only [Option.bind_some]
 exact congrArg some (cmpS_lib _ _)
theorem cmp_ev {N:Nat} (f:Nat→Dp) {i j:Nat} (hi:i<N) (hj:j<N) :
  pq12.f (rd_T169 (lay N f) (i:Int)).f0 (rd_T169 (lay N f) (i:Int)).f1 (rd_T169 (lay N f) (j:Int)).f0 (rd_T169 (lay N f) (j:Int)).f1=some (cmpS (f i).1.1 (f j).1.1):=by
 rw [lay_rd f hi,lay_rd f hj,cmp_f]
theorem swapR_l (N a b n:Nat) (h1:a + n≤b) (h2:b + n≤N) (hN:N≤1000000000) (f:Nat→Dp):∀ d i,i + d=n →
  Ev (fun k=>pq3.l0 k (lay N (swR f a b i)) a b n i) (lay N (swR f a b n)):=by
 intro d
 induction d with
 | zero =>
  intro i hi
  obtain rfl:i=n:=by omega
  exact Ev.step (f:=fun _=>some (lay N (swR f a b i))) (fun k=>by simp only [pq3.l0];rw [if_neg (by omega)]) (Ev.now _)
 | succ d ih =>
  intro i hi
  refine Ev.step (f:=fun k=>pq3.l0 k (lay N (swR f a b (i + 1))) a b n (i + 1:Nat)) (fun k=>?_) (ih (i + 1) (by omega))
  simp only [pq3.l0,lay_len]
  rw [if_pos (by omega),wadd (a:=b) (by omega),wadd (a:=a) (by omega),wadd1 (by omega),if_pos (by omega),if_pos (by omega),if_pos (by omega),if_pos (by omega),lay_swap _ (by omega) (by omega),Zt.swR_step f (by omega)]
theorem swapR_ev (N a b n:Nat) (h1:a + n≤b) (h2:b + n≤N) (hN:N≤1000000000) (f:Nat→Dp) :
  Ev (fun k=>pq3.f k (lay N f) a b n ()) (lay N (swR f a b n)):=by
 have:=swapR_l N a b n h1 h2 hN f n 0 (by omega)
 rw [Zt.swR_zero] at this
 exact this
theorem swR_mixed (f:Nat→Dp) {a b lo hi:Nat}:∀ n,a + n≤b→b + n≤hi→lo≤a→Mixed f (swR f a b n) lo hi
 | 0,_,_,_=>by rw [Zt.swR_zero];exact Mixed.refl _ _ _
 | n + 1,h1,h2,h3=>by
  rw [← Zt.swR_step f h1]
  exact (swR_mixed f n (by omega) (by omega) h3).trans (Zt.swp_mixed _ (by omega) (by omega) (by omega) (by omega))
theorem rot_l (N m:Nat) (hN:N≤1000000000):∀ s i j (f:Nat→Dp),i + j≤s→0<i→0<j→i≤m→m + j≤N →
  Ev (fun k=>pq7.l0 k (lay N f) m () i j) (lay N (rot f (m - i) m (m + j)))∧Mixed f (rot f (m - i) m (m + j)) (m - i) (m + j):=by
 intro s
 induction s with
 | zero=>intro i j f h h1;omega
 | succ s ih =>
  intro i j f h h1 h2 h3 h4
  rcases Nat.lt_trichotomy i j with hl|rfl|hl
  ·obtain ⟨e,hm⟩:=ih i (j - i) (swR f (m - i) (m + j - i) i) (by omega) h1 (by omega) h3 (by omega)
   rw [Zt.rot_less f h3 hl] at e hm
   refine ⟨Ev.step (f:=fun k=>(pq3.f k (lay N f) (m - i:Nat) (m + j - i:Nat) i ()).bind fun x=>pq7.l0 k x m () i (j - i:Nat)) (fun k=>?_) (Ev.bind (swapR_ev N _ _ i (by omega) (by omega) hN f) e),(swR_mixed f i (by omega) (by omega) (Nat.le_refl _)).trans (hm.wider (Nat.le_refl _) (by omega) (by omega))⟩
   simp only [pq7.l0]
   rw [if_neg (by omega),if_neg (by omega),wsub h3 (by omega),wadd (by omega),wsub (by omega) (by omega),wsub (by omega) (by omega)]
  ·refine ⟨Ev.step (f:=fun k=>(pq3.f k (lay N f) (m - i:Nat) m i ()).bind fun x=>some x) (fun k=>?_) (Ev.bind (swapR_ev N _ _ i (by omega) (by omega) hN f) (by rw [Zt.rot_even f h3];exact Ev.now _)),by rw [← Zt.rot_even f h3];exact swR_mixed f i (by omega) (by omega) (Nat.le_refl _)⟩
   simp only [pq7.l0]
   rw [if_pos trivial,wsub h3 (by omega)]
  ·obtain ⟨e,hm⟩:=ih (i - j) j (swR f (m - i) m j) (by omega) (by omega) h2 (by omega) h4
   rw [Zt.rot_more f h3 hl] at e hm
   refine ⟨Ev.step (f:=fun k=>(pq3.f k (lay N f) (m - i:Nat) m j ()).bind fun x=>pq7.l0 k x m () (i - j:Nat) j) (fun k=>?_) (Ev.bind (swapR_ev N _ _ j (by omega) (by omega) hN f) e),(swR_mixed f j (by omega) (by omega) (Nat.le_refl _)).trans (hm.wider (by omega) (Nat.le_refl _) (by omega))⟩
   simp only [pq7.l0]
   rw [if_neg (by omega),if_pos (by omega),wsub h3 (by omega),wsub (by omega) (by omega)]
theorem rot_ev (N a m b:Nat) (hN:N≤1000000000) (h1:a<m) (h2:m<b) (h3:b≤N) (f:Nat→Dp) :
  Ev (fun k=>pq7.f k (lay N f) a m b ()) (lay N (rot f a m b))∧Mixed f (rot f a m b) a b:=by
 obtain ⟨e,hm⟩:=rot_l N m hN _ (m - a) (b - m) f (Nat.le_refl _) (by omega) (by omega) (by omega) (by omega)
 rw [show m - (m - a)=a from by omega,show m + (b - m)=b from by omega] at e hm
 refine ⟨Ev.congr (f:=fun k=>pq7.l0 k (lay N f) m () (m - a:Nat) (b - m:Nat)) (fun k=>?_) e,hm⟩
 unfold pq7.f
 rw [wsub (by omega) (by omega),wsub (by omega) (by omega)]
theorem rot_triv (f:Nat→Dp) {s m e:Nat} (h:s=m∨m=e):rot f s m e=f:=by
 funext k
 unfold rot
 repeat' split
 all_goals first|rfl|(exfalso;omega)|(congr 1;omega)
theorem sym1_l (N a i:Nat) (hN:N≤1000000000) (hi:a<i) (hiN:i≤N) (f:Nat→Dp):∀ d c,c + d=i - 1→a≤c →
  Ev (fun k=>pq5.l1 k (lay N (mvu f a c)) i c) (lay N (mvu f a (i - 1))):=by
 intro d
 induction d with
 | zero =>
  intro c hc ha
  obtain rfl:c=i - 1:=by omega
  exact Ev.step (f:=fun _=>some (lay N (mvu f a (i - 1)))) (fun k=>by simp only [pq5.l1];rw [wsub1 (by omega) (by omega),if_neg (by omega)]) (Ev.now _)
 | succ d ih =>
  intro c hc ha
  refine Ev.step (f:=fun k=>pq5.l1 k (lay N (mvu f a (c + 1))) i (c + 1:Nat)) (fun k=>?_) (ih (c + 1) (by omega) (by omega))
  simp only [pq5.l1,lay_len]
  rw [wsub1 (by omega) (by omega),wadd1 (by omega),if_pos (by omega),if_pos (by omega),if_pos (by omega),if_pos (by omega),if_pos (by omega),lay_swap _ (by omega) (by omega),Zt.mvu_step f ha]
theorem mvu_mixed (f:Nat→Dp) {a b:Nat}:∀ d,a + d<b→Mixed f (mvu f a (a + d)) a b
 | 0,_=>by rw [Nat.add_zero,Zt.mvu_same];exact Mixed.refl _ _ _
 | d + 1,h=>by
  rw [← Nat.add_assoc,← Zt.mvu_step f (by omega)]
  exact (mvu_mixed f d (by omega)).trans (Zt.swp_mixed _ (by omega) (by omega) (by omega) (by omega))
theorem sym0_l (N a b:Nat) (hN:N≤1000000000) (f:Nat→Dp) (hp:Parts f a (a + 1) b) (hb:b≤N):∀ d i j,j - i≤d→a + 1≤i→i≤j→j≤b →
  (a + 1<i→lsD (f (i - 1)) (f a)=true)→(j<b→lsD (f j) (f a)=false) →
  ∃ g,Ev (fun k=>pq5.l0 k (lay N f) a i j) (lay N g)∧Merged f g a b:=by
 intro d
 induction d with
 | zero =>
  intro i j hd hi hij hj q1 q2
  obtain rfl:i=j:=by omega
  have hm:Mixed f (mvu f a (i - 1)) a b:=by
   have:=mvu_mixed f (a:=a) (b:=b) (i - 1 - a) (by omega)
   rwa [show a + (i - 1 - a)=i - 1 from by omega] at this
  refine ⟨mvu f a (i - 1),Ev.step (f:=fun k=>pq5.l1 k (lay N f) i a) (fun k=>?_) ?_,Zt.merge_first hp hi hj q1 q2 hm⟩
  ·simp only [pq5.l0];rw [if_neg (by omega)]
  ·have:=sym1_l N a i hN (by omega) (by omega) f (i - 1 - a) a (by omega) (Nat.le_refl _)
   rwa [Zt.mvu_same] at this
 | succ d ih =>
  intro i j hd hi hij hj q1 q2
  by_cases he:i=j
  ·exact ih i j (by omega) hi hij hj q1 q2
  ·have hcmp:lsD (f ((i + j) / 2)) (f a)=decide (cmpS (f ((i + j) / 2)).1.1 (f a).1.1<0):=Zt.lsD_later (hp.apart a ((i + j) / 2) (Nat.le_refl _) (by omega) (by omega) (by omega))
   by_cases c:cmpS (f ((i + j) / 2)).1.1 (f a).1.1<0
   ·obtain ⟨g,e,hm⟩:=ih ((i + j) / 2 + 1) j (by omega) (by omega) (by omega) hj (fun _=>by rw [Nat.add_sub_cancel,hcmp];exact decide_eq_true c) q2
    refine ⟨g,Ev.step (f:=fun k=>pq5.l0 k (lay N f) a ((i + j) / 2 + 1:Nat) j) (fun k=>?_) e,hm⟩
    simp only [pq5.l0,lay_len]
    rw [whalf (by omega),if_pos (by omega),if_pos (by omega),if_pos (by omega),if_pos (by omega),if_pos (by omega),cmp_ev f (by omega) (by omega)]
    simp only [Option.bind_some]
    rw [if_pos c,wadd1 (by omega)]
   ·obtain ⟨g,e,hm⟩:=ih i ((i + j) / 2) (by omega) hi (by omega) (by omega) q1 (fun _=>by rw [hcmp];exact decide_eq_false c)
    refine ⟨g,Ev.step (f:=fun k=>pq5.l0 k (lay N f) a i ((i + j) / 2:Nat)) (fun k=>?_) e,hm⟩
    simp only [pq5.l0,lay_len]
    rw [whalf (by omega),if_pos (by omega),if_pos (by omega),if_pos (by omega),if_pos (by omega),if_pos (by omega),cmp_ev f (by omega) (by omega)]
    simp only [Option.bind_some]
    rw [if_neg c]
theorem sym3_l (N m i:Nat) (hN:N≤1000000000) (hmN:m<N) (f:Nat→Dp):∀ d c,i + d=c→c≤m →
  Ev (fun k=>pq5.l3 k (lay N (mvd f m c)) i c) (lay N (mvd f m i)):=by
 intro d
 induction d with
 | zero =>
  intro c hc ha
  obtain rfl:c=i:=by omega
  exact Ev.step (f:=fun _=>some (lay N (mvd f m c))) (fun k=>by simp only [pq5.l3];rw [if_neg (by omega)]) (Ev.now _)
 | succ d ih =>
  intro c hc ha
  refine Ev.step (f:=fun k=>pq5.l3 k (lay N (mvd f m (c - 1))) i (c - 1:Nat)) (fun k=>?_) (ih (c - 1) (by omega) (by omega))
  simp only [pq5.l3,lay_len]
  rw [wsub1 (by omega) (by omega),if_pos (by omega),if_pos (by omega),if_pos (by omega),if_pos (by omega),if_pos (by omega),lay_swap _ (by omega) (by omega),Zt.mvd_step f (by omega) ha]
theorem mvd_mixed (f:Nat→Dp) {a m:Nat}:∀ d,a + d≤m→Mixed f (mvd f m (m - d)) a (m + 1)
 | 0,_=>by rw [Nat.sub_zero,Zt.mvd_same];exact Mixed.refl _ _ _
 | d + 1,h=>by
  rw [show m - (d + 1)=m - d - 1 from by omega,← Zt.mvd_step f (by omega) (by omega)]
  exact (mvd_mixed f d (by omega)).trans (Zt.swp_mixed _ (by omega) (by omega) (by omega) (by omega))
theorem sym2_l (N a m:Nat) (hN:N≤1000000000) (f:Nat→Dp) (hp:Parts f a m (m + 1)) (hb:m + 1≤N):∀ d i j,j - i≤d→a≤i→i≤j→j≤m →
  (a<i→lsD (f m) (f (i - 1))=false)→(j<m→lsD (f m) (f j)=true) →
  ∃ g,Ev (fun k=>pq5.l2 k (lay N f) m i j) (lay N g)∧Merged f g a (m + 1):=by
 intro d
 induction d with
 | zero =>
  intro i j hd hi hij hj q1 q2
  obtain rfl:i=j:=by omega
  have hm:Mixed f (mvd f m i) a (m + 1):=by
   have:=mvd_mixed f (a:=a) (m:=m) (m - i) (by omega)
   rwa [show m - (m - i)=i from by omega] at this
  refine ⟨mvd f m i,Ev.step (f:=fun k=>pq5.l3 k (lay N f) i m) (fun k=>?_) ?_,hm,Zt.merge_last hp.one hi hj q1 q2⟩
  ·simp only [pq5.l2];rw [if_neg (by omega)]
  ·have:=sym3_l N m i hN (by omega) f (m - i) m (by omega) (Nat.le_refl _)
   rwa [Zt.mvd_same] at this
 | succ d ih =>
  intro i j hd hi hij hj q1 q2
  by_cases he:i=j
  ·exact ih i j (by omega) hi hij hj q1 q2
  ·have hcmp:lsD (f m) (f ((i + j) / 2))=decide (cmpS (f m).1.1 (f ((i + j) / 2)).1.1<0):=Zt.lsD_later (hp.apart ((i + j) / 2) m (by omega) (by omega) (Nat.le_refl _) (by omega))
   by_cases c:cmpS (f m).1.1 (f ((i + j) / 2)).1.1<0
   ·obtain ⟨g,e,hm⟩:=ih i ((i + j) / 2) (by omega) hi (by omega) (by omega) q1 (fun _=>by rw [hcmp];exact decide_eq_true c)
    refine ⟨g,Ev.step (f:=fun k=>pq5.l2 k (lay N f) m i ((i + j) / 2:Nat)) (fun k=>?_) e,hm⟩
    simp only [pq5.l2,lay_len]
    rw [whalf (by omega),if_pos (by omega),if_pos (by omega),if_pos (by omega),if_pos (by omega),if_pos (by omega),cmp_ev f (by omega) (by omega)]
    simp only [Option.bind_some]
    rw [if_pos c]
   ·obtain ⟨g,e,hm⟩:=ih ((i + j) / 2 + 1) j (by omega) (by omega) (by omega) hj (fun _=>by rw [Nat.add_sub_cancel,hcmp];exact decide_eq_false c) q2
    refine ⟨g,Ev.step (f:=fun k=>pq5.l2 k (lay N f) m ((i + j) / 2 + 1:Nat) j) (fun k=>?_) e,hm⟩
    simp only [pq5.l2,lay_len]
    rw [whalf (by omega),if_pos (by omega),if_pos (by omega),if_pos (by omega),if_pos (by omega),if_pos (by omega),cmp_ev f (by omega) (by omega)]
    simp only [Option.bind_some]
    rw [if_neg c,wadd1 (by omega)]
theorem sym7_l (N:Nat) (hN:N≤1000000000) (a b mid s e:Nat) (r:Nat→Dp) (h1:a≤s) (h2:s≤mid) (h3:mid≤e) (h4:e≤b) (hb:b≤N) (p1:Parts r a s mid) (p2:Parts r mid e b)
  (i1:a<s→s<mid→∀ r,Parts r a s mid→∃ g,Ev (fun k=>pq5.f k (lay N r) a s mid ()) (lay N g)∧Merged r g a mid)
  (i2:mid<e→e<b→∀ r,Parts r mid e b→∃ g,Ev (fun k=>pq5.f k (lay N r) mid e b ()) (lay N g)∧Merged r g mid b) :
  ∃ g1 g2,Ev (fun k=>pq5.j7 k (lay N r) a b () mid s e) (lay N g2)∧Merged r g1 a mid∧Merged g1 g2 mid b:=by
 have two:∀ g1,Merged r g1 a mid→∃ g2,Merged g1 g2 mid b∧Ev (fun k=>if (mid:Int)<(e:Int) then (if (e:Int)<(b:Int) then ((pq5.f k (lay N g1) mid e b ()).bind fun t=>(some t)) else (some (lay N g1))) else (some (lay N g1))) (lay N g2):=by
  intro g1 hg1
  have p2':Parts g1 mid e b:=p2.congr (fun i hi _=>hg1.mixed.out i (.inr hi)) h3 h4
  by_cases c1:mid<e
  ·by_cases c2:e<b
   ·obtain ⟨g2,q1,q2⟩:=i2 c1 c2 g1 p2'
    exact ⟨g2,q2,Ev.congr (fun k=>by rw [if_pos (by omega),if_pos (by omega)]) (Ev.bind q1 (Ev.now _))⟩
   ·exact ⟨g1,Zt.merged_left p2' (by omega),Ev.congr (fun k=>by rw [if_pos (by omega),if_neg (by omega)]) (Ev.now _)⟩
  ·exact ⟨g1,Zt.merged_left p2' (by omega),Ev.congr (fun k=>by rw [if_neg (by omega)]) (Ev.now _)⟩
 by_cases c1:a<s
 ·by_cases c2:s<mid
  ·obtain ⟨g1,q1,q2⟩:=i1 c1 c2 r p1
   obtain ⟨g2,q3,q4⟩:=two g1 q2
   refine ⟨g1,g2,Ev.step (f:=fun k=>pq5.j8 k (lay N r) a b () mid s e true) (fun k=>?_) (Ev.step (f:=fun k=>(pq5.f k (lay N r) a s mid ()).bind fun t=>if (mid:Int)<(e:Int) then (if (e:Int)<(b:Int) then ((pq5.f k t mid e b ()).bind fun t=>(some t)) else (some t)) else (some t)) (fun k=>?_) (Ev.bind q1 q4)),q2,q3⟩
   ·simp only [pq5.j7];rw [if_pos (by omega),decide_eq_true (show (s:Int)<(mid:Int) by omega)]
   ·simp only [pq5.j8];rw [if_pos trivial]
  ·obtain ⟨g2,q3,q4⟩:=two r (Zt.merged_left p1 (by omega))
   refine ⟨r,g2,Ev.step (f:=fun k=>pq5.j8 k (lay N r) a b () mid s e false) (fun k=>?_) (Ev.step (fun k=>?_) q4),Zt.merged_left p1 (by omega),q3⟩
   ·simp only [pq5.j7];rw [if_pos (by omega),decide_eq_false (show ¬ (s:Int)<(mid:Int) by omega)]
   ·simp only [pq5.j8];rw [if_neg (by decide)]
 ·obtain ⟨g2,q3,q4⟩:=two r (Zt.merged_left p1 (by omega))
  refine ⟨r,g2,Ev.step (f:=fun k=>pq5.j8 k (lay N r) a b () mid s e false) (fun k=>?_) (Ev.step (fun k=>?_) q4),Zt.merged_left p1 (by omega),q3⟩
  ·simp only [pq5.j7];rw [if_neg (by omega)]
  ·simp only [pq5.j8];rw [if_neg (by decide)]
theorem sym6_l (N:Nat) (hN:N≤1000000000) (a m b mid n s r0 s0:Nat) (f:Nat→Dp) (hp:Parts f a m b) (ham:a<m) (hmb:m<b) (hb:b≤N) (hmid:mid=(a + b) / 2) (hn:n=mid + m)
  (hs0:s0=if mid<m then n - b else a) (hr0:r0=if mid<m then mid else m) (hs:s0≤s) (hsr:s≤r0)
  (hlo:s0<s→lsD (f (n - 1 - (s - 1))) (f (s - 1))=false) (hhi:s<r0→lsD (f (n - 1 - s)) (f s)=true)
  (i1:∀ a' m' b',b' - a' < b - a→a' < m'→m' < b'→b'≤b→∀ r,Parts r a' m' b'→∃ g,Ev (fun k=>pq5.f k (lay N r) a' m' b' ()) (lay N g)∧Merged r g a' b') :
  ∃ g,Ev (fun k=>if (s:Int)<(m:Int) then (pq5.j6 k (lay N f) a m b () mid s (wrap64 ((n:Int) - (s:Int))) (decide ((m:Int)<(wrap64 ((n:Int) - (s:Int)))))) else (pq5.j6 k (lay N f) a m b () mid s (wrap64 ((n:Int) - (s:Int))) false)) (lay N g)∧Merged f g a b:=by
 have hsn:s≤n:=by
  subst hmid;subst hn
  split at hs0 <;> rename_i hc <;> (first|rw [if_pos hc] at hr0|rw [if_neg hc] at hr0)
  all_goals omega
 have hnN:n≤2 * N:=by omega
 rw [wsub hsn (by omega)]
 by_cases c:s<m∧m<n - s
 ·have hmn:n - s≤b:=by
   subst hmid;subst hn
   split at hs0 <;> rename_i hc <;> (first|rw [if_pos hc] at hr0|rw [if_neg hc] at hr0)
   all_goals omega
  have has:a≤s:=by
   subst hmid;subst hn
   split at hs0 <;> rename_i hc <;> (first|rw [if_pos hc] at hr0|rw [if_neg hc] at hr0)
   all_goals omega
  obtain ⟨e,hm⟩:=rot_ev N s m (n - s) hN c.1 c.2 (by omega) f
  obtain ⟨c1,c2,c3,c4,c5,c6,p1,p2,hj⟩:=Zt.merge_join (g1:=f) (g2:=f) hp ham hmb hmid hn hs0 hr0 hs hsr hlo hhi rfl (hm.wider has hmn (by omega))
  obtain ⟨g1,g2,q1,q2,q3⟩:=sym7_l N hN a b mid s (n - s) _ c4 c5 c6 c3 hb p1 p2 (fun h1 h2 r hr=>i1 a s mid (by omega) h1 h2 (by omega) r hr) (fun h1 h2 r hr=>i1 mid (n - s) b (by omega) h1 h2 (Nat.le_refl _) r hr)
  refine ⟨g2,Ev.congr (f:=fun k=>pq5.j6 k (lay N f) a m b () mid s (n - s:Nat) true) (fun k=>by rw [if_pos (by omega),decide_eq_true (show (m:Int)<((n - s:Nat):Int) by omega)]) (Ev.step (f:=fun k=>(pq7.f k (lay N f) s m (n - s:Nat) ()).bind fun x=>pq5.j7 k x a b () mid s (n - s:Nat)) (fun k=>?_) (Ev.bind e q1)),hj _ _ q2 q3⟩
  simp only [pq5.j6];rw [if_pos trivial]
 ·obtain ⟨c1,c2,c3,c4,c5,c6,p1,p2,hj⟩:=Zt.merge_join (g1:=f) (g2:=f) (r:=f) hp ham hmb hmid hn hs0 hr0 hs hsr hlo hhi (by
   rw [rot_triv]
   subst hmid;subst hn
   split at hs0 <;> rename_i hc <;> (first|rw [if_pos hc] at hr0|rw [if_neg hc] at hr0)
   all_goals omega) (Mixed.refl _ _ _)
  obtain ⟨g1,g2,q1,q2,q3⟩:=sym7_l N hN a b mid s (n - s) _ c4 c5 c6 c3 hb p1 p2 (fun h1 h2 r hr=>i1 a s mid (by omega) h1 h2 (by omega) r hr) (fun h1 h2 r hr=>i1 mid (n - s) b (by omega) h1 h2 (Nat.le_refl _) r hr)
  refine ⟨g2,Ev.congr (f:=fun k=>pq5.j6 k (lay N f) a m b () mid s (n - s:Nat) false) (fun k=>?_) (Ev.step (fun k=>?_) q1),hj _ _ q2 q3⟩
  ·by_cases h:s<m
   ·rw [if_pos (by omega),decide_eq_false (show ¬ (m:Int)<((n - s:Nat):Int) by omega)]
   ·rw [if_neg (by omega)]
  ·simp only [pq5.j6];rw [if_neg (by decide)]
theorem sym4_l (N:Nat) (hN:N≤1000000000) (a m b mid n r0 s0:Nat) (f:Nat→Dp) (hp:Parts f a m b) (ham:a<m) (hmb:m<b) (hb:b≤N) (hmid:mid=(a + b) / 2) (hn:n=mid + m)
  (hs0:s0=if mid<m then n - b else a) (hr0:r0=if mid<m then mid else m)
  (i1:∀ a' m' b',b' - a' < b - a→a' < m'→m' < b'→b'≤b→∀ r,Parts r a' m' b'→∃ g,Ev (fun k=>pq5.f k (lay N r) a' m' b' ()) (lay N g)∧Merged r g a' b'):∀ d s r,r - s≤d→s0≤s→s≤r→r≤r0 →
  (s0<s→lsD (f (n - 1 - (s - 1))) (f (s - 1))=false)→(r<r0→lsD (f (n - 1 - r)) (f r)=true) →
  ∃ g,Ev (fun k=>pq5.l4 k (lay N f) a m b () mid n s r ((n - 1:Nat):Int)) (lay N g)∧Merged f g a b:=by
 intro d
 induction d with
 | zero =>
  intro s r hd h1 h2 h3 q1 q2
  obtain rfl:s=r:=by omega
  obtain ⟨g,e,hm⟩:=sym6_l N hN a m b mid n s r0 s0 f hp ham hmb hb hmid hn hs0 hr0 h1 h3 q1 q2 i1
  refine ⟨g,Ev.step (fun k=>?_) e,hm⟩
  simp only [pq5.l4];rw [if_neg (by omega)]
 | succ d ih =>
  intro s r hd h1 h2 h3 q1 q2
  by_cases he:s=r
  ·exact ih s r (by omega) h1 h2 h3 q1 q2
  ·have hb1:a≤(s + r) / 2∧(s + r) / 2<m∧m≤n - 1 - (s + r) / 2∧n - 1 - (s + r) / 2<b∧(s + r) / 2≤n - 1:=by
    subst hmid;subst hn
    split at hs0 <;> rename_i hc <;> (first|rw [if_pos hc] at hr0|rw [if_neg hc] at hr0)
    all_goals omega
   obtain ⟨b1,b2,b3,b4,b5⟩:=hb1
   have hcmp:lsD (f (n - 1 - (s + r) / 2)) (f ((s + r) / 2))=decide (cmpS (f (n - 1 - (s + r) / 2)).1.1 (f ((s + r) / 2)).1.1<0):=Zt.lsD_later (hp.apart _ _ b1 b2 b3 b4)
   have hnN:n≤2 * N:=by omega
   by_cases c:cmpS (f (n - 1 - (s + r) / 2)).1.1 (f ((s + r) / 2)).1.1<0
   ·obtain ⟨g,e,hm⟩:=ih s ((s + r) / 2) (by omega) h1 (by omega) (by omega) q1 (fun _=>by rw [hcmp];exact decide_eq_true c)
    refine ⟨g,Ev.step (fun k=>?_) e,hm⟩
    simp only [pq5.l4,lay_len]
    rw [whalf (by omega),wsub b5 (by omega),if_pos (by omega),if_pos (by omega),if_pos (by omega),if_pos (by omega),if_pos (by omega),cmp_ev f (by omega) (by omega)]
    simp only [Option.bind_some]
    rw [if_pos c]
   ·obtain ⟨g,e,hm⟩:=ih ((s + r) / 2 + 1) r (by omega) (by omega) (by omega) h3 (fun _=>by rw [Nat.add_sub_cancel,hcmp];exact decide_eq_false c) q2
    refine ⟨g,Ev.step (fun k=>?_) e,hm⟩
    simp only [pq5.l4,lay_len]
    rw [whalf (by omega),wsub b5 (by omega),if_pos (by omega),if_pos (by omega),if_pos (by omega),if_pos (by omega),if_pos (by omega),cmp_ev f (by omega) (by omega)]
    simp only [Option.bind_some]
    rw [if_neg c,wadd1 (by omega)]
theorem sym_ev (N:Nat) (hN:N≤1000000000):∀ d a m b (f:Nat→Dp),b - a≤d→a<m→m<b→b≤N→Parts f a m b →
  ∃ g,Ev (fun k=>pq5.f k (lay N f) a m b ()) (lay N g)∧Merged f g a b:=by
 intro d
 induction d with
 | zero=>intro a m b f h h1 h2;omega
 | succ d ih =>
  intro a m b f hd h1 h2 h3 hp
  by_cases c1:m=a + 1
  ·subst c1
   obtain ⟨g,e,hm⟩:=sym0_l N a b hN f hp h3 _ (a + 1) b (Nat.le_refl _) (Nat.le_refl _) (by omega) (Nat.le_refl _) (fun h=>by omega) (fun h=>by omega)
   refine ⟨g,Ev.step (fun k=>?_) e,hm⟩
   simp only [pq5.f]
   rw [wsub (by omega) (by omega),if_pos (by omega)]
  ·by_cases c2:b=m + 1
   ·subst c2
    obtain ⟨g,e,hm⟩:=sym2_l N a m hN f hp h3 _ a m (Nat.le_refl _) (Nat.le_refl _) (by omega) (Nat.le_refl _) (fun h=>by omega) (fun h=>by omega)
    refine ⟨g,Ev.step (fun k=>?_) e,hm⟩
    simp only [pq5.f]
    rw [wsub (by omega) (by omega),if_neg (by omega),wsub (by omega) (by omega),if_pos (by omega)]
   ·obtain ⟨mid,hmid⟩:∃ x,x=(a + b) / 2:=⟨_,rfl⟩
    obtain ⟨n,hn⟩:∃ x,x=mid + m:=⟨_,rfl⟩
    obtain ⟨s0,hs0⟩:∃ x,x=if mid<m then n - b else a:=⟨_,rfl⟩
    obtain ⟨r0,hr0⟩:∃ x,x=if mid<m then mid else m:=⟨_,rfl⟩
    have hle:s0≤r0:=by
     subst hmid;subst hn
     split at hs0 <;> rename_i hc <;> (first|rw [if_pos hc] at hr0|rw [if_neg hc] at hr0)
     all_goals omega
    obtain ⟨g,e,hm⟩:=sym4_l N hN a m b mid n r0 s0 f hp h1 h2 h3 hmid hn hs0 hr0 (fun a' m' b' q1 q2 q3 q4 r hr=>ih a' m' b' r (by omega) q2 q3 (by omega) hr) _ s0 r0 (Nat.le_refl _) (Nat.le_refl _) hle (Nat.le_refl _) (fun h=>by omega) (fun h=>by omega)
    refine ⟨g,Ev.step (f:=fun k=>pq5.j4 k (lay N f) a m b () mid n s0 r0) (fun k=>?_) (Ev.step (fun k=>?_) e),hm⟩
    ·simp only [pq5.f]
     rw [wsub (a:=m) (b:=a) (by omega) (by omega),if_neg (by omega),wsub (a:=b) (b:=m) (by omega) (by omega),if_neg (by omega),whalf (by omega),← hmid,wadd (by omega),← hn]
     by_cases c:mid<m
     ·rw [if_pos c] at hs0 hr0
      rw [if_pos (by omega),wsub (by omega) (by omega),← hs0,hr0]
     ·rw [if_neg c] at hs0 hr0
      rw [if_neg (by omega),hs0,hr0]
    ·simp only [pq5.j4]
     rw [wsub1 (by omega) (by omega)]
theorem ins1_l (N a b i:Nat) (hN:N≤1000000000) (hb:b≤N) (hib:i<b) (f cur:Nat→Dp) (hm:Mixed f cur a i) (ho:InOrd lsD cur a i) (hf:Fresh f a b) (hai:a≤i)
  (ih:∀ g,Mixed f g a (i + 1)→InOrd lsD g a (i + 1)→∃ g',Ev (fun k=>pq0.l0 k (lay N g) a b (i + 1:Nat)) (lay N g')∧Merged f g' a b):∀ d j,a + d=j→j≤i →
  (j<i→lsD (cur i) (cur j)=true) →
  ∃ g',Ev (fun k=>pq0.l1 k (lay N (mvd cur i j)) a b i j) (lay N g')∧Merged f g' a b:=by
 have hend:∀ j,a≤j→j≤i→(a<j→lsD (cur i) (cur (j - 1))=false)→(j<i→lsD (cur i) (cur j)=true) →
   ∃ g',Ev (fun k=>pq0.l0 k (lay N (mvd cur i j)) a b (i + 1:Nat)) (lay N g')∧Merged f g' a b:=by
  intro j h1 h2 q1 q2
  refine ih _ ?_ (Zt.merge_last ho h1 h2 q1 q2)
  have:=mvd_mixed cur (a:=a) (m:=i) (i - j) (by omega)
  rw [show i - (i - j)=j from by omega] at this
  exact (hm.wider (Nat.le_refl _) (by omega) hai).trans this
 intro d
 induction d with
 | zero =>
  intro j hj hji q2
  obtain ⟨g',e,hg⟩:=hend j (by omega) hji (fun h=>by omega) q2
  refine ⟨g',Ev.step (fun k=>?_) e,hg⟩
  simp only [pq0.l1]
  rw [if_neg (by omega),wadd1 (by omega)]
 | succ d ihd =>
  intro j hj hji q2
  have ej:mvd cur i j j=cur i:=by unfold mvd;rw [if_neg (by omega),if_pos rfl]
  have ej1:mvd cur i j (j - 1)=cur (j - 1):=by unfold mvd;rw [if_pos (by omega)]
  have hlt:(cur (j - 1)).2<(cur i).2:=by
   obtain ⟨p,hp1,hp2,hp3⟩:=hm.mem (i:=j - 1) (by omega) (by omega)
   rw [hp3,hm.out i (.inr (Nat.le_refl _))]
   exact hf p i hp1 hp2 hib
  have hcmp:=Zt.lsD_later hlt
  by_cases c:cmpS (cur i).1.1 (cur (j - 1)).1.1<0
  ·obtain ⟨g',e,hg⟩:=ihd (j - 1) (by omega) (by omega) (fun _=>by rw [hcmp];exact decide_eq_true c)
   refine ⟨g',Ev.step (fun k=>?_) e,hg⟩
   simp only [pq0.l1,lay_len]
   rw [if_pos (by omega),if_pos (by omega),if_pos (by omega),wsub1 (by omega) (by omega),if_pos (by omega),if_pos (by omega),cmp_ev _ (by omega) (by omega),ej,ej1]
   simp only [Option.bind_some]
   rw [if_pos c,lay_swap _ (by omega) (by omega),Zt.mvd_step cur (by omega) hji]
  ·obtain ⟨g',e,hg⟩:=hend j (by omega) hji (fun _=>by rw [hcmp];exact decide_eq_false c) q2
   refine ⟨g',Ev.step (fun k=>?_) e,hg⟩
   simp only [pq0.l1,lay_len]
   rw [if_pos (by omega),if_pos (by omega),if_pos (by omega),wsub1 (by omega) (by omega),if_pos (by omega),if_pos (by omega),cmp_ev _ (by omega) (by omega),ej,ej1]
   simp only [Option.bind_some]
   rw [if_neg c,wadd1 (by omega)]
theorem ins0_l (N a b:Nat) (hN:N≤1000000000) (hb:b≤N) (hab:a≤b) (f:Nat→Dp) (hf:Fresh f a b):∀ d i,i + d=b→a<i→∀ g,Mixed f g a i→InOrd lsD g a i →
  ∃ g',Ev (fun k=>pq0.l0 k (lay N g) a b i) (lay N g')∧Merged f g' a b:=by
 intro d
 induction d with
 | zero =>
  intro i hi hai g hm ho
  obtain rfl:i=b:=by omega
  exact ⟨g,Ev.step (f:=fun _=>some (lay N g)) (fun k=>by simp only [pq0.l0];rw [if_neg (by omega)]) (Ev.now _),hm,ho⟩
 | succ d ih =>
  intro i hi hai g hm ho
  obtain ⟨g',e,hg⟩:=ins1_l N a b i hN hb (by omega) f g hm ho hf (by omega) (fun g hm ho=>ih (i + 1) (by omega) (by omega) g hm ho) (i - a) i (by omega) (Nat.le_refl _) (fun h=>by omega)
  rw [Zt.mvd_same] at e
  refine ⟨g',Ev.step (fun k=>?_) e,hg⟩
  simp only [pq0.l0];rw [if_pos (by omega)]
theorem ins_ev (N a b:Nat) (hN:N≤1000000000) (hb:b≤N) (hab:a≤b) (f:Nat→Dp) (hf:Fresh f a b) :
  ∃ g,Ev (fun k=>pq0.f k (lay N f) a b ()) (lay N g)∧Merged f g a b:=by
 by_cases h:a=b
 ·subst h
  refine ⟨f,Ev.step (f:=fun _=>some (lay N f)) (fun k=>?_) (Ev.now _),Mixed.refl _ _ _,InOrd.empty (by omega)⟩
  unfold pq0.f
  simp only [pq0.l0]
  rw [wadd1 (by omega),if_neg (by omega)]
 ·obtain ⟨g,e,hm⟩:=ins0_l N a b hN hb hab f hf (b - (a + 1)) (a + 1) (by omega) (by omega) f (Mixed.refl _ _ _) (InOrd.empty (by omega))
  refine ⟨g,Ev.congr (fun k=>?_) e,hm⟩
  unfold pq0.f
  rw [wadd1 (by omega)]
theorem stb2_l (N:Nat) (hN:N≤1000000000) (f:Nat→Dp) (s:Nat) (hs:0<s) (hsN:s<N)
  (ih:∀ g,Mixed f g 0 N→BlkOrd g (2 * s) 0 N→Zt.BlkApart g (2 * s) 0 N→∃ g',Ev (fun k=>pq8.l1 k (lay N g) N () (2 * s:Nat)) (lay N g')∧Merged f g' 0 N):∀ d t g,N - 2 * s * t≤d→2 * s * t≤N→StB f g s (2 * s * t) N →
  ∃ g',Ev (fun k=>pq8.l2 k (lay N g) N () s (2 * s * t:Nat) (2 * s * t + 2 * s:Nat)) (lay N g')∧Merged f g' 0 N:=by
 intro d
 induction d with
 | zero =>
  intro t g hd hle hst
  generalize hT:2 * s * t=T at *
  have hlast:BlkOrd g (2 * s) 0 N:=by subst hT;exact hst.last hs (by omega)
  obtain ⟨g',e,hg⟩:=ih g hst.mixed hlast hst.apart2
  refine ⟨g',Ev.step (fun k=>?_) e,hg⟩
  simp only [pq8.l2]
  rw [if_neg (by omega),wadd (by omega),if_neg (by omega),show wrap64 ((s:Int) * 2)=((2 * s:Nat):Int) from by rw [wrap_in (by omega) (by omega)];omega]
 | succ d ihd =>
  intro t g hd hle hst
  by_cases c:2 * s * t + 2 * s≤N
  ·have hp:=hst.parts hs (b:=2 * s * t + 2 * s) (Nat.le_refl _) (by omega) c
   obtain ⟨g1,e1,m1⟩:=sym_ev N hN _ (2 * s * t) (2 * s * t + s) (2 * s * t + 2 * s) g (Nat.le_refl _) (by omega) (by omega) c hp
   have hst1:=hst.step hs (b:=2 * s * t + 2 * s) (Nat.le_refl _) (by omega) c m1
   rw [show 2 * s * t + 2 * s=2 * s * (t + 1) from by rw [Nat.mul_succ]] at hst1
   have hle2:2 * s * (t + 1)≤N:=by rw [Nat.mul_succ];exact c
   have hd2:N - 2 * s * (t + 1)≤d:=by rw [Nat.mul_succ];omega
   obtain ⟨g',e,hg⟩:=ihd (t + 1) g1 hd2 hle2 hst1
   refine ⟨g',Ev.step (f:=fun k=>(pq5.f k (lay N g) (2 * s * t:Nat) (2 * s * t + s:Nat) (2 * s * t + 2 * s:Nat) ()).bind fun x=>pq8.l2 k x N () s (2 * s * (t + 1):Nat) (2 * s * (t + 1) + 2 * s:Nat)) (fun k=>?_) (Ev.bind e1 e),hg⟩
   simp only [pq8.l2]
   generalize hT:2 * s * t=T at *
   rw [if_pos (by omega),wadd (by omega),show wrap64 (2 * (s:Int))=((2 * s:Nat):Int) from by rw [wrap_in (by omega) (by omega)];omega,wadd (by omega),Nat.mul_succ,hT]
  ·generalize hT:2 * s * t=T at *
   by_cases c2:T + s<N
   ·have hp:Parts g T (T + s) N:=by subst hT;exact hst.parts hs (by omega) c2 (Nat.le_refl _)
    obtain ⟨g1,e1,m1⟩:=sym_ev N hN _ T (T + s) N g (Nat.le_refl _) (by omega) c2 (Nat.le_refl _) hp
    have hst1:StB f g1 s N N:=by subst hT;exact hst.step hs (by omega) (by omega) (Nat.le_refl _) m1
    obtain ⟨g',e,hg⟩:=ih g1 hst1.mixed hst1.done hst1.apart2
    refine ⟨g',Ev.step (f:=fun k=>(pq5.f k (lay N g) T (T + s:Nat) N ()).bind fun x=>pq8.l1 k x N () (2 * s:Nat)) (fun k=>?_) (Ev.bind e1 e),hg⟩
    simp only [pq8.l2]
    rw [if_neg (by omega),wadd (by omega),if_pos (by omega),show wrap64 ((s:Int) * 2)=((2 * s:Nat):Int) from by rw [wrap_in (by omega) (by omega)];omega]
   ·have hlast:BlkOrd g (2 * s) 0 N:=by subst hT;exact hst.last hs (by omega)
    obtain ⟨g',e,hg⟩:=ih g hst.mixed hlast hst.apart2
    refine ⟨g',Ev.step (fun k=>?_) e,hg⟩
    simp only [pq8.l2]
    rw [if_neg (by omega),wadd (by omega),if_neg (by omega),show wrap64 ((s:Int) * 2)=((2 * s:Nat):Int) from by rw [wrap_in (by omega) (by omega)];omega]
theorem stb1_l (N:Nat) (hN:N≤1000000000) (f:Nat→Dp):∀ d s g,N - s≤d→0<s→s≤2 * N + 20→Mixed f g 0 N→BlkOrd g s 0 N→Zt.BlkApart g s 0 N →
  ∃ g',Ev (fun k=>pq8.l1 k (lay N g) N () s) (lay N g')∧Merged f g' 0 N:=by
 intro d
 induction d with
 | zero =>
  intro s g hd hs hs2 hm ho ha
  exact ⟨g,Ev.step (f:=fun _=>some (lay N g)) (fun k=>by simp only [pq8.l1];rw [if_neg (by omega)]) (Ev.now _),hm,Zt.blk_whole ho (by omega)⟩
 | succ d ih =>
  intro s g hd hs hs2 hm ho ha
  by_cases c:s<N
  ·obtain ⟨g',e,hg⟩:=stb2_l N hN f s hs c (fun g h1 h2 h3=>ih (2 * s) g (by omega) (by omega) (by omega) h1 h2 h3) _ 0 g (Nat.le_refl _) (by omega) (StB.start hs hm ho ha)
   refine ⟨g',Ev.step (fun k=>?_) e,hg⟩
   simp only [pq8.l1]
   rw [if_pos (by omega),show wrap64 (2 * (s:Int))=((2 * s * 0 + 2 * s:Nat):Int) from by rw [wrap_in (by omega) (by omega)];omega]
   rfl
  ·exact ⟨g,Ev.step (f:=fun _=>some (lay N g)) (fun k=>by simp only [pq8.l1];rw [if_neg (by omega)]) (Ev.now _),hm,Zt.blk_whole ho (by omega)⟩
theorem stb0_l (N:Nat) (hN:N≤1000000000) (f:Nat→Dp) (hf:Fresh f 0 N):∀ d t g,N - 20 * t≤d→20 * t≤N→StA f g 20 (20 * t) N →
  ∃ g',Ev (fun k=>pq8.l0 k (lay N g) N () 20 (20 * t:Nat) (20 * t + 20:Nat)) (lay N g')∧Merged f g' 0 N:=by
 intro d
 induction d with
 | zero =>
  intro t g hd hle hst
  obtain ⟨g1,e1,m1⟩:=ins_ev N (20 * t) N hN (Nat.le_refl _) (by omega) g (hst.fresh hf (Nat.le_refl _))
  have h1:=hst.step (by decide) (b:=N) (by omega) (by omega) (Nat.le_refl _) m1
  obtain ⟨g',e,hg⟩:=stb1_l N hN f _ 20 g1 (Nat.le_refl _) (by decide) (by omega) h1.mixed h1.ord h1.apart
  refine ⟨g',Ev.step (f:=fun k=>(pq0.f k (lay N g) (20 * t:Nat) N ()).bind fun x=>pq8.l1 k x N () (20:Nat)) (fun k=>?_) (Ev.bind e1 e),hg⟩
  simp only [pq8.l0]
  rw [if_neg (by omega)];rfl
 | succ d ih =>
  intro t g hd hle hst
  by_cases c:20 * t + 20≤N
  ·obtain ⟨g1,e1,m1⟩:=ins_ev N (20 * t) (20 * t + 20) hN c (by omega) g (hst.fresh hf c)
   have h1:=hst.step (by decide) (b:=20 * t + 20) (Nat.le_refl _) (by omega) c m1
   obtain ⟨g',e,hg⟩:=ih (t + 1) g1 (by omega) (by omega) (by rw [show 20 * (t + 1)=20 * t + 20 from by omega];exact h1)
   refine ⟨g',Ev.step (f:=fun k=>(pq0.f k (lay N g) (20 * t:Nat) (20 * t + 20:Nat) ()).bind fun x=>pq8.l0 k x N () 20 (20 * (t + 1):Nat) (20 * (t + 1) + 20:Nat)) (fun k=>?_) (Ev.bind e1 e),hg⟩
   simp only [pq8.l0]
   rw [if_pos (by omega),show wrap64 (((20 * t + 20:Nat):Int) + 20)=((20 * (t + 1) + 20:Nat):Int) from by rw [wrap_in (by omega) (by omega)];omega]
   rfl
  ·obtain ⟨g1,e1,m1⟩:=ins_ev N (20 * t) N hN (Nat.le_refl _) (by omega) g (hst.fresh hf (Nat.le_refl _))
   have h1:=hst.step (by decide) (b:=N) (by omega) (by omega) (Nat.le_refl _) m1
   obtain ⟨g',e,hg⟩:=stb1_l N hN f _ 20 g1 (Nat.le_refl _) (by decide) (by omega) h1.mixed h1.ord h1.apart
   refine ⟨g',Ev.step (f:=fun k=>(pq0.f k (lay N g) (20 * t:Nat) N ()).bind fun x=>pq8.l1 k x N () (20:Nat)) (fun k=>?_) (Ev.bind e1 e),hg⟩
   simp only [pq8.l0]
   rw [if_neg (by omega)];rfl
theorem sort_f (l:List (Str×Str)) (hl:l.length≤1000000000):∃ k,slices_SortStableFunc_Pair_at_untar_Attrs_2.f k (l.map ofPr) ()=some ((sortP l).map ofPr):=by
 have e0:l.map ofPr=lay l.length (zipF l):=by
  apply List.ext_getElem
  ·simp [lay]
  ·intro i h1 h2
   have:i<l.length:=by simpa using h1
   simp [lay,zipF,this]
 obtain ⟨g,e,hm⟩:=stb0_l l.length hl (zipF l) (Zt.zipF_fresh l _ _) _ 0 (zipF l) (Nat.le_refl _) (by omega) (StA.start (Zt.zipF_fresh l _ _))
 obtain ⟨k,hk⟩:=e.rounds
 refine ⟨k,?_⟩
 unfold slices_SortStableFunc_Pair_at_untar_Attrs_2.f pq8.f
 rw [e0,lay_len]
 rw [show pq8.l0 k (lay l.length (zipF l)) (l.length:Int) () 20 0 20=some (lay l.length g) from hk]
 simp only [Option.bind_some,Option.some.injEq]
 rw [← Zt.sort_end hm.mixed hm.ord,List.map_map]
 rfl
end Go.Proofs.Zq
end
section
namespace Go.Proofs.Zq
open Go.RowKit Go.WideMaps Go.Maps Go.Proofs.YtjghikkboekonaaGreatDoor Go.Proofs.Zw.PrintWords Go.Proofs.Zw.PrintLast Go.Proofs.Zw.PrintMore
theorem info_pr:(Tryz.prog.info? 169).map (fun i=>(i.zero,i.size,i.bytes))=some (some (.agg #[S [],S []]),2,32):=by kernel_rfl
set_option maxRecDepth 100000 in
theorem clone_pair_calls (w:World) (A:Option Addr) (c:Nat) (l:List (Str×Str)) (hr:RowAt prC 2 w A l) (hA:A=none→l=[]) (hl:l.length≤100000000) :
  Calls Tryz.prog 172 #[.slice A l.length c] w fun e w'=>∃ v,e=.returned v∧Owr prC 169 2 w.heap.size w' v l∧Below w.heap.size w w':=by
 have HR:=pH hr
 have HL:=pH hl
 have hu:=Tryz.underlying145
 obtain ⟨i0,hi,hz0,hz1,hz2⟩:=info_parts info_pr
 have HI:=pH hi
 have HZ0:=pH hz0
 have HZ1:=pH hz1
 have HZ2:=pH hz2
 clear hr hl hi hz0 hz1 hz2
 cases A with
 | none =>
  obtain rfl:=hA rfl
  go_enter Tryz.func172,Tryz.ntmps172
  have q:=fun (w:World) (a:Option Addr) (n c n' c':Nat)=>Go.Lib.run_eql_slice_nil (P:=Tryz.prog) w 145 _ a n c n' c' hu
  go_wp2_with fail
  go_ret
  exact ⟨_,rfl,Owr.nil _ _ _ _ _,Below.refl _ _⟩
 | some ad =>
  clear hA
  go_enter Tryz.func172,Tryz.ntmps172
  have q:=fun (w:World) (a:Option Addr) (n c n' c':Nat)=>Go.Lib.run_eql_slice_nil (P:=Tryz.prog) w 145 _ a n c n' c' hu
  go_wp2_with (at_builtin;refine wpList_append_row (by rfl) _ _ 145 rfl w.heap.size 169 2 32 i0 (.agg #[S [],S []]) hu HI.out HZ0.out HZ1.out HZ2.out rfl (by decide) prC_len prC_one _ [] rfl (own_empty prC 2 w.heap.size w (Nat.le_refl _)) (some ad) l.length c l rfl rfl (HR.out.ext (pbn _ _)) (fun h=>by cases h) ?c1 ?c2 ?c3 ?_)
  case c1=>have:=HL.out;unfold maxLen;simp;omega
  case c2=>have:=HL.out;simp;omega
  case c3=>simp
  intro v' w' ho hg
  have HO:=pH ho
  have HB:Hid (Below w.heap.size w w'):=pH (((Below.refl w.heap.size w).alloc (Nat.le_refl _) _).grown hg (by simp) (fun j hj=>by simp [Value.ownBlock] at hj;omega))
  clear ho hg
  go_wp2
  go_ret
  exact ⟨_,rfl,by simpa using HO.out,HB.out⟩
end Go.Proofs.Zq
end
section
namespace Go.Proofs.Zq
open Go.RowKit Go.Proofs.YtjghikkboekonaaGreatDoor Go.Proofs.Zw.PrintWords Go.Proofs.Zw.PrintLast Go.Proofs.Zw.PrintMore
open Go.Proofs.Zt (sortP)
theorem bulk_filter (q:Str×Str→Bool):∀ l:List (Str×Str),bulk (l.filter q)≤bulk l
 | []=>Nat.le_refl _
 | x :: r=>by
  have h:=bulk_filter q r
  unfold bulk at *
  simp only [List.filter_cons]
  split <;> simp only [List.map_cons,List.sum_cons] <;> omega
theorem insP_perm (p:Str×Str):∀ l,(Zt.insP p l).Perm (p :: l)
 | []=>List.Perm.refl _
 | x :: r=>by
  unfold Zt.insP
  split
  ·exact List.Perm.refl _
  ·exact (List.Perm.cons _ (insP_perm p r)).trans (List.Perm.swap _ _ _)
theorem sortP_perm (l:List (Str×Str)):(sortP l).Perm l:=by
 have:∀ (l o:List (Str×Str)),(l.foldl (fun o p=>Zt.insP p o) o).Perm (o ++ l):=by
  intro l
  induction l with
  | nil=>intro o;rw [List.append_nil];exact List.Perm.refl _
  | cons x r ih =>
   intro o
   refine (ih _).trans ?_
   exact ((insP_perm x o).append_right r).trans (List.perm_middle.symm)
 exact this l []
theorem bulk_perm {l m:List (Str×Str)} (h:l.Perm m):bulk l=bulk m:=by
 unfold bulk
 exact (h.map _).sum_nat
set_option maxRecDepth 100000 in
theorem delp_nil (w:World) (c:Nat):Calls Tryz.prog 171 #[.slice none 0 c,.func (.func 173) #[] #[]] w fun e w'=>e=.returned (.slice none 0 c)∧Below w.heap.size w w':=by
 have hf:pq9.f 1 [] ()=some (-1):=rfl
 go_enter Tryz.func171,Tryz.ntmps171
 go_wp2_with fail
 refine (pq9.calls 1 none c [] () (-1) w (Kd.C_nil _ _) (Nat.zero_le _) hf).mono ?_
 rintro e w1 ⟨rfl,hb1⟩
 have HB1:=pH hb1
 clear hb1 hf
 have hne:((-1:Int) == -1)=true:=by decide
 go_wp2_with fail
 go_ret
 exact ⟨rfl,HB1.out⟩
theorem delp_any (w:World) (base:Nat) (v:Value) (l:List (Str×Str)) (ho:Owr prC 169 2 base w v l) (hl:l.length≤100000000) (hb:base≤w.heap.size) {w0:World} (h0:Below base w0 w) (hw0:w0.heap.size=base) :
  Calls Tryz.prog 171 #[v,.func (.func 173) #[] #[]] w fun e w'=>∃ v',e=.returned v'∧Owr prC 169 2 base w' v' (l.filter isAttr)∧Below w0.heap.size w0 w':=by
 rcases ho.2 with ⟨hv,h00⟩|⟨g,cap,cur,hv,hbg,_⟩
 ·subst hv
  have:=List.eq_nil_of_length_eq_zero h00
  subst this
  refine (delp_nil w 0).mono ?_
  rintro e w' ⟨rfl,hb1⟩
  refine ⟨_,rfl,Owr.nil _ _ _ _ _,?_⟩
  subst hw0
  exact pbt h0 hb1
 ·subst hv
  refine (delp_calls w base g cap l ho hl).mono ?_
  rintro e w' ⟨rfl,ho',hg⟩
  refine ⟨_,rfl,ho',?_⟩
  subst hw0
  exact h0.grown hg hb (fun j hj=>by cases hj;exact hbg)
theorem attrs0_calls (w:World) (hG:GL w) (A:Option Addr) (c:Nat) (l:List (Str×Str)) (hr:RowAt prC 2 w A l) (hA:A=none→l=[]) (hl:bulk l≤100000000) (hc:l.length≤c) :
  Calls Tryz.prog 140 #[.slice A l.length c] w fun e w'=>e=.returned (S (attrsM l))∧Below w.heap.size w w':=by
 have hll:l.length≤bulk l:=bulk_len l
 have HBK:=pH hl
 have HLL:Hid (l.length≤100000000):=pH (by omega)
 have HR:=pH hr
 have HA:=pH hA
 clear hr hA hl hll hc
 go_enter Tryz.func140,Tryz.ntmps140
 go_wp2_with fail
 refine (clone_pair_calls w A c l HR.out HA.out HLL.out).mono ?_
 rintro e w1 ⟨v,rfl,ho,hb1⟩
 have HO:=pH ho
 have HB1:=pH hb1
 clear ho hb1
 go_wp2_with fail
 refine (delp_any w1 w.heap.size v l HO.out HLL.out HB1.out.size HB1.out rfl).mono ?_
 rintro e w2 ⟨v2,rfl,ho2,hb2⟩
 have HB2:=pH hb2
 have HR2:=pH (pr_R ho2)
 clear ho2 hb2
 have hfl:(l.filter isAttr).length≤1000000000:=by have:=List.length_filter_le isAttr l;have:=HLL.out;omega
 obtain ⟨k,hs⟩:=sort_f (l.filter isAttr) hfl
 have HS:=pH hs
 have HBF:Hid (bulk (sortP (l.filter isAttr))≤100000000):=pH (by rw [bulk_perm (sortP_perm _)];exact Nat.le_trans (bulk_filter _ _) HBK.out)
 have HM:Hid (attrsM l=if printOk (sortP (l.filter isAttr))=true then printM (sortP (l.filter isAttr)) else []):=rfl
 clear hs hfl
 go_wp2_with fail
 refine (slices_SortStableFunc_Pair_at_untar_Attrs_2.calls k _ v2 _ () _ w w2 HB2.out HR2.out HS.out).mono ?_
 rintro e w3 ⟨rfl,hr3,hb3,_⟩
 have HB3:=pH hb3
 obtain ⟨A3,c3,hv3⟩:=Kd.R_slice hr3
 subst hv3
 have hr3':=Kd.R_reads' hr3
 have hrow:=pr_row hr3'.2.2
 rw [prs_back] at hrow
 have HROW:=pH hrow
 rw [List.length_map] at *
 clear hr3 hr3' hrow hb3 HR2
 generalize sortP (l.filter isAttr)=ss at HROW HBF HM HS ⊢
 go_wp2_with fail
 refine (print_calls w3 (hG.ext HB3.out) A3 c3 ss HROW.out HBF.out).mono ?_
 rintro e w4 ⟨v4,rfl,hsl,hb4⟩
 have HB4:Hid (Below w.heap.size w w4):=pH (pbt HB3.out hb4)
 rw [← HM.out] at hsl
 obtain ⟨a4,c4,rfl,hrow4,hn4,_⟩:=hsl
 have hconv:=bytes_text hrow4 c4 hn4
 obtain ⟨s4,hs4⟩:∃ s4,s4=attrsM l:=⟨_,rfl⟩
 have HS4:=pH hs4
 rw [← hs4] at hconv ⊢
 clear hb4 hn4 hrow4 hs4 HM
 go_wp2_with fail
 go_ret
 exact ⟨by rw [← HS4.out];rfl,HB4.out⟩
end Go.Proofs.Zq
end
section
namespace Go.Proofs.YtjghikkboekonaaGreatDoor
def pairsOf (s:List UInt8):Option (List (List UInt8×List UInt8)):=parseF s.length s
theorem parseM_eq (s:List UInt8):parseM s=(match pairsOf s with|none=>([],3)|some ps=>if onceM ps then (ps,0) else ([],7)):=rfl
theorem parseM_some {s:List UInt8} {ps:List (List UInt8×List UInt8)} (h:pairsOf s=some ps):parseM s=if onceM ps then (ps,0) else ([],7):=by rw [parseM_eq,h]
theorem parseM_none {s:List UInt8} (h:pairsOf s=none):parseM s=([],3):=by rw [parseM_eq,h]
theorem rightM_cons (p:List UInt8×List UInt8) (l:List (List UInt8×List UInt8)):rightM (p :: l)=(keyOk p.1 && rightM l):=by simp [rightM]
theorem printM_cons (p:List UInt8×List UInt8) (l:List (List UInt8×List UInt8)):printM (p :: l)=recM p ++ printM l:=by simp [printM]
theorem parse_rec:∀ (f:Nat) (s:List UInt8) (ps:List (List UInt8×List UInt8)),parseF f s=some ps→s=printM ps∧rightM ps=true
 | 0,s,ps,h=>by
  simp only [parseF] at h
  split at h
  ·simp only [Option.some.injEq] at h;subst h;rename_i hs;subst hs;exact ⟨rfl,rfl⟩
  ·cases h
 | f + 1,[],ps,h=>by
  rw [parseF_nil] at h
  simp only [Option.some.injEq] at h;subst h;exact ⟨rfl,rfl⟩
 | f + 1,c :: r,ps,h=>by
  cases hc:cutM (c :: r) with
  | none=>rw [parseF_no hc] at h;cases h
  | some q =>
   obtain ⟨p,rest⟩:=q
   rw [parseF_yes hc] at h
   cases hp:parseF f rest with
   | none=>rw [hp] at h;cases h
   | some qs =>
    rw [hp] at h
    simp only [Option.map_some,Option.some.injEq] at h
    subst h
    obtain ⟨h1,h2⟩:=parse_rec f rest qs hp
    obtain ⟨h3,h4⟩:=cut_rec hc
    exact ⟨by rw [h4,printM_cons,← h1],by rw [rightM_cons,h3,h2];rfl⟩
theorem pairs_rec {s:List UInt8} {ps:List (List UInt8×List UInt8)} (h:pairsOf s=some ps):s=printM ps∧rightM ps=true:=parse_rec _ _ _ h
end Go.Proofs.YtjghikkboekonaaGreatDoor
end
section
namespace Go.Proofs.Zq
open Go.RowKit Go.Proofs.YtjghikkboekonaaGreatDoor Go.Proofs.Zw.PrintWords Go.Proofs.Zw.PrintLast
theorem bulk_print:∀ l:List (Str×Str),bulk l≤4 * (printM l).length
 | []=>by simp [bulk]
 | p :: r=>by
  have h:=bulk_print r
  rw [printM_cons]
  have h2:=restM_length p
  have h3:(recM p).length=(dec (lenM (restM p).length)).length + (restM p).length:=by unfold recM;simp
  have h4:=dec_ne (lenM (restM p).length)
  have h5:1≤(dec (lenM (restM p).length)).length:=List.length_pos_iff.2 h4
  simp only [bulk,List.map_cons,List.sum_cons,List.length_append] at h ⊢
  omega
theorem bulk_parse (s:Str):bulk (parseM s).1≤4 * s.length:=by
 cases h:pairsOf s with
 | none=>rw [parseM_none h];simp [bulk]
 | some ps =>
  obtain ⟨h1,_⟩:=pairs_rec h
  rw [parseM_some h]
  split
  ·have:=bulk_print ps
   rw [← h1] at this
   exact this
  ·simp [bulk]
def attrsOk (s:Str):Bool:=(parseM s).2 == 0 && attrsM (parseM s).1 == s
set_option maxHeartbeats 400000 in
theorem attrs_calls (w:World) (hG:GL w) (s:Str) (hs:s.length≤10000000) :
  Calls Tryz.prog 98 #[S s] w fun e w'=>e=.returned (.bool (attrsOk s))∧Below w.heap.size w w':=by
 obtain ⟨cap,hcv,hsl⟩:=text_bytes w s
 have HSL:=pH hsl
 have HB0:Hid (Below w.heap.size w (Lib.bytesWorld w 5 ⟨s.toArray⟩)):=pH (below_bytesWorld _ _ _)
 have HP:=pH (bulk_parse s)
 have HS:=pH hs
 clear hs hsl
 go_enter Tryz.func98,Tryz.ntmps98
 go_wp2_with fail
 have hrow:RowAt byC 1 (Lib.bytesWorld w 5 ⟨s.toArray⟩) (some ⟨w.heap.size,0,none⟩) s:=by
  obtain ⟨a,c,he,h1,_⟩:=HSL.out
  cases he
  exact h1
 refine (parse_calls _ (hG.ext HB0.out) _ _ s hrow (fun h=>by cases h) (by have:=HS.out;omega)).mono ?_
 rintro e w1 ⟨v,rfl,ho,hb1⟩
 have HB1:Hid (Below w.heap.size w w1):=pH (pbt HB0.out hb1)
 have HA:Hid (attrsOk s=((parseM s).2 == 0 && attrsM (parseM s).1 == s)):=rfl
 clear hb1 hrow
 have HO:=pH ho
 clear ho
 generalize parseM s=q at HO HA HP
 obtain ⟨ps,k⟩:=q
 dsimp only at HO HA HP ⊢
 obtain ⟨a,c,rfl,han,hlc⟩:=HO.out.val
 have HLC:=pH hlc
 have HAN:Hid (a=none→ps=[]):=pH (fun h=>(han h).1)
 clear hlc han
 by_cases hk:k=0
 ·subst hk
  go_wp2_with fail
  refine (attrs0_calls _ (hG.ext HB1.out) _ _ ps (HO.out.row prC_len) HAN.out (by have:=HP.out;have:=HS.out;omega) ?hc).mono ?_
  case hc=>exact HLC.out
  rintro e w2 ⟨rfl,hb2⟩
  have HB2:Hid (Below w.heap.size w w2):=pH (pbt HB1.out hb2)
  clear hb2
  go_wp2
  go_ret
  exact ⟨by rw [HA.out];rfl,HB2.out⟩
 ·have hkb:((k:Int) == 0)=false:=by simpa using hk
  go_wp2
  go_ret
  refine ⟨?_,HB1.out⟩
  rw [HA.out]
  have:(k == 0)=false:=by simpa using hk
  rw [this];rfl
end Go.Proofs.Zq
end
section
namespace Go.Proofs.Zt
variable {ν:Type} [DecidableEq ν] {Y:Sys ν}
def allPuts (t:Row ν):Lyr ν:=t.map fun e=>⟨e.1,0,e.2⟩
omit [DecidableEq ν] in
theorem allPuts_right {t:Row ν} (ht:RightT Y t):RightL Y (allPuts t):=by
 have hk:∀ e ∈ t,tarM 0 e.1=e.1:=fun e he=>tar_put (ht.plain e he).1
 refine ⟨⟨fun c hc=>?_,?_⟩,fun c hc=>?_,fun c hc h0=>?_⟩
 ·obtain ⟨e,he,rfl⟩:=List.mem_map.1 hc
  show tarM 0 e.1≠[]
  rw [hk e he];exact is_ne (markF_is (ht.plain e he).1)
 ·unfold allPuts
  rw [List.pairwise_map]
  refine ht.srt.s.imp_of_mem fun {a b} ha hb h=>?_
  show cmpM (tarM 0 a.1) (tarM 0 b.1)<0
  rw [hk a ha,hk b hb];exact h
 ·obtain ⟨e,he,rfl⟩:=List.mem_map.1 hc
  show Y.rt (tarM 0 e.1) e.2=0
  rw [hk e he];exact (ht.plain e he).2
 ·obtain ⟨e,_,rfl⟩:=List.mem_map.1 hc
  exact absurd rfl h0
omit [DecidableEq ν] in
theorem right_nil:RightT Y ([]:Row ν):=⟨by simp,Srt.nil,(fun q n h=>by cases h),by simp⟩
variable (Y) in
def ontoGo (k:Nat) (t:Row ν):List (Lyr ν)→Row ν×Nat×Int
 | []=>(t,k,0)
 | l :: r=>if (applyM Y t l).2=0 then ontoGo (k + 1) (applyM Y t l).1 r else ([],k,(applyM Y t l).2)
variable (Y) in
def ontoM (t:Row ν) (s:List (Lyr ν)):Row ν×Nat×Int:=if rightT Y t then ontoGo Y 0 t s else ([],0,1)
theorem onto_ok {k:Nat} {t:Row ν} {l:Lyr ν} {r:List (Lyr ν)} (h:(applyM Y t l).2=0):ontoGo Y k t (l :: r)=ontoGo Y (k + 1) (applyM Y t l).1 r:=by simp only [ontoGo];rw [if_pos h]
theorem onto_no {k:Nat} {t:Row ν} {l:Lyr ν} {r:List (Lyr ν)} (h:(applyM Y t l).2≠0):ontoGo Y k t (l :: r)=([],k,(applyM Y t l).2):=by simp only [ontoGo];rw [if_neg h]
theorem onto_right {t:Row ν} (ht:RightT Y t) {k:Nat} {s:List (Lyr ν)} (h:(ontoGo Y k t s).2.2=0):RightT Y (ontoGo Y k t s).1∧(ontoGo Y k t s).2.1=k + s.length:=by
 induction s generalizing k t with
 | nil=>exact ⟨ht,rfl⟩
 | cons l r ih =>
  unfold ontoGo at h ⊢
  by_cases hc:(applyM Y t l).2=0
  ·rw [if_pos hc] at h ⊢
   obtain ⟨_,_,ha,_⟩:=applyM_ok Y (a:=(applyM Y t l).1) (Prod.ext rfl hc)
   obtain ⟨h1,h2⟩:=ih ha h
   exact ⟨h1,by rw [h2,List.length_cons];omega⟩
  ·rw [if_neg hc] at h;exact absurd h hc
variable (Y) in
def treesGo (t:Row ν):List (Lyr ν)→List (Row ν)
 | []=>[]
 | l :: r=>if (applyM Y t l).2=0 then (applyM Y t l).1 :: treesGo (applyM Y t l).1 r else []
variable (Y) in
def barsM (c:Ch Str ν) (p:Str):Bool :=
 if c.op=1 then underM c.path p || decide (c.path=p) else if c.op=2 then underM c.path p else decide (c.path=p) || (underM c.path p && !Y.dir c.node)
variable (Y) in
def letsM (b:Lyr ν) (p:Str):Bool:=b.all fun c=>!barsM Y c p
structure OfTwo (Y:Sys ν) (a b:Lyr ν) (c:Ch Str ν):Prop where
 tar:tarM c.op c.path≠[]
 rt:Y.rt (tarM c.op c.path) c.node=0
 zero:c.op≠0→c.node=Y.zero
 from_:c.op=0→c ∈ b∨(c ∈ a∧letsM Y b c.path=true)
omit [DecidableEq ν] in
theorem RightL.less {l:Lyr ν} (h:RightL Y l):l.Pairwise fun a b=>lessC a b=true:=h.c.s.imp fun {a b} h=>by
 unfold lessC lessM;exact decide_eq_true (p:=cmpM (keyM a) (keyM b)<0) h
end Go.Proofs.Zt
end
section
namespace Go.Proofs.Zt
variable {ν:Type} [DecidableEq ν] {Y:Sys ν}
structure Cut (a b l:Lyr ν):Prop where
 mem:∀ x,x ∈ l↔x ∈ a∨x ∈ b
 apart:∀ x ∈ a,x ∉ b
 puts:∀ x ∈ b,x.op=0
 up:∀ x ∈ a,x.op=0→∀ y ∈ b,y.path≠parM x.path
omit [DecidableEq ν] in
theorem RightL.sub {l m:Lyr ν} (h:RightL Y l) (hs:m.Sublist l):RightL Y m :=
 ⟨⟨fun c hc=>h.c.tar c (hs.subset hc),h.c.s.sublist hs⟩,fun c hc=>h.rt c (hs.subset hc),fun c hc=>h.zero c (hs.subset hc)⟩
omit [DecidableEq ν] in
theorem RightL.ext {l m:Lyr ν} (h:RightL Y l) (h':RightL Y m) (e:∀ x,x ∈ l↔x ∈ m):l=m :=
 sorted_ext lessC_ord (fun _ _=>trivial) (fun _ _=>trivial) h.less h'.less e
end Go.Proofs.Zt
end
section
namespace Go.Proofs.Zt
variable {ν:Type} [DecidableEq ν] {Y:Sys ν}
def bytesM (size:ν→Nat) (l:Lyr ν):Nat:=(l.map fun c=>size c.node).sum
def chunks (size:ν→Nat) (limit:Int):Lyr ν→Lyr ν→List (Lyr ν)
 | last,[]=>[last]
 | last,c :: r=>if 0<size c.node∧0<bytesM size last∧limit - bytesM size last<size c.node then last :: chunks size limit [c] r else chunks size limit (last ++ [c]) r
structure Sized (Y:Sys ν) (l x:Lyr ν) (r:List (Lyr ν)):Prop where
 perm:(x ++ r.flatten).Perm l
 puts:∀ z ∈ r,∀ c ∈ z,c.op=0
 right:∀ z ∈ x :: r,RightL Y z
 ord:(x :: r).Pairwise fun u v=>∀ y ∈ u,y.op=0→∀ z ∈ v,cmpM y.path z.path<0
 apart:(x :: r).Pairwise fun u v=>∀ y ∈ u,y ∉ v
end Go.Proofs.Zt
end
section
namespace Go.Proofs.Zq
open Go.RowKit Go.Proofs.YtjghikkboekonaaGreatDoor Go.Proofs.Zw.PrintWords Go.Proofs.Zw.PrintLast Go.Proofs.Zw.PrintMore
open Go.Proofs.Zt (partM markedM markM opqM isM parM lastM underM markF unmarkF wouldM tarM belowM Ch Row Lyr rightC keyM lessM plainM)
structure Nd where
 kind:Int
 mode:Int
 uid:Int
 gid:Int
 mtime:Int
 link:Str
 data:Str
 major:Int
 minor:Int
 attrs:Str
 deriving DecidableEq
def ndOf (x:S28):Nd:=⟨x.f0,x.f1,x.f2,x.f3,x.f4,x.f5.data.toList,x.f6.data.toList,x.f7,x.f8,x.f9.data.toList⟩
def ofNd (n:Nd):S28:=⟨n.kind,n.mode,n.uid,n.gid,n.mtime,B n.link,B n.data,n.major,n.minor,B n.attrs⟩
theorem ofNd_ndOf (x:S28):ofNd (ndOf x)=x:=by cases x;simp [ofNd,ndOf,B]
def enOf (x:S32):Str×Nd:=(x.f0.data.toList,ndOf x.f1)
def ofEn (e:Str×Nd):S32:=⟨B e.1,ofNd e.2⟩
theorem enOf_ofEn (e:Str×Nd):enOf (ofEn e)=e:=rfl
theorem ofEn_enOf (x:S32):ofEn (enOf x)=x:=by
 obtain ⟨a,b⟩:=x
 show (⟨B a.data.toList,ofNd (ndOf b)⟩:S32)=_
 rw [B_L,ofNd_ndOf]
def chOf (x:S57):Ch Str Nd:=⟨x.f0.data.toList,x.f1,ndOf x.f2⟩
def ofCh (c:Ch Str Nd):S57:=⟨B c.path,c.op,ofNd c.node⟩
theorem chOf_ofCh (c:Ch Str Nd):chOf (ofCh c)=c:=rfl
theorem ens_back (l:List (Str×Nd)):(l.map ofEn).map enOf=l:=by rw [List.map_map];exact (List.map_congr_left (fun x _=>enOf_ofEn x)).trans (List.map_id _)
theorem ens_forth (l:List S32):(l.map enOf).map ofEn=l:=by rw [List.map_map];exact (List.map_congr_left (fun x _=>ofEn_enOf x)).trans (List.map_id _)
theorem chs_back (l:List (Ch Str Nd)):(l.map ofCh).map chOf=l:=by rw [List.map_map];exact (List.map_congr_left (fun x _=>chOf_ofCh x)).trans (List.map_id _)
def strangeM (s:Str):Bool:=decide (4096<s.length) || s.contains 0
def numberM (n:Int):Bool:=decide (0≤n) && decide (n≤4611686018427387904)
def deviceM (n:Int):Bool:=decide (0≤n) && decide (n<72057594037927936)
def nodeOk (n:Nd):Bool :=
 decide (0≤n.kind) && decide (n.kind<7) && decide (Go.bits .andNot .i64 n.mode 4095=0) && numberM n.uid && numberM n.gid && numberM n.mtime && !strangeM n.link && deviceM n.major && deviceM n.minor && attrsOk n.attrs &&
 (decide (n.kind=2) || decide (n.kind=3) || n.link.isEmpty) && (decide (n.kind=4) || decide (n.kind=5) || decide (n.major=0) && decide (n.minor=0)) && (decide (n.kind=0) || n.data.isEmpty)
def rtM (s:Str) (n:Nd):Int:=if s.isEmpty || strangeM s then 9 else if nodeOk n then 0 else 1
def zeroN:Nd:=⟨0,0,0,0,0,[],[],0,0,[]⟩
theorem strange_is {s:Str} (h:isM s=true):(s.isEmpty || strangeM s)=false:=by
 have hi:=Zt.isM_iff.1 h
 have hne:=Zt.is_ne h
 have h0:(0:UInt8) ∉ s:=by
  intro hm
  have hj:=Zt.join_cut s
  have : ∀ l:List Str,(∀ x ∈ l,(0:UInt8) ∉ x)→(0:UInt8) ∉ Zt.joinM l:=by
   intro l
   induction l with
   | nil=>intro _;simp [Zt.joinM]
   | cons x r ih =>
    intro hx
    cases r with
    | nil=>exact hx x (by simp)
    | cons y r =>
     rw [Zt.joinM_cons _ (by simp)]
     intro hm
     rcases List.mem_append.1 hm with h|h
     ·exact hx x (by simp) h
     ·rcases List.mem_cons.1 h with h|h
      ·exact absurd h (by decide)
      ·exact ih (fun z hz=>hx z (List.mem_cons_of_mem _ hz)) h
  refine this (Zt.cutM s) (fun x hx=>?_) (by rw [hj];exact hm)
  have:=hi.part x hx
  unfold partM at this
  simp only [Bool.and_eq_true,Bool.not_eq_true'] at this
  simpa using this.2
 have hl:s.length≤4096:=by have:=hi.all;revert this;split <;> omega
 unfold strangeM
 have e1:s.isEmpty=false:=by cases s with|nil=>exact absurd rfl hne|cons _ _=>rfl
 have e2:s.contains 0=false:=by simpa using h0
 rw [e1,e2]
 simp;omega
theorem zero_ok:nodeOk zeroN=true:=by decide
theorem rt_zeroN (s:Str) (h:isM s=true):rtM s zeroN=0:=by
 unfold rtM
 rw [strange_is h,zero_ok];rfl
def Y:Zt.Sys Nd:=⟨fun n=>decide (n.kind=1),rtM,zeroN,rt_zeroN⟩
def pz18 (n:Nd):List Value:=[.int .i64 n.kind,.int .i64 n.mode,.int .i64 n.uid,.int .i64 n.gid,.int .i64 n.mtime,.string (B n.link),.string (B n.data),.int .i64 n.major,.int .i64 n.minor,.string (B n.attrs)]
def ndVal (n:Nd):Value:=.agg (pz18 n).toArray
def pz13 (c:Ch Str Nd):List Value:=.string (B c.path) :: .int .i64 c.op :: pz18 c.node
def eCells (e:Str×Nd):List Value:=.string (B e.1) :: pz18 e.2
end Go.Proofs.Zq
end
section
namespace Go.Proofs.Zq
open Go.RowKit Go.Proofs.Zw.PrintWords Go.Proofs.Zw.PrintLast Go.Proofs.Zw.PrintMore
open Go.Proofs.YtjghikkboekonaaGreatDoor (GL)
attribute [local go_sem] max2_int min2_int max_two min_two pz35 pz36 max_four min_four
def mktar_strange.f (a0:ByteArray):Option (Bool):=if (a0.size:Int) > 4096 then (some true) else ((strings_IndexByte.f a0 0).bind fun t106=>(some (decide (t106 ≥ 0))))
set_option maxHeartbeats 8000000 in
set_option maxRecDepth 100000 in
theorem mktar_strange.calls (a0:ByteArray) (r:Bool) (w:World) (h:mktar_strange.f a0=some r) :
  Calls Tryz.prog 95 #[.string a0] w fun e w'=>e=.returned (.bool r)∧pz17 w w':=by
 have H:(if (a0.size:Int) > 4096 then (some true) else ((strings_IndexByte.f a0 0).bind fun t106=>(some (decide (t106 ≥ 0)))))=some r:=h
 clear h
 by_cases c2:(a0.size:Int) > 4096
 ·rw [if_pos c2] at H
  have c2b0:decide (4096<(a0.size:Int))=true:=decide_eq_true c2
  have c2b1:decide (4096<a0.size)=true:=decide_eq_true (by omega)
  clear c2
  obtain rfl:=Option.some.inj H
  go_enter Tryz.func95,Tryz.ntmps95
  go_wp2
  go_ret
  exact ⟨by first|rfl|(simp;done)|(simp [*];done),by repeat (first|exact pz17.refl _|apply pz17.step)⟩
 ·rw [if_neg c2] at H
  have c2b0:decide (4096<(a0.size:Int))=false:=decide_eq_false c2
  have c2b1:decide (4096<a0.size)=false:=decide_eq_false (by omega)
  clear c2
  replace H:=Option.bind_eq_some_iff.mp H
  obtain ⟨t106,A30,H⟩:=H
  replace H:(some (decide (t106 ≥ 0)))=some r:=H
  have A3:=pz4.mk A30
  clear A30
  obtain rfl:=Option.some.inj H
  go_enter Tryz.func95,Tryz.ntmps95
  go_wp2_with (first|(go_at_call 137;(with_reducible refine (strings_IndexByte.calls a0 0 t106 _ A3.out).mono ?_);rintro e w' ⟨rfl,⟨nd,rfl⟩⟩))
  go_ret
  exact ⟨by first|rfl|(simp;done)|(simp [*];done),by repeat (first|exact pz17.refl _|apply pz17.step)⟩
def mktar_number.f (a0:Int):Option (Bool):=if a0 ≥ 0 then (some (decide (a0≤4611686018427387904))) else (some false)
set_option maxHeartbeats 8000000 in
set_option maxRecDepth 100000 in
theorem mktar_number.calls (a0:Int) (r:Bool) (w:World) (h:mktar_number.f a0=some r) :
  Calls Tryz.prog 96 #[.int .i64 a0] w fun e w'=>e=.returned (.bool r)∧pz17 w w':=by
 have H:(if a0 ≥ 0 then (some (decide (a0≤4611686018427387904))) else (some false))=some r:=h
 clear h
 by_cases c2:a0 ≥ 0
 ·rw [if_pos c2] at H
  have c2b0:decide (0≤a0)=true:=decide_eq_true c2
  clear c2
  obtain rfl:=Option.some.inj H
  go_enter Tryz.func96,Tryz.ntmps96
  go_wp2
  go_ret
  exact ⟨by first|rfl|(simp;done)|(simp [*];done),by repeat (first|exact pz17.refl _|apply pz17.step)⟩
 ·rw [if_neg c2] at H
  have c2b0:decide (0≤a0)=false:=decide_eq_false c2
  clear c2
  obtain rfl:=Option.some.inj H
  go_enter Tryz.func96,Tryz.ntmps96
  go_wp2
  go_ret
  exact ⟨by first|rfl|(simp;done)|(simp [*];done),by repeat (first|exact pz17.refl _|apply pz17.step)⟩
def octal_lay.l0:Nat→Int→Int→Int→List Int→Int→Int→Option (List Int×Bool)
 | 0,_,_,_,_,_,_=>none
 | k + 1,x0,x1,x2,x8,x12,x13=>if x13<x12 then (if 0≤x1 then (if 0≤(wrap64 ((wrap64 (x2 - 1)) - x13)) then (if (wrap64 ((wrap64 (x2 - 1)) - x13))<(x8.length:Int) then (octal_lay.l0 k (shr .i64 x0 x1) x1 x2 (x8.set ((wrap64 ((wrap64 (x2 - 1)) - x13)):Int).toNat ((Go.bits .and .i64 x0 (wrap64 ((shl .i64 1 x1) - 1))) % 256)) x12 (wrap64 (x13 + 1))) else (none)) else (none)) else (none)) else (some (x8,(x0 == 0)))
def octal_lay.f (k:Nat) (a0:Int) (a1:Int) (a2:Int):Option (List Int×Bool):=if 0≤a2 then (if (a2:Int).toNat≤281474976710656 then (octal_lay.l0 k a0 a1 a2 (List.replicate (a2:Int).toNat 0) a2 0) else (none)) else (none)
set_option maxHeartbeats 8000000 in
set_option maxRecDepth 100000 in
theorem octal_lay.calls (k:Nat) (a0:Int) (a1:Int) (a2:Int) (r1:List Int) (r2:Bool) (w:World) (h:octal_lay.f k a0 a1 a2=some (r1,r2)) :
  Calls Tryz.prog 168 #[.int .i64 a0,.int .i64 a1,.int .i64 a2] w fun e w'=>∃ v0_:Value,e=.returned (.tuple #[v0_,.bool r2])∧Kd.R (Kd.int .u8) 5 w' w.heap.size (fun _=>True) v0_ r1∧Below w.heap.size w w':=by
 have HB:=pz4.mk (Below.refl w.heap.size w)
 have H:(if 0≤a2 then (if (a2:Int).toNat≤281474976710656 then (octal_lay.l0 k a0 a1 a2 (List.replicate (a2:Int).toNat 0) a2 0) else (none)) else (none))=some (r1,r2):=h
 clear h
 by_cases c4:0≤a2
 ·rw [if_pos c4] at H
  have c4b0:=eq_true c4
  have c4b1:decide (0≤a2)=true:=decide_eq_true c4
  clear c4
  by_cases c5:(a2:Int).toNat≤281474976710656
  ·rw [if_pos c5] at H
   have c5b0:=eq_true c5
   have c5b1:decide ((a2:Int).toNat≤281474976710656)=true:=decide_eq_true c5
   clear c5
   obtain ⟨y107,hy107⟩:∃ y_:List Int,y_=(List.replicate (a2:Int).toNat 0):=⟨_,rfl⟩
   replace H:(octal_lay.l0 k a0 a1 a2 y107 a2 0)=some (r1,r2):=by first|(rw [hy107];with_reducible exact H)|(have H2_:=(Option.bind_some _ _).symm.trans H;rw [hy107];with_reducible exact H2_)|(have H2_:=(Option.bind_some _ _).symm.trans H;with_reducible exact H2_)|with_reducible exact H|(rw [hy107];exact H)|exact H
   have Ny107:=pz4.mk hy107
   clear hy107
   have H':=pz4.mk H
   clear H
   go_enter Tryz.func168,Tryz.ntmps168
   go_wp2_with (first|((with_reducible refine pz10 (N:=11) rfl ?_);refine Kd.R_make (Kd.int .u8) _ 5 rfl (N:=11) rfl 148 _ _ rfl a2 rfl rfl Tryz.underlying148 (.int .u8 0) 1 info5 rfl (by decide) (by omega) 0 (ok:=fun _=>True) (okp:=fun _=>True) rfl (fun _ hk=>hk) trivial (of_decide_eq_true (by first|(with_reducible assumption)|assumption)) (Nat.le_trans (Nat.mul_le_mul_right _ (of_decide_eq_true (by first|(with_reducible assumption)|assumption):a2.toNat≤281474976710656)) (by omega)) (Below.refl _ _) (Nat.le_refl _) ?_;intro v108 w6 ho7 hb hg_ hnew_;clear hg_ hnew_;(first|rw [← Ny107.out] at ho7|(simp only [Int.reduceToNat] at ho7;rw [← Ny107.out] at ho7));have n0_:=pz4.mk (Kd.R_lower ho7 (pz20 (by repeat (first|(with_reducible first|exact HB.out|apply pz3|apply pz1|apply pz2)|exact HB.out))));have n1_:=pz4.mk (pz9 (by repeat (first|(with_reducible first|exact HB.out|apply pz3|apply pz1|apply pz2)|exact HB.out)) hb);clear HB;have HO109:=n0_;have HB:=n1_;clear n0_ n1_;clear hb ho7))
   go_loopg [0,13] k (fun kq v0 v13 w'=>∃ (x0_1:Int) (x8_1:List Int) (x13_1:Int),v0=.int .i64 x0_1∧v13=.int .i64 x13_1∧pz4 (octal_lay.l0 kq x0_1 a1 a2 x8_1 a2 x13_1=some (r1,r2))∧pz4 (kq≤k)∧pz4 (Kd.R (Kd.int .u8) 5 w' w.heap.size (fun _=>True) v108 x8_1)∧pz4 (Below w.heap.size w w'))
   case atStart=>exact ⟨(a0),(y107),(0),(by first|rfl|(simp;done)|(simp [*];done)),(by first|rfl|(simp;done)|(simp [*];done)),H',⟨Nat.le_refl _⟩,⟨by (with_reducible repeat (first|apply Kd.pz16|apply Kd.pz15|apply Kd.pz19));exact HO109.out⟩,⟨by repeat (first|(with_reducible first|exact HB.out|apply pz3|apply pz1|apply pz2)|exact HB.out)⟩⟩
   case round =>
    clear H'
    try clear c4;try clear c4b0;try clear c4b1;try clear c5;try clear c5b0;try clear c5b1
    obtain ⟨x0_1,x8_1,x13_1,rfl,rfl,HA,HK1,HO_8,HB⟩:=hrel
    cases gk with
    | zero=>exact absurd HA.out (by simp [octal_lay.l0])
    | succ k1 =>
     have H:=HA.out
     clear HA
     simp only [octal_lay.l0] at H
     by_cases c8:x13_1<a2
     ·rw [if_pos c8] at H
      have c8b0:decide (x13_1<a2)=true:=decide_eq_true c8
      clear c8
      by_cases c9:0≤a1
      ·rw [if_pos c9] at H
       have c9b0:=eq_true c9
       have c9b1:decide (0≤a1)=true:=decide_eq_true c9
       clear c9
       obtain ⟨ji10,hji10⟩:∃ j_:Int,(shl .i64 1 a1)=j_:=⟨_,rfl⟩
       replace H:(if 0≤(wrap64 ((wrap64 (a2 - 1)) - x13_1)) then (if (wrap64 ((wrap64 (a2 - 1)) - x13_1))<(x8_1.length:Int) then (octal_lay.l0 k1 (shr .i64 x0_1 a1) a1 a2 (x8_1.set ((wrap64 ((wrap64 (a2 - 1)) - x13_1)):Int).toNat ((Go.bits .and .i64 x0_1 (wrap64 ((ji10) - 1))) % 256)) a2 (wrap64 (x13_1 + 1))) else (none)) else (none))=some (r1,r2):=by first|(rw [hji10] at H;exact H)|(simp only [hji10] at H ⊢;exact H)
       have hji10_:(IntKind.i64.wrap (1 * 2 ^ min a1.toNat 64))=ji10:=hji10
       have hji10z:a1≤64→(IntKind.i64.wrap (1 * 2 ^ a1.toNat))=ji10:=shl_small hji10
       have hji10u:(IntKind.i64.wrap (2 ^ min a1.toNat 64))=ji10:=by have h_:=hji10_;rw [Int.one_mul] at h_;exact h_
       have hji10v:a1≤64→(IntKind.i64.wrap (2 ^ a1.toNat))=ji10:=fun hle_=>by have h_:=hji10z hle_;rw [Int.one_mul] at h_;exact h_
       have hji10y:(wrap64 (1 * 2 ^ min a1.toNat 64))=ji10:=(i64_w _).symm.trans hji10_
       have hji10x:a1≤64→(wrap64 (1 * 2 ^ a1.toNat))=ji10:=fun h_=>(i64_w _).symm.trans (hji10z h_)
       obtain ⟨ji11,hji11⟩:∃ j_:Int,(wrap64 ((wrap64 (a2 - 1)) - x13_1))=j_:=⟨_,rfl⟩
       replace H:(if 0≤(ji11) then (if (ji11)<(x8_1.length:Int) then (octal_lay.l0 k1 (shr .i64 x0_1 a1) a1 a2 (x8_1.set ((ji11):Int).toNat ((Go.bits .and .i64 x0_1 (wrap64 ((ji10) - 1))) % 256)) a2 (wrap64 (x13_1 + 1))) else (none)) else (none))=some (r1,r2):=by first|(rw [hji11] at H;exact H)|(simp only [hji11] at H ⊢;exact H)
       have hji11w:(IntKind.i64.wrap ((wrap64 (a2 - 1)) - x13_1))=ji11:=(i64_w _).trans hji11
       by_cases c12:0≤(ji11)
       ·rw [if_pos c12] at H
        have c12b0:decide (0≤(ji11))=true:=decide_eq_true c12
        clear c12
        by_cases c13:(ji11)<(x8_1.length:Int)
        ·rw [if_pos c13] at H
         have c13b0:decide ((ji11)<(x8_1.length:Int))=true:=decide_eq_true c13
         clear c13
         obtain ⟨y110,hy110⟩:∃ y_:List Int,y_=(x8_1.set ((ji11):Int).toNat ((Go.bits .and .i64 x0_1 (wrap64 ((ji10) - 1))) % 256)):=⟨_,rfl⟩
         replace H:(octal_lay.l0 k1 (shr .i64 x0_1 a1) a1 a2 y110 a2 (wrap64 (x13_1 + 1)))=some (r1,r2):=by first|(rw [hy110];with_reducible exact H)|(have H2_:=(Option.bind_some _ _).symm.trans H;rw [hy110];with_reducible exact H2_)|(have H2_:=(Option.bind_some _ _).symm.trans H;with_reducible exact H2_)|with_reducible exact H|(rw [hy110];exact H)|exact H
         have Ny110:=pz4.mk hy110
         clear hy110
         have c15b0:=eq_true (of_decide_eq_true (by first|(with_reducible assumption)|assumption):0≤a1)
         obtain ⟨ji16,hji16⟩:∃ j_:Int,(shr .i64 x0_1 a1)=j_:=⟨_,rfl⟩
         replace H:(octal_lay.l0 k1 ji16 a1 a2 y110 a2 (wrap64 (x13_1 + 1)))=some (r1,r2):=by first|(rw [hji16] at H;exact H)|(simp only [hji16] at H ⊢;exact H)
         have hji16_:(x0_1 / 2 ^ min a1.toNat 64)=ji16:=hji16
         have hji16z:a1≤64→(x0_1 / 2 ^ a1.toNat)=ji16:=shr_small hji16
         have H':=pz4.mk H
         clear H
         have p14:0≤((ji11):Int):=of_decide_eq_true (by first|(with_reducible assumption)|assumption)
         have q14:((ji11):Int)<((x8_1.length:Int):Int):=of_decide_eq_true (by first|(with_reducible assumption)|assumption)
         obtain ⟨go14,co14,eo14,gb14,gl14,cl14,HG14⟩:=Kd.R_form HO_8.out (by omega)
         (first|cases eo14|(injection eo14 with ea_ en_ ec_;(first|subst ea_|(injection ea_ with ea_;subst ea_));subst ec_;clear en_))
         have GB14:=pz4.mk gb14
         have GG14:=pz4.mk HG14
         clear gb14 gl14 HG14
         obtain ⟨hx14_0,hf14_0⟩:=Kd.R_celln 0 HO_8.out ((ji11):Int) p14 q14
         replace p14:=eq_true p14
         replace q14:=eq_true q14
         have HP17:=Kd.R_putg HO_8.out ((ji11):Int) ((Go.bits .and .i64 x0_1 (wrap64 ((ji10) - 1))) % 256)
         go_wp2_with (first|((with_reducible refine pz28 (t:=5) (p:=27) rfl ?_);refine store_event (t:=5) (p:=27) (v:=?vo_w18) (w1:=(wr.setCell ⟨go14,((ji11):Int).toNat,none⟩ (.int .u8 ((Go.bits .and .i64 x0_1 (wrap64 ((ji10) - 1))) % 256)))) ?hg ?ho ?hn ?hr ?_;(case ho=>rfl);(case hg=>rfl);(case hn=>rfl);(case hr=>first|(go_simp;done)|(go_simp;rfl));intro w18 hw;have hg:wr.grownBy w18 (some go14):=(by rw [hw];exact HP17.2);have hp_:Kd.R (Kd.int .u8) 5 w18 w.heap.size (fun _=>True) (.slice (some ⟨go14,0,none⟩) x8_1.length co14) y110:=(by rw [hw,Ny110.out];exact HP17.1);clear HP17;have n0_:=pz4.mk (hp_);have n1_:=pz4.mk ((by rw [hw];exact pz14 (HB.out) GB14.out:Below w.heap.size w w18));clear HO_8;clear HB;have HO_8:=n0_;have HB:=n1_;clear n0_ n1_;clear hg hw hp_))
         go_roundg k1
         case measure=>have:=HK1.out;omega
         case rel=>exact ⟨(ji16),(y110),(wrap64 (x13_1 + 1)),(by first|rfl|(simp;done)|(simp only [← hji16] <;> (first|rfl|simp))|(simp [*];done)),(by first|rfl|(simp;done)|(simp [*];done)),H',⟨by have:=HK1.out;omega⟩,⟨by (with_reducible repeat (first|apply Kd.pz16|apply Kd.pz15|apply Kd.pz19));exact HO_8.out⟩,⟨by repeat (first|(with_reducible first|exact HB.out|apply pz3|apply pz1|apply pz2)|exact HB.out)⟩⟩
        ·rw [if_neg c13] at H
         exact absurd H (by simp)
       ·rw [if_neg c12] at H
        exact absurd H (by simp)
      ·rw [if_neg c9] at H
       exact absurd H (by simp)
     ·rw [if_neg c8] at H
      have c8b0:decide (x13_1<a2)=false:=decide_eq_false c8
      clear c8
      simp only [Option.some.injEq,Prod.mk.injEq] at H
      obtain ⟨rfl,rfl⟩:=H
      go_wp2
      go_ret2
      exact ⟨_,by first|rfl|(simp [pz6,pz5] <;> rfl)|(simp [*,pz6,pz5] <;> rfl),by (with_reducible repeat (first|apply Kd.pz16|apply Kd.pz15|apply Kd.pz19));exact HO_8.out,by repeat (first|(with_reducible first|exact HB.out|apply pz3|apply pz1|apply pz2)|exact HB.out)⟩
  ·rw [if_neg c5] at H
   exact absurd H (by simp)
 ·rw [if_neg c4] at H
  exact absurd H (by simp)
mutual
def octal_Write.j0:Nat→Int→Int→Bool→Option (List Int×Bool)
 | 0,_,_,_=>none
 | k + 1,x0,x1,x24=>if x24=true then (some (([]:List Int),false)) else ((octal_lay.f k x0 3 (wrap64 (x1 - 1))).bind fun bt111=>(if bt111.2=true then (octal_Write.l0 k bt111.1 (bt111.1.length:Int) 0) else ((octal_lay.f k x0 8 (wrap64 (x1 - 1))).bind fun bt120=>(if bt120.2=true then ((some (([128]:List Int):List Int)).bind fun y124=>(if y124.length + bt120.1.length<140737488355328 then (some ((y124 ++ bt120.1),true)) else (none))) else (some (([]:List Int),false))))))
def octal_Write.l0:Nat→List Int→Int→Int→Option (List Int×Bool)
 | 0,_,_,_=>none
 | k + 1,x6,x34,x35=>if x35<x34 then (if 0≤x35 then (if x35<(x6.length:Int) then (octal_Write.l0 k (x6.set (x35:Int).toNat (((rd x6 x35) + 48) % 256)) x34 (wrap64 (x35 + 1))) else (none)) else (none)) else (if x6.length<140737488355328 then (some ((x6 ++ [0]),true)) else (none))
end
def octal_Write.f (k:Nat) (a0:Int) (a1:Int):Option (List Int×Bool):=if a0<0 then (octal_Write.j0 k a0 a1 true) else (if a0 > 4611686018427387904 then (octal_Write.j0 k a0 a1 true) else (if a1<2 then (octal_Write.j0 k a0 a1 true) else (octal_Write.j0 k a0 a1 (decide (a1 > 12)))))
set_option maxHeartbeats 8000000 in
set_option maxRecDepth 100000 in
theorem octal_Write.calls (k:Nat) (a0:Int) (a1:Int) (r1:List Int) (r2:Bool) (w:World) (h:octal_Write.f k a0 a1=some (r1,r2)) :
  Calls Tryz.prog 138 #[.int .i64 a0,.int .i64 a1] w fun e w'=>∃ v0_:Value,e=.returned (.tuple #[v0_,.bool r2])∧Kd.R (Kd.int .u8) 5 w' w.heap.size (fun _=>True) v0_ r1∧Below w.heap.size w w':=by
 have HB:=pz4.mk (Below.refl w.heap.size w)
 have H:(if a0<0 then (octal_Write.j0 k a0 a1 true) else (if a0 > 4611686018427387904 then (octal_Write.j0 k a0 a1 true) else (if a1<2 then (octal_Write.j0 k a0 a1 true) else (octal_Write.j0 k a0 a1 (decide (a1 > 12))))))=some (r1,r2):=h
 clear h
 have HC3:=pz4.mk H
 clear H
 go_enter Tryz.func138,Tryz.ntmps138
 go_upto_region 1 with (fail)
 go_cut [24] (fun v24 wc=>∃ (kq:Nat) (x24_2:Bool),v24=.bool x24_2∧pz4 (octal_Write.j0 kq a0 a1 x24_2=some (r1,r2))∧pz4 (kq≤k)∧pz4 (Below w.heap.size w wc))
 case first =>
  have H:=HC3.out
  clear HC3
  by_cases c4:a0<0
  ·rw [if_pos c4] at H
   have c4b0:decide (a0<0)=true:=decide_eq_true c4
   clear c4
   (first|rw [c4b0]|(simp only [i64_w,i32_w];rw [c4b0])|skip)
   have H':=pz4.mk H
   clear H
   go_wp2
   go_meet
   case rel=>exact ⟨_,(true),(by first|rfl|(simp;done)|(simp [*];done)),H',⟨by first|omega|exact Nat.le_refl _⟩,⟨by repeat (first|(with_reducible first|exact HB.out|apply pz3|apply pz1|apply pz2)|exact HB.out)⟩⟩
  ·rw [if_neg c4] at H
   have c4b0:decide (a0<0)=false:=decide_eq_false c4
   clear c4
   (first|rw [c4b0]|(simp only [i64_w,i32_w];rw [c4b0])|skip)
   by_cases c5:a0 > 4611686018427387904
   ·rw [if_pos c5] at H
    have c5b0:decide (4611686018427387904<a0)=true:=decide_eq_true c5
    clear c5
    have H':=pz4.mk H
    clear H
    go_wp2
    go_meet
    case rel=>exact ⟨_,(true),(by first|rfl|(simp;done)|(simp [*];done)),H',⟨by first|omega|exact Nat.le_refl _⟩,⟨by repeat (first|(with_reducible first|exact HB.out|apply pz3|apply pz1|apply pz2)|exact HB.out)⟩⟩
   ·rw [if_neg c5] at H
    have c5b0:decide (4611686018427387904<a0)=false:=decide_eq_false c5
    clear c5
    by_cases c6:a1<2
    ·rw [if_pos c6] at H
     have c6b0:decide (a1<2)=true:=decide_eq_true c6
     clear c6
     have H':=pz4.mk H
     clear H
     go_wp2
     go_meet
     case rel=>exact ⟨_,(true),(by first|rfl|(simp;done)|(simp [*];done)),H',⟨by first|omega|exact Nat.le_refl _⟩,⟨by repeat (first|(with_reducible first|exact HB.out|apply pz3|apply pz1|apply pz2)|exact HB.out)⟩⟩
    ·rw [if_neg c6] at H
     have c6b0:decide (a1<2)=false:=decide_eq_false c6
     clear c6
     have H':=pz4.mk H
     clear H
     go_wp2
     go_meet
     case rel=>exact ⟨_,(decide (a1 > 12)),(by first|rfl|(simp;done)|(simp [*];done)),H',⟨by first|omega|exact Nat.le_refl _⟩,⟨by repeat (first|(with_reducible first|exact HB.out|apply pz3|apply pz1|apply pz2)|exact HB.out)⟩⟩
 case rest =>
  clear HC3
  obtain ⟨kq,x24_2,rfl,HA,HJ2,HB⟩:=hcut
  cases kq with
  | zero=>exact absurd HA.out (by simp [octal_Write.j0])
  | succ kj2 =>
   have H:=HA.out
   clear HA
   simp only [octal_Write.j0] at H
   by_cases c7:x24_2=true
   ·subst c7
    have H1:(some (([]:List Int),false))=some (r1,r2):=by rw [if_pos rfl] at H;exact H
    clear H
    have H:=H1
    clear H1
    simp only [Option.some.injEq,Prod.mk.injEq] at H
    obtain ⟨rfl,rfl⟩:=H
    go_wp2
    go_ret2
    exact ⟨_,by first|rfl|(simp [pz6,pz5] <;> rfl)|(simp [*,pz6,pz5] <;> rfl),by first|exact Kd.R_nil _ _ _ _ _|exact Kd.N_nil _ _ _ _ _|exact Kd.V_nil _ _ _ _ _|exact Kd.Q_nil _ _ _ _ _|exact Kd.S_nil _ _ _ _ _,by repeat (first|(with_reducible first|exact HB.out|apply pz3|apply pz1|apply pz2)|exact HB.out)⟩
   ·replace c7:=Bool.eq_false_iff.mpr c7
    subst c7
    have H1:((octal_lay.f kj2 a0 3 (wrap64 (a1 - 1))).bind fun bt111=>(if bt111.2=true then (octal_Write.l0 kj2 bt111.1 (bt111.1.length:Int) 0) else ((octal_lay.f kj2 a0 8 (wrap64 (a1 - 1))).bind fun bt120=>(if bt120.2=true then ((some (([128]:List Int):List Int)).bind fun y124=>(if y124.length + bt120.1.length<140737488355328 then (some ((y124 ++ bt120.1),true)) else (none))) else (some (([]:List Int),false))))))=some (r1,r2):=by rw [if_neg (show ¬ (false=true) by decide)] at H;exact H
    clear H
    have H:=H1
    clear H1
    replace H:=Option.bind_eq_some_iff.mp H
    obtain ⟨⟨t111,t112⟩,A80,H⟩:=H
    replace H:(if t112=true then (octal_Write.l0 kj2 t111 (t111.length:Int) 0) else ((octal_lay.f kj2 a0 8 (wrap64 (a1 - 1))).bind fun bt120=>(if bt120.2=true then ((some (([128]:List Int):List Int)).bind fun y124=>(if y124.length + bt120.1.length<140737488355328 then (some ((y124 ++ bt120.1),true)) else (none))) else (some (([]:List Int),false)))))=some (r1,r2):=H
    have A8:=pz4.mk A80
    clear A80
    by_cases c9:t112=true
    ·subst c9
     have H1:(octal_Write.l0 kj2 t111 (t111.length:Int) 0)=some (r1,r2):=by rw [if_pos rfl] at H;exact H
     clear H
     have H:=H1
     clear H1
     have H':=pz4.mk H
     clear H
     go_wp2_with (first|((with_reducible refine pz8 (f:=168) rfl ?_);refine pz21 (some 29) rfl rfl Tryz.func168 (by kernel_rfl) rfl #[.int .i64 a0,.int .i64 3,.int .i64 (wrap64 (a1 - 1))] rfl (by (try simp only [pM]);first|done|rfl|(simp only [pL];rfl)) ?_;(with_reducible refine (octal_lay.calls kj2 a0 3 (wrap64 (a1 - 1)) t111 true _ A8.out).mono ?_);rintro e w10 ⟨v113,rfl,ho0,hb⟩;refine ⟨_,rfl,?_⟩;have n0_:=pz4.mk (Kd.R_lower ho0 (pz20 (by repeat (first|(with_reducible first|exact HB.out|apply pz3|apply pz1|apply pz2)|exact HB.out))));have n1_:=pz4.mk (pz9 (by repeat (first|(with_reducible first|exact HB.out|apply pz3|apply pz1|apply pz2)|exact HB.out)) hb);clear HB;have HO114:=n0_;have HB:=n1_;clear n0_ n1_;(try clear hb);(try clear hb2);(try clear hk);(try clear hi);(try clear ho0);obtain ⟨Ao11,co11,eo11⟩:=Kd.R_slice HO114.out;subst eo11))
     go_loopg [35] kj2 (fun kq v35 w'=>∃ (x6_2:List Int) (x35_2:Int),v35=.int .i64 x35_2∧pz4 (octal_Write.l0 kq x6_2 (t111.length:Int) x35_2=some (r1,r2))∧pz4 (kq≤kj2)∧pz4 (Kd.R (Kd.int .u8) 5 w' w.heap.size (fun _=>True) (.slice Ao11 t111.length co11) x6_2)∧pz4 (Below w.heap.size w w'))
     case atStart=>exact ⟨(t111),(0),(by first|rfl|(simp;done)|(simp [*];done)),H',⟨Nat.le_refl _⟩,⟨by (with_reducible repeat (first|apply Kd.pz16|apply Kd.pz15|apply Kd.pz19));exact HO114.out⟩,⟨by repeat (first|(with_reducible first|exact HB.out|apply pz3|apply pz1|apply pz2)|exact HB.out)⟩⟩
     case round =>
      clear H'
      try clear c7;try clear c9
      obtain ⟨x6_2,x35_2,rfl,HA,HK2,HO_6,HB⟩:=hrel
      have hl6_2:=(Kd.R_reads' HO_6.out).1
      rw [hl6_2] at HO_6
      (try simp only [hl6_2])
      cases gk with
      | zero=>exact absurd HA.out (by simp [octal_Write.l0])
      | succ k2 =>
       have H:=HA.out
       clear HA
       simp only [octal_Write.l0] at H
       by_cases c12:x35_2<(t111.length:Int)
       ·rw [if_pos c12] at H
        have c12b0:decide (x35_2<(t111.length:Int))=true:=decide_eq_true c12
        clear c12
        by_cases c13:0≤x35_2
        ·rw [if_pos c13] at H
         have c13b0:decide (0≤x35_2)=true:=decide_eq_true c13
         clear c13
         by_cases c14:x35_2<(x6_2.length:Int)
         ·rw [if_pos c14] at H
          have c14b0:decide (x35_2<(x6_2.length:Int))=true:=decide_eq_true c14
          clear c14
          obtain ⟨y116,hy116⟩:∃ y_:List Int,y_=(x6_2.set (x35_2:Int).toNat (((rd x6_2 x35_2) + 48) % 256)):=⟨_,rfl⟩
          replace H:(octal_Write.l0 k2 y116 (t111.length:Int) (wrap64 (x35_2 + 1)))=some (r1,r2):=by first|(rw [hy116];with_reducible exact H)|(have H2_:=(Option.bind_some _ _).symm.trans H;rw [hy116];with_reducible exact H2_)|(have H2_:=(Option.bind_some _ _).symm.trans H;with_reducible exact H2_)|with_reducible exact H|(rw [hy116];exact H)|exact H
          have Ny116:=pz4.mk hy116
          clear hy116
          have H':=pz4.mk H
          clear H
          have p115:0≤(x35_2:Int):=of_decide_eq_true (by first|(with_reducible assumption)|assumption)
          have q115:x35_2<(x6_2.length:Int):=of_decide_eq_true (by first|(with_reducible assumption)|assumption)
          obtain ⟨ad115,e115,hx115_0⟩:=Kd.at_int (Kd.R_reads' HO_6.out).2.2 x35_2 p115 q115
          cases e115
          replace p115:=eq_true p115
          replace q115:=eq_true q115
          have p15:0≤(x35_2:Int):=of_decide_eq_true (by first|(with_reducible assumption)|assumption)
          have q15:(x35_2:Int)<((x6_2.length:Int):Int):=of_decide_eq_true (by first|(with_reducible assumption)|assumption)
          obtain ⟨go15,co15,eo15,gb15,gl15,cl15,HG15⟩:=Kd.R_form HO_6.out (by omega)
          (first|cases eo15|(injection eo15 with ea_ en_ ec_;(first|subst ea_|(injection ea_ with ea_;subst ea_));subst ec_;clear en_))
          have GB15:=pz4.mk gb15
          have GG15:=pz4.mk HG15
          clear gb15 gl15 HG15
          (first|simp only [add_plain] at hx115_0|skip)
          obtain ⟨hx15_0,hf15_0⟩:=Kd.R_celln 0 HO_6.out (x35_2:Int) p15 q15
          replace p15:=eq_true p15
          replace q15:=eq_true q15
          have HP16:=Kd.R_putg HO_6.out (x35_2:Int) (((rd x6_2 x35_2) + 48) % 256)
          go_wp2_with (first|((with_reducible refine pz28 (t:=5) (p:=43) rfl ?_);refine store_event (t:=5) (p:=43) (v:=?vo_w17) (w1:=(wr.setCell ⟨go15,(x35_2:Int).toNat,none⟩ (.int .u8 (((rd x6_2 x35_2) + 48) % 256)))) ?hg ?ho ?hn ?hr ?_;(case ho=>rfl);(case hg=>rfl);(case hn=>rfl);(case hr=>first|(go_simp;done)|(go_simp;rfl));intro w17 hw;have hg:wr.grownBy w17 (some go15):=(by rw [hw];exact HP16.2);have hp_:Kd.R (Kd.int .u8) 5 w17 w.heap.size (fun _=>True) (.slice (some ⟨go15,0,none⟩) x6_2.length co11) y116:=(by rw [hw,Ny116.out];exact HP16.1);clear HP16;have n0_:=pz4.mk (hp_);have n1_:=pz4.mk ((by rw [hw];exact pz14 (HB.out) GB15.out:Below w.heap.size w w17));clear HO_6;clear HB;have HO_6:=n0_;have HB:=n1_;clear n0_ n1_;clear hg hw hp_))
          (try simp only [← hl6_2])
          go_roundg k2
          case measure=>have:=HJ2.out;have:=HK2.out;omega
          case rel=>exact ⟨(y116),(wrap64 (x35_2 + 1)),(by first|rfl|(simp;done)|(simp [*];done)),H',⟨by have:=HJ2.out;have:=HK2.out;omega⟩,⟨by (try simp only [hl6_2]);(with_reducible repeat (first|apply Kd.pz16|apply Kd.pz15|apply Kd.pz19));exact HO_6.out⟩,⟨by repeat (first|(with_reducible first|exact HB.out|apply pz3|apply pz1|apply pz2)|exact HB.out)⟩⟩
         ·rw [if_neg c14] at H
          exact absurd H (by simp)
        ·rw [if_neg c13] at H
         exact absurd H (by simp)
       ·rw [if_neg c12] at H
        have c12b0:decide (x35_2<(t111.length:Int))=false:=decide_eq_false c12
        have c12b1:decide (x35_2<(x6_2.length:Int))=false:=by (first|rw [hl6_2]|rw [← hl6_2]);exact c12b0
        clear c12
        by_cases c18:x6_2.length<140737488355328
        ·rw [if_pos c18] at H
         have LMc18:=pz4.mk c18
         clear c18
         obtain ⟨y117,hy117⟩:∃ y_:List Int,y_=(x6_2 ++ [0]):=⟨_,rfl⟩
         replace H:(some (y117,true))=some (r1,r2):=by first|(rw [hy117];with_reducible exact H)|(have H2_:=(Option.bind_some _ _).symm.trans H;rw [hy117];with_reducible exact H2_)|(have H2_:=(Option.bind_some _ _).symm.trans H;with_reducible exact H2_)|with_reducible exact H|(rw [hy117];exact H)|exact H
         have Ny117:=pz4.mk hy117
         clear hy117
         simp only [Option.some.injEq,Prod.mk.injEq] at H
         obtain ⟨rfl,rfl⟩:=H
         go_wp2_with (first|((with_reducible refine gate_builtin (b:=.append) (xs:=#[.tmp 45,.tmp 46]) rfl ?_);at_builtin;refine Kd.R_append (Kd.int .u8) (w0:=w) w.heap.size rfl (.tmp 45) (.tmp 46) 148 5 (.int .u8 0) 1 rfl Tryz.underlying148 info5 rfl (by decide) (by omega) (.slice Ao11 x6_2.length co11) x6_2 0 [.int .u8 0] (fun _=>True) (fun _=>False) rfl rfl ?aP (fun _ hk=>hk.elim) ?aF ?aO ?aB ?aS ?aL ?_;(case aP=>exact rfl);(case aB=>exact (by repeat (first|(with_reducible first|exact HB.out|apply pz3|apply pz1|apply pz2)|exact HB.out)));(case aF=>exact (fun _ _=>trivial));(case aO=>exact (by (with_reducible repeat (first|apply Kd.pz16|apply Kd.pz15|apply Kd.pz19));exact HO_6.out));(case aS=>exact (pz20 (by repeat (first|(with_reducible first|exact HB.out|apply pz3|apply pz1|apply pz2)|exact HB.out))));(case aL=>have:=LMc18.out;omega);intro v118 w19 ho hb hg hat;rw [← Ny117.out] at ho;have n0_:=pz4.mk (hb);have n1_:=pz4.mk (ho);clear HB;clear HO_6;have HB:=n0_;have HO119:=n1_;clear n0_ n1_;clear ho hb hg hat))
         go_ret2
         exact ⟨_,by first|rfl|(simp [pz6,pz5] <;> rfl)|(simp [*,pz6,pz5] <;> rfl),by (with_reducible repeat (first|apply Kd.pz16|apply Kd.pz15|apply Kd.pz19));exact HO119.out,by repeat (first|(with_reducible first|exact HB.out|apply pz3|apply pz1|apply pz2)|exact HB.out)⟩
        ·rw [if_neg c18] at H
         exact absurd H (by simp)
    ·replace c9:=Bool.eq_false_iff.mpr c9
     subst c9
     have H1:((octal_lay.f kj2 a0 8 (wrap64 (a1 - 1))).bind fun bt120=>(if bt120.2=true then ((some (([128]:List Int):List Int)).bind fun y124=>(if y124.length + bt120.1.length<140737488355328 then (some ((y124 ++ bt120.1),true)) else (none))) else (some (([]:List Int),false))))=some (r1,r2):=by rw [if_neg (show ¬ (false=true) by decide)] at H;exact H
     clear H
     have H:=H1
     clear H1
     replace H:=Option.bind_eq_some_iff.mp H
     obtain ⟨⟨t120,t121⟩,A200,H⟩:=H
     replace H:(if t121=true then ((some (([128]:List Int):List Int)).bind fun y124=>(if y124.length + t120.length<140737488355328 then (some ((y124 ++ t120),true)) else (none))) else (some (([]:List Int),false)))=some (r1,r2):=H
     have A20:=pz4.mk A200
     clear A200
     by_cases c21:t121=true
     ·subst c21
      have H1:((some (([128]:List Int):List Int)).bind fun y124=>(if y124.length + t120.length<140737488355328 then (some ((y124 ++ t120),true)) else (none)))=some (r1,r2):=by rw [if_pos rfl] at H;exact H
      clear H
      have H:=H1
      clear H1
      obtain ⟨y124,hy124⟩:∃ y_:List Int,y_=(([128]:List Int)):=⟨_,rfl⟩
      replace H:(if y124.length + t120.length<140737488355328 then (some ((y124 ++ t120),true)) else (none))=some (r1,r2):=by first|(rw [hy124];with_reducible exact H)|(have H2_:=(Option.bind_some _ _).symm.trans H;rw [hy124];with_reducible exact H2_)|(have H2_:=(Option.bind_some _ _).symm.trans H;with_reducible exact H2_)|with_reducible exact H|(rw [hy124];exact H)|exact H
      have Ny124:=pz4.mk hy124
      clear hy124
      by_cases c22:y124.length + t120.length<140737488355328
      ·rw [if_pos c22] at H
       have LMc22:=pz4.mk c22
       clear c22
       obtain ⟨y127,hy127⟩:∃ y_:List Int,y_=(y124 ++ t120):=⟨_,rfl⟩
       replace H:(some (y127,true))=some (r1,r2):=by first|(rw [hy127];with_reducible exact H)|(have H2_:=(Option.bind_some _ _).symm.trans H;rw [hy127];with_reducible exact H2_)|(have H2_:=(Option.bind_some _ _).symm.trans H;with_reducible exact H2_)|with_reducible exact H|(rw [hy127];exact H)|exact H
       have Ny127:=pz4.mk hy127
       clear hy127
       simp only [Option.some.injEq,Prod.mk.injEq] at H
       obtain ⟨rfl,rfl⟩:=H
       go_wp2_with (first|((with_reducible refine pz8 (f:=168) rfl ?_);refine pz21 (some 29) rfl rfl Tryz.func168 (by kernel_rfl) rfl #[.int .i64 a0,.int .i64 3,.int .i64 (wrap64 (a1 - 1))] rfl (by (try simp only [pM]);first|done|rfl|(simp only [pL];rfl)) ?_;(with_reducible refine (octal_lay.calls kj2 a0 3 (wrap64 (a1 - 1)) t111 false _ A8.out).mono ?_);rintro e w23 ⟨v113,rfl,ho0,hb⟩;refine ⟨_,rfl,?_⟩;have n0_:=pz4.mk (Kd.R_lower ho0 (pz20 (by repeat (first|(with_reducible first|exact HB.out|apply pz3|apply pz1|apply pz2)|exact HB.out))));have n1_:=pz4.mk (pz9 (by repeat (first|(with_reducible first|exact HB.out|apply pz3|apply pz1|apply pz2)|exact HB.out)) hb);clear HB;have HO114:=n0_;have HB:=n1_;clear n0_ n1_;(try clear hb);(try clear hb2);(try clear hk);(try clear hi);(try clear ho0))|((with_reducible refine pz8 (f:=168) rfl ?_);refine pz21 (some 52) rfl rfl Tryz.func168 (by kernel_rfl) rfl #[.int .i64 a0,.int .i64 8,.int .i64 (wrap64 (a1 - 1))] rfl (by (try simp only [pM]);first|done|rfl|(simp only [pL];rfl)) ?_;(with_reducible refine (octal_lay.calls kj2 a0 8 (wrap64 (a1 - 1)) t120 true _ A20.out).mono ?_);rintro e w24 ⟨v122,rfl,ho0,hb⟩;refine ⟨_,rfl,?_⟩;have n0_:=pz4.mk (Kd.R_elder' (by (with_reducible repeat (first|apply Kd.pz16|apply Kd.pz15|apply Kd.pz19));exact HO114.out) (Kd.R_base ho0) hb);have n1_:=pz4.mk (Kd.R_lower (Kd.R_new' ho0 (Kd.R_lt (by (with_reducible repeat (first|apply Kd.pz16|apply Kd.pz15|apply Kd.pz19));exact HO114.out))) (pz20 (by repeat (first|(with_reducible first|exact HB.out|apply pz3|apply pz1|apply pz2)|exact HB.out))));have n2_:=pz4.mk (pz9 (by repeat (first|(with_reducible first|exact HB.out|apply pz3|apply pz1|apply pz2)|exact HB.out)) hb);clear HO114;clear HB;have HO114:=n0_;have HO123:=n1_;have HB:=n2_;clear n0_ n1_ n2_;(try clear hb);(try clear hb2);(try clear hk);(try clear hi);(try clear ho0))|((with_reducible refine pz10 (N:=57) rfl ?_);refine Kd.R_lit (Kd.int .u8) _ 5 ?hg (N:=57) ?hd (xs:=([128]:List Int)) (inner:=[.int .u8 128]) (ok:=fun _=>True) (okp:=fun _=>True) ?hr ?hp (fun _ hk=>hk) trivial (Below.refl _ _) (Nat.le_refl _) (by simp) ?_;(case hd=>rfl);(case hg=>rfl);(case hr=>first|(go_simp;done)|(go_simp;rfl));(case hp=>exact (Reps.one (show Kd.M (Kd.int .u8) _ _ _ 128 [.int .u8 128] from rfl) (Reps.none _ _)));intro v125 w25 ho26 hb hg_ hnew_;clear hg_ hnew_;(first|rw [← Ny124.out] at ho26|(simp only [Int.reduceToNat] at ho26;rw [← Ny124.out] at ho26));have n0_:=pz4.mk (Kd.R_elder' (by (with_reducible repeat (first|apply Kd.pz16|apply Kd.pz15|apply Kd.pz19));exact HO114.out) (Kd.R_base ho26) hb);have n1_:=pz4.mk (Kd.R_elder' (by (with_reducible repeat (first|apply Kd.pz16|apply Kd.pz15|apply Kd.pz19));exact HO123.out) (Kd.R_base ho26) hb);have n2_:=pz4.mk (Kd.R_lower (Kd.R_new' (Kd.R_new' ho26 (Kd.R_lt (by (with_reducible repeat (first|apply Kd.pz16|apply Kd.pz15|apply Kd.pz19));exact HO114.out))) (Kd.R_lt (by (with_reducible repeat (first|apply Kd.pz16|apply Kd.pz15|apply Kd.pz19));exact HO123.out))) (pz20 (by repeat (first|(with_reducible first|exact HB.out|apply pz3|apply pz1|apply pz2)|exact HB.out))));have n3_:=pz4.mk (pz9 (by repeat (first|(with_reducible first|exact HB.out|apply pz3|apply pz1|apply pz2)|exact HB.out)) hb);clear HO114;clear HO123;clear HB;have HO114:=n0_;have HO123:=n1_;have HO126:=n2_;have HB:=n3_;clear n0_ n1_ n2_ n3_;clear hb ho26;obtain ⟨Ao28,co28,eo28⟩:=Kd.R_slice HO123.out;subst eo28)|((with_reducible refine gate_builtin (b:=.append) (xs:=#[.tmp 57,.tmp 58]) rfl ?_);at_builtin;refine Kd.R_append_rows (Kd.int .u8) (w0:=w) w.heap.size rfl (.tmp 57) (.tmp 58) 148 5 (.int .u8 0) 1 rfl Tryz.underlying148 info5 rfl (by decide) (by omega) v125 y124 t120 _ _ _ (fun k_=>some k_≠(v113:Value).ownBlock∧some k_≠(.slice Ao28 t120.length co28:Value).ownBlock) (fun _=>False) rfl rfl ?aO ?aR (fun _ _ h=>h) (fun _ h=>h.elim) ?aF ?aB ?aS ?aL ?_;(case aR=>repeat (first|exact (Kd.R_reads' HO123.out).2.2|(with_reducible refine Kd.C_alloc ?_ _)|(with_reducible refine Kd.C_drewN ?_ _)|(with_reducible refine Kd.C_drew ?_)));(case aB=>exact (by repeat (first|(with_reducible first|exact HB.out|apply pz3|apply pz1|apply pz2)|exact HB.out)));(case aF=>exact (fun k_ hk=>⟨Kd.fresh' (Kd.R_lt (by (with_reducible repeat (first|apply Kd.pz16|apply Kd.pz15|apply Kd.pz19));exact HO114.out)) k_ hk,Kd.fresh' (Kd.R_lt (by (with_reducible repeat (first|apply Kd.pz16|apply Kd.pz15|apply Kd.pz19));exact HO123.out)) k_ hk⟩));(case aO=>exact (by (with_reducible repeat (first|apply Kd.pz16|apply Kd.pz15|apply Kd.pz19));exact Kd.R_mono HO126.out (fun _ hk=>⟨hk.1.2,hk.2⟩)));(case aS=>exact (pz20 (by repeat (first|(with_reducible first|exact HB.out|apply pz3|apply pz1|apply pz2)|exact HB.out))));(case aL=>have:=LMc22.out;omega);intro v128 w27 ho hb hg hat;rw [← Ny127.out] at ho;have n0_:=pz4.mk (Kd.R_after (ok:=(fun k_=>some k_≠(.slice Ao28 t120.length co28:Value).ownBlock)) (by (with_reducible repeat (first|apply Kd.pz16|apply Kd.pz15|apply Kd.pz19));exact Kd.R_mono HO114.out (fun _ hk=>⟨hk.1.2,hk.2⟩)) hg hat);have n1_:=pz4.mk (Kd.R_after (ok:=(fun k_=>some k_≠(v113:Value).ownBlock)) (by (with_reducible repeat (first|apply Kd.pz16|apply Kd.pz15|apply Kd.pz19));exact Kd.R_mono HO123.out (fun _ hk=>⟨hk.1.2,hk.2⟩)) hg hat);have n2_:=pz4.mk (hb);have n3_:=pz4.mk (ho);clear HO114;clear HO123;clear HB;clear HO126;have HO114:=n0_;have HO123:=n1_;have HB:=n2_;have HO129:=n3_;clear n0_ n1_ n2_ n3_;clear ho hb hg hat))
       go_ret2
       exact ⟨_,by first|rfl|(simp [pz6,pz5] <;> rfl)|(simp [*,pz6,pz5] <;> rfl),by (with_reducible repeat (first|apply Kd.pz16|apply Kd.pz15|apply Kd.pz19));exact Kd.R_mono HO129.out (fun _ hk=>trivial),by repeat (first|(with_reducible first|exact HB.out|apply pz3|apply pz1|apply pz2)|exact HB.out)⟩
      ·rw [if_neg c22] at H
       exact absurd H (by simp)
     ·replace c21:=Bool.eq_false_iff.mpr c21
      subst c21
      have H1:(some (([]:List Int),false))=some (r1,r2):=by rw [if_neg (show ¬ (false=true) by decide)] at H;exact H
      clear H
      have H:=H1
      clear H1
      simp only [Option.some.injEq,Prod.mk.injEq] at H
      obtain ⟨rfl,rfl⟩:=H
      go_wp2_with (first|((with_reducible refine pz8 (f:=168) rfl ?_);refine pz21 (some 29) rfl rfl Tryz.func168 (by kernel_rfl) rfl #[.int .i64 a0,.int .i64 3,.int .i64 (wrap64 (a1 - 1))] rfl (by (try simp only [pM]);first|done|rfl|(simp only [pL];rfl)) ?_;(with_reducible refine (octal_lay.calls kj2 a0 3 (wrap64 (a1 - 1)) t111 false _ A8.out).mono ?_);rintro e w29 ⟨v113,rfl,ho0,hb⟩;refine ⟨_,rfl,?_⟩;have n0_:=pz4.mk (Kd.R_lower ho0 (pz20 (by repeat (first|(with_reducible first|exact HB.out|apply pz3|apply pz1|apply pz2)|exact HB.out))));have n1_:=pz4.mk (pz9 (by repeat (first|(with_reducible first|exact HB.out|apply pz3|apply pz1|apply pz2)|exact HB.out)) hb);clear HB;have HO114:=n0_;have HB:=n1_;clear n0_ n1_;(try clear hb);(try clear hb2);(try clear hk);(try clear hi);(try clear ho0))|((with_reducible refine pz8 (f:=168) rfl ?_);refine pz21 (some 52) rfl rfl Tryz.func168 (by kernel_rfl) rfl #[.int .i64 a0,.int .i64 8,.int .i64 (wrap64 (a1 - 1))] rfl (by (try simp only [pM]);first|done|rfl|(simp only [pL];rfl)) ?_;(with_reducible refine (octal_lay.calls kj2 a0 8 (wrap64 (a1 - 1)) t120 false _ A20.out).mono ?_);rintro e w30 ⟨v122,rfl,ho0,hb⟩;refine ⟨_,rfl,?_⟩;have n0_:=pz4.mk (Kd.R_elder' (by (with_reducible repeat (first|apply Kd.pz16|apply Kd.pz15|apply Kd.pz19));exact HO114.out) (Kd.R_base ho0) hb);have n1_:=pz4.mk (Kd.R_lower (Kd.R_new' ho0 (Kd.R_lt (by (with_reducible repeat (first|apply Kd.pz16|apply Kd.pz15|apply Kd.pz19));exact HO114.out))) (pz20 (by repeat (first|(with_reducible first|exact HB.out|apply pz3|apply pz1|apply pz2)|exact HB.out))));have n2_:=pz4.mk (pz9 (by repeat (first|(with_reducible first|exact HB.out|apply pz3|apply pz1|apply pz2)|exact HB.out)) hb);clear HO114;clear HB;have HO114:=n0_;have HO123:=n1_;have HB:=n2_;clear n0_ n1_ n2_;(try clear hb);(try clear hb2);(try clear hk);(try clear hi);(try clear ho0)))
      go_ret2
      exact ⟨_,by first|rfl|(simp [pz6,pz5] <;> rfl)|(simp [*,pz6,pz5] <;> rfl),by first|exact Kd.R_nil _ _ _ _ _|exact Kd.N_nil _ _ _ _ _|exact Kd.V_nil _ _ _ _ _|exact Kd.Q_nil _ _ _ _ _|exact Kd.S_nil _ _ _ _ _,by repeat (first|(with_reducible first|exact HB.out|apply pz3|apply pz1|apply pz2)|exact HB.out)⟩
def mktar_device.f (k:Nat) (a0:Int):Option (Bool):=(octal_Write.f k a0 8).bind fun bt130=>(some bt130.2)
set_option maxHeartbeats 8000000 in
set_option maxRecDepth 100000 in
theorem mktar_device.calls (k:Nat) (a0:Int) (r:Bool) (w:World) (h:mktar_device.f k a0=some r) :
  Calls Tryz.prog 97 #[.int .i64 a0] w fun e w'=>e=.returned (.bool r)∧Below w.heap.size w w':=by
 have HB:=pz4.mk (Below.refl w.heap.size w)
 have H:((octal_Write.f k a0 8).bind fun bt130=>(some bt130.2))=some r:=h
 clear h
 replace H:=Option.bind_eq_some_iff.mp H
 obtain ⟨⟨t130,t131⟩,A20,H⟩:=H
 replace H:(some t131)=some r:=H
 have A2:=pz4.mk A20
 clear A20
 obtain rfl:=Option.some.inj H
 go_enter Tryz.func97,Tryz.ntmps97
 go_wp2_with (first|((with_reducible refine pz8 (f:=138) rfl ?_);refine pz21 (some 7) rfl rfl Tryz.func138 (by kernel_rfl) rfl #[.int .i64 a0,.int .i64 8] rfl (by (try simp only [pM]);first|done|rfl|(simp only [pL];rfl)) ?_;(with_reducible refine (octal_Write.calls k a0 8 t130 t131 _ A2.out).mono ?_);rintro e w3 ⟨v132,rfl,ho0,hb⟩;refine ⟨_,rfl,?_⟩;have n0_:=pz4.mk (Kd.R_lower ho0 (pz20 (by repeat (first|(with_reducible first|exact HB.out|apply pz3|apply pz1|apply pz2)|exact HB.out))));have n1_:=pz4.mk (pz9 (by repeat (first|(with_reducible first|exact HB.out|apply pz3|apply pz1|apply pz2)|exact HB.out)) hb);clear HB;have HO133:=n0_;have HB:=n1_;clear n0_ n1_;(try clear hb);(try clear hb2);(try clear hk);(try clear hi);(try clear ho0)))
 go_ret
 exact ⟨by first|rfl|(simp [pz6,pz5] <;> rfl)|(simp [*,pz6,pz5] <;> rfl),by repeat (first|(with_reducible first|exact HB.out|apply pz3|apply pz1|apply pz2)|exact HB.out)⟩
end Go.Proofs.Zq
end
section
namespace Go.Proofs.Zq
open Go.RowKit Go.Proofs.YtjghikkboekonaaGreatDoor Go.Proofs.Zw.PrintWords Go.Proofs.Zw.PrintLast Go.Proofs.Zw.PrintMore
open Go.Proofs.Zt (partM markedM markM opqM isM parM lastM underM markF unmarkF wouldM tarM belowM Ch Row Lyr rightC keyM lessM plainM)
theorem lay_l (b:Nat) (hb:b≤8):∀ (d k:Nat) (x:Int) (out:List Int) (i:Nat),i + d=7→out.length=7→d<k →
  ∃ out',octal_lay.l0 k x (b:Int) 7 out 7 (i:Int)=some (out',decide (x / 2 ^ (b * d)=0))∧out'.length=7:=by
 intro d
 induction d with
 | zero =>
  intro k x out i hi ho hk
  obtain ⟨k,rfl⟩:∃ m,k=m + 1:=⟨k - 1,by omega⟩
  refine ⟨out,?_,ho⟩
  simp only [octal_lay.l0]
  rw [if_neg (by omega)]
  congr 2
  rw [Nat.mul_zero,Int.pow_zero,Int.ediv_one]
  rfl
 | succ d ih =>
  intro k x out i hi ho hk
  obtain ⟨k,rfl⟩:∃ m,k=m + 1:=⟨k - 1,by omega⟩
  simp only [octal_lay.l0]
  have w1:wrap64 (wrap64 (7 - 1) - (i:Int))=6 - i:=by rw [show wrap64 (7 - 1)=6 from by unfold wrap64;rfl];exact wrap_in (by omega) (by omega)
  have w2:wrap64 ((i:Int) + 1)=((i + 1:Nat):Int):=by rw [wrap_in (by omega) (by omega)];omega
  rw [if_pos (by omega),if_pos (by omega),w1,if_pos (by omega),if_pos (by omega),w2]
  have hs:shr .i64 x (b:Int)=x / 2 ^ b:=by
   unfold shr
   rw [show ((b:Nat):Int).toNat=b from by omega,Nat.min_eq_left (by show b≤64;omega)]
  rw [hs]
  obtain ⟨out',h1,h2⟩:=ih k (x / 2 ^ b) (out.set ((6 - (i:Int)):Int).toNat ((Go.bits .and .i64 x (wrap64 ((shl .i64 1 (b:Int)) - 1))) % 256)) (i + 1) (by omega) (by rw [List.length_set];exact ho) (by omega)
  refine ⟨out',?_,h2⟩
  rw [h1,Int.ediv_ediv_of_nonneg (Int.pow_nonneg (by decide)),← Int.pow_add,show b + b * d=b * (d + 1) from by rw [Nat.mul_succ];omega]
theorem lay_f (n:Int) (b:Nat) (hb:b≤8) (k:Nat) (hk:8<k):∃ out,octal_lay.f k n (b:Int) 7=some (out,decide (n / 2 ^ (b * 7)=0))∧out.length=7:=by
 unfold octal_lay.f
 rw [if_pos (by decide),if_pos (by decide)]
 obtain ⟨out,h1,h2⟩:=lay_l b hb 7 k n (List.replicate (7:Int).toNat 0) 0 rfl (by simp) (by omega)
 exact ⟨out,h1,h2⟩
theorem write_l:∀ (d k:Nat) (x:List Int) (i:Nat),i + d=x.length→x.length<1000→d<k→∃ out,octal_Write.l0 k x (x.length:Int) (i:Int)=some (out,true):=by
 intro d
 induction d with
 | zero =>
  intro k x i hi hx hk
  obtain ⟨k,rfl⟩:∃ m,k=m + 1:=⟨k - 1,by omega⟩
  simp only [octal_Write.l0]
  rw [if_neg (by omega),if_pos (by omega)]
  exact ⟨_,rfl⟩
 | succ d ih =>
  intro k x i hi hx hk
  obtain ⟨k,rfl⟩:∃ m,k=m + 1:=⟨k - 1,by omega⟩
  simp only [octal_Write.l0]
  have w2:wrap64 ((i:Int) + 1)=((i + 1:Nat):Int):=by rw [wrap_in (by omega) (by omega)];omega
  rw [if_pos (by omega),if_pos (by omega),if_pos (by omega),w2]
  have:=ih k (x.set ((i:Nat):Int).toNat ((rd x i + 48) % 256)) (i + 1) (by rw [List.length_set];omega) (by rw [List.length_set];omega) (by omega)
  rw [List.length_set] at this
  exact this
theorem device_f (n:Int) (k:Nat) (hk:20<k):mktar_device.f k n=some (deviceM n):=by
 obtain ⟨k,rfl⟩:∃ m,k=m + 1:=⟨k - 1,by omega⟩
 unfold mktar_device.f octal_Write.f deviceM
 by_cases h1:n<0
 ·rw [if_pos h1]
  simp only [octal_Write.j0,if_true,Option.bind_some]
  simp;omega
 ·rw [if_neg h1]
  by_cases h2:n > 4611686018427387904
  ·rw [if_pos h2]
   simp only [octal_Write.j0,if_true,Option.bind_some]
   simp;omega
  ·rw [if_neg h2,if_neg (by decide)]
   simp only [octal_Write.j0]
   rw [if_neg (by decide),show wrap64 (8 - 1)=7 from by unfold wrap64;rfl]
   obtain ⟨o1,e1,l1⟩:=lay_f n 3 (by decide) k (by omega)
   rw [show ((3:Nat):Int)=3 from rfl] at e1
   rw [e1]
   simp only [Option.bind_some]
   by_cases h3:n / 2 ^ (3 * 7)=0
   ·rw [if_pos (decide_eq_true h3)]
    obtain ⟨o2,e2⟩:=write_l o1.length k o1 0 (by omega) (by omega) (by omega)
    rw [show ((0:Nat):Int)=0 from rfl] at e2
    rw [e2]
    simp only [Option.bind_some,Option.some.injEq]
    have:(2:Int) ^ (3 * 7)=2097152:=by decide
    rw [this] at h3
    simp;omega
   ·rw [if_neg (by simpa using h3)]
    obtain ⟨o2,e2,l2⟩:=lay_f n 8 (by decide) k (by omega)
    rw [show ((8:Nat):Int)=8 from rfl] at e2
    rw [e2]
    simp only [Option.bind_some]
    have h8:(2:Int) ^ (8 * 7)=72057594037927936:=by decide
    rw [h8]
    by_cases h4:n / 72057594037927936=0
    ·rw [if_pos (decide_eq_true h4),if_pos (by simp;omega)]
     simp only [Option.bind_some,Option.some.injEq]
     simp;omega
    ·rw [if_neg (by simpa using h4)]
     simp only [Option.bind_some,Option.some.injEq]
     simp;omega
theorem strange_f (s:Str):mktar_strange.f (B s)=some (strangeM s):=by
 have h0:=ib_f s 0
 rw [show ((0:UInt8).toNat:Int)=0 from rfl] at h0
 unfold mktar_strange.f strangeM
 rw [B_size]
 by_cases h:s.length > 4096
 ·rw [if_pos (by omega)];simp [h]
 ·rw [if_neg (by omega),h0]
  simp only [Option.bind_some,Option.some.injEq]
  rw [ib_neg]
  have:decide (4096<s.length)=false:=by simpa using h
  rw [this];rfl
theorem number_f (n:Int):mktar_number.f n=some (numberM n):=by
 unfold mktar_number.f numberM
 by_cases h:n ≥ 0
 ·rw [if_pos h];simp;omega
 ·rw [if_neg h];simp;omega
end Go.Proofs.Zq
end
