/- A part of a proof of statements of this seat: what its walks and its laws lean on; joined by a program of this repo (wip/pack.py) out of the texts QSlicesSymMergeCmpFuncPairAtUntarAttrs2. -/
import Derived.Test.YtjghikkboekonaaGreatDoorKAB
import Derived.Test.YtjghikkboekonaaGreatDoorKAE
import Derived.Test.YtjghikkboekonaaGreatDoorKAF
set_option linter.unusedSimpArgs false
set_option linter.unusedVariables false
section
namespace Go.Proofs.Zq
open Go.RowKit Go.Proofs.Zw.PrintWords Go.Proofs.Zw.PrintLast Go.Proofs.Zw.PrintMore
open Go.Proofs.YtjghikkboekonaaGreatDoor (GL)
attribute [local go_sem] max2_int min2_int max_two min_two pz35 pz36 max_four min_four
mutual
def pq5.l0:Nat→List (S169)→Int→Int→Int→Option ((List (S169)))
 | 0,_,_,_,_=>none
 | k + 1,x0,x1,x10,x11=>if x10<x11 then (if 0≤(wrap64 ((IntKind.u64.wrap (wrap64 (x10 + x11))) / 2)) then (if (wrap64 ((IntKind.u64.wrap (wrap64 (x10 + x11))) / 2))<(x0.length:Int) then (if 0≤x1 then (if x1<(x0.length:Int) then ((pq12.f ((rd_T169 x0 (wrap64 ((IntKind.u64.wrap (wrap64 (x10 + x11))) / 2))).f0) ((rd_T169 x0 (wrap64 ((IntKind.u64.wrap (wrap64 (x10 + x11))) / 2))).f1) ((rd_T169 x0 x1).f0) ((rd_T169 x0 x1).f1)).bind fun t225=>(if t225<0 then (pq5.l0 k x0 x1 (wrap64 ((wrap64 ((IntKind.u64.wrap (wrap64 (x10 + x11))) / 2)) + 1)) x11) else (pq5.l0 k x0 x1 x10 (wrap64 ((IntKind.u64.wrap (wrap64 (x10 + x11))) / 2))))) else (none)) else (none)) else (none)) else (none)) else (pq5.l1 k x0 x10 x1)
def pq5.l1:Nat→List (S169)→Int→Int→Option ((List (S169)))
 | 0,_,_,_=>none
 | k + 1,x0,x10,x13=>if x13<(wrap64 (x10 - 1)) then (if 0≤(wrap64 (x13 + 1)) then (if (wrap64 (x13 + 1))<(x0.length:Int) then (if 0≤x13 then (if x13<(x0.length:Int) then (pq5.l1 k ((x0.set (x13:Int).toNat (⟨(rd_T169 x0 (wrap64 (x13 + 1))).f0,(rd_T169 x0 (wrap64 (x13 + 1))).f1⟩:S169)).set ((wrap64 (x13 + 1)):Int).toNat (⟨(rd_T169 x0 x13).f0,(rd_T169 x0 x13).f1⟩:S169)) x10 (wrap64 (x13 + 1))) else (none)) else (none)) else (none)) else (none)) else (some x0)
def pq5.l2:Nat→List (S169)→Int→Int→Int→Option ((List (S169)))
 | 0,_,_,_,_=>none
 | k + 1,x0,x2,x14,x15=>if x14<x15 then (if 0≤x2 then (if x2<(x0.length:Int) then (if 0≤(wrap64 ((IntKind.u64.wrap (wrap64 (x14 + x15))) / 2)) then (if (wrap64 ((IntKind.u64.wrap (wrap64 (x14 + x15))) / 2))<(x0.length:Int) then ((pq12.f ((rd_T169 x0 x2).f0) ((rd_T169 x0 x2).f1) ((rd_T169 x0 (wrap64 ((IntKind.u64.wrap (wrap64 (x14 + x15))) / 2))).f0) ((rd_T169 x0 (wrap64 ((IntKind.u64.wrap (wrap64 (x14 + x15))) / 2))).f1)).bind fun t232=>(if t232<0 then (pq5.l2 k x0 x2 x14 (wrap64 ((IntKind.u64.wrap (wrap64 (x14 + x15))) / 2))) else (pq5.l2 k x0 x2 (wrap64 ((wrap64 ((IntKind.u64.wrap (wrap64 (x14 + x15))) / 2)) + 1)) x15))) else (none)) else (none)) else (none)) else (none)) else (pq5.l3 k x0 x14 x2)
def pq5.l3:Nat→List (S169)→Int→Int→Option ((List (S169)))
 | 0,_,_,_=>none
 | k + 1,x0,x14,x17=>if x17 > x14 then (if 0≤(wrap64 (x17 - 1)) then (if (wrap64 (x17 - 1))<(x0.length:Int) then (if 0≤x17 then (if x17<(x0.length:Int) then (pq5.l3 k ((x0.set (x17:Int).toNat (⟨(rd_T169 x0 (wrap64 (x17 - 1))).f0,(rd_T169 x0 (wrap64 (x17 - 1))).f1⟩:S169)).set ((wrap64 (x17 - 1)):Int).toNat (⟨(rd_T169 x0 x17).f0,(rd_T169 x0 x17).f1⟩:S169)) x14 (wrap64 (x17 - 1))) else (none)) else (none)) else (none)) else (none)) else (some x0)
def pq5.j4:Nat→List (S169)→Int→Int→Int→Unit→Int→Int→Int→Int→Option ((List (S169)))
 | 0,_,_,_,_,_,_,_,_,_=>none
 | k + 1,x0,x1,x2,x3,x4,x18,x19,x20,x21=>pq5.l4 k x0 x1 x2 x3 x4 x18 x19 x20 x21 (wrap64 (x19 - 1))
def pq5.l4:Nat→List (S169)→Int→Int→Int→Unit→Int→Int→Int→Int→Int→Option ((List (S169)))
 | 0,_,_,_,_,_,_,_,_,_,_=>none
 | k + 1,x0,x1,x2,x3,x4,x18,x19,x20,x21,x22=>if x20<x21 then (if 0≤(wrap64 (x22 - (wrap64 ((IntKind.u64.wrap (wrap64 (x20 + x21))) / 2)))) then (if (wrap64 (x22 - (wrap64 ((IntKind.u64.wrap (wrap64 (x20 + x21))) / 2))))<(x0.length:Int) then (if 0≤(wrap64 ((IntKind.u64.wrap (wrap64 (x20 + x21))) / 2)) then (if (wrap64 ((IntKind.u64.wrap (wrap64 (x20 + x21))) / 2))<(x0.length:Int) then ((pq12.f ((rd_T169 x0 (wrap64 (x22 - (wrap64 ((IntKind.u64.wrap (wrap64 (x20 + x21))) / 2))))).f0) ((rd_T169 x0 (wrap64 (x22 - (wrap64 ((IntKind.u64.wrap (wrap64 (x20 + x21))) / 2))))).f1) ((rd_T169 x0 (wrap64 ((IntKind.u64.wrap (wrap64 (x20 + x21))) / 2))).f0) ((rd_T169 x0 (wrap64 ((IntKind.u64.wrap (wrap64 (x20 + x21))) / 2))).f1)).bind fun t239=>(if t239<0 then (pq5.l4 k x0 x1 x2 x3 x4 x18 x19 x20 (wrap64 ((IntKind.u64.wrap (wrap64 (x20 + x21))) / 2)) x22) else (pq5.l4 k x0 x1 x2 x3 x4 x18 x19 (wrap64 ((wrap64 ((IntKind.u64.wrap (wrap64 (x20 + x21))) / 2)) + 1)) x21 x22))) else (none)) else (none)) else (none)) else (none)) else (if x20<x2 then (pq5.j6 k x0 x1 x2 x3 x4 x18 x20 (wrap64 (x19 - x20)) (decide (x2<(wrap64 (x19 - x20))))) else (pq5.j6 k x0 x1 x2 x3 x4 x18 x20 (wrap64 (x19 - x20)) false))
def pq5.j6:Nat→List (S169)→Int→Int→Int→Unit→Int→Int→Int→Bool→Option ((List (S169)))
 | 0,_,_,_,_,_,_,_,_,_=>none
 | k + 1,x0,x1,x2,x3,x4,x18,x20,x24,x185=>if x185=true then ((pq7.f k x0 x20 x2 x24 x4).bind fun t240=>(pq5.j7 k t240 x1 x3 x4 x18 x20 x24)) else (pq5.j7 k x0 x1 x3 x4 x18 x20 x24)
def pq5.j7:Nat→List (S169)→Int→Int→Unit→Int→Int→Int→Option ((List (S169)))
 | 0,_,_,_,_,_,_,_=>none
 | k + 1,x0,x1,x3,x4,x18,x20,x24=>if x1<x20 then (pq5.j8 k x0 x1 x3 x4 x18 x20 x24 (decide (x20<x18))) else (pq5.j8 k x0 x1 x3 x4 x18 x20 x24 false)
def pq5.j8:Nat→List (S169)→Int→Int→Unit→Int→Int→Int→Bool→Option ((List (S169)))
 | 0,_,_,_,_,_,_,_,_=>none
 | k + 1,x0,x1,x3,x4,x18,x20,x24,x199=>if x199=true then ((pq5.f k x0 x1 x20 x18 x4).bind fun t241=>(if x18<x24 then (if x24<x3 then ((pq5.f k t241 x18 x24 x3 x4).bind fun t242=>(some t242)) else (some t241)) else (some t241))) else (if x18<x24 then (if x24<x3 then ((pq5.f k x0 x18 x24 x3 x4).bind fun t243=>(some t243)) else (some x0)) else (some x0))
def pq5.f:Nat→List (S169)→Int→Int→Int→Unit→Option ((List (S169)))
 | 0,_,_,_,_,_=>none
 | k + 1,l0,a1,a2,a3,a4=>if (wrap64 (a2 - a1))=1 then (pq5.l0 k l0 a1 a2 a3) else (if (wrap64 (a3 - a2))=1 then (pq5.l2 k l0 a2 a1 a2) else (if a2 > (wrap64 ((IntKind.u64.wrap (wrap64 (a1 + a3))) / 2)) then (pq5.j4 k l0 a1 a2 a3 a4 (wrap64 ((IntKind.u64.wrap (wrap64 (a1 + a3))) / 2)) (wrap64 ((wrap64 ((IntKind.u64.wrap (wrap64 (a1 + a3))) / 2)) + a2)) (wrap64 ((wrap64 ((wrap64 ((IntKind.u64.wrap (wrap64 (a1 + a3))) / 2)) + a2)) - a3)) (wrap64 ((IntKind.u64.wrap (wrap64 (a1 + a3))) / 2))) else (pq5.j4 k l0 a1 a2 a3 a4 (wrap64 ((IntKind.u64.wrap (wrap64 (a1 + a3))) / 2)) (wrap64 ((wrap64 ((IntKind.u64.wrap (wrap64 (a1 + a3))) / 2)) + a2)) a1 a2)))
end
def pq5.T5:Bool×List (List Nat×List Nat):=(true,[([],[]),([],[]),([],[]),([1,2],[1,2]),([3],[3]),([],[]),([],[]),([5,6],[5,6]),([7],[7]),([0,4,8],[0,4,8]),([9],[9])])
def pq5.B5:List Nat:=[0,0,0,6,14,0,0,96,224,511,1023]
theorem pq5.tab5:rtab .any (opsOf Tryz.f207 5)=pq5.T5:=by kernel_rfl
theorem pq5.bits5:waitsOk pq5.T5.2 pq5.B5=true:=by kernel_rfl
def pq5.T11:Bool×List (List Nat×List Nat):=(true,[([],[]),([],[]),([],[]),([],[]),([3],[3]),([],[]),([],[]),([6],[6]),([5,7],[5,7]),([8],[8]),([],[]),([],[]),([10,11],[10,11]),([12],[12]),([0,1,0,1,5,6,7,8,9,13],[0,1]),([14,9,0,1,5,6,7,8,9,13],[9,14]),([2,4,0,1,2,3,4,5,6,7,8,9,10,11,12,13,14,15],[2,4]),([16,13,15,0,1,2,3,4,5,6,7,8,9,10,11,12,13,14,15],[13,16])])
def pq5.B11:List Nat:=[0,0,0,0,8,0,0,64,224,480,0,0,3072,7168,16355,32739,65535,131071]
theorem pq5.tab11:rtab .any (opsOf Tryz.f207 11)=pq5.T11:=by kernel_rfl
theorem pq5.bits11:waitsOk pq5.T11.2 pq5.B11=true:=by kernel_rfl
def pq5.T17:Bool×List (List Nat×List Nat):=(true,[([],[]),([],[]),([],[]),([1,2],[1,2]),([3],[3]),([],[]),([],[]),([5,6],[5,6]),([7],[7]),([0,4,8],[0,4,8]),([9],[9]),([10],[10])])
def pq5.B17:List Nat:=[0,0,0,6,14,0,0,96,224,511,1023,2047]
theorem pq5.tab17:rtab .any (opsOf Tryz.f207 17)=pq5.T17:=by kernel_rfl
theorem pq5.bits17:waitsOk pq5.T17.2 pq5.B17=true:=by kernel_rfl
def pq5.T23:Bool×List (List Nat×List Nat):=(true,[([],[]),([],[]),([],[]),([],[]),([3],[3]),([],[]),([],[]),([6],[6]),([5,7],[5,7]),([8],[8]),([],[]),([],[]),([10,11],[10,11]),([12],[12]),([0,1,0,1,5,6,7,8,9,13],[0,1]),([14,9,0,1,5,6,7,8,9,13],[9,14]),([2,4,0,1,2,3,4,5,6,7,8,9,10,11,12,13,14,15],[2,4]),([16,13,15,0,1,2,3,4,5,6,7,8,9,10,11,12,13,14,15],[13,16])])
def pq5.B23:List Nat:=[0,0,0,0,8,0,0,64,224,480,0,0,3072,7168,16355,32739,65535,131071]
theorem pq5.tab23:rtab .any (opsOf Tryz.f207 23)=pq5.T23:=by kernel_rfl
theorem pq5.bits23:waitsOk pq5.T23.2 pq5.B23=true:=by kernel_rfl
def pq5.T35:Bool×List (List Nat×List Nat):=(true,[([],[]),([],[]),([],[]),([],[]),([2,3],[2,3]),([1,4],[1,4]),([5],[5]),([],[]),([],[]),([7,8],[7,8]),([9],[9]),([0,6,10],[0,6,10]),([11],[11]),([12],[12])])
def pq5.B35:List Nat:=[0,0,0,0,12,30,62,0,0,384,896,2047,4095,8191]
theorem pq5.tab35:rtab .any (opsOf Tryz.f207 35)=pq5.T35:=by kernel_rfl
theorem pq5.bits35:waitsOk pq5.T35.2 pq5.B35=true:=by kernel_rfl
set_option maxHeartbeats 8000000 in
set_option maxRecDepth 100000 in
theorem pq5.calls_a (k:Nat) (ih:∀ m:Nat,m<k + 1→∀ (P0_:Nat→Prop) (u9000_:Value) (l0:List (S169)) (a1:Int) (a2:Int) (a3:Int) (a4:Unit) (r:List (S169)) (w0 w:World) (hB:Below w0.heap.size w0 w) (ho0:Kd.R k169 169 w w0.heap.size P0_ u9000_ l0) (h:pq5.f m l0 a1 a2 a3 a4=some r),Calls Tryz.prog 207 #[u9000_,.int .i64 a1,.int .i64 a2,.int .i64 a3,.func (.func 175) #[] #[]] w fun e w'=>e=.returned (.tuple #[])∧Kd.R k169 169 w' w0.heap.size (fun k_=>(P0_ k_∨w.heap.size≤k_)) u9000_ r∧Below w0.heap.size w0 w'∧Kept w w' (fun k_=>P0_ k_)) (P0_:Nat→Prop) (u9000_:Value) (l0:List (S169)) (a1:Int) (a2:Int) (a3:Int) (a4:Unit) (r:List (S169)) (w0 w:World) (hB:Below w0.heap.size w0 w) (ho0:Kd.R k169 169 w w0.heap.size P0_ u9000_ l0) (h:pq5.f (k + 1) l0 a1 a2 a3 a4=some r) (c6:(wrap64 (a2 - a1))=1) :
  Calls Tryz.prog 207 #[u9000_,.int .i64 a1,.int .i64 a2,.int .i64 a3,.func (.func 175) #[] #[]] w fun e w'=>e=.returned (.tuple #[])∧Kd.R k169 169 w' w0.heap.size (fun k_=>(P0_ k_∨w.heap.size≤k_)) u9000_ r∧Below w0.heap.size w0 w'∧Kept w w' (fun k_=>P0_ k_):=by
 simp only [pq5.f] at h
 have hu169:=Tryz.underlying169
 have HO0:=pz4.mk (show Kd.R k169 169 w w0.heap.size (fun k_=>(P0_ k_∨w.heap.size≤k_)) u9000_ l0 from Kd.R_mono ho0 (fun k_ hk=>(.inl hk)))
 have HK:=pz4.mk (Kept.refl w (fun k_=>P0_ k_))
 have HW0:=pz4.mk hB.size
 have HB:=pz4.mk hB
 clear hB
 have H:(if (wrap64 (a2 - a1))=1 then (pq5.l0 k l0 a1 a2 a3) else (if (wrap64 (a3 - a2))=1 then (pq5.l2 k l0 a2 a1 a2) else (if a2 > (wrap64 ((IntKind.u64.wrap (wrap64 (a1 + a3))) / 2)) then (pq5.j4 k l0 a1 a2 a3 a4 (wrap64 ((IntKind.u64.wrap (wrap64 (a1 + a3))) / 2)) (wrap64 ((wrap64 ((IntKind.u64.wrap (wrap64 (a1 + a3))) / 2)) + a2)) (wrap64 ((wrap64 ((wrap64 ((IntKind.u64.wrap (wrap64 (a1 + a3))) / 2)) + a2)) - a3)) (wrap64 ((IntKind.u64.wrap (wrap64 (a1 + a3))) / 2))) else (pq5.j4 k l0 a1 a2 a3 a4 (wrap64 ((IntKind.u64.wrap (wrap64 (a1 + a3))) / 2)) (wrap64 ((wrap64 ((IntKind.u64.wrap (wrap64 (a1 + a3))) / 2)) + a2)) a1 a2))))=some r:=h
 clear h
 ·rw [if_pos c6] at H
  have c6b0:((wrap64 (a2 - a1)) == 1)=true:=beq_iff_eq.mpr c6
  have c6b1:((wrap64 (a2 - a1)) != 1)=false:=bne_eq_false_iff_eq.mpr c6
  clear c6
  have H':=pz4.mk H
  clear H
  go_enter Tryz.func207,Tryz.ntmps207
  go_wp2
  go_loopg [10,11] k (fun kq v10 v11 w'=>∃ (x10_1:Int) (x11_1:Int),v10=.int .i64 x10_1∧v11=.int .i64 x11_1∧pz4 (pq5.l0 kq l0 a1 x10_1 x11_1=some r)∧pz4 (kq≤k)∧pz4 (Kd.R k169 169 w' w0.heap.size (fun k_=>(P0_ k_∨w.heap.size≤k_)) u9000_ l0)∧pz4 (Kept w w' (fun k_=>P0_ k_))∧pz4 (Below w0.heap.size w0 w'))
  case atStart=>exact ⟨(a2),(a3),(by first|rfl|(simp;done)|(simp [*];done)),(by first|rfl|(simp;done)|(simp [*];done)),H',⟨Nat.le_refl _⟩,⟨by (with_reducible repeat (first|apply Kd.pz16|apply Kd.pz15|apply Kd.pz19));exact HO0.out⟩,⟨by repeat (first|(with_reducible first|exact HK.out|apply Kept.alloc|apply Kept.drewN|apply Kept.drew)|exact HK.out)⟩,⟨by repeat (first|(with_reducible first|exact HB.out|apply pz3|apply pz1|apply pz2)|exact HB.out)⟩⟩
  case round =>
   clear H'
   try clear c6;try clear c6b0;try clear c6b1
   obtain ⟨x10_1,x11_1,rfl,rfl,HA,HK1,HO_0,HK,HB⟩:=hrel
   cases gk with
   | zero=>exact absurd HA.out (by simp [pq5.l0])
   | succ k1 =>
    have H:=HA.out
    clear HA
    simp only [pq5.l0] at H
    by_cases c7:x10_1<x11_1
    ·rw [if_pos c7] at H
     have c7b0:decide (x10_1<x11_1)=true:=decide_eq_true c7
     clear c7
     obtain ⟨ji8,hji8⟩:∃ j_:Int,(wrap64 ((IntKind.u64.wrap (wrap64 (x10_1 + x11_1))) / 2))=j_:=⟨_,rfl⟩
     replace H:(if 0≤(ji8) then (if (ji8)<(l0.length:Int) then (if 0≤a1 then (if a1<(l0.length:Int) then ((pq12.f ((rd_T169 l0 (ji8)).f0) ((rd_T169 l0 (ji8)).f1) ((rd_T169 l0 a1).f0) ((rd_T169 l0 a1).f1)).bind fun t225=>(if t225<0 then (pq5.l0 k1 l0 a1 (wrap64 ((ji8) + 1)) x11_1) else (pq5.l0 k1 l0 a1 x10_1 ji8))) else (none)) else (none)) else (none)) else (none))=some r:=by first|(rw [hji8] at H;exact H)|(simp only [hji8] at H ⊢;exact H)
     have hji8w:(IntKind.i64.wrap ((IntKind.u64.wrap (wrap64 (x10_1 + x11_1))) / 2))=ji8:=(i64_w _).trans hji8
     by_cases c9:0≤(ji8)
     ·rw [if_pos c9] at H
      have c9b0:decide (0≤(ji8))=true:=decide_eq_true c9
      clear c9
      by_cases c10:(ji8)<(l0.length:Int)
      ·rw [if_pos c10] at H
       have c10b0:decide ((ji8)<(l0.length:Int))=true:=decide_eq_true c10
       clear c10
       by_cases c11:0≤a1
       ·rw [if_pos c11] at H
        have c11b0:decide (0≤a1)=true:=decide_eq_true c11
        clear c11
        by_cases c12:a1<(l0.length:Int)
        ·rw [if_pos c12] at H
         have c12b0:decide (a1<(l0.length:Int))=true:=decide_eq_true c12
         clear c12
         replace H:=Option.bind_eq_some_iff.mp H
         obtain ⟨t225,A130,H⟩:=H
         replace H:(if t225<0 then (pq5.l0 k1 l0 a1 (wrap64 ((ji8) + 1)) x11_1) else (pq5.l0 k1 l0 a1 x10_1 ji8))=some r:=H
         have A13:=pz4.mk A130
         clear A130
         by_cases c14:t225<0
         ·rw [if_pos c14] at H
          have c14b0:decide (t225<0)=true:=decide_eq_true c14
          clear c14
          have H':=pz4.mk H
          clear H
          try go_wp2
          have n0_:=pz4.mk (Kd.pz19 HO_0.out)
          have n1_:=pz4.mk (Kept.drew HK.out)
          have n2_:=pz4.mk (pz2 HB.out)
          clear HO_0
          clear HK
          clear HB
          have HO_0:=n0_
          have HK:=n1_
          have HB:=n2_
          clear n0_ n1_ n2_
          obtain ⟨Ao16,co16,eo16⟩:=Kd.R_slice HO_0.out
          (first|subst eo16|(injection eo16 with f1_ f2_ f3_;have f4_:=f1_.symm;have f5_:=f3_.symm;clear f1_ f2_ f3_;subst f4_;subst f5_))
          have p223:0≤((ji8):Int):=of_decide_eq_true (by first|(with_reducible assumption)|assumption)
          have q223:(ji8)<(l0.length:Int):=of_decide_eq_true (by first|(with_reducible assumption)|assumption)
          obtain ⟨ad223,e223,hx223_0,hx223_1⟩:=at_T169 (Kd.R_reads' HO_0.out).2.2 (ji8) p223 q223
          cases e223
          replace p223:=eq_true p223
          replace q223:=eq_true q223
          have p224:0≤(a1:Int):=of_decide_eq_true (by first|(with_reducible assumption)|assumption)
          have q224:a1<(l0.length:Int):=of_decide_eq_true (by first|(with_reducible assumption)|assumption)
          obtain ⟨ad224,e224,hx224_0,hx224_1⟩:=at_T169 (Kd.R_reads' HO_0.out).2.2 a1 p224 q224
          obtain rfl:ad223=ad224:=(by injection e224)
          replace p224:=eq_true p224
          replace q224:=eq_true q224
          refine start_ (n:=11) (S:=fun w'=>w'.cell? (ad223.add (((ji8)).toNat * 2))=some (.string ((rd_T169 l0 (ji8)).f0))∧w'.cell? ⟨(ad223.add (((ji8)).toNat * 2)).block,(ad223.add (((ji8)).toNat * 2)).off + 1,none⟩=some (.string ((rd_T169 l0 (ji8)).f1))∧w'.cell? (ad223.add ((a1).toNat * 2))=some (.string ((rd_T169 l0 a1).f0))∧w'.cell? ⟨(ad223.add ((a1).toNat * 2)).block,(ad223.add ((a1).toNat * 2)).off + 1,none⟩=some (.string ((rd_T169 l0 a1).f1))) (ds:=[]) (ms 11 0) (by kernel_rfl) rfl rfl ⟨hx223_0,hx223_1,hx224_0,hx224_1⟩ (fun hHeld=>?_);refine with_tabW pq5.tab5 pq5.bits5 (fun HT_ HW_=>?_)
          generalize wr.drew=w15 at HO_0 HK HB hx223_0 hx223_1 hx224_0 hx224_1 hHeld ⊢
          iterate 4 (refine pZ ?_ HT_.out rfl rfl (by kernel_rfl) (fun _ _ _=>id) (by rfl) ?_ ?_ ?_ ?_;rotate_left;(intro w';go_simp;with_reducible rfl);rotate_left;(simp only [aP,i64_w,i32_w];rfl))
          refine pT 5 45 ?_ (bm 11 47) HT_.out rfl rfl (by kernel_rfl) (fun _ _ _=>id) (by rfl) ?_ ?_ ?_ ?_;rotate_left;(intro w';go_simp;with_reducible rfl);rotate_left;(simp only [aP,i64_w,i32_w];rfl)
          refine pT 6 46 ?_ (bm 11 111) HT_.out rfl rfl (by kernel_rfl) (fun _ _ _=>id) (by rfl) ?_ ?_ ?_ ?_;rotate_left;(intro w';go_simp;with_reducible rfl);rotate_left;(simp only [aP,i64_w,i32_w];rfl)
          refine pT 7 47 ?_ (bm 11 239) HT_.out rfl rfl (by kernel_rfl) (fun _ _ _=>id) (by rfl) ?_ ?_ ?_ ?_;rotate_left;(intro w';go_simp;with_reducible rfl);rotate_left;(simp only [aP,i64_w,i32_w];rfl)
          refine take_ (i:=4) (N:=some 44) (v:=?_) (a':=?_) (ms 11 8) rfl rfl (pz31 HT_.out HW_.out (by kernel_rfl)) (fun _ _ _ h=>h) (Or.inl ⟨by rfl,?_⟩) hHeld ?_ ?_;rotate_left;(rintro w' ⟨s0,s1,s2,s3⟩;go_simp;with_reducible rfl);rotate_left;(simp only [aP,i64_w,i32_w];rfl)
          refine take_ (i:=8) (N:=some 48) (v:=?_) (a':=?_) (ms 11 9) rfl rfl (pz31 HT_.out HW_.out (by kernel_rfl)) (fun _ _ _ h=>h) (Or.inl ⟨by rfl,?_⟩) hHeld ?_ ?_;rotate_left;(rintro w' ⟨s0,s1,s2,s3⟩;go_simp;with_reducible rfl);rotate_left;(simp only [aP,i64_w,i32_w];rfl)
          refine one_ (i:=9) (N:=some 49) (ms 11 10) rfl rfl (one_of HT_.out (by kernel_rfl)) (by decide) (fun K hK=>?_)
          refine goesV_ Tryz.func175 (by kernel_rfl) rfl #[.agg #[.string ((rd_T169 l0 (ji8)).f0),.string ((rd_T169 l0 (ji8)).f1)],.agg #[.string ((rd_T169 l0 a1).f0),.string ((rd_T169 l0 a1).f1)]] (by rfl) rfl ⟨_,rfl,rfl⟩ (by (try simp only [pM]);first|done|(simp only [hji8];rfl)|rfl|(simp only [pL];rfl)) ?_
          with_reducible refine (pq12.calls ((rd_T169 l0 (ji8)).f0) ((rd_T169 l0 (ji8)).f1) ((rd_T169 l0 a1).f0) ((rd_T169 l0 a1).f1) t225 _ A13.out).mono ?_
          rintro e w17 ⟨rfl,hb⟩
          have HS0_:=(hb.cell (World.block_lt_of_cell? _ _ (hHeld.1))).trans (hHeld.1)
          have HS1_:=(hb.cell (World.block_lt_of_cell? _ _ (hHeld.2.1))).trans (hHeld.2.1)
          have HS2_:=(hb.cell (World.block_lt_of_cell? _ _ (hHeld.2.2.1))).trans (hHeld.2.2.1)
          have HS3_:=(hb.cell (World.block_lt_of_cell? _ _ (hHeld.2.2.2))).trans (hHeld.2.2.2)
          refine ⟨_,rfl,?_⟩
          have n0_:=pz4.mk (Kd.R_below (by (with_reducible repeat (first|apply Kd.pz16|apply Kd.pz15|apply Kd.pz19));exact HO_0.out) hb)
          have n1_:=pz4.mk (Kept.below (S:=(fun k_=>P0_ k_)) (by repeat (first|(with_reducible first|exact HK.out|apply Kept.alloc|apply Kept.drewN|apply Kept.drew)|exact HK.out)) hb)
          have n2_:=pz4.mk (pz9 (by repeat (first|(with_reducible first|exact HB.out|apply pz3|apply pz1|apply pz2)|exact HB.out)) hb)
          clear HO_0
          clear HK
          clear HB
          have HO_0:=n0_
          have HK:=n1_
          have HB:=n2_
          clear n0_ n1_ n2_
          (try clear hb)
          (try clear hk)
          refine hK.out _ _ ⟨HS0_,HS1_,HS2_,HS3_⟩ (fun hHeld=>?_)
          clear hK K
          refine norm_ (a':=?_) ?_ ?_
          rotate_left
          ·show Act.put _ (some 49) _=_
           simp only [aP,i64_w,i32_w]
           rfl
          refine pZ ?_ HT_.out rfl rfl (by kernel_rfl) (fun _ _ _=>id) (by rfl) ?_ ?_ ?_ ?_;rotate_left;(intro w';go_simp;with_reducible rfl);rotate_left;(simp only [aP,i64_w,i32_w];rfl)
          refine done_ (done_of HT_.out (by kernel_rfl)) ?_
          try go_wp2
          go_roundg k1
          case measure=>have:=HK1.out;omega
          case rel=>exact ⟨(wrap64 ((ji8) + 1)),(x11_1),(by first|rfl|(simp;done)|(simp only [← hji8] <;> (first|rfl|simp))|(simp [*];done)),(by first|rfl|(simp;done)|(simp [*];done)),H',⟨by have:=HK1.out;omega⟩,⟨by (with_reducible repeat (first|apply Kd.pz16|apply Kd.pz15|apply Kd.pz19));exact HO_0.out⟩,⟨by repeat (first|(with_reducible first|exact HK.out|apply Kept.alloc|apply Kept.drewN|apply Kept.drew)|exact HK.out)⟩,⟨by repeat (first|(with_reducible first|exact HB.out|apply pz3|apply pz1|apply pz2)|exact HB.out)⟩⟩
         ·rw [if_neg c14] at H
          have c14b0:decide (t225<0)=false:=decide_eq_false c14
          clear c14
          have H':=pz4.mk H
          clear H
          try go_wp2
          have n0_:=pz4.mk (Kd.pz19 HO_0.out)
          have n1_:=pz4.mk (Kept.drew HK.out)
          have n2_:=pz4.mk (pz2 HB.out)
          clear HO_0
          clear HK
          clear HB
          have HO_0:=n0_
          have HK:=n1_
          have HB:=n2_
          clear n0_ n1_ n2_
          obtain ⟨Ao19,co19,eo19⟩:=Kd.R_slice HO_0.out
          (first|subst eo19|(injection eo19 with f1_ f2_ f3_;have f4_:=f1_.symm;have f5_:=f3_.symm;clear f1_ f2_ f3_;subst f4_;subst f5_))
          have p223:0≤((ji8):Int):=of_decide_eq_true (by first|(with_reducible assumption)|assumption)
          have q223:(ji8)<(l0.length:Int):=of_decide_eq_true (by first|(with_reducible assumption)|assumption)
          obtain ⟨ad223,e223,hx223_0,hx223_1⟩:=at_T169 (Kd.R_reads' HO_0.out).2.2 (ji8) p223 q223
          cases e223
          replace p223:=eq_true p223
          replace q223:=eq_true q223
          have p224:0≤(a1:Int):=of_decide_eq_true (by first|(with_reducible assumption)|assumption)
          have q224:a1<(l0.length:Int):=of_decide_eq_true (by first|(with_reducible assumption)|assumption)
          obtain ⟨ad224,e224,hx224_0,hx224_1⟩:=at_T169 (Kd.R_reads' HO_0.out).2.2 a1 p224 q224
          obtain rfl:ad223=ad224:=(by injection e224)
          replace p224:=eq_true p224
          replace q224:=eq_true q224
          refine start_ (n:=11) (S:=fun w'=>w'.cell? (ad223.add (((ji8)).toNat * 2))=some (.string ((rd_T169 l0 (ji8)).f0))∧w'.cell? ⟨(ad223.add (((ji8)).toNat * 2)).block,(ad223.add (((ji8)).toNat * 2)).off + 1,none⟩=some (.string ((rd_T169 l0 (ji8)).f1))∧w'.cell? (ad223.add ((a1).toNat * 2))=some (.string ((rd_T169 l0 a1).f0))∧w'.cell? ⟨(ad223.add ((a1).toNat * 2)).block,(ad223.add ((a1).toNat * 2)).off + 1,none⟩=some (.string ((rd_T169 l0 a1).f1))) (ds:=[]) (ms 11 0) (by kernel_rfl) rfl rfl ⟨hx223_0,hx223_1,hx224_0,hx224_1⟩ (fun hHeld=>?_);refine with_tabW pq5.tab5 pq5.bits5 (fun HT_ HW_=>?_)
          generalize wr.drew=w18 at HO_0 HK HB hx223_0 hx223_1 hx224_0 hx224_1 hHeld ⊢
          iterate 4 (refine pZ ?_ HT_.out rfl rfl (by kernel_rfl) (fun _ _ _=>id) (by rfl) ?_ ?_ ?_ ?_;rotate_left;(intro w';go_simp;with_reducible rfl);rotate_left;(simp only [aP,i64_w,i32_w];rfl))
          refine pT 5 45 ?_ (bm 11 47) HT_.out rfl rfl (by kernel_rfl) (fun _ _ _=>id) (by rfl) ?_ ?_ ?_ ?_;rotate_left;(intro w';go_simp;with_reducible rfl);rotate_left;(simp only [aP,i64_w,i32_w];rfl)
          refine pT 6 46 ?_ (bm 11 111) HT_.out rfl rfl (by kernel_rfl) (fun _ _ _=>id) (by rfl) ?_ ?_ ?_ ?_;rotate_left;(intro w';go_simp;with_reducible rfl);rotate_left;(simp only [aP,i64_w,i32_w];rfl)
          refine pT 7 47 ?_ (bm 11 239) HT_.out rfl rfl (by kernel_rfl) (fun _ _ _=>id) (by rfl) ?_ ?_ ?_ ?_;rotate_left;(intro w';go_simp;with_reducible rfl);rotate_left;(simp only [aP,i64_w,i32_w];rfl)
          refine take_ (i:=4) (N:=some 44) (v:=?_) (a':=?_) (ms 11 8) rfl rfl (pz31 HT_.out HW_.out (by kernel_rfl)) (fun _ _ _ h=>h) (Or.inl ⟨by rfl,?_⟩) hHeld ?_ ?_;rotate_left;(rintro w' ⟨s0,s1,s2,s3⟩;go_simp;with_reducible rfl);rotate_left;(simp only [aP,i64_w,i32_w];rfl)
          refine take_ (i:=8) (N:=some 48) (v:=?_) (a':=?_) (ms 11 9) rfl rfl (pz31 HT_.out HW_.out (by kernel_rfl)) (fun _ _ _ h=>h) (Or.inl ⟨by rfl,?_⟩) hHeld ?_ ?_;rotate_left;(rintro w' ⟨s0,s1,s2,s3⟩;go_simp;with_reducible rfl);rotate_left;(simp only [aP,i64_w,i32_w];rfl)
          refine one_ (i:=9) (N:=some 49) (ms 11 10) rfl rfl (one_of HT_.out (by kernel_rfl)) (by decide) (fun K hK=>?_)
          refine goesV_ Tryz.func175 (by kernel_rfl) rfl #[.agg #[.string ((rd_T169 l0 (ji8)).f0),.string ((rd_T169 l0 (ji8)).f1)],.agg #[.string ((rd_T169 l0 a1).f0),.string ((rd_T169 l0 a1).f1)]] (by rfl) rfl ⟨_,rfl,rfl⟩ (by (try simp only [pM]);first|done|(simp only [hji8];rfl)|rfl|(simp only [pL];rfl)) ?_
          with_reducible refine (pq12.calls ((rd_T169 l0 (ji8)).f0) ((rd_T169 l0 (ji8)).f1) ((rd_T169 l0 a1).f0) ((rd_T169 l0 a1).f1) t225 _ A13.out).mono ?_
          rintro e w20 ⟨rfl,hb⟩
          have HS0_:=(hb.cell (World.block_lt_of_cell? _ _ (hHeld.1))).trans (hHeld.1)
          have HS1_:=(hb.cell (World.block_lt_of_cell? _ _ (hHeld.2.1))).trans (hHeld.2.1)
          have HS2_:=(hb.cell (World.block_lt_of_cell? _ _ (hHeld.2.2.1))).trans (hHeld.2.2.1)
          have HS3_:=(hb.cell (World.block_lt_of_cell? _ _ (hHeld.2.2.2))).trans (hHeld.2.2.2)
          refine ⟨_,rfl,?_⟩
          have n0_:=pz4.mk (Kd.R_below (by (with_reducible repeat (first|apply Kd.pz16|apply Kd.pz15|apply Kd.pz19));exact HO_0.out) hb)
          have n1_:=pz4.mk (Kept.below (S:=(fun k_=>P0_ k_)) (by repeat (first|(with_reducible first|exact HK.out|apply Kept.alloc|apply Kept.drewN|apply Kept.drew)|exact HK.out)) hb)
          have n2_:=pz4.mk (pz9 (by repeat (first|(with_reducible first|exact HB.out|apply pz3|apply pz1|apply pz2)|exact HB.out)) hb)
          clear HO_0
          clear HK
          clear HB
          have HO_0:=n0_
          have HK:=n1_
          have HB:=n2_
          clear n0_ n1_ n2_
          (try clear hb)
          (try clear hk)
          refine hK.out _ _ ⟨HS0_,HS1_,HS2_,HS3_⟩ (fun hHeld=>?_)
          clear hK K
          refine norm_ (a':=?_) ?_ ?_
          rotate_left
          ·show Act.put _ (some 49) _=_
           simp only [aP,i64_w,i32_w]
           rfl
          refine pZ ?_ HT_.out rfl rfl (by kernel_rfl) (fun _ _ _=>id) (by rfl) ?_ ?_ ?_ ?_;rotate_left;(intro w';go_simp;with_reducible rfl);rotate_left;(simp only [aP,i64_w,i32_w];rfl)
          refine done_ (done_of HT_.out (by kernel_rfl)) ?_
          try go_wp2
          go_roundg k1
          case measure=>have:=HK1.out;omega
          case rel=>exact ⟨(x10_1),(ji8),(by first|rfl|(simp;done)|(simp [*];done)),(by first|rfl|(simp;done)|(simp only [← hji8] <;> (first|rfl|simp))|(simp [*];done)),H',⟨by have:=HK1.out;omega⟩,⟨by (with_reducible repeat (first|apply Kd.pz16|apply Kd.pz15|apply Kd.pz19));exact HO_0.out⟩,⟨by repeat (first|(with_reducible first|exact HK.out|apply Kept.alloc|apply Kept.drewN|apply Kept.drew)|exact HK.out)⟩,⟨by repeat (first|(with_reducible first|exact HB.out|apply pz3|apply pz1|apply pz2)|exact HB.out)⟩⟩
        ·rw [if_neg c12] at H
         exact absurd H (by simp)
       ·rw [if_neg c11] at H
        exact absurd H (by simp)
      ·rw [if_neg c10] at H
       exact absurd H (by simp)
     ·rw [if_neg c9] at H
      exact absurd H (by simp)
    ·rw [if_neg c7] at H
     have c7b0:decide (x10_1<x11_1)=false:=decide_eq_false c7
     clear c7
     have H':=pz4.mk H
     clear H
     go_wp2
     go_loopg [13] k1 (fun kq v13 w'=>∃ (x0_2:List (S169)) (x13_2:Int),v13=.int .i64 x13_2∧pz4 (pq5.l1 kq x0_2 x10_1 x13_2=some r)∧pz4 (kq≤k1)∧pz4 (Kd.R k169 169 w' w0.heap.size (fun k_=>(P0_ k_∨w.heap.size≤k_)) u9000_ x0_2)∧pz4 (Kept w w' (fun k_=>P0_ k_))∧pz4 (Below w0.heap.size w0 w'))
     case atStart=>exact ⟨(l0),(a1),(by first|rfl|(simp;done)|(simp [*];done)),H',⟨Nat.le_refl _⟩,⟨by (with_reducible repeat (first|apply Kd.pz16|apply Kd.pz15|apply Kd.pz19));exact HO_0.out⟩,⟨by repeat (first|(with_reducible first|exact HK.out|apply Kept.alloc|apply Kept.drewN|apply Kept.drew)|exact HK.out)⟩,⟨by repeat (first|(with_reducible first|exact HB.out|apply pz3|apply pz1|apply pz2)|exact HB.out)⟩⟩
     case round =>
      clear H'
      try clear c6;try clear c6b0;try clear c6b1;try clear c7;try clear c7b0
      obtain ⟨x0_2,x13_2,rfl,HA,HK2,HO_0,HK,HB⟩:=hrel
      cases gk with
      | zero=>exact absurd HA.out (by simp [pq5.l1])
      | succ k2 =>
       have H:=HA.out
       clear HA
       simp only [pq5.l1] at H
       by_cases c21:x13_2<(wrap64 (x10_1 - 1))
       ·rw [if_pos c21] at H
        have c21b0:decide (x13_2<(wrap64 (x10_1 - 1)))=true:=decide_eq_true c21
        clear c21
        obtain ⟨ji22,hji22⟩:∃ j_:Int,(wrap64 (x13_2 + 1))=j_:=⟨_,rfl⟩
        replace H:(if 0≤(ji22) then (if (ji22)<(x0_2.length:Int) then (if 0≤x13_2 then (if x13_2<(x0_2.length:Int) then (pq5.l1 k2 ((x0_2.set (x13_2:Int).toNat (⟨(rd_T169 x0_2 (ji22)).f0,(rd_T169 x0_2 (ji22)).f1⟩:S169)).set ((ji22):Int).toNat (⟨(rd_T169 x0_2 x13_2).f0,(rd_T169 x0_2 x13_2).f1⟩:S169)) x10_1 ji22) else (none)) else (none)) else (none)) else (none))=some r:=by first|(rw [hji22] at H;exact H)|(simp only [hji22] at H ⊢;exact H)
        have hji22w:(IntKind.i64.wrap (x13_2 + 1))=ji22:=(i64_w _).trans hji22
        by_cases c23:0≤(ji22)
        ·rw [if_pos c23] at H
         have c23b0:decide (0≤(ji22))=true:=decide_eq_true c23
         clear c23
         by_cases c24:(ji22)<(x0_2.length:Int)
         ·rw [if_pos c24] at H
          have c24b0:decide ((ji22)<(x0_2.length:Int))=true:=decide_eq_true c24
          clear c24
          by_cases c25:0≤x13_2
          ·rw [if_pos c25] at H
           have c25b0:decide (0≤x13_2)=true:=decide_eq_true c25
           clear c25
           by_cases c26:x13_2<(x0_2.length:Int)
           ·rw [if_pos c26] at H
            have c26b0:decide (x13_2<(x0_2.length:Int))=true:=decide_eq_true c26
            clear c26
            obtain ⟨y228,hy228⟩:∃ y_:List (S169),y_=(x0_2.set (x13_2:Int).toNat (⟨(rd_T169 x0_2 (ji22)).f0,(rd_T169 x0_2 (ji22)).f1⟩:S169)):=⟨_,rfl⟩
            replace H:(pq5.l1 k2 (y228.set ((ji22):Int).toNat (⟨(rd_T169 x0_2 x13_2).f0,(rd_T169 x0_2 x13_2).f1⟩:S169)) x10_1 ji22)=some r:=by first|(rw [hy228];with_reducible exact H)|(have H2_:=(Option.bind_some _ _).symm.trans H;rw [hy228];with_reducible exact H2_)|(have H2_:=(Option.bind_some _ _).symm.trans H;with_reducible exact H2_)|with_reducible exact H|(rw [hy228];exact H)|exact H
            have Ny228:=pz4.mk hy228
            clear hy228
            obtain ⟨y229,hy229⟩:∃ y_:List (S169),y_=(y228.set ((ji22):Int).toNat (⟨(rd_T169 x0_2 x13_2).f0,(rd_T169 x0_2 x13_2).f1⟩:S169)):=⟨_,rfl⟩
            replace H:(pq5.l1 k2 y229 x10_1 ji22)=some r:=by first|(rw [hy229];with_reducible exact H)|(have H2_:=(Option.bind_some _ _).symm.trans H;rw [hy229];with_reducible exact H2_)|(have H2_:=(Option.bind_some _ _).symm.trans H;with_reducible exact H2_)|with_reducible exact H|(rw [hy229];exact H)|exact H
            have Ny229:=pz4.mk hy229
            clear hy229
            have H':=pz4.mk H
            clear H
            try go_wp2
            have n0_:=pz4.mk (Kd.pz19 HO_0.out)
            have n1_:=pz4.mk (Kept.drew HK.out)
            have n2_:=pz4.mk (pz2 HB.out)
            clear HO_0
            clear HK
            clear HB
            have HO_0:=n0_
            have HK:=n1_
            have HB:=n2_
            clear n0_ n1_ n2_
            obtain ⟨Ao30,co30,eo30⟩:=Kd.R_slice HO_0.out
            (first|subst eo30|(injection eo30 with f1_ f2_ f3_;have f4_:=f1_.symm;have f5_:=f3_.symm;clear f1_ f2_ f3_;subst f4_;subst f5_))
            have p226:0≤((ji22):Int):=of_decide_eq_true (by first|(with_reducible assumption)|assumption)
            have q226:(ji22)<(x0_2.length:Int):=of_decide_eq_true (by first|(with_reducible assumption)|assumption)
            obtain ⟨ad226,e226,hx226_0,hx226_1⟩:=at_T169 (Kd.R_reads' HO_0.out).2.2 (ji22) p226 q226
            cases e226
            replace p226:=eq_true p226
            replace q226:=eq_true q226
            have p227:0≤(x13_2:Int):=of_decide_eq_true (by first|(with_reducible assumption)|assumption)
            have q227:x13_2<(x0_2.length:Int):=of_decide_eq_true (by first|(with_reducible assumption)|assumption)
            obtain ⟨ad227,e227,hx227_0,hx227_1⟩:=at_T169 (Kd.R_reads' HO_0.out).2.2 x13_2 p227 q227
            obtain rfl:ad226=ad227:=(by injection e227)
            replace p227:=eq_true p227
            replace q227:=eq_true q227
            have p27:0≤(x13_2:Int):=of_decide_eq_true (by first|(with_reducible assumption)|assumption)
            have q27:(x13_2:Int)<((x0_2.length:Int):Int):=of_decide_eq_true (by first|(with_reducible assumption)|assumption)
            obtain ⟨go27,co27,eo27,gb27,gl27,cl27,HG27⟩:=Kd.R_form HO_0.out (by omega)
            (first|cases eo27|(injection eo27 with ea_ en_ ec_;(first|subst ea_|(injection ea_ with ea_;subst ea_));subst ec_;clear en_))
            have GB27:=pz4.mk gb27
            have GG27:=pz4.mk HG27
            clear gb27 gl27 HG27
            have HMgo27:=pz4.mk (show (P0_ go27∨w.heap.size≤go27) from (HO_0.out.1 _ rfl))
            (first|simp only [add_plain] at hx226_0|skip)
            (first|simp only [add_plain] at hx226_1|skip)
            (first|simp only [add_plain] at hx227_0|skip)
            (first|simp only [add_plain] at hx227_1|skip)
            obtain ⟨ce27,hcl27,hM27,hcc27,hfr27⟩:=Kd.R_elem HO_0.out z169 (x13_2:Int) p27 q27
            obtain rfl:=k169_openM hM27
            have hx27_0:World.cell? _ ⟨go27,(x13_2:Int).toNat * 2,none⟩=some (.string ((rd_T169 x0_2 x13_2).f0)):=hcc27 0 _ rfl
            have hx27_1:World.cell? _ ⟨go27,(x13_2:Int).toNat * 2 + 1,none⟩=some (.string ((rd_T169 x0_2 x13_2).f1)):=hcc27 1 _ rfl
            have hf27_0:World.frozen? _ ⟨go27,(x13_2:Int).toNat * 2,none⟩=false:=hfr27 0
            have hf27_1:World.frozen? _ ⟨go27,(x13_2:Int).toNat * 2 + 1,none⟩=false:=hfr27 1
            clear hcl27 hcc27 hfr27 hM27
            replace p27:=eq_true p27
            replace q27:=eq_true q27
            obtain ⟨ce31,hcl31,hM31,hcc31,hfr31⟩:=Kd.R_elem HO_0.out z169 (x13_2:Int) (of_decide_eq_true (by first|(with_reducible assumption)|assumption)) (by have h_:(x13_2:Int)<((x0_2.length:Int):Int):=of_decide_eq_true (by first|(with_reducible assumption)|assumption);first|exact h_|(have e_:=(Kd.R_reads' HO_0.out).1;omega)|simpa using h_)
            obtain rfl:=k169_openM hM31
            have HP31:=(Kd.R_seg HO_0.out (x13_2:Int) (of_decide_eq_true (by first|(with_reducible assumption)|assumption)) (by have h_:(x13_2:Int)<((x0_2.length:Int):Int):=of_decide_eq_true (by first|(with_reducible assumption)|assumption);first|exact h_|(have e_:=(Kd.R_reads' HO_0.out).1;omega)|simpa using h_) (seg:=[.string ((rd_T169 x0_2 (ji22)).f0),.string ((rd_T169 x0_2 (ji22)).f1)]) (j:=0) hcl31 hcc31 (show 2≤2 from by decide) (x':=(⟨(rd_T169 x0_2 (ji22)).f0,(rd_T169 x0_2 (ji22)).f1⟩:S169)) (k169_mkM _ _ _ (⟨(rd_T169 x0_2 (ji22)).f0,(rd_T169 x0_2 (ji22)).f1⟩:S169) ) (fun _ hk=>hk)).1
            rw [← Ny228.out] at HP31
            have HQ31:=pz4.mk HP31
            clear hcl31 hcc31 hfr31 hM31 HP31
            have p28:0≤((ji22):Int):=of_decide_eq_true (by first|(with_reducible assumption)|assumption)
            have q28:((ji22):Int)<((x0_2.length:Int):Int):=of_decide_eq_true (by first|(with_reducible assumption)|assumption)
            obtain ⟨ce28,hcl28,hM28,hcc28,hfr28⟩:=Kd.R_elem HQ31.out z169 ((ji22):Int) p28 q28
            obtain rfl:=k169_openM hM28
            have hx28_0:World.cell? _ ⟨go27,((ji22):Int).toNat * 2,none⟩=some (.string ((rd_T169 y228 (ji22)).f0)):=hcc28 0 _ rfl
            have hx28_1:World.cell? _ ⟨go27,((ji22):Int).toNat * 2 + 1,none⟩=some (.string ((rd_T169 y228 (ji22)).f1)):=hcc28 1 _ rfl
            have hf28_0:World.frozen? _ ⟨go27,((ji22):Int).toNat * 2,none⟩=false:=hfr28 0
            have hf28_1:World.frozen? _ ⟨go27,((ji22):Int).toNat * 2 + 1,none⟩=false:=hfr28 1
            clear hcl28 hcc28 hfr28 hM28
            replace p28:=eq_true p28
            replace q28:=eq_true q28
            obtain ⟨ce32,hcl32,hM32,hcc32,hfr32⟩:=Kd.R_elem HQ31.out z169 ((ji22):Int) (of_decide_eq_true (by first|(with_reducible assumption)|assumption)) (by have h_:((ji22):Int)<((x0_2.length:Int):Int):=of_decide_eq_true (by first|(with_reducible assumption)|assumption);first|exact h_|(have e_:=(Kd.R_reads' HO_0.out).1;omega)|simpa using h_)
            obtain rfl:=k169_openM hM32
            have HP32:=(Kd.R_seg HQ31.out ((ji22):Int) (of_decide_eq_true (by first|(with_reducible assumption)|assumption)) (by have h_:((ji22):Int)<((x0_2.length:Int):Int):=of_decide_eq_true (by first|(with_reducible assumption)|assumption);first|exact h_|(have e_:=(Kd.R_reads' HO_0.out).1;omega)|simpa using h_) (seg:=[.string ((rd_T169 x0_2 x13_2).f0),.string ((rd_T169 x0_2 x13_2).f1)]) (j:=0) hcl32 hcc32 (show 2≤2 from by decide) (x':=(⟨(rd_T169 x0_2 x13_2).f0,(rd_T169 x0_2 x13_2).f1⟩:S169)) (k169_mkM _ _ _ (⟨(rd_T169 x0_2 x13_2).f0,(rd_T169 x0_2 x13_2).f1⟩:S169) ) (fun _ hk=>hk)).1
            rw [← Ny229.out] at HP32
            have HQ32:=pz4.mk HP32
            clear hcl32 hcc32 hfr32 hM32 HP32
            refine start_ (n:=18) (S:=fun w'=>w'.cell? ⟨go27,(((ji22)).toNat * 2),none⟩=some (.string ((rd_T169 x0_2 (ji22)).f0))∧w'.cell? ⟨go27,(((ji22)).toNat * 2) + 1,none⟩=some (.string ((rd_T169 x0_2 (ji22)).f1))∧w'.cell? ⟨go27,((x13_2).toNat * 2),none⟩=some (.string ((rd_T169 x0_2 x13_2).f0))∧w'.cell? ⟨go27,((x13_2).toNat * 2) + 1,none⟩=some (.string ((rd_T169 x0_2 x13_2).f1))) (ds:=[15,17]) (ms 18 0) (by kernel_rfl) rfl rfl ⟨hx226_0,hx226_1,hx227_0,hx227_1⟩ (fun hHeld=>?_);refine with_tabW pq5.tab11 pq5.bits11 (fun HT_ HW_=>?_)
            generalize wr.drew=w29 at HO_0 HK HB GG27 HQ31 HQ32 hf27_0 hf27_1 hf28_0 hf28_1 hx226_0 hx226_1 hx227_0 hx227_1 hx27_0 hx27_1 hx28_0 hx28_1 hHeld ⊢
            iterate 9 (refine pZ ?_ HT_.out rfl rfl (by kernel_rfl) (fun _ _ _=>id) (by rfl) ?_ ?_ ?_ ?_;rotate_left;(intro w';go_simp;with_reducible rfl);rotate_left;(simp only [aP,i64_w,i32_w];rfl))
            refine pT 10 71 ?_ (bm 18 1535) HT_.out rfl rfl (by kernel_rfl) (fun _ _ _=>id) (by rfl) ?_ ?_ ?_ ?_;rotate_left;(intro w';go_simp;with_reducible rfl);rotate_left;(simp only [aP,i64_w,i32_w];rfl)
            refine pT 11 72 ?_ (bm 18 3583) HT_.out rfl rfl (by kernel_rfl) (fun _ _ _=>id) (by rfl) ?_ ?_ ?_ ?_;rotate_left;(intro w';go_simp;with_reducible rfl);rotate_left;(simp only [aP,i64_w,i32_w];rfl)
            refine pT 12 73 ?_ (bm 18 7679) HT_.out rfl rfl (by kernel_rfl) (fun _ _ _=>id) (by rfl) ?_ ?_ ?_ ?_;rotate_left;(intro w';go_simp;with_reducible rfl);rotate_left;(simp only [aP,i64_w,i32_w];rfl)
            refine take_ (i:=9) (N:=some 70) (v:=?_) (a':=?_) (ms 18 13) rfl rfl (pz31 HT_.out HW_.out (by kernel_rfl)) (fun _ _ _ h=>h) (Or.inl ⟨by rfl,?_⟩) hHeld ?_ ?_;rotate_left;(rintro w' ⟨s0,s1,s2,s3⟩;go_simp;with_reducible rfl);rotate_left;(simp only [aP,i64_w,i32_w];rfl)
            refine take_ (i:=13) (N:=some 74) (v:=?_) (a':=?_) (ms 18 14) rfl rfl (pz31 HT_.out HW_.out (by kernel_rfl)) (fun _ _ _ h=>h) (Or.inl ⟨by rfl,?_⟩) hHeld ?_ ?_;rotate_left;(rintro w' ⟨s0,s1,s2,s3⟩;go_simp;with_reducible rfl);rotate_left;(simp only [aP,i64_w,i32_w];rfl)
            refine pZ ?_ HT_.out rfl rfl (by kernel_rfl) (fun _ _ _=>id) (by rfl) ?_ ?_ ?_ ?_;rotate_left;(intro w';go_simp;with_reducible rfl);rotate_left;(simp only [aP,i64_w,i32_w];rfl)
            refine last_ (i:=15) (N:=none) (ms 18 16) rfl rfl (one_of HT_.out (by kernel_rfl)) (by decide) (fun K hK=>?_)
            refine skip_ (w1:=?_) (by rfl) rfl ?_ ?_
            rotate_left
            ·go_simp
             rfl
            refine hK.out _ _ ?_
            clear hK K
            refine pZ ?_ HT_.out rfl rfl (by kernel_rfl) (fun _ _ _=>id) (by rfl) ?_ ?_ ?_ ?_;rotate_left;(intro w';go_simp;with_reducible rfl);rotate_left;(simp only [aP,i64_w,i32_w];rfl)
            obtain ⟨vy27_0_0,hy27_0_0⟩:=cell?_setCell_some (p:=⟨go27,((x13_2).toNat * 2),none⟩) (x:=(.string ((rd_T169 x0_2 (ji22)).f0))) hx226_0
            have hz27_0:=pz7 GG27.out ((((ji22)).toNat * 2))
            obtain ⟨vy27_1_0,hy27_1_0⟩:=cell?_setCell_some (p:=⟨go27,((x13_2).toNat * 2),none⟩) (x:=(.string ((rd_T169 x0_2 (ji22)).f0))) hx226_1
            obtain ⟨vy27_1_1,hy27_1_1⟩:=cell?_setCell_some (p:=⟨go27,((x13_2).toNat * 2) + 1,none⟩) (x:=(.string ((rd_T169 x0_2 (ji22)).f1))) hy27_1_0
            clear hy27_1_0
            have hz27_1:=pz7 GG27.out ((((ji22)).toNat * 2) + 1)
            refine last_ (i:=17) (N:=none) (ms 18 18) rfl rfl (one_of HT_.out (by kernel_rfl)) (by decide) (fun K hK=>?_)
            refine skip_ (w1:=?_) (by rfl) rfl ?_ ?_
            rotate_left
            ·go_simp
             rfl
            refine hK.out _ _ ?_
            clear hK K
            refine done_ (done_of HT_.out (by kernel_rfl)) ?_
            try go_wp2
            go_roundg k2
            case measure=>have:=HK1.out;have:=HK2.out;omega
            case rel=>exact ⟨(y229),(ji22),(by first|rfl|(simp;done)|(simp only [← hji22] <;> (first|rfl|simp))|(simp [*];done)),H',⟨by have:=HK1.out;have:=HK2.out;omega⟩,⟨by (with_reducible repeat (first|apply Kd.pz16|apply Kd.pz15|apply Kd.pz19));exact HQ32.out⟩,⟨by repeat (first|(with_reducible first|exact HK.out|apply Kept.alloc|apply Kept.drewN|apply Kept.drew|refine Kept.setCell ?_ HMgo27.out _|refine Kept.setCell ?_ HMgo27.out _|refine Kept.setCell ?_ HMgo27.out _|refine Kept.setCell ?_ HMgo27.out _)|exact HK.out)⟩,⟨by repeat (first|(with_reducible first|exact HB.out|apply pz3|apply pz1|apply pz2|refine pz14 ?_ GB27.out|refine pz14 ?_ GB27.out|refine pz14 ?_ GB27.out|refine pz14 ?_ GB27.out)|exact HB.out)⟩⟩
           ·rw [if_neg c26] at H
            exact absurd H (by simp)
          ·rw [if_neg c25] at H
           exact absurd H (by simp)
         ·rw [if_neg c24] at H
          exact absurd H (by simp)
        ·rw [if_neg c23] at H
         exact absurd H (by simp)
       ·rw [if_neg c21] at H
        have c21b0:decide (x13_2<(wrap64 (x10_1 - 1)))=false:=decide_eq_false c21
        clear c21
        obtain rfl:=Option.some.inj H
        go_wp2
        first|go_end0|((try simp only [Exit.inBlock,Exit.then]);refine bodyPost_ret (results_none rfl _ _ _) rfl ?_)
        exact ⟨by first|rfl|(simp [pz6,pz5] <;> rfl)|(simp [*,pz6,pz5] <;> rfl),by (with_reducible repeat (first|apply Kd.pz16|apply Kd.pz15|apply Kd.pz19));exact HO_0.out,by repeat (first|(with_reducible first|exact HB.out|apply pz3|apply pz1|apply pz2)|exact HB.out),by repeat (first|(with_reducible first|exact HK.out|apply Kept.alloc|apply Kept.drewN|apply Kept.drew)|exact HK.out)⟩
set_option maxHeartbeats 8000000 in
set_option maxRecDepth 100000 in
theorem pq5.calls_b (k:Nat) (ih:∀ m:Nat,m<k + 1→∀ (P0_:Nat→Prop) (u9000_:Value) (l0:List (S169)) (a1:Int) (a2:Int) (a3:Int) (a4:Unit) (r:List (S169)) (w0 w:World) (hB:Below w0.heap.size w0 w) (ho0:Kd.R k169 169 w w0.heap.size P0_ u9000_ l0) (h:pq5.f m l0 a1 a2 a3 a4=some r),Calls Tryz.prog 207 #[u9000_,.int .i64 a1,.int .i64 a2,.int .i64 a3,.func (.func 175) #[] #[]] w fun e w'=>e=.returned (.tuple #[])∧Kd.R k169 169 w' w0.heap.size (fun k_=>(P0_ k_∨w.heap.size≤k_)) u9000_ r∧Below w0.heap.size w0 w'∧Kept w w' (fun k_=>P0_ k_)) (P0_:Nat→Prop) (u9000_:Value) (l0:List (S169)) (a1:Int) (a2:Int) (a3:Int) (a4:Unit) (r:List (S169)) (w0 w:World) (hB:Below w0.heap.size w0 w) (ho0:Kd.R k169 169 w w0.heap.size P0_ u9000_ l0) (h:pq5.f (k + 1) l0 a1 a2 a3 a4=some r) (c6:¬ (wrap64 (a2 - a1))=1) (c33:(wrap64 (a3 - a2))=1) :
  Calls Tryz.prog 207 #[u9000_,.int .i64 a1,.int .i64 a2,.int .i64 a3,.func (.func 175) #[] #[]] w fun e w'=>e=.returned (.tuple #[])∧Kd.R k169 169 w' w0.heap.size (fun k_=>(P0_ k_∨w.heap.size≤k_)) u9000_ r∧Below w0.heap.size w0 w'∧Kept w w' (fun k_=>P0_ k_):=by
 simp only [pq5.f] at h
 have hu169:=Tryz.underlying169
 have HO0:=pz4.mk (show Kd.R k169 169 w w0.heap.size (fun k_=>(P0_ k_∨w.heap.size≤k_)) u9000_ l0 from Kd.R_mono ho0 (fun k_ hk=>(.inl hk)))
 have HK:=pz4.mk (Kept.refl w (fun k_=>P0_ k_))
 have HW0:=pz4.mk hB.size
 have HB:=pz4.mk hB
 clear hB
 have H:(if (wrap64 (a2 - a1))=1 then (pq5.l0 k l0 a1 a2 a3) else (if (wrap64 (a3 - a2))=1 then (pq5.l2 k l0 a2 a1 a2) else (if a2 > (wrap64 ((IntKind.u64.wrap (wrap64 (a1 + a3))) / 2)) then (pq5.j4 k l0 a1 a2 a3 a4 (wrap64 ((IntKind.u64.wrap (wrap64 (a1 + a3))) / 2)) (wrap64 ((wrap64 ((IntKind.u64.wrap (wrap64 (a1 + a3))) / 2)) + a2)) (wrap64 ((wrap64 ((wrap64 ((IntKind.u64.wrap (wrap64 (a1 + a3))) / 2)) + a2)) - a3)) (wrap64 ((IntKind.u64.wrap (wrap64 (a1 + a3))) / 2))) else (pq5.j4 k l0 a1 a2 a3 a4 (wrap64 ((IntKind.u64.wrap (wrap64 (a1 + a3))) / 2)) (wrap64 ((wrap64 ((IntKind.u64.wrap (wrap64 (a1 + a3))) / 2)) + a2)) a1 a2))))=some r:=h
 clear h
 rw [if_neg c6] at H
 have c6b0:((wrap64 (a2 - a1)) == 1)=false:=beq_eq_false_iff_ne.mpr c6
 have c6b1:((wrap64 (a2 - a1)) != 1)=true:=bne_iff_ne.mpr c6
 ·rw [if_pos c33] at H
  have c33b0:((wrap64 (a3 - a2)) == 1)=true:=beq_iff_eq.mpr c33
  have c33b1:((wrap64 (a3 - a2)) != 1)=false:=bne_eq_false_iff_eq.mpr c33
  clear c33
  have H':=pz4.mk H
  clear H
  go_enter Tryz.func207,Tryz.ntmps207
  go_wp2
  go_loopg [14,15] k (fun kq v14 v15 w'=>∃ (x14_1:Int) (x15_1:Int),v14=.int .i64 x14_1∧v15=.int .i64 x15_1∧pz4 (pq5.l2 kq l0 a2 x14_1 x15_1=some r)∧pz4 (kq≤k)∧pz4 (Kd.R k169 169 w' w0.heap.size (fun k_=>(P0_ k_∨w.heap.size≤k_)) u9000_ l0)∧pz4 (Kept w w' (fun k_=>P0_ k_))∧pz4 (Below w0.heap.size w0 w'))
  case atStart=>exact ⟨(a1),(a2),(by first|rfl|(simp;done)|(simp [*];done)),(by first|rfl|(simp;done)|(simp [*];done)),H',⟨Nat.le_refl _⟩,⟨by (with_reducible repeat (first|apply Kd.pz16|apply Kd.pz15|apply Kd.pz19));exact HO0.out⟩,⟨by repeat (first|(with_reducible first|exact HK.out|apply Kept.alloc|apply Kept.drewN|apply Kept.drew)|exact HK.out)⟩,⟨by repeat (first|(with_reducible first|exact HB.out|apply pz3|apply pz1|apply pz2)|exact HB.out)⟩⟩
  case round =>
   clear H'
   try clear c6;try clear c6b0;try clear c6b1;try clear c33;try clear c33b0;try clear c33b1
   obtain ⟨x14_1,x15_1,rfl,rfl,HA,HK1,HO_0,HK,HB⟩:=hrel
   cases gk with
   | zero=>exact absurd HA.out (by simp [pq5.l2])
   | succ k1 =>
    have H:=HA.out
    clear HA
    simp only [pq5.l2] at H
    by_cases c34:x14_1<x15_1
    ·rw [if_pos c34] at H
     have c34b0:decide (x14_1<x15_1)=true:=decide_eq_true c34
     clear c34
     by_cases c35:0≤a2
     ·rw [if_pos c35] at H
      have c35b0:decide (0≤a2)=true:=decide_eq_true c35
      clear c35
      by_cases c36:a2<(l0.length:Int)
      ·rw [if_pos c36] at H
       have c36b0:decide (a2<(l0.length:Int))=true:=decide_eq_true c36
       clear c36
       obtain ⟨ji37,hji37⟩:∃ j_:Int,(wrap64 ((IntKind.u64.wrap (wrap64 (x14_1 + x15_1))) / 2))=j_:=⟨_,rfl⟩
       replace H:(if 0≤(ji37) then (if (ji37)<(l0.length:Int) then ((pq12.f ((rd_T169 l0 a2).f0) ((rd_T169 l0 a2).f1) ((rd_T169 l0 (ji37)).f0) ((rd_T169 l0 (ji37)).f1)).bind fun t232=>(if t232<0 then (pq5.l2 k1 l0 a2 x14_1 ji37) else (pq5.l2 k1 l0 a2 (wrap64 ((ji37) + 1)) x15_1))) else (none)) else (none))=some r:=by first|(rw [hji37] at H;exact H)|(simp only [hji37] at H ⊢;exact H)
       have hji37w:(IntKind.i64.wrap ((IntKind.u64.wrap (wrap64 (x14_1 + x15_1))) / 2))=ji37:=(i64_w _).trans hji37
       by_cases c38:0≤(ji37)
       ·rw [if_pos c38] at H
        have c38b0:decide (0≤(ji37))=true:=decide_eq_true c38
        clear c38
        by_cases c39:(ji37)<(l0.length:Int)
        ·rw [if_pos c39] at H
         have c39b0:decide ((ji37)<(l0.length:Int))=true:=decide_eq_true c39
         clear c39
         replace H:=Option.bind_eq_some_iff.mp H
         obtain ⟨t232,A400,H⟩:=H
         replace H:(if t232<0 then (pq5.l2 k1 l0 a2 x14_1 ji37) else (pq5.l2 k1 l0 a2 (wrap64 ((ji37) + 1)) x15_1))=some r:=H
         have A40:=pz4.mk A400
         clear A400
         by_cases c41:t232<0
         ·rw [if_pos c41] at H
          have c41b0:decide (t232<0)=true:=decide_eq_true c41
          clear c41
          have H':=pz4.mk H
          clear H
          try go_wp2
          have n0_:=pz4.mk (Kd.pz19 HO_0.out)
          have n1_:=pz4.mk (Kept.drew HK.out)
          have n2_:=pz4.mk (pz2 HB.out)
          clear HO_0
          clear HK
          clear HB
          have HO_0:=n0_
          have HK:=n1_
          have HB:=n2_
          clear n0_ n1_ n2_
          obtain ⟨Ao43,co43,eo43⟩:=Kd.R_slice HO_0.out
          (first|subst eo43|(injection eo43 with f1_ f2_ f3_;have f4_:=f1_.symm;have f5_:=f3_.symm;clear f1_ f2_ f3_;subst f4_;subst f5_))
          have p230:0≤(a2:Int):=of_decide_eq_true (by first|(with_reducible assumption)|assumption)
          have q230:a2<(l0.length:Int):=of_decide_eq_true (by first|(with_reducible assumption)|assumption)
          obtain ⟨ad230,e230,hx230_0,hx230_1⟩:=at_T169 (Kd.R_reads' HO_0.out).2.2 a2 p230 q230
          cases e230
          replace p230:=eq_true p230
          replace q230:=eq_true q230
          have p231:0≤((ji37):Int):=of_decide_eq_true (by first|(with_reducible assumption)|assumption)
          have q231:(ji37)<(l0.length:Int):=of_decide_eq_true (by first|(with_reducible assumption)|assumption)
          obtain ⟨ad231,e231,hx231_0,hx231_1⟩:=at_T169 (Kd.R_reads' HO_0.out).2.2 (ji37) p231 q231
          obtain rfl:ad230=ad231:=(by injection e231)
          replace p231:=eq_true p231
          replace q231:=eq_true q231
          refine start_ (n:=12) (S:=fun w'=>w'.cell? (ad230.add ((a2).toNat * 2))=some (.string ((rd_T169 l0 a2).f0))∧w'.cell? ⟨(ad230.add ((a2).toNat * 2)).block,(ad230.add ((a2).toNat * 2)).off + 1,none⟩=some (.string ((rd_T169 l0 a2).f1))∧w'.cell? (ad230.add (((ji37)).toNat * 2))=some (.string ((rd_T169 l0 (ji37)).f0))∧w'.cell? ⟨(ad230.add (((ji37)).toNat * 2)).block,(ad230.add (((ji37)).toNat * 2)).off + 1,none⟩=some (.string ((rd_T169 l0 (ji37)).f1))) (ds:=[]) (ms 12 0) (by kernel_rfl) rfl rfl ⟨hx230_0,hx230_1,hx231_0,hx231_1⟩ (fun hHeld=>?_);refine with_tabW pq5.tab17 pq5.bits17 (fun HT_ HW_=>?_)
          generalize wr.drew=w42 at HO_0 HK HB hx230_0 hx230_1 hx231_0 hx231_1 hHeld ⊢
          iterate 4 (refine pZ ?_ HT_.out rfl rfl (by kernel_rfl) (fun _ _ _=>id) (by rfl) ?_ ?_ ?_ ?_;rotate_left;(intro w';go_simp;with_reducible rfl);rotate_left;(simp only [aP,i64_w,i32_w];rfl))
          refine pT 5 97 ?_ (bm 12 47) HT_.out rfl rfl (by kernel_rfl) (fun _ _ _=>id) (by rfl) ?_ ?_ ?_ ?_;rotate_left;(intro w';go_simp;with_reducible rfl);rotate_left;(simp only [aP,i64_w,i32_w];rfl)
          refine pT 6 98 ?_ (bm 12 111) HT_.out rfl rfl (by kernel_rfl) (fun _ _ _=>id) (by rfl) ?_ ?_ ?_ ?_;rotate_left;(intro w';go_simp;with_reducible rfl);rotate_left;(simp only [aP,i64_w,i32_w];rfl)
          refine pT 7 99 ?_ (bm 12 239) HT_.out rfl rfl (by kernel_rfl) (fun _ _ _=>id) (by rfl) ?_ ?_ ?_ ?_;rotate_left;(intro w';go_simp;with_reducible rfl);rotate_left;(simp only [aP,i64_w,i32_w];rfl)
          refine take_ (i:=4) (N:=some 96) (v:=?_) (a':=?_) (ms 12 8) rfl rfl (pz31 HT_.out HW_.out (by kernel_rfl)) (fun _ _ _ h=>h) (Or.inl ⟨by rfl,?_⟩) hHeld ?_ ?_;rotate_left;(rintro w' ⟨s0,s1,s2,s3⟩;go_simp;with_reducible rfl);rotate_left;(simp only [aP,i64_w,i32_w];rfl)
          refine take_ (i:=8) (N:=some 100) (v:=?_) (a':=?_) (ms 12 9) rfl rfl (pz31 HT_.out HW_.out (by kernel_rfl)) (fun _ _ _ h=>h) (Or.inl ⟨by rfl,?_⟩) hHeld ?_ ?_;rotate_left;(rintro w' ⟨s0,s1,s2,s3⟩;go_simp;with_reducible rfl);rotate_left;(simp only [aP,i64_w,i32_w];rfl)
          refine one_ (i:=9) (N:=some 101) (ms 12 10) rfl rfl (one_of HT_.out (by kernel_rfl)) (by decide) (fun K hK=>?_)
          refine goesV_ Tryz.func175 (by kernel_rfl) rfl #[.agg #[.string ((rd_T169 l0 a2).f0),.string ((rd_T169 l0 a2).f1)],.agg #[.string ((rd_T169 l0 (ji37)).f0),.string ((rd_T169 l0 (ji37)).f1)]] (by rfl) rfl ⟨_,rfl,rfl⟩ (by (try simp only [pM]);first|done|(simp only [hji37];rfl)|rfl|(simp only [pL];rfl)) ?_
          with_reducible refine (pq12.calls ((rd_T169 l0 a2).f0) ((rd_T169 l0 a2).f1) ((rd_T169 l0 (ji37)).f0) ((rd_T169 l0 (ji37)).f1) t232 _ A40.out).mono ?_
          rintro e w44 ⟨rfl,hb⟩
          have HS0_:=(hb.cell (World.block_lt_of_cell? _ _ (hHeld.1))).trans (hHeld.1)
          have HS1_:=(hb.cell (World.block_lt_of_cell? _ _ (hHeld.2.1))).trans (hHeld.2.1)
          have HS2_:=(hb.cell (World.block_lt_of_cell? _ _ (hHeld.2.2.1))).trans (hHeld.2.2.1)
          have HS3_:=(hb.cell (World.block_lt_of_cell? _ _ (hHeld.2.2.2))).trans (hHeld.2.2.2)
          refine ⟨_,rfl,?_⟩
          have n0_:=pz4.mk (Kd.R_below (by (with_reducible repeat (first|apply Kd.pz16|apply Kd.pz15|apply Kd.pz19));exact HO_0.out) hb)
          have n1_:=pz4.mk (Kept.below (S:=(fun k_=>P0_ k_)) (by repeat (first|(with_reducible first|exact HK.out|apply Kept.alloc|apply Kept.drewN|apply Kept.drew)|exact HK.out)) hb)
          have n2_:=pz4.mk (pz9 (by repeat (first|(with_reducible first|exact HB.out|apply pz3|apply pz1|apply pz2)|exact HB.out)) hb)
          clear HO_0
          clear HK
          clear HB
          have HO_0:=n0_
          have HK:=n1_
          have HB:=n2_
          clear n0_ n1_ n2_
          (try clear hb)
          (try clear hk)
          refine hK.out _ _ ⟨HS0_,HS1_,HS2_,HS3_⟩ (fun hHeld=>?_)
          clear hK K
          refine norm_ (a':=?_) ?_ ?_
          rotate_left
          ·show Act.put _ (some 101) _=_
           simp only [aP,i64_w,i32_w]
           rfl
          iterate 2 (refine pZ ?_ HT_.out rfl rfl (by kernel_rfl) (fun _ _ _=>id) (by rfl) ?_ ?_ ?_ ?_;rotate_left;(intro w';go_simp;with_reducible rfl);rotate_left;(simp only [aP,i64_w,i32_w];rfl))
          refine done_ (done_of HT_.out (by kernel_rfl)) ?_
          try go_wp2
          go_roundg k1
          case measure=>have:=HK1.out;omega
          case rel=>exact ⟨(x14_1),(ji37),(by first|rfl|(simp;done)|(simp [*];done)),(by first|rfl|(simp;done)|(simp only [← hji37] <;> (first|rfl|simp))|(simp [*];done)),H',⟨by have:=HK1.out;omega⟩,⟨by (with_reducible repeat (first|apply Kd.pz16|apply Kd.pz15|apply Kd.pz19));exact HO_0.out⟩,⟨by repeat (first|(with_reducible first|exact HK.out|apply Kept.alloc|apply Kept.drewN|apply Kept.drew)|exact HK.out)⟩,⟨by repeat (first|(with_reducible first|exact HB.out|apply pz3|apply pz1|apply pz2)|exact HB.out)⟩⟩
         ·rw [if_neg c41] at H
          have c41b0:decide (t232<0)=false:=decide_eq_false c41
          clear c41
          have H':=pz4.mk H
          clear H
          try go_wp2
          have n0_:=pz4.mk (Kd.pz19 HO_0.out)
          have n1_:=pz4.mk (Kept.drew HK.out)
          have n2_:=pz4.mk (pz2 HB.out)
          clear HO_0
          clear HK
          clear HB
          have HO_0:=n0_
          have HK:=n1_
          have HB:=n2_
          clear n0_ n1_ n2_
          obtain ⟨Ao46,co46,eo46⟩:=Kd.R_slice HO_0.out
          (first|subst eo46|(injection eo46 with f1_ f2_ f3_;have f4_:=f1_.symm;have f5_:=f3_.symm;clear f1_ f2_ f3_;subst f4_;subst f5_))
          have p230:0≤(a2:Int):=of_decide_eq_true (by first|(with_reducible assumption)|assumption)
          have q230:a2<(l0.length:Int):=of_decide_eq_true (by first|(with_reducible assumption)|assumption)
          obtain ⟨ad230,e230,hx230_0,hx230_1⟩:=at_T169 (Kd.R_reads' HO_0.out).2.2 a2 p230 q230
          cases e230
          replace p230:=eq_true p230
          replace q230:=eq_true q230
          have p231:0≤((ji37):Int):=of_decide_eq_true (by first|(with_reducible assumption)|assumption)
          have q231:(ji37)<(l0.length:Int):=of_decide_eq_true (by first|(with_reducible assumption)|assumption)
          obtain ⟨ad231,e231,hx231_0,hx231_1⟩:=at_T169 (Kd.R_reads' HO_0.out).2.2 (ji37) p231 q231
          obtain rfl:ad230=ad231:=(by injection e231)
          replace p231:=eq_true p231
          replace q231:=eq_true q231
          refine start_ (n:=12) (S:=fun w'=>w'.cell? (ad230.add ((a2).toNat * 2))=some (.string ((rd_T169 l0 a2).f0))∧w'.cell? ⟨(ad230.add ((a2).toNat * 2)).block,(ad230.add ((a2).toNat * 2)).off + 1,none⟩=some (.string ((rd_T169 l0 a2).f1))∧w'.cell? (ad230.add (((ji37)).toNat * 2))=some (.string ((rd_T169 l0 (ji37)).f0))∧w'.cell? ⟨(ad230.add (((ji37)).toNat * 2)).block,(ad230.add (((ji37)).toNat * 2)).off + 1,none⟩=some (.string ((rd_T169 l0 (ji37)).f1))) (ds:=[]) (ms 12 0) (by kernel_rfl) rfl rfl ⟨hx230_0,hx230_1,hx231_0,hx231_1⟩ (fun hHeld=>?_);refine with_tabW pq5.tab17 pq5.bits17 (fun HT_ HW_=>?_)
          generalize wr.drew=w45 at HO_0 HK HB hx230_0 hx230_1 hx231_0 hx231_1 hHeld ⊢
          iterate 4 (refine pZ ?_ HT_.out rfl rfl (by kernel_rfl) (fun _ _ _=>id) (by rfl) ?_ ?_ ?_ ?_;rotate_left;(intro w';go_simp;with_reducible rfl);rotate_left;(simp only [aP,i64_w,i32_w];rfl))
          refine pT 5 97 ?_ (bm 12 47) HT_.out rfl rfl (by kernel_rfl) (fun _ _ _=>id) (by rfl) ?_ ?_ ?_ ?_;rotate_left;(intro w';go_simp;with_reducible rfl);rotate_left;(simp only [aP,i64_w,i32_w];rfl)
          refine pT 6 98 ?_ (bm 12 111) HT_.out rfl rfl (by kernel_rfl) (fun _ _ _=>id) (by rfl) ?_ ?_ ?_ ?_;rotate_left;(intro w';go_simp;with_reducible rfl);rotate_left;(simp only [aP,i64_w,i32_w];rfl)
          refine pT 7 99 ?_ (bm 12 239) HT_.out rfl rfl (by kernel_rfl) (fun _ _ _=>id) (by rfl) ?_ ?_ ?_ ?_;rotate_left;(intro w';go_simp;with_reducible rfl);rotate_left;(simp only [aP,i64_w,i32_w];rfl)
          refine take_ (i:=4) (N:=some 96) (v:=?_) (a':=?_) (ms 12 8) rfl rfl (pz31 HT_.out HW_.out (by kernel_rfl)) (fun _ _ _ h=>h) (Or.inl ⟨by rfl,?_⟩) hHeld ?_ ?_;rotate_left;(rintro w' ⟨s0,s1,s2,s3⟩;go_simp;with_reducible rfl);rotate_left;(simp only [aP,i64_w,i32_w];rfl)
          refine take_ (i:=8) (N:=some 100) (v:=?_) (a':=?_) (ms 12 9) rfl rfl (pz31 HT_.out HW_.out (by kernel_rfl)) (fun _ _ _ h=>h) (Or.inl ⟨by rfl,?_⟩) hHeld ?_ ?_;rotate_left;(rintro w' ⟨s0,s1,s2,s3⟩;go_simp;with_reducible rfl);rotate_left;(simp only [aP,i64_w,i32_w];rfl)
          refine one_ (i:=9) (N:=some 101) (ms 12 10) rfl rfl (one_of HT_.out (by kernel_rfl)) (by decide) (fun K hK=>?_)
          refine goesV_ Tryz.func175 (by kernel_rfl) rfl #[.agg #[.string ((rd_T169 l0 a2).f0),.string ((rd_T169 l0 a2).f1)],.agg #[.string ((rd_T169 l0 (ji37)).f0),.string ((rd_T169 l0 (ji37)).f1)]] (by rfl) rfl ⟨_,rfl,rfl⟩ (by (try simp only [pM]);first|done|(simp only [hji37];rfl)|rfl|(simp only [pL];rfl)) ?_
          with_reducible refine (pq12.calls ((rd_T169 l0 a2).f0) ((rd_T169 l0 a2).f1) ((rd_T169 l0 (ji37)).f0) ((rd_T169 l0 (ji37)).f1) t232 _ A40.out).mono ?_
          rintro e w47 ⟨rfl,hb⟩
          have HS0_:=(hb.cell (World.block_lt_of_cell? _ _ (hHeld.1))).trans (hHeld.1)
          have HS1_:=(hb.cell (World.block_lt_of_cell? _ _ (hHeld.2.1))).trans (hHeld.2.1)
          have HS2_:=(hb.cell (World.block_lt_of_cell? _ _ (hHeld.2.2.1))).trans (hHeld.2.2.1)
          have HS3_:=(hb.cell (World.block_lt_of_cell? _ _ (hHeld.2.2.2))).trans (hHeld.2.2.2)
          refine ⟨_,rfl,?_⟩
          have n0_:=pz4.mk (Kd.R_below (by (with_reducible repeat (first|apply Kd.pz16|apply Kd.pz15|apply Kd.pz19));exact HO_0.out) hb)
          have n1_:=pz4.mk (Kept.below (S:=(fun k_=>P0_ k_)) (by repeat (first|(with_reducible first|exact HK.out|apply Kept.alloc|apply Kept.drewN|apply Kept.drew)|exact HK.out)) hb)
          have n2_:=pz4.mk (pz9 (by repeat (first|(with_reducible first|exact HB.out|apply pz3|apply pz1|apply pz2)|exact HB.out)) hb)
          clear HO_0
          clear HK
          clear HB
          have HO_0:=n0_
          have HK:=n1_
          have HB:=n2_
          clear n0_ n1_ n2_
          (try clear hb)
          (try clear hk)
          refine hK.out _ _ ⟨HS0_,HS1_,HS2_,HS3_⟩ (fun hHeld=>?_)
          clear hK K
          refine norm_ (a':=?_) ?_ ?_
          rotate_left
          ·show Act.put _ (some 101) _=_
           simp only [aP,i64_w,i32_w]
           rfl
          iterate 2 (refine pZ ?_ HT_.out rfl rfl (by kernel_rfl) (fun _ _ _=>id) (by rfl) ?_ ?_ ?_ ?_;rotate_left;(intro w';go_simp;with_reducible rfl);rotate_left;(simp only [aP,i64_w,i32_w];rfl))
          refine done_ (done_of HT_.out (by kernel_rfl)) ?_
          try go_wp2
          go_roundg k1
          case measure=>have:=HK1.out;omega
          case rel=>exact ⟨(wrap64 ((ji37) + 1)),(x15_1),(by first|rfl|(simp;done)|(simp only [← hji37] <;> (first|rfl|simp))|(simp [*];done)),(by first|rfl|(simp;done)|(simp [*];done)),H',⟨by have:=HK1.out;omega⟩,⟨by (with_reducible repeat (first|apply Kd.pz16|apply Kd.pz15|apply Kd.pz19));exact HO_0.out⟩,⟨by repeat (first|(with_reducible first|exact HK.out|apply Kept.alloc|apply Kept.drewN|apply Kept.drew)|exact HK.out)⟩,⟨by repeat (first|(with_reducible first|exact HB.out|apply pz3|apply pz1|apply pz2)|exact HB.out)⟩⟩
        ·rw [if_neg c39] at H
         exact absurd H (by simp)
       ·rw [if_neg c38] at H
        exact absurd H (by simp)
      ·rw [if_neg c36] at H
       exact absurd H (by simp)
     ·rw [if_neg c35] at H
      exact absurd H (by simp)
    ·rw [if_neg c34] at H
     have c34b0:decide (x14_1<x15_1)=false:=decide_eq_false c34
     clear c34
     have H':=pz4.mk H
     clear H
     go_wp2
     go_loopg [17] k1 (fun kq v17 w'=>∃ (x0_2:List (S169)) (x17_2:Int),v17=.int .i64 x17_2∧pz4 (pq5.l3 kq x0_2 x14_1 x17_2=some r)∧pz4 (kq≤k1)∧pz4 (Kd.R k169 169 w' w0.heap.size (fun k_=>(P0_ k_∨w.heap.size≤k_)) u9000_ x0_2)∧pz4 (Kept w w' (fun k_=>P0_ k_))∧pz4 (Below w0.heap.size w0 w'))
     case atStart=>exact ⟨(l0),(a2),(by first|rfl|(simp;done)|(simp [*];done)),H',⟨Nat.le_refl _⟩,⟨by (with_reducible repeat (first|apply Kd.pz16|apply Kd.pz15|apply Kd.pz19));exact HO_0.out⟩,⟨by repeat (first|(with_reducible first|exact HK.out|apply Kept.alloc|apply Kept.drewN|apply Kept.drew)|exact HK.out)⟩,⟨by repeat (first|(with_reducible first|exact HB.out|apply pz3|apply pz1|apply pz2)|exact HB.out)⟩⟩
     case round =>
      clear H'
      try clear c6;try clear c6b0;try clear c6b1;try clear c33;try clear c33b0;try clear c33b1;try clear c34;try clear c34b0
      obtain ⟨x0_2,x17_2,rfl,HA,HK2,HO_0,HK,HB⟩:=hrel
      cases gk with
      | zero=>exact absurd HA.out (by simp [pq5.l3])
      | succ k2 =>
       have H:=HA.out
       clear HA
       simp only [pq5.l3] at H
       by_cases c48:x17_2 > x14_1
       ·rw [if_pos c48] at H
        have c48b0:decide (x14_1<x17_2)=true:=decide_eq_true c48
        clear c48
        obtain ⟨ji49,hji49⟩:∃ j_:Int,(wrap64 (x17_2 - 1))=j_:=⟨_,rfl⟩
        replace H:(if 0≤(ji49) then (if (ji49)<(x0_2.length:Int) then (if 0≤x17_2 then (if x17_2<(x0_2.length:Int) then (pq5.l3 k2 ((x0_2.set (x17_2:Int).toNat (⟨(rd_T169 x0_2 (ji49)).f0,(rd_T169 x0_2 (ji49)).f1⟩:S169)).set ((ji49):Int).toNat (⟨(rd_T169 x0_2 x17_2).f0,(rd_T169 x0_2 x17_2).f1⟩:S169)) x14_1 ji49) else (none)) else (none)) else (none)) else (none))=some r:=by first|(rw [hji49] at H;exact H)|(simp only [hji49] at H ⊢;exact H)
        have hji49w:(IntKind.i64.wrap (x17_2 - 1))=ji49:=(i64_w _).trans hji49
        by_cases c50:0≤(ji49)
        ·rw [if_pos c50] at H
         have c50b0:decide (0≤(ji49))=true:=decide_eq_true c50
         clear c50
         by_cases c51:(ji49)<(x0_2.length:Int)
         ·rw [if_pos c51] at H
          have c51b0:decide ((ji49)<(x0_2.length:Int))=true:=decide_eq_true c51
          clear c51
          by_cases c52:0≤x17_2
          ·rw [if_pos c52] at H
           have c52b0:decide (0≤x17_2)=true:=decide_eq_true c52
           clear c52
           by_cases c53:x17_2<(x0_2.length:Int)
           ·rw [if_pos c53] at H
            have c53b0:decide (x17_2<(x0_2.length:Int))=true:=decide_eq_true c53
            clear c53
            obtain ⟨y235,hy235⟩:∃ y_:List (S169),y_=(x0_2.set (x17_2:Int).toNat (⟨(rd_T169 x0_2 (ji49)).f0,(rd_T169 x0_2 (ji49)).f1⟩:S169)):=⟨_,rfl⟩
            replace H:(pq5.l3 k2 (y235.set ((ji49):Int).toNat (⟨(rd_T169 x0_2 x17_2).f0,(rd_T169 x0_2 x17_2).f1⟩:S169)) x14_1 ji49)=some r:=by first|(rw [hy235];with_reducible exact H)|(have H2_:=(Option.bind_some _ _).symm.trans H;rw [hy235];with_reducible exact H2_)|(have H2_:=(Option.bind_some _ _).symm.trans H;with_reducible exact H2_)|with_reducible exact H|(rw [hy235];exact H)|exact H
            have Ny235:=pz4.mk hy235
            clear hy235
            obtain ⟨y236,hy236⟩:∃ y_:List (S169),y_=(y235.set ((ji49):Int).toNat (⟨(rd_T169 x0_2 x17_2).f0,(rd_T169 x0_2 x17_2).f1⟩:S169)):=⟨_,rfl⟩
            replace H:(pq5.l3 k2 y236 x14_1 ji49)=some r:=by first|(rw [hy236];with_reducible exact H)|(have H2_:=(Option.bind_some _ _).symm.trans H;rw [hy236];with_reducible exact H2_)|(have H2_:=(Option.bind_some _ _).symm.trans H;with_reducible exact H2_)|with_reducible exact H|(rw [hy236];exact H)|exact H
            have Ny236:=pz4.mk hy236
            clear hy236
            have H':=pz4.mk H
            clear H
            try go_wp2
            have n0_:=pz4.mk (Kd.pz19 HO_0.out)
            have n1_:=pz4.mk (Kept.drew HK.out)
            have n2_:=pz4.mk (pz2 HB.out)
            clear HO_0
            clear HK
            clear HB
            have HO_0:=n0_
            have HK:=n1_
            have HB:=n2_
            clear n0_ n1_ n2_
            obtain ⟨Ao57,co57,eo57⟩:=Kd.R_slice HO_0.out
            (first|subst eo57|(injection eo57 with f1_ f2_ f3_;have f4_:=f1_.symm;have f5_:=f3_.symm;clear f1_ f2_ f3_;subst f4_;subst f5_))
            have p233:0≤((ji49):Int):=of_decide_eq_true (by first|(with_reducible assumption)|assumption)
            have q233:(ji49)<(x0_2.length:Int):=of_decide_eq_true (by first|(with_reducible assumption)|assumption)
            obtain ⟨ad233,e233,hx233_0,hx233_1⟩:=at_T169 (Kd.R_reads' HO_0.out).2.2 (ji49) p233 q233
            cases e233
            replace p233:=eq_true p233
            replace q233:=eq_true q233
            have p234:0≤(x17_2:Int):=of_decide_eq_true (by first|(with_reducible assumption)|assumption)
            have q234:x17_2<(x0_2.length:Int):=of_decide_eq_true (by first|(with_reducible assumption)|assumption)
            obtain ⟨ad234,e234,hx234_0,hx234_1⟩:=at_T169 (Kd.R_reads' HO_0.out).2.2 x17_2 p234 q234
            obtain rfl:ad233=ad234:=(by injection e234)
            replace p234:=eq_true p234
            replace q234:=eq_true q234
            have p54:0≤(x17_2:Int):=of_decide_eq_true (by first|(with_reducible assumption)|assumption)
            have q54:(x17_2:Int)<((x0_2.length:Int):Int):=of_decide_eq_true (by first|(with_reducible assumption)|assumption)
            obtain ⟨go54,co54,eo54,gb54,gl54,cl54,HG54⟩:=Kd.R_form HO_0.out (by omega)
            (first|cases eo54|(injection eo54 with ea_ en_ ec_;(first|subst ea_|(injection ea_ with ea_;subst ea_));subst ec_;clear en_))
            have GB54:=pz4.mk gb54
            have GG54:=pz4.mk HG54
            clear gb54 gl54 HG54
            have HMgo54:=pz4.mk (show (P0_ go54∨w.heap.size≤go54) from (HO_0.out.1 _ rfl))
            (first|simp only [add_plain] at hx233_0|skip)
            (first|simp only [add_plain] at hx233_1|skip)
            (first|simp only [add_plain] at hx234_0|skip)
            (first|simp only [add_plain] at hx234_1|skip)
            obtain ⟨ce54,hcl54,hM54,hcc54,hfr54⟩:=Kd.R_elem HO_0.out z169 (x17_2:Int) p54 q54
            obtain rfl:=k169_openM hM54
            have hx54_0:World.cell? _ ⟨go54,(x17_2:Int).toNat * 2,none⟩=some (.string ((rd_T169 x0_2 x17_2).f0)):=hcc54 0 _ rfl
            have hx54_1:World.cell? _ ⟨go54,(x17_2:Int).toNat * 2 + 1,none⟩=some (.string ((rd_T169 x0_2 x17_2).f1)):=hcc54 1 _ rfl
            have hf54_0:World.frozen? _ ⟨go54,(x17_2:Int).toNat * 2,none⟩=false:=hfr54 0
            have hf54_1:World.frozen? _ ⟨go54,(x17_2:Int).toNat * 2 + 1,none⟩=false:=hfr54 1
            clear hcl54 hcc54 hfr54 hM54
            replace p54:=eq_true p54
            replace q54:=eq_true q54
            obtain ⟨ce58,hcl58,hM58,hcc58,hfr58⟩:=Kd.R_elem HO_0.out z169 (x17_2:Int) (of_decide_eq_true (by first|(with_reducible assumption)|assumption)) (by have h_:(x17_2:Int)<((x0_2.length:Int):Int):=of_decide_eq_true (by first|(with_reducible assumption)|assumption);first|exact h_|(have e_:=(Kd.R_reads' HO_0.out).1;omega)|simpa using h_)
            obtain rfl:=k169_openM hM58
            have HP58:=(Kd.R_seg HO_0.out (x17_2:Int) (of_decide_eq_true (by first|(with_reducible assumption)|assumption)) (by have h_:(x17_2:Int)<((x0_2.length:Int):Int):=of_decide_eq_true (by first|(with_reducible assumption)|assumption);first|exact h_|(have e_:=(Kd.R_reads' HO_0.out).1;omega)|simpa using h_) (seg:=[.string ((rd_T169 x0_2 (ji49)).f0),.string ((rd_T169 x0_2 (ji49)).f1)]) (j:=0) hcl58 hcc58 (show 2≤2 from by decide) (x':=(⟨(rd_T169 x0_2 (ji49)).f0,(rd_T169 x0_2 (ji49)).f1⟩:S169)) (k169_mkM _ _ _ (⟨(rd_T169 x0_2 (ji49)).f0,(rd_T169 x0_2 (ji49)).f1⟩:S169) ) (fun _ hk=>hk)).1
            rw [← Ny235.out] at HP58
            have HQ58:=pz4.mk HP58
            clear hcl58 hcc58 hfr58 hM58 HP58
            have p55:0≤((ji49):Int):=of_decide_eq_true (by first|(with_reducible assumption)|assumption)
            have q55:((ji49):Int)<((x0_2.length:Int):Int):=of_decide_eq_true (by first|(with_reducible assumption)|assumption)
            obtain ⟨ce55,hcl55,hM55,hcc55,hfr55⟩:=Kd.R_elem HQ58.out z169 ((ji49):Int) p55 q55
            obtain rfl:=k169_openM hM55
            have hx55_0:World.cell? _ ⟨go54,((ji49):Int).toNat * 2,none⟩=some (.string ((rd_T169 y235 (ji49)).f0)):=hcc55 0 _ rfl
            have hx55_1:World.cell? _ ⟨go54,((ji49):Int).toNat * 2 + 1,none⟩=some (.string ((rd_T169 y235 (ji49)).f1)):=hcc55 1 _ rfl
            have hf55_0:World.frozen? _ ⟨go54,((ji49):Int).toNat * 2,none⟩=false:=hfr55 0
            have hf55_1:World.frozen? _ ⟨go54,((ji49):Int).toNat * 2 + 1,none⟩=false:=hfr55 1
            clear hcl55 hcc55 hfr55 hM55
            replace p55:=eq_true p55
            replace q55:=eq_true q55
            obtain ⟨ce59,hcl59,hM59,hcc59,hfr59⟩:=Kd.R_elem HQ58.out z169 ((ji49):Int) (of_decide_eq_true (by first|(with_reducible assumption)|assumption)) (by have h_:((ji49):Int)<((x0_2.length:Int):Int):=of_decide_eq_true (by first|(with_reducible assumption)|assumption);first|exact h_|(have e_:=(Kd.R_reads' HO_0.out).1;omega)|simpa using h_)
            obtain rfl:=k169_openM hM59
            have HP59:=(Kd.R_seg HQ58.out ((ji49):Int) (of_decide_eq_true (by first|(with_reducible assumption)|assumption)) (by have h_:((ji49):Int)<((x0_2.length:Int):Int):=of_decide_eq_true (by first|(with_reducible assumption)|assumption);first|exact h_|(have e_:=(Kd.R_reads' HO_0.out).1;omega)|simpa using h_) (seg:=[.string ((rd_T169 x0_2 x17_2).f0),.string ((rd_T169 x0_2 x17_2).f1)]) (j:=0) hcl59 hcc59 (show 2≤2 from by decide) (x':=(⟨(rd_T169 x0_2 x17_2).f0,(rd_T169 x0_2 x17_2).f1⟩:S169)) (k169_mkM _ _ _ (⟨(rd_T169 x0_2 x17_2).f0,(rd_T169 x0_2 x17_2).f1⟩:S169) ) (fun _ hk=>hk)).1
            rw [← Ny236.out] at HP59
            have HQ59:=pz4.mk HP59
            clear hcl59 hcc59 hfr59 hM59 HP59
            refine start_ (n:=18) (S:=fun w'=>w'.cell? ⟨go54,(((ji49)).toNat * 2),none⟩=some (.string ((rd_T169 x0_2 (ji49)).f0))∧w'.cell? ⟨go54,(((ji49)).toNat * 2) + 1,none⟩=some (.string ((rd_T169 x0_2 (ji49)).f1))∧w'.cell? ⟨go54,((x17_2).toNat * 2),none⟩=some (.string ((rd_T169 x0_2 x17_2).f0))∧w'.cell? ⟨go54,((x17_2).toNat * 2) + 1,none⟩=some (.string ((rd_T169 x0_2 x17_2).f1))) (ds:=[15,17]) (ms 18 0) (by kernel_rfl) rfl rfl ⟨hx233_0,hx233_1,hx234_0,hx234_1⟩ (fun hHeld=>?_);refine with_tabW pq5.tab23 pq5.bits23 (fun HT_ HW_=>?_)
            generalize wr.drew=w56 at HO_0 HK HB GG54 HQ58 HQ59 hf54_0 hf54_1 hf55_0 hf55_1 hx233_0 hx233_1 hx234_0 hx234_1 hx54_0 hx54_1 hx55_0 hx55_1 hHeld ⊢
            iterate 9 (refine pZ ?_ HT_.out rfl rfl (by kernel_rfl) (fun _ _ _=>id) (by rfl) ?_ ?_ ?_ ?_;rotate_left;(intro w';go_simp;with_reducible rfl);rotate_left;(simp only [aP,i64_w,i32_w];rfl))
            refine pT 10 123 ?_ (bm 18 1535) HT_.out rfl rfl (by kernel_rfl) (fun _ _ _=>id) (by rfl) ?_ ?_ ?_ ?_;rotate_left;(intro w';go_simp;with_reducible rfl);rotate_left;(simp only [aP,i64_w,i32_w];rfl)
            refine pT 11 124 ?_ (bm 18 3583) HT_.out rfl rfl (by kernel_rfl) (fun _ _ _=>id) (by rfl) ?_ ?_ ?_ ?_;rotate_left;(intro w';go_simp;with_reducible rfl);rotate_left;(simp only [aP,i64_w,i32_w];rfl)
            refine pT 12 125 ?_ (bm 18 7679) HT_.out rfl rfl (by kernel_rfl) (fun _ _ _=>id) (by rfl) ?_ ?_ ?_ ?_;rotate_left;(intro w';go_simp;with_reducible rfl);rotate_left;(simp only [aP,i64_w,i32_w];rfl)
            refine take_ (i:=9) (N:=some 122) (v:=?_) (a':=?_) (ms 18 13) rfl rfl (pz31 HT_.out HW_.out (by kernel_rfl)) (fun _ _ _ h=>h) (Or.inl ⟨by rfl,?_⟩) hHeld ?_ ?_;rotate_left;(rintro w' ⟨s0,s1,s2,s3⟩;go_simp;with_reducible rfl);rotate_left;(simp only [aP,i64_w,i32_w];rfl)
            refine take_ (i:=13) (N:=some 126) (v:=?_) (a':=?_) (ms 18 14) rfl rfl (pz31 HT_.out HW_.out (by kernel_rfl)) (fun _ _ _ h=>h) (Or.inl ⟨by rfl,?_⟩) hHeld ?_ ?_;rotate_left;(rintro w' ⟨s0,s1,s2,s3⟩;go_simp;with_reducible rfl);rotate_left;(simp only [aP,i64_w,i32_w];rfl)
            refine pZ ?_ HT_.out rfl rfl (by kernel_rfl) (fun _ _ _=>id) (by rfl) ?_ ?_ ?_ ?_;rotate_left;(intro w';go_simp;with_reducible rfl);rotate_left;(simp only [aP,i64_w,i32_w];rfl)
            refine last_ (i:=15) (N:=none) (ms 18 16) rfl rfl (one_of HT_.out (by kernel_rfl)) (by decide) (fun K hK=>?_)
            refine skip_ (w1:=?_) (by rfl) rfl ?_ ?_
            rotate_left
            ·go_simp
             rfl
            refine hK.out _ _ ?_
            clear hK K
            refine pZ ?_ HT_.out rfl rfl (by kernel_rfl) (fun _ _ _=>id) (by rfl) ?_ ?_ ?_ ?_;rotate_left;(intro w';go_simp;with_reducible rfl);rotate_left;(simp only [aP,i64_w,i32_w];rfl)
            obtain ⟨vy54_0_0,hy54_0_0⟩:=cell?_setCell_some (p:=⟨go54,((x17_2).toNat * 2),none⟩) (x:=(.string ((rd_T169 x0_2 (ji49)).f0))) hx233_0
            have hz54_0:=pz7 GG54.out ((((ji49)).toNat * 2))
            obtain ⟨vy54_1_0,hy54_1_0⟩:=cell?_setCell_some (p:=⟨go54,((x17_2).toNat * 2),none⟩) (x:=(.string ((rd_T169 x0_2 (ji49)).f0))) hx233_1
            obtain ⟨vy54_1_1,hy54_1_1⟩:=cell?_setCell_some (p:=⟨go54,((x17_2).toNat * 2) + 1,none⟩) (x:=(.string ((rd_T169 x0_2 (ji49)).f1))) hy54_1_0
            clear hy54_1_0
            have hz54_1:=pz7 GG54.out ((((ji49)).toNat * 2) + 1)
            refine last_ (i:=17) (N:=none) (ms 18 18) rfl rfl (one_of HT_.out (by kernel_rfl)) (by decide) (fun K hK=>?_)
            refine skip_ (w1:=?_) (by rfl) rfl ?_ ?_
            rotate_left
            ·go_simp
             rfl
            refine hK.out _ _ ?_
            clear hK K
            refine done_ (done_of HT_.out (by kernel_rfl)) ?_
            try go_wp2
            go_roundg k2
            case measure=>have:=HK1.out;have:=HK2.out;omega
            case rel=>exact ⟨(y236),(ji49),(by first|rfl|(simp;done)|(simp only [← hji49] <;> (first|rfl|simp))|(simp [*];done)),H',⟨by have:=HK1.out;have:=HK2.out;omega⟩,⟨by (with_reducible repeat (first|apply Kd.pz16|apply Kd.pz15|apply Kd.pz19));exact HQ59.out⟩,⟨by repeat (first|(with_reducible first|exact HK.out|apply Kept.alloc|apply Kept.drewN|apply Kept.drew|refine Kept.setCell ?_ HMgo54.out _|refine Kept.setCell ?_ HMgo54.out _|refine Kept.setCell ?_ HMgo54.out _|refine Kept.setCell ?_ HMgo54.out _)|exact HK.out)⟩,⟨by repeat (first|(with_reducible first|exact HB.out|apply pz3|apply pz1|apply pz2|refine pz14 ?_ GB54.out|refine pz14 ?_ GB54.out|refine pz14 ?_ GB54.out|refine pz14 ?_ GB54.out)|exact HB.out)⟩⟩
           ·rw [if_neg c53] at H
            exact absurd H (by simp)
          ·rw [if_neg c52] at H
           exact absurd H (by simp)
         ·rw [if_neg c51] at H
          exact absurd H (by simp)
        ·rw [if_neg c50] at H
         exact absurd H (by simp)
       ·rw [if_neg c48] at H
        have c48b0:decide (x14_1<x17_2)=false:=decide_eq_false c48
        clear c48
        obtain rfl:=Option.some.inj H
        go_wp2
        first|go_end0|((try simp only [Exit.inBlock,Exit.then]);refine bodyPost_ret (results_none rfl _ _ _) rfl ?_)
        exact ⟨by first|rfl|(simp [pz6,pz5] <;> rfl)|(simp [*,pz6,pz5] <;> rfl),by (with_reducible repeat (first|apply Kd.pz16|apply Kd.pz15|apply Kd.pz19));exact HO_0.out,by repeat (first|(with_reducible first|exact HB.out|apply pz3|apply pz1|apply pz2)|exact HB.out),by repeat (first|(with_reducible first|exact HK.out|apply Kept.alloc|apply Kept.drewN|apply Kept.drew)|exact HK.out)⟩
set_option maxHeartbeats 8000000 in
set_option maxRecDepth 100000 in
theorem pq5.calls_c (k:Nat) (ih:∀ m:Nat,m<k + 1→∀ (P0_:Nat→Prop) (u9000_:Value) (l0:List (S169)) (a1:Int) (a2:Int) (a3:Int) (a4:Unit) (r:List (S169)) (w0 w:World) (hB:Below w0.heap.size w0 w) (ho0:Kd.R k169 169 w w0.heap.size P0_ u9000_ l0) (h:pq5.f m l0 a1 a2 a3 a4=some r),Calls Tryz.prog 207 #[u9000_,.int .i64 a1,.int .i64 a2,.int .i64 a3,.func (.func 175) #[] #[]] w fun e w'=>e=.returned (.tuple #[])∧Kd.R k169 169 w' w0.heap.size (fun k_=>(P0_ k_∨w.heap.size≤k_)) u9000_ r∧Below w0.heap.size w0 w'∧Kept w w' (fun k_=>P0_ k_)) (P0_:Nat→Prop) (u9000_:Value) (l0:List (S169)) (a1:Int) (a2:Int) (a3:Int) (a4:Unit) (r:List (S169)) (w0 w:World) (hB:Below w0.heap.size w0 w) (ho0:Kd.R k169 169 w w0.heap.size P0_ u9000_ l0) (h:pq5.f (k + 1) l0 a1 a2 a3 a4=some r) (c6:¬ (wrap64 (a2 - a1))=1) (c33:¬ (wrap64 (a3 - a2))=1) :
  Calls Tryz.prog 207 #[u9000_,.int .i64 a1,.int .i64 a2,.int .i64 a3,.func (.func 175) #[] #[]] w fun e w'=>e=.returned (.tuple #[])∧Kd.R k169 169 w' w0.heap.size (fun k_=>(P0_ k_∨w.heap.size≤k_)) u9000_ r∧Below w0.heap.size w0 w'∧Kept w w' (fun k_=>P0_ k_):=by
 simp only [pq5.f] at h
 have hu169:=Tryz.underlying169
 have HO0:=pz4.mk (show Kd.R k169 169 w w0.heap.size (fun k_=>(P0_ k_∨w.heap.size≤k_)) u9000_ l0 from Kd.R_mono ho0 (fun k_ hk=>(.inl hk)))
 have HK:=pz4.mk (Kept.refl w (fun k_=>P0_ k_))
 have HW0:=pz4.mk hB.size
 have HB:=pz4.mk hB
 clear hB
 have H:(if (wrap64 (a2 - a1))=1 then (pq5.l0 k l0 a1 a2 a3) else (if (wrap64 (a3 - a2))=1 then (pq5.l2 k l0 a2 a1 a2) else (if a2 > (wrap64 ((IntKind.u64.wrap (wrap64 (a1 + a3))) / 2)) then (pq5.j4 k l0 a1 a2 a3 a4 (wrap64 ((IntKind.u64.wrap (wrap64 (a1 + a3))) / 2)) (wrap64 ((wrap64 ((IntKind.u64.wrap (wrap64 (a1 + a3))) / 2)) + a2)) (wrap64 ((wrap64 ((wrap64 ((IntKind.u64.wrap (wrap64 (a1 + a3))) / 2)) + a2)) - a3)) (wrap64 ((IntKind.u64.wrap (wrap64 (a1 + a3))) / 2))) else (pq5.j4 k l0 a1 a2 a3 a4 (wrap64 ((IntKind.u64.wrap (wrap64 (a1 + a3))) / 2)) (wrap64 ((wrap64 ((IntKind.u64.wrap (wrap64 (a1 + a3))) / 2)) + a2)) a1 a2))))=some r:=h
 clear h
 rw [if_neg c6] at H
 have c6b0:((wrap64 (a2 - a1)) == 1)=false:=beq_eq_false_iff_ne.mpr c6
 have c6b1:((wrap64 (a2 - a1)) != 1)=true:=bne_iff_ne.mpr c6
 ·rw [if_neg c33] at H
  have c33b0:((wrap64 (a3 - a2)) == 1)=false:=beq_eq_false_iff_ne.mpr c33
  have c33b1:((wrap64 (a3 - a2)) != 1)=true:=bne_iff_ne.mpr c33
  have HC60:=pz4.mk H
  clear H
  go_enter Tryz.func207,Tryz.ntmps207
  go_upto_if 140 with (fail)
  go_cut [20,21] (fun v20 v21 wc=>∃ (kq:Nat) (x20_59:Int) (x21_59:Int),v20=.int .i64 x20_59∧v21=.int .i64 x21_59∧pz4 (pq5.j4 kq l0 a1 a2 a3 a4 (wrap64 ((IntKind.u64.wrap (wrap64 (a1 + a3))) / 2)) (wrap64 ((wrap64 ((IntKind.u64.wrap (wrap64 (a1 + a3))) / 2)) + a2)) x20_59 x21_59=some r)∧pz4 (kq≤k)∧pz4 (Kd.R k169 169 wc w0.heap.size (fun k_=>(P0_ k_∨w.heap.size≤k_)) u9000_ l0)∧pz4 (Kept w wc (fun k_=>P0_ k_))∧pz4 (Below w0.heap.size w0 wc))
  case first =>
   have H:=HC60.out
   clear HC60
   by_cases c61:a2 > (wrap64 ((IntKind.u64.wrap (wrap64 (a1 + a3))) / 2))
   ·rw [if_pos c61] at H
    have c61b0:decide ((wrap64 ((IntKind.u64.wrap (wrap64 (a1 + a3))) / 2))<a2)=true:=decide_eq_true c61
    clear c61
    (first|rw [c61b0]|(simp only [i64_w,i32_w];rw [c61b0])|skip)
    have H':=pz4.mk H
    clear H
    go_wp2
    go_meet
    case rel=>exact ⟨_,(wrap64 ((wrap64 ((wrap64 ((IntKind.u64.wrap (wrap64 (a1 + a3))) / 2)) + a2)) - a3)),(wrap64 ((IntKind.u64.wrap (wrap64 (a1 + a3))) / 2)),(by first|rfl|(simp;done)|(simp [*];done)),(by first|rfl|(simp;done)|(simp [*];done)),H',⟨by first|omega|exact Nat.le_refl _⟩,⟨by (with_reducible repeat (first|apply Kd.pz16|apply Kd.pz15|apply Kd.pz19));exact HO0.out⟩,⟨by repeat (first|(with_reducible first|exact HK.out|apply Kept.alloc|apply Kept.drewN|apply Kept.drew)|exact HK.out)⟩,⟨by repeat (first|(with_reducible first|exact HB.out|apply pz3|apply pz1|apply pz2)|exact HB.out)⟩⟩
   ·rw [if_neg c61] at H
    have c61b0:decide ((wrap64 ((IntKind.u64.wrap (wrap64 (a1 + a3))) / 2))<a2)=false:=decide_eq_false c61
    clear c61
    (first|rw [c61b0]|(simp only [i64_w,i32_w];rw [c61b0])|skip)
    have H':=pz4.mk H
    clear H
    go_wp2
    go_meet
    case rel=>exact ⟨_,(a1),(a2),(by first|rfl|(simp;done)|(simp [*];done)),(by first|rfl|(simp;done)|(simp [*];done)),H',⟨by first|omega|exact Nat.le_refl _⟩,⟨by (with_reducible repeat (first|apply Kd.pz16|apply Kd.pz15|apply Kd.pz19));exact HO0.out⟩,⟨by repeat (first|(with_reducible first|exact HK.out|apply Kept.alloc|apply Kept.drewN|apply Kept.drew)|exact HK.out)⟩,⟨by repeat (first|(with_reducible first|exact HB.out|apply pz3|apply pz1|apply pz2)|exact HB.out)⟩⟩
  case rest => as_aux_lemma =>
   clear HC60
   try clear c6;try clear c6b0;try clear c6b1;try clear c33;try clear c33b0;try clear c33b1
   obtain ⟨kq,x20_59,x21_59,rfl,rfl,HA,HJ59,HO_0,HK,HB⟩:=hcut
   cases kq with
   | zero=>exact absurd HA.out (by simp [pq5.j4])
   | succ kj59 =>
    have H:=HA.out
    clear HA
    simp only [pq5.j4] at H
    have H':=pz4.mk H
    clear H
    go_wp2
    go_loopg [20,21] kj59 (fun kq v20 v21 w'=>∃ (x20_2:Int) (x21_2:Int),v20=.int .i64 x20_2∧v21=.int .i64 x21_2∧pz4 (pq5.l4 kq l0 a1 a2 a3 a4 (wrap64 ((IntKind.u64.wrap (wrap64 (a1 + a3))) / 2)) (wrap64 ((wrap64 ((IntKind.u64.wrap (wrap64 (a1 + a3))) / 2)) + a2)) x20_2 x21_2 (wrap64 ((wrap64 ((wrap64 ((IntKind.u64.wrap (wrap64 (a1 + a3))) / 2)) + a2)) - 1))=some r)∧pz4 (kq≤kj59)∧pz4 (Kd.R k169 169 w' w0.heap.size (fun k_=>(P0_ k_∨w.heap.size≤k_)) u9000_ l0)∧pz4 (Kept w w' (fun k_=>P0_ k_))∧pz4 (Below w0.heap.size w0 w'))
    case atStart=>exact ⟨(x20_59),(x21_59),(by first|rfl|(simp;done)|(simp [*];done)),(by first|rfl|(simp;done)|(simp [*];done)),H',⟨Nat.le_refl _⟩,⟨by (with_reducible repeat (first|apply Kd.pz16|apply Kd.pz15|apply Kd.pz19));exact HO_0.out⟩,⟨by repeat (first|(with_reducible first|exact HK.out|apply Kept.alloc|apply Kept.drewN|apply Kept.drew)|exact HK.out)⟩,⟨by repeat (first|(with_reducible first|exact HB.out|apply pz3|apply pz1|apply pz2)|exact HB.out)⟩⟩
    case round => as_aux_lemma =>
     clear H'
     try clear c6;try clear c6b0;try clear c6b1;try clear c33;try clear c33b0;try clear c33b1
     obtain ⟨x20_2,x21_2,rfl,rfl,HA,HK2,HO_0,HK,HB⟩:=hrel
     cases gk with
     | zero=>exact absurd HA.out (by simp [pq5.l4])
     | succ k2 =>
      have H:=HA.out
      clear HA
      simp only [pq5.l4] at H
      by_cases c62:x20_2<x21_2
      ·rw [if_pos c62] at H
       have c62b0:decide (x20_2<x21_2)=true:=decide_eq_true c62
       clear c62
       obtain ⟨ji63,hji63⟩:∃ j_:Int,(wrap64 ((wrap64 ((wrap64 ((wrap64 ((IntKind.u64.wrap (wrap64 (a1 + a3))) / 2)) + a2)) - 1)) - (wrap64 ((IntKind.u64.wrap (wrap64 (x20_2 + x21_2))) / 2))))=j_:=⟨_,rfl⟩
       replace H:(if 0≤(ji63) then (if (ji63)<(l0.length:Int) then (if 0≤(wrap64 ((IntKind.u64.wrap (wrap64 (x20_2 + x21_2))) / 2)) then (if (wrap64 ((IntKind.u64.wrap (wrap64 (x20_2 + x21_2))) / 2))<(l0.length:Int) then ((pq12.f ((rd_T169 l0 (ji63)).f0) ((rd_T169 l0 (ji63)).f1) ((rd_T169 l0 (wrap64 ((IntKind.u64.wrap (wrap64 (x20_2 + x21_2))) / 2))).f0) ((rd_T169 l0 (wrap64 ((IntKind.u64.wrap (wrap64 (x20_2 + x21_2))) / 2))).f1)).bind fun t239=>(if t239<0 then (pq5.l4 k2 l0 a1 a2 a3 a4 (wrap64 ((IntKind.u64.wrap (wrap64 (a1 + a3))) / 2)) (wrap64 ((wrap64 ((IntKind.u64.wrap (wrap64 (a1 + a3))) / 2)) + a2)) x20_2 (wrap64 ((IntKind.u64.wrap (wrap64 (x20_2 + x21_2))) / 2)) (wrap64 ((wrap64 ((wrap64 ((IntKind.u64.wrap (wrap64 (a1 + a3))) / 2)) + a2)) - 1))) else (pq5.l4 k2 l0 a1 a2 a3 a4 (wrap64 ((IntKind.u64.wrap (wrap64 (a1 + a3))) / 2)) (wrap64 ((wrap64 ((IntKind.u64.wrap (wrap64 (a1 + a3))) / 2)) + a2)) (wrap64 ((wrap64 ((IntKind.u64.wrap (wrap64 (x20_2 + x21_2))) / 2)) + 1)) x21_2 (wrap64 ((wrap64 ((wrap64 ((IntKind.u64.wrap (wrap64 (a1 + a3))) / 2)) + a2)) - 1))))) else (none)) else (none)) else (none)) else (none))=some r:=by first|(rw [hji63] at H;exact H)|(simp only [hji63] at H ⊢;exact H)
       have hji63w:(IntKind.i64.wrap ((wrap64 ((wrap64 ((wrap64 ((IntKind.u64.wrap (wrap64 (a1 + a3))) / 2)) + a2)) - 1)) - (wrap64 ((IntKind.u64.wrap (wrap64 (x20_2 + x21_2))) / 2))))=ji63:=(i64_w _).trans hji63
       by_cases c64:0≤(ji63)
       ·rw [if_pos c64] at H
        have c64b0:decide (0≤(ji63))=true:=decide_eq_true c64
        clear c64
        by_cases c65:(ji63)<(l0.length:Int)
        ·rw [if_pos c65] at H
         have c65b0:decide ((ji63)<(l0.length:Int))=true:=decide_eq_true c65
         clear c65
         obtain ⟨ji66,hji66⟩:∃ j_:Int,(wrap64 ((IntKind.u64.wrap (wrap64 (x20_2 + x21_2))) / 2))=j_:=⟨_,rfl⟩
         replace H:(if 0≤(ji66) then (if (ji66)<(l0.length:Int) then ((pq12.f ((rd_T169 l0 (ji63)).f0) ((rd_T169 l0 (ji63)).f1) ((rd_T169 l0 (ji66)).f0) ((rd_T169 l0 (ji66)).f1)).bind fun t239=>(if t239<0 then (pq5.l4 k2 l0 a1 a2 a3 a4 (wrap64 ((IntKind.u64.wrap (wrap64 (a1 + a3))) / 2)) (wrap64 ((wrap64 ((IntKind.u64.wrap (wrap64 (a1 + a3))) / 2)) + a2)) x20_2 ji66 (wrap64 ((wrap64 ((wrap64 ((IntKind.u64.wrap (wrap64 (a1 + a3))) / 2)) + a2)) - 1))) else (pq5.l4 k2 l0 a1 a2 a3 a4 (wrap64 ((IntKind.u64.wrap (wrap64 (a1 + a3))) / 2)) (wrap64 ((wrap64 ((IntKind.u64.wrap (wrap64 (a1 + a3))) / 2)) + a2)) (wrap64 ((ji66) + 1)) x21_2 (wrap64 ((wrap64 ((wrap64 ((IntKind.u64.wrap (wrap64 (a1 + a3))) / 2)) + a2)) - 1))))) else (none)) else (none))=some r:=by first|(rw [hji66] at H;exact H)|(simp only [hji66] at H ⊢;exact H)
         have hji66w:(IntKind.i64.wrap ((IntKind.u64.wrap (wrap64 (x20_2 + x21_2))) / 2))=ji66:=(i64_w _).trans hji66
         have hji63xji66:=hji63
         rw [hji66] at hji63xji66
         by_cases c67:0≤(ji66)
         ·rw [if_pos c67] at H
          have c67b0:decide (0≤(ji66))=true:=decide_eq_true c67
          clear c67
          by_cases c68:(ji66)<(l0.length:Int)
          ·rw [if_pos c68] at H
           have c68b0:decide ((ji66)<(l0.length:Int))=true:=decide_eq_true c68
           clear c68
           replace H:=Option.bind_eq_some_iff.mp H
           obtain ⟨t239,A690,H⟩:=H
           replace H:(if t239<0 then (pq5.l4 k2 l0 a1 a2 a3 a4 (wrap64 ((IntKind.u64.wrap (wrap64 (a1 + a3))) / 2)) (wrap64 ((wrap64 ((IntKind.u64.wrap (wrap64 (a1 + a3))) / 2)) + a2)) x20_2 ji66 (wrap64 ((wrap64 ((wrap64 ((IntKind.u64.wrap (wrap64 (a1 + a3))) / 2)) + a2)) - 1))) else (pq5.l4 k2 l0 a1 a2 a3 a4 (wrap64 ((IntKind.u64.wrap (wrap64 (a1 + a3))) / 2)) (wrap64 ((wrap64 ((IntKind.u64.wrap (wrap64 (a1 + a3))) / 2)) + a2)) (wrap64 ((ji66) + 1)) x21_2 (wrap64 ((wrap64 ((wrap64 ((IntKind.u64.wrap (wrap64 (a1 + a3))) / 2)) + a2)) - 1))))=some r:=H
           have A69:=pz4.mk A690
           clear A690
           by_cases c70:t239<0
           ·rw [if_pos c70] at H
            have c70b0:decide (t239<0)=true:=decide_eq_true c70
            clear c70
            have H':=pz4.mk H
            clear H
            try go_wp2
            have n0_:=pz4.mk (Kd.pz19 HO_0.out)
            have n1_:=pz4.mk (Kept.drew HK.out)
            have n2_:=pz4.mk (pz2 HB.out)
            clear HO_0
            clear HK
            clear HB
            have HO_0:=n0_
            have HK:=n1_
            have HB:=n2_
            clear n0_ n1_ n2_
            obtain ⟨Ao72,co72,eo72⟩:=Kd.R_slice HO_0.out
            (first|subst eo72|(injection eo72 with f1_ f2_ f3_;have f4_:=f1_.symm;have f5_:=f3_.symm;clear f1_ f2_ f3_;subst f4_;subst f5_))
            have p237:0≤((ji63):Int):=of_decide_eq_true (by first|(with_reducible assumption)|assumption)
            have q237:(ji63)<(l0.length:Int):=of_decide_eq_true (by first|(with_reducible assumption)|assumption)
            obtain ⟨ad237,e237,hx237_0,hx237_1⟩:=at_T169 (Kd.R_reads' HO_0.out).2.2 (ji63) p237 q237
            cases e237
            replace p237:=eq_true p237
            replace q237:=eq_true q237
            have p238:0≤((ji66):Int):=of_decide_eq_true (by first|(with_reducible assumption)|assumption)
            have q238:(ji66)<(l0.length:Int):=of_decide_eq_true (by first|(with_reducible assumption)|assumption)
            obtain ⟨ad238,e238,hx238_0,hx238_1⟩:=at_T169 (Kd.R_reads' HO_0.out).2.2 (ji66) p238 q238
            obtain rfl:ad237=ad238:=(by injection e238)
            replace p238:=eq_true p238
            replace q238:=eq_true q238
            refine start_ (n:=14) (S:=fun w'=>w'.cell? (ad237.add (((ji63)).toNat * 2))=some (.string ((rd_T169 l0 (ji63)).f0))∧w'.cell? ⟨(ad237.add (((ji63)).toNat * 2)).block,(ad237.add (((ji63)).toNat * 2)).off + 1,none⟩=some (.string ((rd_T169 l0 (ji63)).f1))∧w'.cell? (ad237.add (((ji66)).toNat * 2))=some (.string ((rd_T169 l0 (ji66)).f0))∧w'.cell? ⟨(ad237.add (((ji66)).toNat * 2)).block,(ad237.add (((ji66)).toNat * 2)).off + 1,none⟩=some (.string ((rd_T169 l0 (ji66)).f1))) (ds:=[]) (ms 14 0) (by kernel_rfl) rfl rfl ⟨hx237_0,hx237_1,hx238_0,hx238_1⟩ (fun hHeld=>?_);refine with_tabW pq5.tab35 pq5.bits35 (fun HT_ HW_=>?_)
            generalize wr.drew=w71 at HO_0 HK HB hx237_0 hx237_1 hx238_0 hx238_1 hHeld ⊢
            iterate 6 (refine pZ ?_ HT_.out rfl rfl (by kernel_rfl) (fun _ _ _=>id) (by rfl) ?_ ?_ ?_ ?_;rotate_left;(intro w';go_simp;with_reducible rfl);rotate_left;(simp only [aP,i64_w,i32_w];rfl))
            refine pT 7 165 ?_ (bm 14 191) HT_.out rfl rfl (by kernel_rfl) (fun _ _ _=>id) (by rfl) ?_ ?_ ?_ ?_;rotate_left;(intro w';go_simp;with_reducible rfl);rotate_left;(simp only [aP,i64_w,i32_w];rfl)
            refine pT 8 166 ?_ (bm 14 447) HT_.out rfl rfl (by kernel_rfl) (fun _ _ _=>id) (by rfl) ?_ ?_ ?_ ?_;rotate_left;(intro w';go_simp;with_reducible rfl);rotate_left;(simp only [aP,i64_w,i32_w];rfl)
            refine pT 9 167 ?_ (bm 14 959) HT_.out rfl rfl (by kernel_rfl) (fun _ _ _=>id) (by rfl) ?_ ?_ ?_ ?_;rotate_left;(intro w';go_simp;with_reducible rfl);rotate_left;(simp only [aP,i64_w,i32_w];rfl)
            refine take_ (i:=6) (N:=some 164) (v:=?_) (a':=?_) (ms 14 10) rfl rfl (pz31 HT_.out HW_.out (by kernel_rfl)) (fun _ _ _ h=>h) (Or.inl ⟨by rfl,?_⟩) hHeld ?_ ?_;rotate_left;(rintro w' ⟨s0,s1,s2,s3⟩;go_simp;with_reducible rfl);rotate_left;(simp only [aP,i64_w,i32_w];rfl)
            refine take_ (i:=10) (N:=some 168) (v:=?_) (a':=?_) (ms 14 11) rfl rfl (pz31 HT_.out HW_.out (by kernel_rfl)) (fun _ _ _ h=>h) (Or.inl ⟨by rfl,?_⟩) hHeld ?_ ?_;rotate_left;(rintro w' ⟨s0,s1,s2,s3⟩;go_simp;with_reducible rfl);rotate_left;(simp only [aP,i64_w,i32_w];rfl)
            refine one_ (i:=11) (N:=some 169) (ms 14 12) rfl rfl (one_of HT_.out (by kernel_rfl)) (by decide) (fun K hK=>?_)
            refine goesV_ Tryz.func175 (by kernel_rfl) rfl #[.agg #[.string ((rd_T169 l0 (ji63)).f0),.string ((rd_T169 l0 (ji63)).f1)],.agg #[.string ((rd_T169 l0 (ji66)).f0),.string ((rd_T169 l0 (ji66)).f1)]] (by rfl) rfl ⟨_,rfl,rfl⟩ (by (try simp only [pM]);first|done|(simp only [hji63,hji66];rfl)|rfl|(simp only [pL];rfl)) ?_
            with_reducible refine (pq12.calls ((rd_T169 l0 (ji63)).f0) ((rd_T169 l0 (ji63)).f1) ((rd_T169 l0 (ji66)).f0) ((rd_T169 l0 (ji66)).f1) t239 _ A69.out).mono ?_
            rintro e w73 ⟨rfl,hb⟩
            have HS0_:=(hb.cell (World.block_lt_of_cell? _ _ (hHeld.1))).trans (hHeld.1)
            have HS1_:=(hb.cell (World.block_lt_of_cell? _ _ (hHeld.2.1))).trans (hHeld.2.1)
            have HS2_:=(hb.cell (World.block_lt_of_cell? _ _ (hHeld.2.2.1))).trans (hHeld.2.2.1)
            have HS3_:=(hb.cell (World.block_lt_of_cell? _ _ (hHeld.2.2.2))).trans (hHeld.2.2.2)
            refine ⟨_,rfl,?_⟩
            have n0_:=pz4.mk (Kd.R_below (by (with_reducible repeat (first|apply Kd.pz16|apply Kd.pz15|apply Kd.pz19));exact HO_0.out) hb)
            have n1_:=pz4.mk (Kept.below (S:=(fun k_=>P0_ k_)) (by repeat (first|(with_reducible first|exact HK.out|apply Kept.alloc|apply Kept.drewN|apply Kept.drew)|exact HK.out)) hb)
            have n2_:=pz4.mk (pz9 (by repeat (first|(with_reducible first|exact HB.out|apply pz3|apply pz1|apply pz2)|exact HB.out)) hb)
            clear HO_0
            clear HK
            clear HB
            have HO_0:=n0_
            have HK:=n1_
            have HB:=n2_
            clear n0_ n1_ n2_
            (try clear hb)
            (try clear hk)
            refine hK.out _ _ ⟨HS0_,HS1_,HS2_,HS3_⟩ (fun hHeld=>?_)
            clear hK K
            refine norm_ (a':=?_) ?_ ?_
            rotate_left
            ·show Act.put _ (some 169) _=_
             simp only [aP,i64_w,i32_w]
             rfl
            iterate 2 (refine pZ ?_ HT_.out rfl rfl (by kernel_rfl) (fun _ _ _=>id) (by rfl) ?_ ?_ ?_ ?_;rotate_left;(intro w';go_simp;with_reducible rfl);rotate_left;(simp only [aP,i64_w,i32_w];rfl))
            refine done_ (done_of HT_.out (by kernel_rfl)) ?_
            try go_wp2
            go_roundg k2
            case measure=>have:=HJ59.out;have:=HK2.out;omega
            case rel=>exact ⟨(x20_2),(ji66),(by first|rfl|(simp;done)|(simp [*];done)),(by first|rfl|(simp;done)|(simp only [← hji66] <;> (first|rfl|simp))|(simp [*];done)),H',⟨by have:=HJ59.out;have:=HK2.out;omega⟩,⟨by (with_reducible repeat (first|apply Kd.pz16|apply Kd.pz15|apply Kd.pz19));exact HO_0.out⟩,⟨by repeat (first|(with_reducible first|exact HK.out|apply Kept.alloc|apply Kept.drewN|apply Kept.drew)|exact HK.out)⟩,⟨by repeat (first|(with_reducible first|exact HB.out|apply pz3|apply pz1|apply pz2)|exact HB.out)⟩⟩
           ·rw [if_neg c70] at H
            have c70b0:decide (t239<0)=false:=decide_eq_false c70
            clear c70
            have H':=pz4.mk H
            clear H
            try go_wp2
            have n0_:=pz4.mk (Kd.pz19 HO_0.out)
            have n1_:=pz4.mk (Kept.drew HK.out)
            have n2_:=pz4.mk (pz2 HB.out)
            clear HO_0
            clear HK
            clear HB
            have HO_0:=n0_
            have HK:=n1_
            have HB:=n2_
            clear n0_ n1_ n2_
            obtain ⟨Ao75,co75,eo75⟩:=Kd.R_slice HO_0.out
            (first|subst eo75|(injection eo75 with f1_ f2_ f3_;have f4_:=f1_.symm;have f5_:=f3_.symm;clear f1_ f2_ f3_;subst f4_;subst f5_))
            have p237:0≤((ji63):Int):=of_decide_eq_true (by first|(with_reducible assumption)|assumption)
            have q237:(ji63)<(l0.length:Int):=of_decide_eq_true (by first|(with_reducible assumption)|assumption)
            obtain ⟨ad237,e237,hx237_0,hx237_1⟩:=at_T169 (Kd.R_reads' HO_0.out).2.2 (ji63) p237 q237
            cases e237
            replace p237:=eq_true p237
            replace q237:=eq_true q237
            have p238:0≤((ji66):Int):=of_decide_eq_true (by first|(with_reducible assumption)|assumption)
            have q238:(ji66)<(l0.length:Int):=of_decide_eq_true (by first|(with_reducible assumption)|assumption)
            obtain ⟨ad238,e238,hx238_0,hx238_1⟩:=at_T169 (Kd.R_reads' HO_0.out).2.2 (ji66) p238 q238
            obtain rfl:ad237=ad238:=(by injection e238)
            replace p238:=eq_true p238
            replace q238:=eq_true q238
            refine start_ (n:=14) (S:=fun w'=>w'.cell? (ad237.add (((ji63)).toNat * 2))=some (.string ((rd_T169 l0 (ji63)).f0))∧w'.cell? ⟨(ad237.add (((ji63)).toNat * 2)).block,(ad237.add (((ji63)).toNat * 2)).off + 1,none⟩=some (.string ((rd_T169 l0 (ji63)).f1))∧w'.cell? (ad237.add (((ji66)).toNat * 2))=some (.string ((rd_T169 l0 (ji66)).f0))∧w'.cell? ⟨(ad237.add (((ji66)).toNat * 2)).block,(ad237.add (((ji66)).toNat * 2)).off + 1,none⟩=some (.string ((rd_T169 l0 (ji66)).f1))) (ds:=[]) (ms 14 0) (by kernel_rfl) rfl rfl ⟨hx237_0,hx237_1,hx238_0,hx238_1⟩ (fun hHeld=>?_);refine with_tabW pq5.tab35 pq5.bits35 (fun HT_ HW_=>?_)
            generalize wr.drew=w74 at HO_0 HK HB hx237_0 hx237_1 hx238_0 hx238_1 hHeld ⊢
            iterate 6 (refine pZ ?_ HT_.out rfl rfl (by kernel_rfl) (fun _ _ _=>id) (by rfl) ?_ ?_ ?_ ?_;rotate_left;(intro w';go_simp;with_reducible rfl);rotate_left;(simp only [aP,i64_w,i32_w];rfl))
            refine pT 7 165 ?_ (bm 14 191) HT_.out rfl rfl (by kernel_rfl) (fun _ _ _=>id) (by rfl) ?_ ?_ ?_ ?_;rotate_left;(intro w';go_simp;with_reducible rfl);rotate_left;(simp only [aP,i64_w,i32_w];rfl)
            refine pT 8 166 ?_ (bm 14 447) HT_.out rfl rfl (by kernel_rfl) (fun _ _ _=>id) (by rfl) ?_ ?_ ?_ ?_;rotate_left;(intro w';go_simp;with_reducible rfl);rotate_left;(simp only [aP,i64_w,i32_w];rfl)
            refine pT 9 167 ?_ (bm 14 959) HT_.out rfl rfl (by kernel_rfl) (fun _ _ _=>id) (by rfl) ?_ ?_ ?_ ?_;rotate_left;(intro w';go_simp;with_reducible rfl);rotate_left;(simp only [aP,i64_w,i32_w];rfl)
            refine take_ (i:=6) (N:=some 164) (v:=?_) (a':=?_) (ms 14 10) rfl rfl (pz31 HT_.out HW_.out (by kernel_rfl)) (fun _ _ _ h=>h) (Or.inl ⟨by rfl,?_⟩) hHeld ?_ ?_;rotate_left;(rintro w' ⟨s0,s1,s2,s3⟩;go_simp;with_reducible rfl);rotate_left;(simp only [aP,i64_w,i32_w];rfl)
            refine take_ (i:=10) (N:=some 168) (v:=?_) (a':=?_) (ms 14 11) rfl rfl (pz31 HT_.out HW_.out (by kernel_rfl)) (fun _ _ _ h=>h) (Or.inl ⟨by rfl,?_⟩) hHeld ?_ ?_;rotate_left;(rintro w' ⟨s0,s1,s2,s3⟩;go_simp;with_reducible rfl);rotate_left;(simp only [aP,i64_w,i32_w];rfl)
            refine one_ (i:=11) (N:=some 169) (ms 14 12) rfl rfl (one_of HT_.out (by kernel_rfl)) (by decide) (fun K hK=>?_)
            refine goesV_ Tryz.func175 (by kernel_rfl) rfl #[.agg #[.string ((rd_T169 l0 (ji63)).f0),.string ((rd_T169 l0 (ji63)).f1)],.agg #[.string ((rd_T169 l0 (ji66)).f0),.string ((rd_T169 l0 (ji66)).f1)]] (by rfl) rfl ⟨_,rfl,rfl⟩ (by (try simp only [pM]);first|done|(simp only [hji63,hji66];rfl)|rfl|(simp only [pL];rfl)) ?_
            with_reducible refine (pq12.calls ((rd_T169 l0 (ji63)).f0) ((rd_T169 l0 (ji63)).f1) ((rd_T169 l0 (ji66)).f0) ((rd_T169 l0 (ji66)).f1) t239 _ A69.out).mono ?_
            rintro e w76 ⟨rfl,hb⟩
            have HS0_:=(hb.cell (World.block_lt_of_cell? _ _ (hHeld.1))).trans (hHeld.1)
            have HS1_:=(hb.cell (World.block_lt_of_cell? _ _ (hHeld.2.1))).trans (hHeld.2.1)
            have HS2_:=(hb.cell (World.block_lt_of_cell? _ _ (hHeld.2.2.1))).trans (hHeld.2.2.1)
            have HS3_:=(hb.cell (World.block_lt_of_cell? _ _ (hHeld.2.2.2))).trans (hHeld.2.2.2)
            refine ⟨_,rfl,?_⟩
            have n0_:=pz4.mk (Kd.R_below (by (with_reducible repeat (first|apply Kd.pz16|apply Kd.pz15|apply Kd.pz19));exact HO_0.out) hb)
            have n1_:=pz4.mk (Kept.below (S:=(fun k_=>P0_ k_)) (by repeat (first|(with_reducible first|exact HK.out|apply Kept.alloc|apply Kept.drewN|apply Kept.drew)|exact HK.out)) hb)
            have n2_:=pz4.mk (pz9 (by repeat (first|(with_reducible first|exact HB.out|apply pz3|apply pz1|apply pz2)|exact HB.out)) hb)
            clear HO_0
            clear HK
            clear HB
            have HO_0:=n0_
            have HK:=n1_
            have HB:=n2_
            clear n0_ n1_ n2_
            (try clear hb)
            (try clear hk)
            refine hK.out _ _ ⟨HS0_,HS1_,HS2_,HS3_⟩ (fun hHeld=>?_)
            clear hK K
            refine norm_ (a':=?_) ?_ ?_
            rotate_left
            ·show Act.put _ (some 169) _=_
             simp only [aP,i64_w,i32_w]
             rfl
            iterate 2 (refine pZ ?_ HT_.out rfl rfl (by kernel_rfl) (fun _ _ _=>id) (by rfl) ?_ ?_ ?_ ?_;rotate_left;(intro w';go_simp;with_reducible rfl);rotate_left;(simp only [aP,i64_w,i32_w];rfl))
            refine done_ (done_of HT_.out (by kernel_rfl)) ?_
            try go_wp2
            go_roundg k2
            case measure=>have:=HJ59.out;have:=HK2.out;omega
            case rel=>exact ⟨(wrap64 ((ji66) + 1)),(x21_2),(by first|rfl|(simp;done)|(simp only [← hji66] <;> (first|rfl|simp))|(simp [*];done)),(by first|rfl|(simp;done)|(simp [*];done)),H',⟨by have:=HJ59.out;have:=HK2.out;omega⟩,⟨by (with_reducible repeat (first|apply Kd.pz16|apply Kd.pz15|apply Kd.pz19));exact HO_0.out⟩,⟨by repeat (first|(with_reducible first|exact HK.out|apply Kept.alloc|apply Kept.drewN|apply Kept.drew)|exact HK.out)⟩,⟨by repeat (first|(with_reducible first|exact HB.out|apply pz3|apply pz1|apply pz2)|exact HB.out)⟩⟩
          ·rw [if_neg c68] at H
           exact absurd H (by simp)
         ·rw [if_neg c67] at H
          exact absurd H (by simp)
        ·rw [if_neg c65] at H
         exact absurd H (by simp)
       ·rw [if_neg c64] at H
        exact absurd H (by simp)
      ·rw [if_neg c62] at H
       have c62b0:decide (x20_2<x21_2)=false:=decide_eq_false c62
       clear c62
       have HC77:=pz4.mk H
       clear H
       go_upto_region 39 with (fail)
       go_cut [185] (fun v185 wc=>∃ (kq:Nat) (x185_76:Bool),v185=.bool x185_76∧pz4 (pq5.j6 kq l0 a1 a2 a3 a4 (wrap64 ((IntKind.u64.wrap (wrap64 (a1 + a3))) / 2)) x20_2 (wrap64 ((wrap64 ((wrap64 ((IntKind.u64.wrap (wrap64 (a1 + a3))) / 2)) + a2)) - x20_2)) x185_76=some r)∧pz4 (kq≤k2)∧pz4 (Kd.R k169 169 wc w0.heap.size (fun k_=>(P0_ k_∨w.heap.size≤k_)) u9000_ l0)∧pz4 (Kept w wc (fun k_=>P0_ k_))∧pz4 (Below w0.heap.size w0 wc))
       case first =>
        have H:=HC77.out
        clear HC77
        by_cases c78:x20_2<a2
        ·rw [if_pos c78] at H
         have c78b0:decide (x20_2<a2)=true:=decide_eq_true c78
         clear c78
         (first|rw [c78b0]|(simp only [i64_w,i32_w];rw [c78b0])|skip)
         have H':=pz4.mk H
         clear H
         go_wp2
         go_meet
         case rel=>exact ⟨_,(decide (a2<(wrap64 ((wrap64 ((wrap64 ((IntKind.u64.wrap (wrap64 (a1 + a3))) / 2)) + a2)) - x20_2)))),(by first|rfl|(simp;done)|(simp [*];done)),H',⟨by have:=HJ59.out;have:=HK2.out;first|omega|exact Nat.le_refl _⟩,⟨by (with_reducible repeat (first|apply Kd.pz16|apply Kd.pz15|apply Kd.pz19));exact HO_0.out⟩,⟨by repeat (first|(with_reducible first|exact HK.out|apply Kept.alloc|apply Kept.drewN|apply Kept.drew)|exact HK.out)⟩,⟨by repeat (first|(with_reducible first|exact HB.out|apply pz3|apply pz1|apply pz2)|exact HB.out)⟩⟩
        ·rw [if_neg c78] at H
         have c78b0:decide (x20_2<a2)=false:=decide_eq_false c78
         clear c78
         (first|rw [c78b0]|(simp only [i64_w,i32_w];rw [c78b0])|skip)
         have H':=pz4.mk H
         clear H
         go_wp2
         go_meet
         case rel=>exact ⟨_,(false),(by first|rfl|(simp;done)|(simp [*];done)),H',⟨by have:=HJ59.out;have:=HK2.out;first|omega|exact Nat.le_refl _⟩,⟨by (with_reducible repeat (first|apply Kd.pz16|apply Kd.pz15|apply Kd.pz19));exact HO_0.out⟩,⟨by repeat (first|(with_reducible first|exact HK.out|apply Kept.alloc|apply Kept.drewN|apply Kept.drew)|exact HK.out)⟩,⟨by repeat (first|(with_reducible first|exact HB.out|apply pz3|apply pz1|apply pz2)|exact HB.out)⟩⟩
       case rest => as_aux_lemma =>
        clear HC77
        try clear c6;try clear c6b0;try clear c6b1;try clear c33;try clear c33b0;try clear c33b1;try clear c62;try clear c62b0
        obtain ⟨kq,x185_76,rfl,HA,HJ76,HO_0,HK,HB⟩:=hcut
        cases kq with
        | zero=>exact absurd HA.out (by simp [pq5.j6])
        | succ kj76 =>
         have H:=HA.out
         clear HA
         simp only [pq5.j6] at H
         have HC79:=pz4.mk H
         clear H
         go_upto_if 185 with (fail)
         go_cut [] (fun wc=>∃ (kq:Nat) (x0_78:List (S169)),pz4 (pq5.j7 kq x0_78 a1 a3 a4 (wrap64 ((IntKind.u64.wrap (wrap64 (a1 + a3))) / 2)) x20_2 (wrap64 ((wrap64 ((wrap64 ((IntKind.u64.wrap (wrap64 (a1 + a3))) / 2)) + a2)) - x20_2))=some r)∧pz4 (kq≤kj76)∧pz4 (Kd.R k169 169 wc w0.heap.size (fun k_=>(P0_ k_∨w.heap.size≤k_)) u9000_ x0_78)∧pz4 (Kept w wc (fun k_=>P0_ k_))∧pz4 (Below w0.heap.size w0 wc))
         case first =>
          have H:=HC79.out
          clear HC79
          by_cases c80:x185_76=true
          ·subst c80
           have H1:((pq7.f kj76 l0 x20_2 a2 (wrap64 ((wrap64 ((wrap64 ((IntKind.u64.wrap (wrap64 (a1 + a3))) / 2)) + a2)) - x20_2)) a4).bind fun t240=>(pq5.j7 kj76 t240 a1 a3 a4 (wrap64 ((IntKind.u64.wrap (wrap64 (a1 + a3))) / 2)) x20_2 (wrap64 ((wrap64 ((wrap64 ((IntKind.u64.wrap (wrap64 (a1 + a3))) / 2)) + a2)) - x20_2))))=some r:=by rw [if_pos rfl] at H;exact H
           clear H
           have H:=H1
           clear H1
           replace H:=Option.bind_eq_some_iff.mp H
           obtain ⟨t240,A810,H⟩:=H
           replace H:(pq5.j7 kj76 t240 a1 a3 a4 (wrap64 ((IntKind.u64.wrap (wrap64 (a1 + a3))) / 2)) x20_2 (wrap64 ((wrap64 ((wrap64 ((IntKind.u64.wrap (wrap64 (a1 + a3))) / 2)) + a2)) - x20_2)))=some r:=H
           have A81:=pz4.mk A810
           clear A810
           have H':=pz4.mk H
           clear H
           obtain ⟨Ao82,co82,eo82⟩:=Kd.R_slice HO_0.out
           subst eo82
           go_wp2_with (first|((with_reducible refine pz8 (f:=217) rfl ?_);refine pz21 (some 191) rfl rfl Tryz.func217 (by kernel_rfl) rfl #[.slice Ao82 l0.length co82,.int .i64 x20_2,.int .i64 a2,.int .i64 (wrap64 ((wrap64 ((wrap64 ((IntKind.u64.wrap (wrap64 (a1 + a3))) / 2)) + a2)) - x20_2)),.func (.func 175) #[] #[]] rfl (by (try simp only [pM]);first|done|rfl|(simp only [pL];rfl)) ?_;(with_reducible refine (pq7.calls kj76 (fun k_=>some k_=(.slice Ao82 l0.length co82:Value).ownBlock) (.slice Ao82 l0.length co82) l0 x20_2 a2 (wrap64 ((wrap64 ((wrap64 ((IntKind.u64.wrap (wrap64 (a1 + a3))) / 2)) + a2)) - x20_2)) a4 t240 w0 _ ?side1 ?side2 A81.out).mono ?_);(case side1=>repeat (first|(with_reducible first|exact HB.out|apply pz3|apply pz1|apply pz2)|exact HB.out));(case side2=>exact Kd.R_tight rfl HO_0.out);rintro e w83 ⟨rfl,hy0,hb,hkp⟩;refine ⟨_,rfl,?_⟩;have n0_:=pz4.mk (Kd.R_reok rfl hy0 (fun k_ e_=>HO_0.out.1 k_ e_));have n1_:=pz4.mk (Kept.then_ (S:=(fun k_=>P0_ k_)) (by repeat (first|(with_reducible first|exact HK.out|apply Kept.alloc|apply Kept.drewN|apply Kept.drew)|exact HK.out)) hkp (fun k_ hs_=>(fun e_=>(HO_0.out.1 k_ e_.symm)) hs_));have n2_:=pz4.mk (hb);clear HO_0;clear HK;clear HB;have HO_0:=n0_;have HK:=n1_;have HB:=n2_;clear n0_ n1_ n2_;(try clear hb);(try clear hkp);(try clear hy0)))
           go_meet
           case rel=>exact ⟨_,(t240),H',⟨by have:=HJ59.out;have:=HK2.out;have:=HJ76.out;first|omega|exact Nat.le_refl _⟩,⟨by (with_reducible repeat (first|apply Kd.pz16|apply Kd.pz15|apply Kd.pz19));exact HO_0.out⟩,⟨by repeat (first|(with_reducible first|exact HK.out|apply Kept.alloc|apply Kept.drewN|apply Kept.drew)|exact HK.out)⟩,⟨by repeat (first|(with_reducible first|exact HB.out|apply pz3|apply pz1|apply pz2)|exact HB.out)⟩⟩
          ·replace c80:=Bool.eq_false_iff.mpr c80
           subst c80
           have H1:(pq5.j7 kj76 l0 a1 a3 a4 (wrap64 ((IntKind.u64.wrap (wrap64 (a1 + a3))) / 2)) x20_2 (wrap64 ((wrap64 ((wrap64 ((IntKind.u64.wrap (wrap64 (a1 + a3))) / 2)) + a2)) - x20_2)))=some r:=by rw [if_neg (show ¬ (false=true) by decide)] at H;exact H
           clear H
           have H:=H1
           clear H1
           have H':=pz4.mk H
           clear H
           go_wp2
           go_meet
           case rel=>exact ⟨_,(l0),H',⟨by have:=HJ59.out;have:=HK2.out;have:=HJ76.out;first|omega|exact Nat.le_refl _⟩,⟨by (with_reducible repeat (first|apply Kd.pz16|apply Kd.pz15|apply Kd.pz19));exact HO_0.out⟩,⟨by repeat (first|(with_reducible first|exact HK.out|apply Kept.alloc|apply Kept.drewN|apply Kept.drew)|exact HK.out)⟩,⟨by repeat (first|(with_reducible first|exact HB.out|apply pz3|apply pz1|apply pz2)|exact HB.out)⟩⟩
         case rest=>as_aux_lemma =>
          clear HC79
          try clear c6;try clear c6b0;try clear c6b1;try clear c33;try clear c33b0;try clear c33b1;try clear c62;try clear c62b0
          obtain ⟨kq,x0_78,HA,HJ78,HO_0,HK,HB⟩:=hcut
          cases kq with
          | zero=>exact absurd HA.out (by simp [pq5.j7])
          | succ kj78 =>
           have H:=HA.out
           clear HA
           simp only [pq5.j7] at H
           have HC84:=pz4.mk H
           clear H
           go_upto_region 41 with (fail)
           go_cut [199] (fun v199 wc=>∃ (kq:Nat) (x199_83:Bool),v199=.bool x199_83∧pz4 (pq5.j8 kq x0_78 a1 a3 a4 (wrap64 ((IntKind.u64.wrap (wrap64 (a1 + a3))) / 2)) x20_2 (wrap64 ((wrap64 ((wrap64 ((IntKind.u64.wrap (wrap64 (a1 + a3))) / 2)) + a2)) - x20_2)) x199_83=some r)∧pz4 (kq≤kj78)∧pz4 (Kd.R k169 169 wc w0.heap.size (fun k_=>(P0_ k_∨w.heap.size≤k_)) u9000_ x0_78)∧pz4 (Kept w wc (fun k_=>P0_ k_))∧pz4 (Below w0.heap.size w0 wc))
           case first =>
            have H:=HC84.out
            clear HC84
            by_cases c85:a1<x20_2
            ·rw [if_pos c85] at H
             have c85b0:decide (a1<x20_2)=true:=decide_eq_true c85
             clear c85
             (first|rw [c85b0]|(simp only [i64_w,i32_w];rw [c85b0])|skip)
             have H':=pz4.mk H
             clear H
             go_wp2
             go_meet
             case rel=>exact ⟨_,(decide (x20_2<(wrap64 ((IntKind.u64.wrap (wrap64 (a1 + a3))) / 2)))),(by first|rfl|(simp;done)|(simp [*];done)),H',⟨by have:=HJ59.out;have:=HK2.out;have:=HJ76.out;have:=HJ78.out;first|omega|exact Nat.le_refl _⟩,⟨by (with_reducible repeat (first|apply Kd.pz16|apply Kd.pz15|apply Kd.pz19));exact HO_0.out⟩,⟨by repeat (first|(with_reducible first|exact HK.out|apply Kept.alloc|apply Kept.drewN|apply Kept.drew)|exact HK.out)⟩,⟨by repeat (first|(with_reducible first|exact HB.out|apply pz3|apply pz1|apply pz2)|exact HB.out)⟩⟩
            ·rw [if_neg c85] at H
             have c85b0:decide (a1<x20_2)=false:=decide_eq_false c85
             clear c85
             (first|rw [c85b0]|(simp only [i64_w,i32_w];rw [c85b0])|skip)
             have H':=pz4.mk H
             clear H
             go_wp2
             go_meet
             case rel=>exact ⟨_,(false),(by first|rfl|(simp;done)|(simp [*];done)),H',⟨by have:=HJ59.out;have:=HK2.out;have:=HJ76.out;have:=HJ78.out;first|omega|exact Nat.le_refl _⟩,⟨by (with_reducible repeat (first|apply Kd.pz16|apply Kd.pz15|apply Kd.pz19));exact HO_0.out⟩,⟨by repeat (first|(with_reducible first|exact HK.out|apply Kept.alloc|apply Kept.drewN|apply Kept.drew)|exact HK.out)⟩,⟨by repeat (first|(with_reducible first|exact HB.out|apply pz3|apply pz1|apply pz2)|exact HB.out)⟩⟩
           case rest=>as_aux_lemma =>
            clear HC84
            try clear c6;try clear c6b0;try clear c6b1;try clear c33;try clear c33b0;try clear c33b1;try clear c62;try clear c62b0
            obtain ⟨kq,x199_83,rfl,HA,HJ83,HO_0,HK,HB⟩:=hcut
            cases kq with
            | zero=>exact absurd HA.out (by simp [pq5.j8])
            | succ kj83 =>
             have H:=HA.out
             clear HA
             simp only [pq5.j8] at H
             by_cases c86:x199_83=true
             ·subst c86
              have H1:((pq5.f kj83 x0_78 a1 x20_2 (wrap64 ((IntKind.u64.wrap (wrap64 (a1 + a3))) / 2)) a4).bind fun t241=>(if (wrap64 ((IntKind.u64.wrap (wrap64 (a1 + a3))) / 2))<(wrap64 ((wrap64 ((wrap64 ((IntKind.u64.wrap (wrap64 (a1 + a3))) / 2)) + a2)) - x20_2)) then (if (wrap64 ((wrap64 ((wrap64 ((IntKind.u64.wrap (wrap64 (a1 + a3))) / 2)) + a2)) - x20_2))<a3 then ((pq5.f kj83 t241 (wrap64 ((IntKind.u64.wrap (wrap64 (a1 + a3))) / 2)) (wrap64 ((wrap64 ((wrap64 ((IntKind.u64.wrap (wrap64 (a1 + a3))) / 2)) + a2)) - x20_2)) a3 a4).bind fun t242=>(some t242)) else (some t241)) else (some t241)))=some r:=by rw [if_pos rfl] at H;exact H
              clear H
              have H:=H1
              clear H1
              replace H:=Option.bind_eq_some_iff.mp H
              obtain ⟨t241,A870,H⟩:=H
              replace H:(if (wrap64 ((IntKind.u64.wrap (wrap64 (a1 + a3))) / 2))<(wrap64 ((wrap64 ((wrap64 ((IntKind.u64.wrap (wrap64 (a1 + a3))) / 2)) + a2)) - x20_2)) then (if (wrap64 ((wrap64 ((wrap64 ((IntKind.u64.wrap (wrap64 (a1 + a3))) / 2)) + a2)) - x20_2))<a3 then ((pq5.f kj83 t241 (wrap64 ((IntKind.u64.wrap (wrap64 (a1 + a3))) / 2)) (wrap64 ((wrap64 ((wrap64 ((IntKind.u64.wrap (wrap64 (a1 + a3))) / 2)) + a2)) - x20_2)) a3 a4).bind fun t242=>(some t242)) else (some t241)) else (some t241))=some r:=H
              have A87:=pz4.mk A870
              clear A870
              by_cases c88:(wrap64 ((IntKind.u64.wrap (wrap64 (a1 + a3))) / 2))<(wrap64 ((wrap64 ((wrap64 ((IntKind.u64.wrap (wrap64 (a1 + a3))) / 2)) + a2)) - x20_2))
              ·rw [if_pos c88] at H
               have c88b0:decide ((wrap64 ((IntKind.u64.wrap (wrap64 (a1 + a3))) / 2))<(wrap64 ((wrap64 ((wrap64 ((IntKind.u64.wrap (wrap64 (a1 + a3))) / 2)) + a2)) - x20_2)))=true:=decide_eq_true c88
               clear c88
               by_cases c89:(wrap64 ((wrap64 ((wrap64 ((IntKind.u64.wrap (wrap64 (a1 + a3))) / 2)) + a2)) - x20_2))<a3
               ·rw [if_pos c89] at H
                have c89b0:decide ((wrap64 ((wrap64 ((wrap64 ((IntKind.u64.wrap (wrap64 (a1 + a3))) / 2)) + a2)) - x20_2))<a3)=true:=decide_eq_true c89
                clear c89
                replace H:=Option.bind_eq_some_iff.mp H
                obtain ⟨t242,A900,H⟩:=H
                replace H:(some t242)=some r:=H
                have A90:=pz4.mk A900
                clear A900
                obtain rfl:=Option.some.inj H
                obtain ⟨Ao91,co91,eo91⟩:=Kd.R_slice HO_0.out
                subst eo91
                go_wp2_with (first|((with_reducible refine pz8 (f:=207) rfl ?_);refine pz21 (some 205) rfl rfl Tryz.func207 (by kernel_rfl) rfl #[.slice Ao91 x0_78.length co91,.int .i64 a1,.int .i64 x20_2,.int .i64 (wrap64 ((IntKind.u64.wrap (wrap64 (a1 + a3))) / 2)),.func (.func 175) #[] #[]] rfl (by (try simp only [pM]);first|done|rfl|(simp only [pL];rfl)) ?_;(with_reducible refine (ih kj83 (by have:=HJ59.out;have:=HK2.out;have:=HJ76.out;have:=HJ78.out;have:=HJ83.out;omega) (fun k_=>some k_=(.slice Ao91 x0_78.length co91:Value).ownBlock) (.slice Ao91 x0_78.length co91) x0_78 a1 x20_2 (wrap64 ((IntKind.u64.wrap (wrap64 (a1 + a3))) / 2)) a4 t241 w0 _ ?side1 ?side2 A87.out).mono ?_);(case side1=>repeat (first|(with_reducible first|exact HB.out|apply pz3|apply pz1|apply pz2)|exact HB.out));(case side2=>exact Kd.R_tight rfl HO_0.out);rintro e w92 ⟨rfl,hy0,hb,hkp⟩;refine ⟨_,rfl,?_⟩;have n0_:=pz4.mk (Kd.R_reok rfl hy0 (fun k_ e_=>HO_0.out.1 k_ e_));have n1_:=pz4.mk (Kept.then_ (S:=(fun k_=>P0_ k_)) (by repeat (first|(with_reducible first|exact HK.out|apply Kept.alloc|apply Kept.drewN|apply Kept.drew)|exact HK.out)) hkp (fun k_ hs_=>(fun e_=>(HO_0.out.1 k_ e_.symm)) hs_));have n2_:=pz4.mk (hb);clear HO_0;clear HK;clear HB;have HO_0:=n0_;have HK:=n1_;have HB:=n2_;clear n0_ n1_ n2_;(try clear hb);(try clear hkp);(try clear hy0))|((with_reducible refine pz8 (f:=207) rfl ?_);refine pz21 (some 219) rfl rfl Tryz.func207 (by kernel_rfl) rfl #[.slice Ao91 x0_78.length co91,.int .i64 (wrap64 ((IntKind.u64.wrap (wrap64 (a1 + a3))) / 2)),.int .i64 (wrap64 ((wrap64 ((wrap64 ((IntKind.u64.wrap (wrap64 (a1 + a3))) / 2)) + a2)) - x20_2)),.int .i64 a3,.func (.func 175) #[] #[]] rfl (by (try simp only [pM]);first|done|rfl|(simp only [pL];rfl)) ?_;(with_reducible refine (ih kj83 (by have:=HJ59.out;have:=HK2.out;have:=HJ76.out;have:=HJ78.out;have:=HJ83.out;omega) (fun k_=>some k_=(.slice Ao91 x0_78.length co91:Value).ownBlock) (.slice Ao91 x0_78.length co91) t241 (wrap64 ((IntKind.u64.wrap (wrap64 (a1 + a3))) / 2)) (wrap64 ((wrap64 ((wrap64 ((IntKind.u64.wrap (wrap64 (a1 + a3))) / 2)) + a2)) - x20_2)) a3 a4 t242 w0 _ ?side1 ?side2 A90.out).mono ?_);(case side1=>repeat (first|(with_reducible first|exact HB.out|apply pz3|apply pz1|apply pz2)|exact HB.out));(case side2=>exact Kd.R_tight rfl HO_0.out);rintro e w93 ⟨rfl,hy0,hb,hkp⟩;refine ⟨_,rfl,?_⟩;have n0_:=pz4.mk (Kd.R_reok rfl hy0 (fun k_ e_=>HO_0.out.1 k_ e_));have n1_:=pz4.mk (Kept.then_ (S:=(fun k_=>P0_ k_)) (by repeat (first|(with_reducible first|exact HK.out|apply Kept.alloc|apply Kept.drewN|apply Kept.drew)|exact HK.out)) hkp (fun k_ hs_=>(fun e_=>(HO_0.out.1 k_ e_.symm)) hs_));have n2_:=pz4.mk (hb);clear HO_0;clear HK;clear HB;have HO_0:=n0_;have HK:=n1_;have HB:=n2_;clear n0_ n1_ n2_;(try clear hb);(try clear hkp);(try clear hy0)))
                first|go_end0|((try simp only [Exit.inBlock,Exit.then]);refine bodyPost_ret (results_none rfl _ _ _) rfl ?_)
                exact ⟨by first|rfl|(simp [pz6,pz5] <;> rfl)|(simp [*,pz6,pz5] <;> rfl),by (with_reducible repeat (first|apply Kd.pz16|apply Kd.pz15|apply Kd.pz19));exact HO_0.out,by repeat (first|(with_reducible first|exact HB.out|apply pz3|apply pz1|apply pz2)|exact HB.out),by repeat (first|(with_reducible first|exact HK.out|apply Kept.alloc|apply Kept.drewN|apply Kept.drew)|exact HK.out)⟩
               ·rw [if_neg c89] at H
                have c89b0:decide ((wrap64 ((wrap64 ((wrap64 ((IntKind.u64.wrap (wrap64 (a1 + a3))) / 2)) + a2)) - x20_2))<a3)=false:=decide_eq_false c89
                clear c89
                obtain rfl:=Option.some.inj H
                obtain ⟨Ao94,co94,eo94⟩:=Kd.R_slice HO_0.out
                subst eo94
                go_wp2_with (first|((with_reducible refine pz8 (f:=207) rfl ?_);refine pz21 (some 205) rfl rfl Tryz.func207 (by kernel_rfl) rfl #[.slice Ao94 x0_78.length co94,.int .i64 a1,.int .i64 x20_2,.int .i64 (wrap64 ((IntKind.u64.wrap (wrap64 (a1 + a3))) / 2)),.func (.func 175) #[] #[]] rfl (by (try simp only [pM]);first|done|rfl|(simp only [pL];rfl)) ?_;(with_reducible refine (ih kj83 (by have:=HJ59.out;have:=HK2.out;have:=HJ76.out;have:=HJ78.out;have:=HJ83.out;omega) (fun k_=>some k_=(.slice Ao94 x0_78.length co94:Value).ownBlock) (.slice Ao94 x0_78.length co94) x0_78 a1 x20_2 (wrap64 ((IntKind.u64.wrap (wrap64 (a1 + a3))) / 2)) a4 t241 w0 _ ?side1 ?side2 A87.out).mono ?_);(case side1=>repeat (first|(with_reducible first|exact HB.out|apply pz3|apply pz1|apply pz2)|exact HB.out));(case side2=>exact Kd.R_tight rfl HO_0.out);rintro e w95 ⟨rfl,hy0,hb,hkp⟩;refine ⟨_,rfl,?_⟩;have n0_:=pz4.mk (Kd.R_reok rfl hy0 (fun k_ e_=>HO_0.out.1 k_ e_));have n1_:=pz4.mk (Kept.then_ (S:=(fun k_=>P0_ k_)) (by repeat (first|(with_reducible first|exact HK.out|apply Kept.alloc|apply Kept.drewN|apply Kept.drew)|exact HK.out)) hkp (fun k_ hs_=>(fun e_=>(HO_0.out.1 k_ e_.symm)) hs_));have n2_:=pz4.mk (hb);clear HO_0;clear HK;clear HB;have HO_0:=n0_;have HK:=n1_;have HB:=n2_;clear n0_ n1_ n2_;(try clear hb);(try clear hkp);(try clear hy0)))
                first|go_end0|((try simp only [Exit.inBlock,Exit.then]);refine bodyPost_ret (results_none rfl _ _ _) rfl ?_)
                exact ⟨by first|rfl|(simp [pz6,pz5] <;> rfl)|(simp [*,pz6,pz5] <;> rfl),by (with_reducible repeat (first|apply Kd.pz16|apply Kd.pz15|apply Kd.pz19));exact HO_0.out,by repeat (first|(with_reducible first|exact HB.out|apply pz3|apply pz1|apply pz2)|exact HB.out),by repeat (first|(with_reducible first|exact HK.out|apply Kept.alloc|apply Kept.drewN|apply Kept.drew)|exact HK.out)⟩
              ·rw [if_neg c88] at H
               have c88b0:decide ((wrap64 ((IntKind.u64.wrap (wrap64 (a1 + a3))) / 2))<(wrap64 ((wrap64 ((wrap64 ((IntKind.u64.wrap (wrap64 (a1 + a3))) / 2)) + a2)) - x20_2)))=false:=decide_eq_false c88
               clear c88
               obtain rfl:=Option.some.inj H
               obtain ⟨Ao96,co96,eo96⟩:=Kd.R_slice HO_0.out
               subst eo96
               go_wp2_with (first|((with_reducible refine pz8 (f:=207) rfl ?_);refine pz21 (some 205) rfl rfl Tryz.func207 (by kernel_rfl) rfl #[.slice Ao96 x0_78.length co96,.int .i64 a1,.int .i64 x20_2,.int .i64 (wrap64 ((IntKind.u64.wrap (wrap64 (a1 + a3))) / 2)),.func (.func 175) #[] #[]] rfl (by (try simp only [pM]);first|done|rfl|(simp only [pL];rfl)) ?_;(with_reducible refine (ih kj83 (by have:=HJ59.out;have:=HK2.out;have:=HJ76.out;have:=HJ78.out;have:=HJ83.out;omega) (fun k_=>some k_=(.slice Ao96 x0_78.length co96:Value).ownBlock) (.slice Ao96 x0_78.length co96) x0_78 a1 x20_2 (wrap64 ((IntKind.u64.wrap (wrap64 (a1 + a3))) / 2)) a4 t241 w0 _ ?side1 ?side2 A87.out).mono ?_);(case side1=>repeat (first|(with_reducible first|exact HB.out|apply pz3|apply pz1|apply pz2)|exact HB.out));(case side2=>exact Kd.R_tight rfl HO_0.out);rintro e w97 ⟨rfl,hy0,hb,hkp⟩;refine ⟨_,rfl,?_⟩;have n0_:=pz4.mk (Kd.R_reok rfl hy0 (fun k_ e_=>HO_0.out.1 k_ e_));have n1_:=pz4.mk (Kept.then_ (S:=(fun k_=>P0_ k_)) (by repeat (first|(with_reducible first|exact HK.out|apply Kept.alloc|apply Kept.drewN|apply Kept.drew)|exact HK.out)) hkp (fun k_ hs_=>(fun e_=>(HO_0.out.1 k_ e_.symm)) hs_));have n2_:=pz4.mk (hb);clear HO_0;clear HK;clear HB;have HO_0:=n0_;have HK:=n1_;have HB:=n2_;clear n0_ n1_ n2_;(try clear hb);(try clear hkp);(try clear hy0)))
               first|go_end0|((try simp only [Exit.inBlock,Exit.then]);refine bodyPost_ret (results_none rfl _ _ _) rfl ?_)
               exact ⟨by first|rfl|(simp [pz6,pz5] <;> rfl)|(simp [*,pz6,pz5] <;> rfl),by (with_reducible repeat (first|apply Kd.pz16|apply Kd.pz15|apply Kd.pz19));exact HO_0.out,by repeat (first|(with_reducible first|exact HB.out|apply pz3|apply pz1|apply pz2)|exact HB.out),by repeat (first|(with_reducible first|exact HK.out|apply Kept.alloc|apply Kept.drewN|apply Kept.drew)|exact HK.out)⟩
             ·replace c86:=Bool.eq_false_iff.mpr c86
              subst c86
              have H1:(if (wrap64 ((IntKind.u64.wrap (wrap64 (a1 + a3))) / 2))<(wrap64 ((wrap64 ((wrap64 ((IntKind.u64.wrap (wrap64 (a1 + a3))) / 2)) + a2)) - x20_2)) then (if (wrap64 ((wrap64 ((wrap64 ((IntKind.u64.wrap (wrap64 (a1 + a3))) / 2)) + a2)) - x20_2))<a3 then ((pq5.f kj83 x0_78 (wrap64 ((IntKind.u64.wrap (wrap64 (a1 + a3))) / 2)) (wrap64 ((wrap64 ((wrap64 ((IntKind.u64.wrap (wrap64 (a1 + a3))) / 2)) + a2)) - x20_2)) a3 a4).bind fun t243=>(some t243)) else (some x0_78)) else (some x0_78))=some r:=by rw [if_neg (show ¬ (false=true) by decide)] at H;exact H
              clear H
              have H:=H1
              clear H1
              by_cases c98:(wrap64 ((IntKind.u64.wrap (wrap64 (a1 + a3))) / 2))<(wrap64 ((wrap64 ((wrap64 ((IntKind.u64.wrap (wrap64 (a1 + a3))) / 2)) + a2)) - x20_2))
              ·rw [if_pos c98] at H
               have c98b0:decide ((wrap64 ((IntKind.u64.wrap (wrap64 (a1 + a3))) / 2))<(wrap64 ((wrap64 ((wrap64 ((IntKind.u64.wrap (wrap64 (a1 + a3))) / 2)) + a2)) - x20_2)))=true:=decide_eq_true c98
               clear c98
               by_cases c99:(wrap64 ((wrap64 ((wrap64 ((IntKind.u64.wrap (wrap64 (a1 + a3))) / 2)) + a2)) - x20_2))<a3
               ·rw [if_pos c99] at H
                have c99b0:decide ((wrap64 ((wrap64 ((wrap64 ((IntKind.u64.wrap (wrap64 (a1 + a3))) / 2)) + a2)) - x20_2))<a3)=true:=decide_eq_true c99
                clear c99
                replace H:=Option.bind_eq_some_iff.mp H
                obtain ⟨t243,A1000,H⟩:=H
                replace H:(some t243)=some r:=H
                have A100:=pz4.mk A1000
                clear A1000
                obtain rfl:=Option.some.inj H
                obtain ⟨Ao101,co101,eo101⟩:=Kd.R_slice HO_0.out
                subst eo101
                go_wp2_with (first|((with_reducible refine pz8 (f:=207) rfl ?_);refine pz21 (some 219) rfl rfl Tryz.func207 (by kernel_rfl) rfl #[.slice Ao101 x0_78.length co101,.int .i64 (wrap64 ((IntKind.u64.wrap (wrap64 (a1 + a3))) / 2)),.int .i64 (wrap64 ((wrap64 ((wrap64 ((IntKind.u64.wrap (wrap64 (a1 + a3))) / 2)) + a2)) - x20_2)),.int .i64 a3,.func (.func 175) #[] #[]] rfl (by (try simp only [pM]);first|done|rfl|(simp only [pL];rfl)) ?_;(with_reducible refine (ih kj83 (by have:=HJ59.out;have:=HK2.out;have:=HJ76.out;have:=HJ78.out;have:=HJ83.out;omega) (fun k_=>some k_=(.slice Ao101 x0_78.length co101:Value).ownBlock) (.slice Ao101 x0_78.length co101) x0_78 (wrap64 ((IntKind.u64.wrap (wrap64 (a1 + a3))) / 2)) (wrap64 ((wrap64 ((wrap64 ((IntKind.u64.wrap (wrap64 (a1 + a3))) / 2)) + a2)) - x20_2)) a3 a4 t243 w0 _ ?side1 ?side2 A100.out).mono ?_);(case side1=>repeat (first|(with_reducible first|exact HB.out|apply pz3|apply pz1|apply pz2)|exact HB.out));(case side2=>exact Kd.R_tight rfl HO_0.out);rintro e w102 ⟨rfl,hy0,hb,hkp⟩;refine ⟨_,rfl,?_⟩;have n0_:=pz4.mk (Kd.R_reok rfl hy0 (fun k_ e_=>HO_0.out.1 k_ e_));have n1_:=pz4.mk (Kept.then_ (S:=(fun k_=>P0_ k_)) (by repeat (first|(with_reducible first|exact HK.out|apply Kept.alloc|apply Kept.drewN|apply Kept.drew)|exact HK.out)) hkp (fun k_ hs_=>(fun e_=>(HO_0.out.1 k_ e_.symm)) hs_));have n2_:=pz4.mk (hb);clear HO_0;clear HK;clear HB;have HO_0:=n0_;have HK:=n1_;have HB:=n2_;clear n0_ n1_ n2_;(try clear hb);(try clear hkp);(try clear hy0)))
                first|go_end0|((try simp only [Exit.inBlock,Exit.then]);refine bodyPost_ret (results_none rfl _ _ _) rfl ?_)
                exact ⟨by first|rfl|(simp [pz6,pz5] <;> rfl)|(simp [*,pz6,pz5] <;> rfl),by (with_reducible repeat (first|apply Kd.pz16|apply Kd.pz15|apply Kd.pz19));exact HO_0.out,by repeat (first|(with_reducible first|exact HB.out|apply pz3|apply pz1|apply pz2)|exact HB.out),by repeat (first|(with_reducible first|exact HK.out|apply Kept.alloc|apply Kept.drewN|apply Kept.drew)|exact HK.out)⟩
               ·rw [if_neg c99] at H
                have c99b0:decide ((wrap64 ((wrap64 ((wrap64 ((IntKind.u64.wrap (wrap64 (a1 + a3))) / 2)) + a2)) - x20_2))<a3)=false:=decide_eq_false c99
                clear c99
                obtain rfl:=Option.some.inj H
                go_wp2
                first|go_end0|((try simp only [Exit.inBlock,Exit.then]);refine bodyPost_ret (results_none rfl _ _ _) rfl ?_)
                exact ⟨by first|rfl|(simp [pz6,pz5] <;> rfl)|(simp [*,pz6,pz5] <;> rfl),by (with_reducible repeat (first|apply Kd.pz16|apply Kd.pz15|apply Kd.pz19));exact HO_0.out,by repeat (first|(with_reducible first|exact HB.out|apply pz3|apply pz1|apply pz2)|exact HB.out),by repeat (first|(with_reducible first|exact HK.out|apply Kept.alloc|apply Kept.drewN|apply Kept.drew)|exact HK.out)⟩
              ·rw [if_neg c98] at H
               have c98b0:decide ((wrap64 ((IntKind.u64.wrap (wrap64 (a1 + a3))) / 2))<(wrap64 ((wrap64 ((wrap64 ((IntKind.u64.wrap (wrap64 (a1 + a3))) / 2)) + a2)) - x20_2)))=false:=decide_eq_false c98
               clear c98
               obtain rfl:=Option.some.inj H
               go_wp2
               first|go_end0|((try simp only [Exit.inBlock,Exit.then]);refine bodyPost_ret (results_none rfl _ _ _) rfl ?_)
               exact ⟨by first|rfl|(simp [pz6,pz5] <;> rfl)|(simp [*,pz6,pz5] <;> rfl),by (with_reducible repeat (first|apply Kd.pz16|apply Kd.pz15|apply Kd.pz19));exact HO_0.out,by repeat (first|(with_reducible first|exact HB.out|apply pz3|apply pz1|apply pz2)|exact HB.out),by repeat (first|(with_reducible first|exact HK.out|apply Kept.alloc|apply Kept.drewN|apply Kept.drew)|exact HK.out)⟩
theorem pq5.calls (k:Nat):∀ (P0_:Nat→Prop) (u9000_:Value) (l0:List (S169)) (a1:Int) (a2:Int) (a3:Int) (a4:Unit) (r:List (S169)) (w0 w:World) (hB:Below w0.heap.size w0 w) (ho0:Kd.R k169 169 w w0.heap.size P0_ u9000_ l0) (h:pq5.f k l0 a1 a2 a3 a4=some r),
  Calls Tryz.prog 207 #[u9000_,.int .i64 a1,.int .i64 a2,.int .i64 a3,.func (.func 175) #[] #[]] w fun e w'=>e=.returned (.tuple #[])∧Kd.R k169 169 w' w0.heap.size (fun k_=>(P0_ k_∨w.heap.size≤k_)) u9000_ r∧Below w0.heap.size w0 w'∧Kept w w' (fun k_=>P0_ k_):=by
 induction k using Nat.strongRecOn with
 | _ k ih =>
 intro P0_ u9000_ l0 a1 a2 a3 a4 r w0 w hB ho0 h
 cases k with
 | zero=>exact absurd h (by simp [pq5.f])
 | succ k =>
 by_cases c6:(wrap64 (a2 - a1))=1
 ·exact pq5.calls_a k ih P0_ u9000_ l0 a1 a2 a3 a4 r w0 w hB ho0 h c6
 ·by_cases c33:(wrap64 (a3 - a2))=1
  ·exact pq5.calls_b k ih P0_ u9000_ l0 a1 a2 a3 a4 r w0 w hB ho0 h c6 c33
  ·exact pq5.calls_c k ih P0_ u9000_ l0 a1 a2 a3 a4 r w0 w hB ho0 h c6 c33
end Go.Proofs.Zq
end
