/- A part of a proof of statements of this seat: what its walks and its laws lean on; joined by a program of this repo (wip/pack.py) out of the texts QSlicesInsertionSortCmpFuncPairAtUntarAttrs2, QSlicesSwapRangeCmpFuncPairAtUntarAttrs2, QSlicesRotateCmpFuncPairAtUntarAttrs2. -/
import Derived.Test.YtjghikkboekonaaGreatDoorKAB
import Derived.Test.YtjghikkboekonaaGreatDoorKAE
set_option linter.unusedSimpArgs false
set_option linter.unusedVariables false
section
namespace Go.Proofs.Zq
open Go.RowKit Go.Proofs.Zw.PrintWords Go.Proofs.Zw.PrintLast Go.Proofs.Zw.PrintMore
open Go.Proofs.YtjghikkboekonaaGreatDoor (GL)
attribute [local go_sem] max2_int min2_int max_two min_two pz35 pz36 max_four min_four
mutual
def pq0.l0:Nat→List (S169)→Int→Int→Int→Option ((List (S169)))
 | 0,_,_,_,_=>none
 | k + 1,x0,x1,x2,x8=>if x8<x2 then (pq0.l1 k x0 x1 x2 x8 x8) else (some x0)
def pq0.l1:Nat→List (S169)→Int→Int→Int→Int→Option ((List (S169)))
 | 0,_,_,_,_,_=>none
 | k + 1,x0,x1,x2,x8,x9=>if x9 > x1 then (if 0≤x9 then (if x9<(x0.length:Int) then (if 0≤(wrap64 (x9 - 1)) then (if (wrap64 (x9 - 1))<(x0.length:Int) then ((pq12.f ((rd_T169 x0 x9).f0) ((rd_T169 x0 x9).f1) ((rd_T169 x0 (wrap64 (x9 - 1))).f0) ((rd_T169 x0 (wrap64 (x9 - 1))).f1)).bind fun t211=>(if t211<0 then (pq0.l1 k ((x0.set (x9:Int).toNat (⟨(rd_T169 x0 (wrap64 (x9 - 1))).f0,(rd_T169 x0 (wrap64 (x9 - 1))).f1⟩:S169)).set ((wrap64 (x9 - 1)):Int).toNat (⟨(rd_T169 x0 x9).f0,(rd_T169 x0 x9).f1⟩:S169)) x1 x2 x8 (wrap64 (x9 - 1))) else (pq0.l0 k x0 x1 x2 (wrap64 (x8 + 1))))) else (none)) else (none)) else (none)) else (none)) else (pq0.l0 k x0 x1 x2 (wrap64 (x8 + 1)))
end
def pq0.f (k:Nat) (l0:List (S169)) (a1:Int) (a2:Int) (a3:Unit):Option ((List (S169))):=pq0.l0 k l0 a1 a2 (wrap64 (a1 + 1))
def pq0.T4:Bool×List (List Nat×List Nat):=(true,[([],[]),([],[]),([0,1],[0,1]),([2],[2]),([3],[3]),([3],[3]),([3],[3]),([5,6,3],[3,5,6]),([7,3],[3,7]),([3],[3]),([3],[3]),([10,3],[3,10]),([9,11,3],[3,9,11]),([12,3],[3,12]),([4,8,13,3,3],[3,4,8,13]),([14,3],[3,14]),([3,15],[3,15])])
def pq0.B4:List Nat:=[0,0,3,7,15,15,15,111,239,15,15,1039,3599,7695,16383,32767,65535]
theorem pq0.tab4:rtab .any (opsOf Tryz.f206 4)=pq0.T4:=by kernel_rfl
theorem pq0.bits4:waitsOk pq0.T4.2 pq0.B4=true:=by kernel_rfl
def pq0.T6:Bool×List (List Nat×List Nat):=(true,[([],[]),([],[]),([],[]),([],[]),([3],[3]),([],[]),([],[]),([6],[6]),([5,7],[5,7]),([8],[8]),([],[]),([],[]),([10,11],[10,11]),([12],[12]),([0,1,0,1,5,6,7,8,9,13],[0,1]),([14,9,0,1,5,6,7,8,9,13],[9,14]),([2,4,0,1,2,3,4,5,6,7,8,9,10,11,12,13,14,15],[2,4]),([16,13,15,0,1,2,3,4,5,6,7,8,9,10,11,12,13,14,15],[13,16])])
def pq0.B6:List Nat:=[0,0,0,0,8,0,0,64,224,480,0,0,3072,7168,16355,32739,65535,131071]
theorem pq0.tab6:rtab .any (opsOf Tryz.f206 6)=pq0.T6:=by kernel_rfl
theorem pq0.bits6:waitsOk pq0.T6.2 pq0.B6=true:=by kernel_rfl
set_option maxHeartbeats 8000000 in
set_option maxRecDepth 100000 in
theorem pq0.calls (k:Nat) (P0_:Nat→Prop) (u9000_:Value) (l0:List (S169)) (a1:Int) (a2:Int) (a3:Unit) (r:List (S169)) (w0 w:World) (hB:Below w0.heap.size w0 w) (ho0:Kd.R k169 169 w w0.heap.size P0_ u9000_ l0) (h:pq0.f k l0 a1 a2 a3=some r) :
  Calls Tryz.prog 206 #[u9000_,.int .i64 a1,.int .i64 a2,.func (.func 175) #[] #[]] w fun e w'=>e=.returned (.tuple #[])∧Kd.R k169 169 w' w0.heap.size (fun k_=>(P0_ k_∨w.heap.size≤k_)) u9000_ r∧Below w0.heap.size w0 w'∧Kept w w' (fun k_=>P0_ k_):=by
 have hu169:=Tryz.underlying169
 have HO0:=pz4.mk (show Kd.R k169 169 w w0.heap.size (fun k_=>(P0_ k_∨w.heap.size≤k_)) u9000_ l0 from Kd.R_mono ho0 (fun k_ hk=>(.inl hk)))
 have HK:=pz4.mk (Kept.refl w (fun k_=>P0_ k_))
 have HW0:=pz4.mk hB.size
 have HB:=pz4.mk hB
 clear hB
 have H:(pq0.l0 k l0 a1 a2 (wrap64 (a1 + 1)))=some r:=h
 clear h
 have H':=pz4.mk H
 clear H
 go_enter Tryz.func206,Tryz.ntmps206
 go_wp2
 go_loopg [8] k (fun kq v8 w'=>∃ (x0_1:List (S169)) (x8_1:Int),v8=.int .i64 x8_1∧pz4 (pq0.l0 kq x0_1 a1 a2 x8_1=some r)∧pz4 (kq≤k)∧pz4 (Kd.R k169 169 w' w0.heap.size (fun k_=>(P0_ k_∨w.heap.size≤k_)) u9000_ x0_1)∧pz4 (Kept w w' (fun k_=>P0_ k_))∧pz4 (Below w0.heap.size w0 w'))
 case atStart=>exact ⟨(l0),(wrap64 (a1 + 1)),(by first|rfl|(simp;done)|(simp [*];done)),H',⟨Nat.le_refl _⟩,⟨by (with_reducible repeat (first|apply Kd.pz16|apply Kd.pz15|apply Kd.pz19));exact HO0.out⟩,⟨by repeat (first|(with_reducible first|exact HK.out|apply Kept.alloc|apply Kept.drewN|apply Kept.drew)|exact HK.out)⟩,⟨by repeat (first|(with_reducible first|exact HB.out|apply pz3|apply pz1|apply pz2)|exact HB.out)⟩⟩
 case round =>
  clear H'
  obtain ⟨x0_1,x8_1,rfl,HA,HK1,HO_0,HK,HB⟩:=hrel
  cases gk with
  | zero=>exact absurd HA.out (by simp [pq0.l0])
  | succ k1 =>
   have H:=HA.out
   clear HA
   simp only [pq0.l0] at H
   by_cases c5:x8_1<a2
   ·rw [if_pos c5] at H
    have c5b0:decide (x8_1<a2)=true:=decide_eq_true c5
    clear c5
    have H':=pz4.mk H
    clear H
    go_wp2
    go_loopg [9] k1 (fun kq v9 w'=>∃ (x0_2:List (S169)) (x9_2:Int),v9=.int .i64 x9_2∧pz4 (pq0.l1 kq x0_2 a1 a2 x8_1 x9_2=some r)∧pz4 (kq≤k1)∧pz4 (Kd.R k169 169 w' w0.heap.size (fun k_=>(P0_ k_∨w.heap.size≤k_)) u9000_ x0_2)∧pz4 (Kept w w' (fun k_=>P0_ k_))∧pz4 (Below w0.heap.size w0 w'))
    case atStart=>exact ⟨(x0_1),(x8_1),(by first|rfl|(simp;done)|(simp [*];done)),H',⟨Nat.le_refl _⟩,⟨by (with_reducible repeat (first|apply Kd.pz16|apply Kd.pz15|apply Kd.pz19));exact HO_0.out⟩,⟨by repeat (first|(with_reducible first|exact HK.out|apply Kept.alloc|apply Kept.drewN|apply Kept.drew)|exact HK.out)⟩,⟨by repeat (first|(with_reducible first|exact HB.out|apply pz3|apply pz1|apply pz2)|exact HB.out)⟩⟩
    case round =>
     clear H'
     try clear c5;try clear c5b0
     obtain ⟨x0_2,x9_2,rfl,HA,HK2,HO_0,HK,HB⟩:=hrel
     cases gk with
     | zero=>exact absurd HA.out (by simp [pq0.l1])
     | succ k2 =>
      have H:=HA.out
      clear HA
      simp only [pq0.l1] at H
      by_cases c6:x9_2 > a1
      ·rw [if_pos c6] at H
       have c6b0:decide (a1<x9_2)=true:=decide_eq_true c6
       clear c6
       by_cases c7:0≤x9_2
       ·rw [if_pos c7] at H
        have c7b0:decide (0≤x9_2)=true:=decide_eq_true c7
        clear c7
        by_cases c8:x9_2<(x0_2.length:Int)
        ·rw [if_pos c8] at H
         have c8b0:decide (x9_2<(x0_2.length:Int))=true:=decide_eq_true c8
         clear c8
         obtain ⟨ji9,hji9⟩:∃ j_:Int,(wrap64 (x9_2 - 1))=j_:=⟨_,rfl⟩
         replace H:(if 0≤(ji9) then (if (ji9)<(x0_2.length:Int) then ((pq12.f ((rd_T169 x0_2 x9_2).f0) ((rd_T169 x0_2 x9_2).f1) ((rd_T169 x0_2 (ji9)).f0) ((rd_T169 x0_2 (ji9)).f1)).bind fun t211=>(if t211<0 then (pq0.l1 k2 ((x0_2.set (x9_2:Int).toNat (⟨(rd_T169 x0_2 (ji9)).f0,(rd_T169 x0_2 (ji9)).f1⟩:S169)).set ((ji9):Int).toNat (⟨(rd_T169 x0_2 x9_2).f0,(rd_T169 x0_2 x9_2).f1⟩:S169)) a1 a2 x8_1 ji9) else (pq0.l0 k2 x0_2 a1 a2 (wrap64 (x8_1 + 1))))) else (none)) else (none))=some r:=by first|(rw [hji9] at H;exact H)|(simp only [hji9] at H ⊢;exact H)
         have hji9w:(IntKind.i64.wrap (x9_2 - 1))=ji9:=(i64_w _).trans hji9
         by_cases c10:0≤(ji9)
         ·rw [if_pos c10] at H
          have c10b0:decide (0≤(ji9))=true:=decide_eq_true c10
          clear c10
          by_cases c11:(ji9)<(x0_2.length:Int)
          ·rw [if_pos c11] at H
           have c11b0:decide ((ji9)<(x0_2.length:Int))=true:=decide_eq_true c11
           clear c11
           replace H:=Option.bind_eq_some_iff.mp H
           obtain ⟨t211,A120,H⟩:=H
           replace H:(if t211<0 then (pq0.l1 k2 ((x0_2.set (x9_2:Int).toNat (⟨(rd_T169 x0_2 (ji9)).f0,(rd_T169 x0_2 (ji9)).f1⟩:S169)).set ((ji9):Int).toNat (⟨(rd_T169 x0_2 x9_2).f0,(rd_T169 x0_2 x9_2).f1⟩:S169)) a1 a2 x8_1 ji9) else (pq0.l0 k2 x0_2 a1 a2 (wrap64 (x8_1 + 1))))=some r:=H
           have A12:=pz4.mk A120
           clear A120
           by_cases c13:t211<0
           ·rw [if_pos c13] at H
            have c13b0:decide (t211<0)=true:=decide_eq_true c13
            clear c13
            obtain ⟨y214,hy214⟩:∃ y_:List (S169),y_=(x0_2.set (x9_2:Int).toNat (⟨(rd_T169 x0_2 (ji9)).f0,(rd_T169 x0_2 (ji9)).f1⟩:S169)):=⟨_,rfl⟩
            replace H:(pq0.l1 k2 (y214.set ((ji9):Int).toNat (⟨(rd_T169 x0_2 x9_2).f0,(rd_T169 x0_2 x9_2).f1⟩:S169)) a1 a2 x8_1 ji9)=some r:=by first|(rw [hy214];with_reducible exact H)|(have H2_:=(Option.bind_some _ _).symm.trans H;rw [hy214];with_reducible exact H2_)|(have H2_:=(Option.bind_some _ _).symm.trans H;with_reducible exact H2_)|with_reducible exact H|(rw [hy214];exact H)|exact H
            have Ny214:=pz4.mk hy214
            clear hy214
            obtain ⟨y215,hy215⟩:∃ y_:List (S169),y_=(y214.set ((ji9):Int).toNat (⟨(rd_T169 x0_2 x9_2).f0,(rd_T169 x0_2 x9_2).f1⟩:S169)):=⟨_,rfl⟩
            replace H:(pq0.l1 k2 y215 a1 a2 x8_1 ji9)=some r:=by first|(rw [hy215];with_reducible exact H)|(have H2_:=(Option.bind_some _ _).symm.trans H;rw [hy215];with_reducible exact H2_)|(have H2_:=(Option.bind_some _ _).symm.trans H;with_reducible exact H2_)|with_reducible exact H|(rw [hy215];exact H)|exact H
            have Ny215:=pz4.mk hy215
            clear hy215
            have H':=pz4.mk H
            clear H
            try go_wp2
            have n0_:=pz4.mk (Kd.pz19 HO_0.out)
            have n1_:=pz4.mk (Kept.drew HK.out)
            have n2_:=pz4.mk (pz2 HB.out)
            clear HO_0
            clear HK
            clear HB
            have HO_0:=n0_
            have HK:=n1_
            have HB:=n2_
            clear n0_ n1_ n2_
            obtain ⟨Ao17,co17,eo17⟩:=Kd.R_slice HO_0.out
            (first|subst eo17|(injection eo17 with f1_ f2_ f3_;have f4_:=f1_.symm;have f5_:=f3_.symm;clear f1_ f2_ f3_;subst f4_;subst f5_))
            have p209:0≤(x9_2:Int):=of_decide_eq_true (by first|(with_reducible assumption)|assumption)
            have q209:x9_2<(x0_2.length:Int):=of_decide_eq_true (by first|(with_reducible assumption)|assumption)
            obtain ⟨ad209,e209,hx209_0,hx209_1⟩:=at_T169 (Kd.R_reads' HO_0.out).2.2 x9_2 p209 q209
            cases e209
            replace p209:=eq_true p209
            replace q209:=eq_true q209
            have p210:0≤((ji9):Int):=of_decide_eq_true (by first|(with_reducible assumption)|assumption)
            have q210:(ji9)<(x0_2.length:Int):=of_decide_eq_true (by first|(with_reducible assumption)|assumption)
            obtain ⟨ad210,e210,hx210_0,hx210_1⟩:=at_T169 (Kd.R_reads' HO_0.out).2.2 (ji9) p210 q210
            obtain rfl:ad209=ad210:=(by injection e210)
            replace p210:=eq_true p210
            replace q210:=eq_true q210
            refine start_ (n:=17) (S:=fun w'=>w'.cell? (ad209.add ((x9_2).toNat * 2))=some (.string ((rd_T169 x0_2 x9_2).f0))∧w'.cell? ⟨(ad209.add ((x9_2).toNat * 2)).block,(ad209.add ((x9_2).toNat * 2)).off + 1,none⟩=some (.string ((rd_T169 x0_2 x9_2).f1))∧w'.cell? (ad209.add (((ji9)).toNat * 2))=some (.string ((rd_T169 x0_2 (ji9)).f0))∧w'.cell? ⟨(ad209.add (((ji9)).toNat * 2)).block,(ad209.add (((ji9)).toNat * 2)).off + 1,none⟩=some (.string ((rd_T169 x0_2 (ji9)).f1))) (ds:=[]) (ms 17 0) (by kernel_rfl) rfl rfl ⟨hx209_0,hx209_1,hx210_0,hx210_1⟩ (fun hHeld=>?_);refine with_tabW pq0.tab4 pq0.bits4 (fun HT_ HW_=>?_)
            generalize wr.drew=w16 at HO_0 HK HB hx209_0 hx209_1 hx210_0 hx210_1 hHeld ⊢
            iterate 8 (refine pZ ?_ HT_.out rfl rfl (by kernel_rfl) (fun _ _ _=>id) (by rfl) ?_ ?_ ?_ ?_;rotate_left;(intro w';go_simp;with_reducible rfl);rotate_left;(simp only [aP,i64_w,i32_w];rfl))
            refine pT 9 27 ?_ (bm 17 767) HT_.out rfl rfl (by kernel_rfl) (fun _ _ _=>id) (by rfl) ?_ ?_ ?_ ?_;rotate_left;(intro w';go_simp;with_reducible rfl);rotate_left;(simp only [aP,i64_w,i32_w];rfl)
            refine pT 10 28 ?_ (bm 17 1791) HT_.out rfl rfl (by kernel_rfl) (fun _ _ _=>id) (by rfl) ?_ ?_ ?_ ?_;rotate_left;(intro w';go_simp;with_reducible rfl);rotate_left;(simp only [aP,i64_w,i32_w];rfl)
            refine pT 11 29 ?_ (bm 17 3839) HT_.out rfl rfl (by kernel_rfl) (fun _ _ _=>id) (by rfl) ?_ ?_ ?_ ?_;rotate_left;(intro w';go_simp;with_reducible rfl);rotate_left;(simp only [aP,i64_w,i32_w];rfl)
            refine pT 12 30 ?_ (bm 17 7935) HT_.out rfl rfl (by kernel_rfl) (fun _ _ _=>id) (by rfl) ?_ ?_ ?_ ?_;rotate_left;(intro w';go_simp;with_reducible rfl);rotate_left;(simp only [aP,i64_w,i32_w];rfl)
            refine take_ (i:=8) (N:=some 26) (v:=?_) (a':=?_) (ms 17 13) rfl rfl (pz31 HT_.out HW_.out (by kernel_rfl)) (fun _ _ _ h=>h) (Or.inl ⟨by rfl,?_⟩) hHeld ?_ ?_;rotate_left;(rintro w' ⟨s0,s1,s2,s3⟩;go_simp;with_reducible rfl);rotate_left;(simp only [aP,i64_w,i32_w];rfl)
            refine take_ (i:=13) (N:=some 31) (v:=?_) (a':=?_) (ms 17 14) rfl rfl (pz31 HT_.out HW_.out (by kernel_rfl)) (fun _ _ _ h=>h) (Or.inl ⟨by rfl,?_⟩) hHeld ?_ ?_;rotate_left;(rintro w' ⟨s0,s1,s2,s3⟩;go_simp;with_reducible rfl);rotate_left;(simp only [aP,i64_w,i32_w];rfl)
            refine one_ (i:=14) (N:=some 32) (ms 17 15) rfl rfl (one_of HT_.out (by kernel_rfl)) (by decide) (fun K hK=>?_)
            refine goesV_ Tryz.func175 (by kernel_rfl) rfl #[.agg #[.string ((rd_T169 x0_2 x9_2).f0),.string ((rd_T169 x0_2 x9_2).f1)],.agg #[.string ((rd_T169 x0_2 (ji9)).f0),.string ((rd_T169 x0_2 (ji9)).f1)]] (by rfl) rfl ⟨_,rfl,rfl⟩ (by (try simp only [pM]);first|done|(simp only [hji9];rfl)|rfl|(simp only [pL];rfl)) ?_
            with_reducible refine (pq12.calls ((rd_T169 x0_2 x9_2).f0) ((rd_T169 x0_2 x9_2).f1) ((rd_T169 x0_2 (ji9)).f0) ((rd_T169 x0_2 (ji9)).f1) t211 _ A12.out).mono ?_
            rintro e w18 ⟨rfl,hb⟩
            have HS0_:=(hb.cell (World.block_lt_of_cell? _ _ (hHeld.1))).trans (hHeld.1)
            have HS1_:=(hb.cell (World.block_lt_of_cell? _ _ (hHeld.2.1))).trans (hHeld.2.1)
            have HS2_:=(hb.cell (World.block_lt_of_cell? _ _ (hHeld.2.2.1))).trans (hHeld.2.2.1)
            have HS3_:=(hb.cell (World.block_lt_of_cell? _ _ (hHeld.2.2.2))).trans (hHeld.2.2.2)
            refine ⟨_,rfl,?_⟩
            have n0_:=pz4.mk (Kd.R_below (by (with_reducible repeat (first|apply Kd.pz16|apply Kd.pz15|apply Kd.pz19));exact HO_0.out) hb)
            have n1_:=pz4.mk (Kept.below (S:=(fun k_=>P0_ k_)) (by repeat (first|(with_reducible first|exact HK.out|apply Kept.alloc|apply Kept.drewN|apply Kept.drew)|exact HK.out)) hb)
            have n2_:=pz4.mk (pz9 (by repeat (first|(with_reducible first|exact HB.out|apply pz3|apply pz1|apply pz2)|exact HB.out)) hb)
            clear HO_0
            clear HK
            clear HB
            have HO_0:=n0_
            have HK:=n1_
            have HB:=n2_
            clear n0_ n1_ n2_
            (try clear hb)
            (try clear hk)
            refine hK.out _ _ ⟨HS0_,HS1_,HS2_,HS3_⟩ (fun hHeld=>?_)
            clear hK K
            refine norm_ (a':=?_) ?_ ?_
            rotate_left
            ·show Act.put _ (some 32) _=_
             simp only [aP,i64_w,i32_w]
             rfl
            iterate 2 (refine pZ ?_ HT_.out rfl rfl (by kernel_rfl) (fun _ _ _=>id) (by rfl) ?_ ?_ ?_ ?_;rotate_left;(intro w';go_simp;with_reducible rfl);rotate_left;(simp only [aP,i64_w,i32_w];rfl))
            refine done_ (done_of HT_.out (by kernel_rfl)) ?_
            try go_wp2
            have n0_:=pz4.mk (Kd.pz19 HO_0.out)
            have n1_:=pz4.mk (Kept.drew HK.out)
            have n2_:=pz4.mk (pz2 HB.out)
            clear HO_0
            clear HK
            clear HB
            have HO_0:=n0_
            have HK:=n1_
            have HB:=n2_
            clear n0_ n1_ n2_
            have p212:0≤((ji9):Int):=of_decide_eq_true (by first|(with_reducible assumption)|assumption)
            have q212:(ji9)<(x0_2.length:Int):=of_decide_eq_true (by first|(with_reducible assumption)|assumption)
            obtain ⟨ad212,e212,hx212_0,hx212_1⟩:=at_T169 (Kd.R_reads' HO_0.out).2.2 (ji9) p212 q212
            obtain rfl:ad209=ad212:=(by injection e212)
            replace p212:=eq_true p212
            replace q212:=eq_true q212
            have p213:0≤(x9_2:Int):=of_decide_eq_true (by first|(with_reducible assumption)|assumption)
            have q213:x9_2<(x0_2.length:Int):=of_decide_eq_true (by first|(with_reducible assumption)|assumption)
            obtain ⟨ad213,e213,hx213_0,hx213_1⟩:=at_T169 (Kd.R_reads' HO_0.out).2.2 x9_2 p213 q213
            obtain rfl:ad209=ad213:=(by injection e213)
            replace p213:=eq_true p213
            replace q213:=eq_true q213
            have p14:0≤(x9_2:Int):=of_decide_eq_true (by first|(with_reducible assumption)|assumption)
            have q14:(x9_2:Int)<((x0_2.length:Int):Int):=of_decide_eq_true (by first|(with_reducible assumption)|assumption)
            obtain ⟨go14,co14,eo14,gb14,gl14,cl14,HG14⟩:=Kd.R_form HO_0.out (by omega)
            (first|cases eo14|(injection eo14 with ea_ en_ ec_;(first|subst ea_|(injection ea_ with ea_;subst ea_));subst ec_;clear en_))
            have GB14:=pz4.mk gb14
            have GG14:=pz4.mk HG14
            clear gb14 gl14 HG14
            have HMgo14:=pz4.mk (show (P0_ go14∨w.heap.size≤go14) from (HO_0.out.1 _ rfl))
            (first|simp only [add_plain] at hx209_0|skip)
            (first|simp only [add_plain] at hx209_1|skip)
            (first|simp only [add_plain] at hx210_0|skip)
            (first|simp only [add_plain] at hx210_1|skip)
            (first|simp only [add_plain] at hx212_0|skip)
            (first|simp only [add_plain] at hx212_1|skip)
            (first|simp only [add_plain] at hx213_0|skip)
            (first|simp only [add_plain] at hx213_1|skip)
            obtain ⟨ce14,hcl14,hM14,hcc14,hfr14⟩:=Kd.R_elem HO_0.out z169 (x9_2:Int) p14 q14
            obtain rfl:=k169_openM hM14
            have hx14_0:World.cell? _ ⟨go14,(x9_2:Int).toNat * 2,none⟩=some (.string ((rd_T169 x0_2 x9_2).f0)):=hcc14 0 _ rfl
            have hx14_1:World.cell? _ ⟨go14,(x9_2:Int).toNat * 2 + 1,none⟩=some (.string ((rd_T169 x0_2 x9_2).f1)):=hcc14 1 _ rfl
            have hf14_0:World.frozen? _ ⟨go14,(x9_2:Int).toNat * 2,none⟩=false:=hfr14 0
            have hf14_1:World.frozen? _ ⟨go14,(x9_2:Int).toNat * 2 + 1,none⟩=false:=hfr14 1
            clear hcl14 hcc14 hfr14 hM14
            replace p14:=eq_true p14
            replace q14:=eq_true q14
            obtain ⟨ce20,hcl20,hM20,hcc20,hfr20⟩:=Kd.R_elem HO_0.out z169 (x9_2:Int) (of_decide_eq_true (by first|(with_reducible assumption)|assumption)) (by have h_:(x9_2:Int)<((x0_2.length:Int):Int):=of_decide_eq_true (by first|(with_reducible assumption)|assumption);first|exact h_|(have e_:=(Kd.R_reads' HO_0.out).1;omega)|simpa using h_)
            obtain rfl:=k169_openM hM20
            have HP20:=(Kd.R_seg HO_0.out (x9_2:Int) (of_decide_eq_true (by first|(with_reducible assumption)|assumption)) (by have h_:(x9_2:Int)<((x0_2.length:Int):Int):=of_decide_eq_true (by first|(with_reducible assumption)|assumption);first|exact h_|(have e_:=(Kd.R_reads' HO_0.out).1;omega)|simpa using h_) (seg:=[.string ((rd_T169 x0_2 (ji9)).f0),.string ((rd_T169 x0_2 (ji9)).f1)]) (j:=0) hcl20 hcc20 (show 2≤2 from by decide) (x':=(⟨(rd_T169 x0_2 (ji9)).f0,(rd_T169 x0_2 (ji9)).f1⟩:S169)) (k169_mkM _ _ _ (⟨(rd_T169 x0_2 (ji9)).f0,(rd_T169 x0_2 (ji9)).f1⟩:S169) ) (fun _ hk=>hk)).1
            rw [← Ny214.out] at HP20
            have HQ20:=pz4.mk HP20
            clear hcl20 hcc20 hfr20 hM20 HP20
            have p15:0≤((ji9):Int):=of_decide_eq_true (by first|(with_reducible assumption)|assumption)
            have q15:((ji9):Int)<((x0_2.length:Int):Int):=of_decide_eq_true (by first|(with_reducible assumption)|assumption)
            obtain ⟨ce15,hcl15,hM15,hcc15,hfr15⟩:=Kd.R_elem HQ20.out z169 ((ji9):Int) p15 q15
            obtain rfl:=k169_openM hM15
            have hx15_0:World.cell? _ ⟨go14,((ji9):Int).toNat * 2,none⟩=some (.string ((rd_T169 y214 (ji9)).f0)):=hcc15 0 _ rfl
            have hx15_1:World.cell? _ ⟨go14,((ji9):Int).toNat * 2 + 1,none⟩=some (.string ((rd_T169 y214 (ji9)).f1)):=hcc15 1 _ rfl
            have hf15_0:World.frozen? _ ⟨go14,((ji9):Int).toNat * 2,none⟩=false:=hfr15 0
            have hf15_1:World.frozen? _ ⟨go14,((ji9):Int).toNat * 2 + 1,none⟩=false:=hfr15 1
            clear hcl15 hcc15 hfr15 hM15
            replace p15:=eq_true p15
            replace q15:=eq_true q15
            obtain ⟨ce21,hcl21,hM21,hcc21,hfr21⟩:=Kd.R_elem HQ20.out z169 ((ji9):Int) (of_decide_eq_true (by first|(with_reducible assumption)|assumption)) (by have h_:((ji9):Int)<((x0_2.length:Int):Int):=of_decide_eq_true (by first|(with_reducible assumption)|assumption);first|exact h_|(have e_:=(Kd.R_reads' HO_0.out).1;omega)|simpa using h_)
            obtain rfl:=k169_openM hM21
            have HP21:=(Kd.R_seg HQ20.out ((ji9):Int) (of_decide_eq_true (by first|(with_reducible assumption)|assumption)) (by have h_:((ji9):Int)<((x0_2.length:Int):Int):=of_decide_eq_true (by first|(with_reducible assumption)|assumption);first|exact h_|(have e_:=(Kd.R_reads' HO_0.out).1;omega)|simpa using h_) (seg:=[.string ((rd_T169 x0_2 x9_2).f0),.string ((rd_T169 x0_2 x9_2).f1)]) (j:=0) hcl21 hcc21 (show 2≤2 from by decide) (x':=(⟨(rd_T169 x0_2 x9_2).f0,(rd_T169 x0_2 x9_2).f1⟩:S169)) (k169_mkM _ _ _ (⟨(rd_T169 x0_2 x9_2).f0,(rd_T169 x0_2 x9_2).f1⟩:S169) ) (fun _ hk=>hk)).1
            rw [← Ny215.out] at HP21
            have HQ21:=pz4.mk HP21
            clear hcl21 hcc21 hfr21 hM21 HP21
            refine start_ (n:=18) (S:=fun w'=>w'.cell? ⟨go14,(((ji9)).toNat * 2),none⟩=some (.string ((rd_T169 x0_2 (ji9)).f0))∧w'.cell? ⟨go14,(((ji9)).toNat * 2) + 1,none⟩=some (.string ((rd_T169 x0_2 (ji9)).f1))∧w'.cell? ⟨go14,((x9_2).toNat * 2),none⟩=some (.string ((rd_T169 x0_2 x9_2).f0))∧w'.cell? ⟨go14,((x9_2).toNat * 2) + 1,none⟩=some (.string ((rd_T169 x0_2 x9_2).f1))) (ds:=[15,17]) (ms 18 0) (by kernel_rfl) rfl rfl ⟨hx212_0,hx212_1,hx213_0,hx213_1⟩ (fun hHeld=>?_);refine with_tabW pq0.tab6 pq0.bits6 (fun HT_ HW_=>?_)
            generalize w18.drew=w19 at HO_0 HK HB GG14 HQ20 HQ21 hf14_0 hf14_1 hf15_0 hf15_1 hx14_0 hx14_1 hx15_0 hx15_1 hx209_0 hx209_1 hx210_0 hx210_1 hx212_0 hx212_1 hx213_0 hx213_1 hHeld ⊢
            iterate 9 (refine pZ ?_ HT_.out rfl rfl (by kernel_rfl) (fun _ _ _=>id) (by rfl) ?_ ?_ ?_ ?_;rotate_left;(intro w';go_simp;with_reducible rfl);rotate_left;(simp only [aP,i64_w,i32_w];rfl))
            refine pT 10 47 ?_ (bm 18 1535) HT_.out rfl rfl (by kernel_rfl) (fun _ _ _=>id) (by rfl) ?_ ?_ ?_ ?_;rotate_left;(intro w';go_simp;with_reducible rfl);rotate_left;(simp only [aP,i64_w,i32_w];rfl)
            refine pT 11 48 ?_ (bm 18 3583) HT_.out rfl rfl (by kernel_rfl) (fun _ _ _=>id) (by rfl) ?_ ?_ ?_ ?_;rotate_left;(intro w';go_simp;with_reducible rfl);rotate_left;(simp only [aP,i64_w,i32_w];rfl)
            refine pT 12 49 ?_ (bm 18 7679) HT_.out rfl rfl (by kernel_rfl) (fun _ _ _=>id) (by rfl) ?_ ?_ ?_ ?_;rotate_left;(intro w';go_simp;with_reducible rfl);rotate_left;(simp only [aP,i64_w,i32_w];rfl)
            refine take_ (i:=9) (N:=some 46) (v:=?_) (a':=?_) (ms 18 13) rfl rfl (pz31 HT_.out HW_.out (by kernel_rfl)) (fun _ _ _ h=>h) (Or.inl ⟨by rfl,?_⟩) hHeld ?_ ?_;rotate_left;(rintro w' ⟨s0,s1,s2,s3⟩;go_simp;with_reducible rfl);rotate_left;(simp only [aP,i64_w,i32_w];rfl)
            refine take_ (i:=13) (N:=some 50) (v:=?_) (a':=?_) (ms 18 14) rfl rfl (pz31 HT_.out HW_.out (by kernel_rfl)) (fun _ _ _ h=>h) (Or.inl ⟨by rfl,?_⟩) hHeld ?_ ?_;rotate_left;(rintro w' ⟨s0,s1,s2,s3⟩;go_simp;with_reducible rfl);rotate_left;(simp only [aP,i64_w,i32_w];rfl)
            refine pZ ?_ HT_.out rfl rfl (by kernel_rfl) (fun _ _ _=>id) (by rfl) ?_ ?_ ?_ ?_;rotate_left;(intro w';go_simp;with_reducible rfl);rotate_left;(simp only [aP,i64_w,i32_w];rfl)
            refine last_ (i:=15) (N:=none) (ms 18 16) rfl rfl (one_of HT_.out (by kernel_rfl)) (by decide) (fun K hK=>?_)
            refine skip_ (w1:=?_) (by rfl) rfl ?_ ?_
            rotate_left
            ·go_simp
             rfl
            refine hK.out _ _ ?_
            clear hK K
            refine pZ ?_ HT_.out rfl rfl (by kernel_rfl) (fun _ _ _=>id) (by rfl) ?_ ?_ ?_ ?_;rotate_left;(intro w';go_simp;with_reducible rfl);rotate_left;(simp only [aP,i64_w,i32_w];rfl)
            obtain ⟨vy14_0_0,hy14_0_0⟩:=cell?_setCell_some (p:=⟨go14,((x9_2).toNat * 2),none⟩) (x:=(.string ((rd_T169 x0_2 (ji9)).f0))) hx212_0
            have hz14_0:=pz7 GG14.out ((((ji9)).toNat * 2))
            obtain ⟨vy14_1_0,hy14_1_0⟩:=cell?_setCell_some (p:=⟨go14,((x9_2).toNat * 2),none⟩) (x:=(.string ((rd_T169 x0_2 (ji9)).f0))) hx212_1
            obtain ⟨vy14_1_1,hy14_1_1⟩:=cell?_setCell_some (p:=⟨go14,((x9_2).toNat * 2) + 1,none⟩) (x:=(.string ((rd_T169 x0_2 (ji9)).f1))) hy14_1_0
            clear hy14_1_0
            have hz14_1:=pz7 GG14.out ((((ji9)).toNat * 2) + 1)
            refine last_ (i:=17) (N:=none) (ms 18 18) rfl rfl (one_of HT_.out (by kernel_rfl)) (by decide) (fun K hK=>?_)
            refine skip_ (w1:=?_) (by rfl) rfl ?_ ?_
            rotate_left
            ·go_simp
             rfl
            refine hK.out _ _ ?_
            clear hK K
            refine done_ (done_of HT_.out (by kernel_rfl)) ?_
            try go_wp2
            go_roundg k2
            case measure=>have:=HK1.out;have:=HK2.out;omega
            case rel=>exact ⟨(y215),(ji9),(by first|rfl|(simp;done)|(simp only [← hji9] <;> (first|rfl|simp))|(simp [*];done)),H',⟨by have:=HK1.out;have:=HK2.out;omega⟩,⟨by (with_reducible repeat (first|apply Kd.pz16|apply Kd.pz15|apply Kd.pz19));exact HQ21.out⟩,⟨by repeat (first|(with_reducible first|exact HK.out|apply Kept.alloc|apply Kept.drewN|apply Kept.drew|refine Kept.setCell ?_ HMgo14.out _|refine Kept.setCell ?_ HMgo14.out _|refine Kept.setCell ?_ HMgo14.out _|refine Kept.setCell ?_ HMgo14.out _)|exact HK.out)⟩,⟨by repeat (first|(with_reducible first|exact HB.out|apply pz3|apply pz1|apply pz2|refine pz14 ?_ GB14.out|refine pz14 ?_ GB14.out|refine pz14 ?_ GB14.out|refine pz14 ?_ GB14.out)|exact HB.out)⟩⟩
           ·rw [if_neg c13] at H
            have c13b0:decide (t211<0)=false:=decide_eq_false c13
            clear c13
            have H':=pz4.mk H
            clear H
            try go_wp2
            have n0_:=pz4.mk (Kd.pz19 HO_0.out)
            have n1_:=pz4.mk (Kept.drew HK.out)
            have n2_:=pz4.mk (pz2 HB.out)
            clear HO_0
            clear HK
            clear HB
            have HO_0:=n0_
            have HK:=n1_
            have HB:=n2_
            clear n0_ n1_ n2_
            obtain ⟨Ao23,co23,eo23⟩:=Kd.R_slice HO_0.out
            (first|subst eo23|(injection eo23 with f1_ f2_ f3_;have f4_:=f1_.symm;have f5_:=f3_.symm;clear f1_ f2_ f3_;subst f4_;subst f5_))
            have p209:0≤(x9_2:Int):=of_decide_eq_true (by first|(with_reducible assumption)|assumption)
            have q209:x9_2<(x0_2.length:Int):=of_decide_eq_true (by first|(with_reducible assumption)|assumption)
            obtain ⟨ad209,e209,hx209_0,hx209_1⟩:=at_T169 (Kd.R_reads' HO_0.out).2.2 x9_2 p209 q209
            cases e209
            replace p209:=eq_true p209
            replace q209:=eq_true q209
            have p210:0≤((ji9):Int):=of_decide_eq_true (by first|(with_reducible assumption)|assumption)
            have q210:(ji9)<(x0_2.length:Int):=of_decide_eq_true (by first|(with_reducible assumption)|assumption)
            obtain ⟨ad210,e210,hx210_0,hx210_1⟩:=at_T169 (Kd.R_reads' HO_0.out).2.2 (ji9) p210 q210
            obtain rfl:ad209=ad210:=(by injection e210)
            replace p210:=eq_true p210
            replace q210:=eq_true q210
            refine start_ (n:=17) (S:=fun w'=>w'.cell? (ad209.add ((x9_2).toNat * 2))=some (.string ((rd_T169 x0_2 x9_2).f0))∧w'.cell? ⟨(ad209.add ((x9_2).toNat * 2)).block,(ad209.add ((x9_2).toNat * 2)).off + 1,none⟩=some (.string ((rd_T169 x0_2 x9_2).f1))∧w'.cell? (ad209.add (((ji9)).toNat * 2))=some (.string ((rd_T169 x0_2 (ji9)).f0))∧w'.cell? ⟨(ad209.add (((ji9)).toNat * 2)).block,(ad209.add (((ji9)).toNat * 2)).off + 1,none⟩=some (.string ((rd_T169 x0_2 (ji9)).f1))) (ds:=[]) (ms 17 0) (by kernel_rfl) rfl rfl ⟨hx209_0,hx209_1,hx210_0,hx210_1⟩ (fun hHeld=>?_);refine with_tabW pq0.tab4 pq0.bits4 (fun HT_ HW_=>?_)
            generalize wr.drew=w22 at HO_0 HK HB hx209_0 hx209_1 hx210_0 hx210_1 hHeld ⊢
            iterate 8 (refine pZ ?_ HT_.out rfl rfl (by kernel_rfl) (fun _ _ _=>id) (by rfl) ?_ ?_ ?_ ?_;rotate_left;(intro w';go_simp;with_reducible rfl);rotate_left;(simp only [aP,i64_w,i32_w];rfl))
            refine pT 9 27 ?_ (bm 17 767) HT_.out rfl rfl (by kernel_rfl) (fun _ _ _=>id) (by rfl) ?_ ?_ ?_ ?_;rotate_left;(intro w';go_simp;with_reducible rfl);rotate_left;(simp only [aP,i64_w,i32_w];rfl)
            refine pT 10 28 ?_ (bm 17 1791) HT_.out rfl rfl (by kernel_rfl) (fun _ _ _=>id) (by rfl) ?_ ?_ ?_ ?_;rotate_left;(intro w';go_simp;with_reducible rfl);rotate_left;(simp only [aP,i64_w,i32_w];rfl)
            refine pT 11 29 ?_ (bm 17 3839) HT_.out rfl rfl (by kernel_rfl) (fun _ _ _=>id) (by rfl) ?_ ?_ ?_ ?_;rotate_left;(intro w';go_simp;with_reducible rfl);rotate_left;(simp only [aP,i64_w,i32_w];rfl)
            refine pT 12 30 ?_ (bm 17 7935) HT_.out rfl rfl (by kernel_rfl) (fun _ _ _=>id) (by rfl) ?_ ?_ ?_ ?_;rotate_left;(intro w';go_simp;with_reducible rfl);rotate_left;(simp only [aP,i64_w,i32_w];rfl)
            refine take_ (i:=8) (N:=some 26) (v:=?_) (a':=?_) (ms 17 13) rfl rfl (pz31 HT_.out HW_.out (by kernel_rfl)) (fun _ _ _ h=>h) (Or.inl ⟨by rfl,?_⟩) hHeld ?_ ?_;rotate_left;(rintro w' ⟨s0,s1,s2,s3⟩;go_simp;with_reducible rfl);rotate_left;(simp only [aP,i64_w,i32_w];rfl)
            refine take_ (i:=13) (N:=some 31) (v:=?_) (a':=?_) (ms 17 14) rfl rfl (pz31 HT_.out HW_.out (by kernel_rfl)) (fun _ _ _ h=>h) (Or.inl ⟨by rfl,?_⟩) hHeld ?_ ?_;rotate_left;(rintro w' ⟨s0,s1,s2,s3⟩;go_simp;with_reducible rfl);rotate_left;(simp only [aP,i64_w,i32_w];rfl)
            refine one_ (i:=14) (N:=some 32) (ms 17 15) rfl rfl (one_of HT_.out (by kernel_rfl)) (by decide) (fun K hK=>?_)
            refine goesV_ Tryz.func175 (by kernel_rfl) rfl #[.agg #[.string ((rd_T169 x0_2 x9_2).f0),.string ((rd_T169 x0_2 x9_2).f1)],.agg #[.string ((rd_T169 x0_2 (ji9)).f0),.string ((rd_T169 x0_2 (ji9)).f1)]] (by rfl) rfl ⟨_,rfl,rfl⟩ (by (try simp only [pM]);first|done|(simp only [hji9];rfl)|rfl|(simp only [pL];rfl)) ?_
            with_reducible refine (pq12.calls ((rd_T169 x0_2 x9_2).f0) ((rd_T169 x0_2 x9_2).f1) ((rd_T169 x0_2 (ji9)).f0) ((rd_T169 x0_2 (ji9)).f1) t211 _ A12.out).mono ?_
            rintro e w24 ⟨rfl,hb⟩
            have HS0_:=(hb.cell (World.block_lt_of_cell? _ _ (hHeld.1))).trans (hHeld.1)
            have HS1_:=(hb.cell (World.block_lt_of_cell? _ _ (hHeld.2.1))).trans (hHeld.2.1)
            have HS2_:=(hb.cell (World.block_lt_of_cell? _ _ (hHeld.2.2.1))).trans (hHeld.2.2.1)
            have HS3_:=(hb.cell (World.block_lt_of_cell? _ _ (hHeld.2.2.2))).trans (hHeld.2.2.2)
            refine ⟨_,rfl,?_⟩
            have n0_:=pz4.mk (Kd.R_below (by (with_reducible repeat (first|apply Kd.pz16|apply Kd.pz15|apply Kd.pz19));exact HO_0.out) hb)
            have n1_:=pz4.mk (Kept.below (S:=(fun k_=>P0_ k_)) (by repeat (first|(with_reducible first|exact HK.out|apply Kept.alloc|apply Kept.drewN|apply Kept.drew)|exact HK.out)) hb)
            have n2_:=pz4.mk (pz9 (by repeat (first|(with_reducible first|exact HB.out|apply pz3|apply pz1|apply pz2)|exact HB.out)) hb)
            clear HO_0
            clear HK
            clear HB
            have HO_0:=n0_
            have HK:=n1_
            have HB:=n2_
            clear n0_ n1_ n2_
            (try clear hb)
            (try clear hk)
            refine hK.out _ _ ⟨HS0_,HS1_,HS2_,HS3_⟩ (fun hHeld=>?_)
            clear hK K
            refine norm_ (a':=?_) ?_ ?_
            rotate_left
            ·show Act.put _ (some 32) _=_
             simp only [aP,i64_w,i32_w]
             rfl
            iterate 2 (refine pZ ?_ HT_.out rfl rfl (by kernel_rfl) (fun _ _ _=>id) (by rfl) ?_ ?_ ?_ ?_;rotate_left;(intro w';go_simp;with_reducible rfl);rotate_left;(simp only [aP,i64_w,i32_w];rfl))
            refine done_ (done_of HT_.out (by kernel_rfl)) ?_
            try go_wp2
            go_roundg k2
            case measure=>have:=HK1.out;have:=HK2.out;omega
            case rel=>exact ⟨(x0_2),(wrap64 (x8_1 + 1)),(by first|rfl|(simp;done)|(simp [*];done)),H',⟨by have:=HK1.out;have:=HK2.out;omega⟩,⟨by (with_reducible repeat (first|apply Kd.pz16|apply Kd.pz15|apply Kd.pz19));exact HO_0.out⟩,⟨by repeat (first|(with_reducible first|exact HK.out|apply Kept.alloc|apply Kept.drewN|apply Kept.drew)|exact HK.out)⟩,⟨by repeat (first|(with_reducible first|exact HB.out|apply pz3|apply pz1|apply pz2)|exact HB.out)⟩⟩
          ·rw [if_neg c11] at H
           exact absurd H (by simp)
         ·rw [if_neg c10] at H
          exact absurd H (by simp)
        ·rw [if_neg c8] at H
         exact absurd H (by simp)
       ·rw [if_neg c7] at H
        exact absurd H (by simp)
      ·rw [if_neg c6] at H
       have c6b0:decide (a1<x9_2)=false:=decide_eq_false c6
       clear c6
       have H':=pz4.mk H
       clear H
       try go_wp2
       have n0_:=pz4.mk (Kd.pz19 HO_0.out)
       have n1_:=pz4.mk (Kept.drew HK.out)
       have n2_:=pz4.mk (pz2 HB.out)
       clear HO_0
       clear HK
       clear HB
       have HO_0:=n0_
       have HK:=n1_
       have HB:=n2_
       clear n0_ n1_ n2_
       refine start_ (n:=17) (S:=fun w'=>True) (ds:=[]) (ms 17 0) (by kernel_rfl) rfl rfl trivial (fun hHeld=>?_);refine with_tabW pq0.tab4 pq0.bits4 (fun HT_ HW_=>?_)
       generalize wr.drew=w25 at HO_0 HK HB hHeld ⊢
       iterate 4 (refine pZ ?_ HT_.out rfl rfl (by kernel_rfl) (fun _ _ _=>id) (by rfl) ?_ ?_ ?_ ?_;rotate_left;(intro w';go_simp;with_reducible rfl);rotate_left;(simp only [aP,i64_w,i32_w];rfl))
       refine pN 4 22 (ms 17 5) rfl rfl (any_of HT_.out (by kernel_rfl)) (fun _ _ _=>id) (by rfl) ?_ ?_ ?_;rotate_left;(simp only [aP,i64_w,i32_w];rfl)
       refine pN 5 23 (ms 17 6) rfl rfl (any_of HT_.out (by kernel_rfl)) (fun _ _ _=>id) (by rfl) ?_ ?_ ?_;rotate_left;(simp only [aP,i64_w,i32_w];rfl)
       refine pN 6 24 (ms 17 7) rfl rfl (any_of HT_.out (by kernel_rfl)) (fun _ _ _=>id) (by rfl) ?_ ?_ ?_;rotate_left;(simp only [aP,i64_w,i32_w];rfl)
       refine pN 7 25 (ms 17 8) rfl rfl (any_of HT_.out (by kernel_rfl)) (fun _ _ _=>id) (by rfl) ?_ ?_ ?_;rotate_left;(simp only [aP,i64_w,i32_w];rfl)
       refine pN 8 26 (ms 17 9) rfl rfl (any_of HT_.out (by kernel_rfl)) (fun _ _ _=>id) (by rfl) ?_ ?_ ?_;rotate_left;(simp only [aP,i64_w,i32_w];rfl)
       refine pN 9 27 (ms 17 10) rfl rfl (any_of HT_.out (by kernel_rfl)) (fun _ _ _=>id) (by rfl) ?_ ?_ ?_;rotate_left;(simp only [aP,i64_w,i32_w];rfl)
       refine pN 10 28 (ms 17 11) rfl rfl (any_of HT_.out (by kernel_rfl)) (fun _ _ _=>id) (by rfl) ?_ ?_ ?_;rotate_left;(simp only [aP,i64_w,i32_w];rfl)
       refine pN 11 29 (ms 17 12) rfl rfl (any_of HT_.out (by kernel_rfl)) (fun _ _ _=>id) (by rfl) ?_ ?_ ?_;rotate_left;(simp only [aP,i64_w,i32_w];rfl)
       refine pN 12 30 (ms 17 13) rfl rfl (any_of HT_.out (by kernel_rfl)) (fun _ _ _=>id) (by rfl) ?_ ?_ ?_;rotate_left;(simp only [aP,i64_w,i32_w];rfl)
       refine pN 13 31 (ms 17 14) rfl rfl (any_of HT_.out (by kernel_rfl)) (fun _ _ _=>id) (by rfl) ?_ ?_ ?_;rotate_left;(simp only [aP,i64_w,i32_w];rfl)
       refine pN 14 32 (ms 17 15) rfl rfl (any_of HT_.out (by kernel_rfl)) (fun _ _ _=>id) (by rfl) ?_ ?_ ?_;rotate_left;(simp only [aP,i64_w,i32_w];rfl)
       refine pN 15 33 (ms 17 16) rfl rfl (any_of HT_.out (by kernel_rfl)) (fun _ _ _=>id) (by rfl) ?_ ?_ ?_;rotate_left;(simp only [aP,i64_w,i32_w];rfl)
       refine pZ ?_ HT_.out rfl rfl (by kernel_rfl) (fun _ _ _=>id) (by rfl) ?_ ?_ ?_ ?_;rotate_left;(intro w';go_simp;with_reducible rfl);rotate_left;(simp only [aP,i64_w,i32_w];rfl)
       refine done_ (done_of HT_.out (by kernel_rfl)) ?_
       try go_wp2
       go_roundg k2
       case measure=>have:=HK1.out;have:=HK2.out;omega
       case rel=>exact ⟨(x0_2),(wrap64 (x8_1 + 1)),(by first|rfl|(simp;done)|(simp [*];done)),H',⟨by have:=HK1.out;have:=HK2.out;omega⟩,⟨by (with_reducible repeat (first|apply Kd.pz16|apply Kd.pz15|apply Kd.pz19));exact HO_0.out⟩,⟨by repeat (first|(with_reducible first|exact HK.out|apply Kept.alloc|apply Kept.drewN|apply Kept.drew)|exact HK.out)⟩,⟨by repeat (first|(with_reducible first|exact HB.out|apply pz3|apply pz1|apply pz2)|exact HB.out)⟩⟩
   ·rw [if_neg c5] at H
    have c5b0:decide (x8_1<a2)=false:=decide_eq_false c5
    clear c5
    obtain rfl:=Option.some.inj H
    go_wp2
    first|go_end0|((try simp only [Exit.inBlock,Exit.then]);refine bodyPost_ret (results_none rfl _ _ _) rfl ?_)
    exact ⟨by first|rfl|(simp [pz6,pz5] <;> rfl)|(simp [*,pz6,pz5] <;> rfl),by (with_reducible repeat (first|apply Kd.pz16|apply Kd.pz15|apply Kd.pz19));exact HO_0.out,by repeat (first|(with_reducible first|exact HB.out|apply pz3|apply pz1|apply pz2)|exact HB.out),by repeat (first|(with_reducible first|exact HK.out|apply Kept.alloc|apply Kept.drewN|apply Kept.drew)|exact HK.out)⟩
def pq3.l0:Nat→List (S169)→Int→Int→Int→Int→Option ((List (S169)))
 | 0,_,_,_,_,_=>none
 | k + 1,x0,x1,x2,x3,x10=>if x10<x3 then (if 0≤(wrap64 (x2 + x10)) then (if (wrap64 (x2 + x10))<(x0.length:Int) then (if 0≤(wrap64 (x1 + x10)) then (if (wrap64 (x1 + x10))<(x0.length:Int) then (pq3.l0 k ((x0.set ((wrap64 (x1 + x10)):Int).toNat (⟨(rd_T169 x0 (wrap64 (x2 + x10))).f0,(rd_T169 x0 (wrap64 (x2 + x10))).f1⟩:S169)).set ((wrap64 (x2 + x10)):Int).toNat (⟨(rd_T169 x0 (wrap64 (x1 + x10))).f0,(rd_T169 x0 (wrap64 (x1 + x10))).f1⟩:S169)) x1 x2 x3 (wrap64 (x10 + 1))) else (none)) else (none)) else (none)) else (none)) else (some x0)
def pq3.f (k:Nat) (l0:List (S169)) (a1:Int) (a2:Int) (a3:Int) (a4:Unit):Option ((List (S169))):=pq3.l0 k l0 a1 a2 a3 0
def pq3.T3:Bool×List (List Nat×List Nat):=(true,[([],[]),([],[]),([],[]),([1,2],[1,2]),([],[]),([],[]),([],[]),([5,6],[5,6]),([],[]),([],[]),([],[]),([9,10],[9,10]),([8,11],[8,11]),([12],[12]),([],[]),([],[]),([],[]),([15,16],[15,16]),([14,17],[14,17]),([18],[18]),([0,3,0,1,2,3,8,9,10,11,12,13,19],[0,3]),([20,13,0,1,2,3,8,9,10,11,12,13,19],[13,20]),([4,7,0,1,2,3,4,5,6,7,8,9,10,11,12,13,14,15,16,17,18,19,20,21],[4,7]),([22,19,21,0,1,2,3,4,5,6,7,8,9,10,11,12,13,14,15,16,17,18,19,20,21],[19,22])])
def pq3.B3:List Nat:=[0,0,0,6,0,0,0,96,0,0,0,1536,3840,7936,0,0,0,98304,245760,507904,1048335,2096911,4194303,8388607]
theorem pq3.tab3:rtab .any (opsOf Tryz.f227 3)=pq3.T3:=by kernel_rfl
theorem pq3.bits3:waitsOk pq3.T3.2 pq3.B3=true:=by kernel_rfl
set_option maxHeartbeats 8000000 in
set_option maxRecDepth 100000 in
theorem pq3.calls (k:Nat) (P0_:Nat→Prop) (u9000_:Value) (l0:List (S169)) (a1:Int) (a2:Int) (a3:Int) (a4:Unit) (r:List (S169)) (w0 w:World) (hB:Below w0.heap.size w0 w) (ho0:Kd.R k169 169 w w0.heap.size P0_ u9000_ l0) (h:pq3.f k l0 a1 a2 a3 a4=some r) :
  Calls Tryz.prog 227 #[u9000_,.int .i64 a1,.int .i64 a2,.int .i64 a3,.func (.func 175) #[] #[]] w fun e w'=>e=.returned (.tuple #[])∧Kd.R k169 169 w' w0.heap.size (fun k_=>(P0_ k_∨w.heap.size≤k_)) u9000_ r∧Below w0.heap.size w0 w'∧Kept w w' (fun k_=>P0_ k_):=by
 have hu169:=Tryz.underlying169
 have HO0:=pz4.mk (show Kd.R k169 169 w w0.heap.size (fun k_=>(P0_ k_∨w.heap.size≤k_)) u9000_ l0 from Kd.R_mono ho0 (fun k_ hk=>(.inl hk)))
 have HK:=pz4.mk (Kept.refl w (fun k_=>P0_ k_))
 have HW0:=pz4.mk hB.size
 have HB:=pz4.mk hB
 clear hB
 have H:(pq3.l0 k l0 a1 a2 a3 0)=some r:=h
 clear h
 have H':=pz4.mk H
 clear H
 go_enter Tryz.func227,Tryz.ntmps227
 go_wp2
 go_loopg [10] k (fun kq v10 w'=>∃ (x0_1:List (S169)) (x10_1:Int),v10=.int .i64 x10_1∧pz4 (pq3.l0 kq x0_1 a1 a2 a3 x10_1=some r)∧pz4 (kq≤k)∧pz4 (Kd.R k169 169 w' w0.heap.size (fun k_=>(P0_ k_∨w.heap.size≤k_)) u9000_ x0_1)∧pz4 (Kept w w' (fun k_=>P0_ k_))∧pz4 (Below w0.heap.size w0 w'))
 case atStart=>exact ⟨(l0),(0),(by first|rfl|(simp;done)|(simp [*];done)),H',⟨Nat.le_refl _⟩,⟨by (with_reducible repeat (first|apply Kd.pz16|apply Kd.pz15|apply Kd.pz19));exact HO0.out⟩,⟨by repeat (first|(with_reducible first|exact HK.out|apply Kept.alloc|apply Kept.drewN|apply Kept.drew)|exact HK.out)⟩,⟨by repeat (first|(with_reducible first|exact HB.out|apply pz3|apply pz1|apply pz2)|exact HB.out)⟩⟩
 case round =>
  clear H'
  obtain ⟨x0_1,x10_1,rfl,HA,HK1,HO_0,HK,HB⟩:=hrel
  cases gk with
  | zero=>exact absurd HA.out (by simp [pq3.l0])
  | succ k1 =>
   have H:=HA.out
   clear HA
   simp only [pq3.l0] at H
   by_cases c6:x10_1<a3
   ·rw [if_pos c6] at H
    have c6b0:decide (x10_1<a3)=true:=decide_eq_true c6
    clear c6
    obtain ⟨ji7,hji7⟩:∃ j_:Int,(wrap64 (a2 + x10_1))=j_:=⟨_,rfl⟩
    replace H:(if 0≤(ji7) then (if (ji7)<(x0_1.length:Int) then (if 0≤(wrap64 (a1 + x10_1)) then (if (wrap64 (a1 + x10_1))<(x0_1.length:Int) then (pq3.l0 k1 ((x0_1.set ((wrap64 (a1 + x10_1)):Int).toNat (⟨(rd_T169 x0_1 (ji7)).f0,(rd_T169 x0_1 (ji7)).f1⟩:S169)).set ((ji7):Int).toNat (⟨(rd_T169 x0_1 (wrap64 (a1 + x10_1))).f0,(rd_T169 x0_1 (wrap64 (a1 + x10_1))).f1⟩:S169)) a1 a2 a3 (wrap64 (x10_1 + 1))) else (none)) else (none)) else (none)) else (none))=some r:=by first|(rw [hji7] at H;exact H)|(simp only [hji7] at H ⊢;exact H)
    have hji7w:(IntKind.i64.wrap (a2 + x10_1))=ji7:=(i64_w _).trans hji7
    by_cases c8:0≤(ji7)
    ·rw [if_pos c8] at H
     have c8b0:decide (0≤(ji7))=true:=decide_eq_true c8
     clear c8
     by_cases c9:(ji7)<(x0_1.length:Int)
     ·rw [if_pos c9] at H
      have c9b0:decide ((ji7)<(x0_1.length:Int))=true:=decide_eq_true c9
      clear c9
      obtain ⟨ji10,hji10⟩:∃ j_:Int,(wrap64 (a1 + x10_1))=j_:=⟨_,rfl⟩
      replace H:(if 0≤(ji10) then (if (ji10)<(x0_1.length:Int) then (pq3.l0 k1 ((x0_1.set ((ji10):Int).toNat (⟨(rd_T169 x0_1 (ji7)).f0,(rd_T169 x0_1 (ji7)).f1⟩:S169)).set ((ji7):Int).toNat (⟨(rd_T169 x0_1 (ji10)).f0,(rd_T169 x0_1 (ji10)).f1⟩:S169)) a1 a2 a3 (wrap64 (x10_1 + 1))) else (none)) else (none))=some r:=by first|(rw [hji10] at H;exact H)|(simp only [hji10] at H ⊢;exact H)
      have hji10w:(IntKind.i64.wrap (a1 + x10_1))=ji10:=(i64_w _).trans hji10
      by_cases c11:0≤(ji10)
      ·rw [if_pos c11] at H
       have c11b0:decide (0≤(ji10))=true:=decide_eq_true c11
       clear c11
       by_cases c12:(ji10)<(x0_1.length:Int)
       ·rw [if_pos c12] at H
        have c12b0:decide ((ji10)<(x0_1.length:Int))=true:=decide_eq_true c12
        clear c12
        obtain ⟨y218,hy218⟩:∃ y_:List (S169),y_=(x0_1.set ((ji10):Int).toNat (⟨(rd_T169 x0_1 (ji7)).f0,(rd_T169 x0_1 (ji7)).f1⟩:S169)):=⟨_,rfl⟩
        replace H:(pq3.l0 k1 (y218.set ((ji7):Int).toNat (⟨(rd_T169 x0_1 (ji10)).f0,(rd_T169 x0_1 (ji10)).f1⟩:S169)) a1 a2 a3 (wrap64 (x10_1 + 1)))=some r:=by first|(rw [hy218];with_reducible exact H)|(have H2_:=(Option.bind_some _ _).symm.trans H;rw [hy218];with_reducible exact H2_)|(have H2_:=(Option.bind_some _ _).symm.trans H;with_reducible exact H2_)|with_reducible exact H|(rw [hy218];exact H)|exact H
        have Ny218:=pz4.mk hy218
        clear hy218
        obtain ⟨y219,hy219⟩:∃ y_:List (S169),y_=(y218.set ((ji7):Int).toNat (⟨(rd_T169 x0_1 (ji10)).f0,(rd_T169 x0_1 (ji10)).f1⟩:S169)):=⟨_,rfl⟩
        replace H:(pq3.l0 k1 y219 a1 a2 a3 (wrap64 (x10_1 + 1)))=some r:=by first|(rw [hy219];with_reducible exact H)|(have H2_:=(Option.bind_some _ _).symm.trans H;rw [hy219];with_reducible exact H2_)|(have H2_:=(Option.bind_some _ _).symm.trans H;with_reducible exact H2_)|with_reducible exact H|(rw [hy219];exact H)|exact H
        have Ny219:=pz4.mk hy219
        clear hy219
        have H':=pz4.mk H
        clear H
        try go_wp2
        have n0_:=pz4.mk (Kd.pz19 HO_0.out)
        have n1_:=pz4.mk (Kept.drew HK.out)
        have n2_:=pz4.mk (pz2 HB.out)
        clear HO_0
        clear HK
        clear HB
        have HO_0:=n0_
        have HK:=n1_
        have HB:=n2_
        clear n0_ n1_ n2_
        obtain ⟨Ao16,co16,eo16⟩:=Kd.R_slice HO_0.out
        (first|subst eo16|(injection eo16 with f1_ f2_ f3_;have f4_:=f1_.symm;have f5_:=f3_.symm;clear f1_ f2_ f3_;subst f4_;subst f5_))
        have p216:0≤((ji7):Int):=of_decide_eq_true (by first|(with_reducible assumption)|assumption)
        have q216:(ji7)<(x0_1.length:Int):=of_decide_eq_true (by first|(with_reducible assumption)|assumption)
        obtain ⟨ad216,e216,hx216_0,hx216_1⟩:=at_T169 (Kd.R_reads' HO_0.out).2.2 (ji7) p216 q216
        cases e216
        replace p216:=eq_true p216
        replace q216:=eq_true q216
        have p217:0≤((ji10):Int):=of_decide_eq_true (by first|(with_reducible assumption)|assumption)
        have q217:(ji10)<(x0_1.length:Int):=of_decide_eq_true (by first|(with_reducible assumption)|assumption)
        obtain ⟨ad217,e217,hx217_0,hx217_1⟩:=at_T169 (Kd.R_reads' HO_0.out).2.2 (ji10) p217 q217
        obtain rfl:ad216=ad217:=(by injection e217)
        replace p217:=eq_true p217
        replace q217:=eq_true q217
        have p13:0≤((ji10):Int):=of_decide_eq_true (by first|(with_reducible assumption)|assumption)
        have q13:((ji10):Int)<((x0_1.length:Int):Int):=of_decide_eq_true (by first|(with_reducible assumption)|assumption)
        obtain ⟨go13,co13,eo13,gb13,gl13,cl13,HG13⟩:=Kd.R_form HO_0.out (by omega)
        (first|cases eo13|(injection eo13 with ea_ en_ ec_;(first|subst ea_|(injection ea_ with ea_;subst ea_));subst ec_;clear en_))
        have GB13:=pz4.mk gb13
        have GG13:=pz4.mk HG13
        clear gb13 gl13 HG13
        have HMgo13:=pz4.mk (show (P0_ go13∨w.heap.size≤go13) from (HO_0.out.1 _ rfl))
        (first|simp only [add_plain] at hx216_0|skip)
        (first|simp only [add_plain] at hx216_1|skip)
        (first|simp only [add_plain] at hx217_0|skip)
        (first|simp only [add_plain] at hx217_1|skip)
        obtain ⟨ce13,hcl13,hM13,hcc13,hfr13⟩:=Kd.R_elem HO_0.out z169 ((ji10):Int) p13 q13
        obtain rfl:=k169_openM hM13
        have hx13_0:World.cell? _ ⟨go13,((ji10):Int).toNat * 2,none⟩=some (.string ((rd_T169 x0_1 (ji10)).f0)):=hcc13 0 _ rfl
        have hx13_1:World.cell? _ ⟨go13,((ji10):Int).toNat * 2 + 1,none⟩=some (.string ((rd_T169 x0_1 (ji10)).f1)):=hcc13 1 _ rfl
        have hf13_0:World.frozen? _ ⟨go13,((ji10):Int).toNat * 2,none⟩=false:=hfr13 0
        have hf13_1:World.frozen? _ ⟨go13,((ji10):Int).toNat * 2 + 1,none⟩=false:=hfr13 1
        clear hcl13 hcc13 hfr13 hM13
        replace p13:=eq_true p13
        replace q13:=eq_true q13
        obtain ⟨ce17,hcl17,hM17,hcc17,hfr17⟩:=Kd.R_elem HO_0.out z169 ((ji10):Int) (of_decide_eq_true (by first|(with_reducible assumption)|assumption)) (by have h_:((ji10):Int)<((x0_1.length:Int):Int):=of_decide_eq_true (by first|(with_reducible assumption)|assumption);first|exact h_|(have e_:=(Kd.R_reads' HO_0.out).1;omega)|simpa using h_)
        obtain rfl:=k169_openM hM17
        have HP17:=(Kd.R_seg HO_0.out ((ji10):Int) (of_decide_eq_true (by first|(with_reducible assumption)|assumption)) (by have h_:((ji10):Int)<((x0_1.length:Int):Int):=of_decide_eq_true (by first|(with_reducible assumption)|assumption);first|exact h_|(have e_:=(Kd.R_reads' HO_0.out).1;omega)|simpa using h_) (seg:=[.string ((rd_T169 x0_1 (ji7)).f0),.string ((rd_T169 x0_1 (ji7)).f1)]) (j:=0) hcl17 hcc17 (show 2≤2 from by decide) (x':=(⟨(rd_T169 x0_1 (ji7)).f0,(rd_T169 x0_1 (ji7)).f1⟩:S169)) (k169_mkM _ _ _ (⟨(rd_T169 x0_1 (ji7)).f0,(rd_T169 x0_1 (ji7)).f1⟩:S169) ) (fun _ hk=>hk)).1
        rw [← Ny218.out] at HP17
        have HQ17:=pz4.mk HP17
        clear hcl17 hcc17 hfr17 hM17 HP17
        have p14:0≤((ji7):Int):=of_decide_eq_true (by first|(with_reducible assumption)|assumption)
        have q14:((ji7):Int)<((x0_1.length:Int):Int):=of_decide_eq_true (by first|(with_reducible assumption)|assumption)
        obtain ⟨ce14,hcl14,hM14,hcc14,hfr14⟩:=Kd.R_elem HQ17.out z169 ((ji7):Int) p14 q14
        obtain rfl:=k169_openM hM14
        have hx14_0:World.cell? _ ⟨go13,((ji7):Int).toNat * 2,none⟩=some (.string ((rd_T169 y218 (ji7)).f0)):=hcc14 0 _ rfl
        have hx14_1:World.cell? _ ⟨go13,((ji7):Int).toNat * 2 + 1,none⟩=some (.string ((rd_T169 y218 (ji7)).f1)):=hcc14 1 _ rfl
        have hf14_0:World.frozen? _ ⟨go13,((ji7):Int).toNat * 2,none⟩=false:=hfr14 0
        have hf14_1:World.frozen? _ ⟨go13,((ji7):Int).toNat * 2 + 1,none⟩=false:=hfr14 1
        clear hcl14 hcc14 hfr14 hM14
        replace p14:=eq_true p14
        replace q14:=eq_true q14
        obtain ⟨ce18,hcl18,hM18,hcc18,hfr18⟩:=Kd.R_elem HQ17.out z169 ((ji7):Int) (of_decide_eq_true (by first|(with_reducible assumption)|assumption)) (by have h_:((ji7):Int)<((x0_1.length:Int):Int):=of_decide_eq_true (by first|(with_reducible assumption)|assumption);first|exact h_|(have e_:=(Kd.R_reads' HO_0.out).1;omega)|simpa using h_)
        obtain rfl:=k169_openM hM18
        have HP18:=(Kd.R_seg HQ17.out ((ji7):Int) (of_decide_eq_true (by first|(with_reducible assumption)|assumption)) (by have h_:((ji7):Int)<((x0_1.length:Int):Int):=of_decide_eq_true (by first|(with_reducible assumption)|assumption);first|exact h_|(have e_:=(Kd.R_reads' HO_0.out).1;omega)|simpa using h_) (seg:=[.string ((rd_T169 x0_1 (ji10)).f0),.string ((rd_T169 x0_1 (ji10)).f1)]) (j:=0) hcl18 hcc18 (show 2≤2 from by decide) (x':=(⟨(rd_T169 x0_1 (ji10)).f0,(rd_T169 x0_1 (ji10)).f1⟩:S169)) (k169_mkM _ _ _ (⟨(rd_T169 x0_1 (ji10)).f0,(rd_T169 x0_1 (ji10)).f1⟩:S169) ) (fun _ hk=>hk)).1
        rw [← Ny219.out] at HP18
        have HQ18:=pz4.mk HP18
        clear hcl18 hcc18 hfr18 hM18 HP18
        refine start_ (n:=24) (S:=fun w'=>w'.cell? ⟨go13,(((ji7)).toNat * 2),none⟩=some (.string ((rd_T169 x0_1 (ji7)).f0))∧w'.cell? ⟨go13,(((ji7)).toNat * 2) + 1,none⟩=some (.string ((rd_T169 x0_1 (ji7)).f1))∧w'.cell? ⟨go13,(((ji10)).toNat * 2),none⟩=some (.string ((rd_T169 x0_1 (ji10)).f0))∧w'.cell? ⟨go13,(((ji10)).toNat * 2) + 1,none⟩=some (.string ((rd_T169 x0_1 (ji10)).f1))) (ds:=[21,23]) (ms 24 0) (by kernel_rfl) rfl rfl ⟨hx216_0,hx216_1,hx217_0,hx217_1⟩ (fun hHeld=>?_);refine with_tabW pq3.tab3 pq3.bits3 (fun HT_ HW_=>?_)
        generalize wr.drew=w15 at HO_0 HK HB GG13 HQ17 HQ18 hf13_0 hf13_1 hf14_0 hf14_1 hx13_0 hx13_1 hx14_0 hx14_1 hx216_0 hx216_1 hx217_0 hx217_1 hHeld ⊢
        iterate 13 (refine pZ ?_ HT_.out rfl rfl (by kernel_rfl) (fun _ _ _=>id) (by rfl) ?_ ?_ ?_ ?_;rotate_left;(intro w';go_simp;with_reducible rfl);rotate_left;(simp only [aP,i64_w,i32_w];rfl))
        refine pT 14 30 ?_ (bm 24 24575) HT_.out rfl rfl (by kernel_rfl) (fun _ _ _=>id) (by rfl) ?_ ?_ ?_ ?_;rotate_left;(intro w';go_simp;with_reducible rfl);rotate_left;(simp only [aP,i64_w,i32_w];rfl)
        refine pT 15 31 ?_ (bm 24 57343) HT_.out rfl rfl (by kernel_rfl) (fun _ _ _=>id) (by rfl) ?_ ?_ ?_ ?_;rotate_left;(intro w';go_simp;with_reducible rfl);rotate_left;(simp only [aP,i64_w,i32_w];rfl)
        refine pT 16 32 ?_ (bm 24 122879) HT_.out rfl rfl (by kernel_rfl) (fun _ _ _=>id) (by rfl) ?_ ?_ ?_ ?_;rotate_left;(intro w';go_simp;with_reducible rfl);rotate_left;(simp only [aP,i64_w,i32_w];rfl)
        refine pT 17 33 ?_ (bm 24 253951) HT_.out rfl rfl (by kernel_rfl) (fun _ _ _=>id) (by rfl) ?_ ?_ ?_ ?_;rotate_left;(intro w';go_simp;with_reducible rfl);rotate_left;(simp only [aP,i64_w,i32_w];rfl)
        refine pT 18 34 ?_ (bm 24 516095) HT_.out rfl rfl (by kernel_rfl) (fun _ _ _=>id) (by rfl) ?_ ?_ ?_ ?_;rotate_left;(intro w';go_simp;with_reducible rfl);rotate_left;(simp only [aP,i64_w,i32_w];rfl)
        refine take_ (i:=13) (N:=some 29) (v:=?_) (a':=?_) (ms 24 19) rfl rfl (pz31 HT_.out HW_.out (by kernel_rfl)) (fun _ _ _ h=>h) (Or.inl ⟨by rfl,?_⟩) hHeld ?_ ?_;rotate_left;(rintro w' ⟨s0,s1,s2,s3⟩;go_simp;with_reducible rfl);rotate_left;(simp only [aP,i64_w,i32_w];rfl)
        refine take_ (i:=19) (N:=some 35) (v:=?_) (a':=?_) (ms 24 20) rfl rfl (pz31 HT_.out HW_.out (by kernel_rfl)) (fun _ _ _ h=>h) (Or.inl ⟨by rfl,?_⟩) hHeld ?_ ?_;rotate_left;(rintro w' ⟨s0,s1,s2,s3⟩;go_simp;with_reducible rfl);rotate_left;(simp only [aP,i64_w,i32_w];rfl)
        refine pZ ?_ HT_.out rfl rfl (by kernel_rfl) (fun _ _ _=>id) (by rfl) ?_ ?_ ?_ ?_;rotate_left;(intro w';go_simp;with_reducible rfl);rotate_left;(simp only [aP,i64_w,i32_w];rfl)
        refine last_ (i:=21) (N:=none) (ms 24 22) rfl rfl (one_of HT_.out (by kernel_rfl)) (by decide) (fun K hK=>?_)
        refine skip_ (w1:=?_) (by rfl) rfl ?_ ?_
        rotate_left
        ·go_simp
         rfl
        refine hK.out _ _ ?_
        clear hK K
        refine pZ ?_ HT_.out rfl rfl (by kernel_rfl) (fun _ _ _=>id) (by rfl) ?_ ?_ ?_ ?_;rotate_left;(intro w';go_simp;with_reducible rfl);rotate_left;(simp only [aP,i64_w,i32_w];rfl)
        obtain ⟨vy13_0_0,hy13_0_0⟩:=cell?_setCell_some (p:=⟨go13,(((ji10)).toNat * 2),none⟩) (x:=(.string ((rd_T169 x0_1 (ji7)).f0))) hx216_0
        have hz13_0:=pz7 GG13.out ((((ji7)).toNat * 2))
        obtain ⟨vy13_1_0,hy13_1_0⟩:=cell?_setCell_some (p:=⟨go13,(((ji10)).toNat * 2),none⟩) (x:=(.string ((rd_T169 x0_1 (ji7)).f0))) hx216_1
        obtain ⟨vy13_1_1,hy13_1_1⟩:=cell?_setCell_some (p:=⟨go13,(((ji10)).toNat * 2) + 1,none⟩) (x:=(.string ((rd_T169 x0_1 (ji7)).f1))) hy13_1_0
        clear hy13_1_0
        have hz13_1:=pz7 GG13.out ((((ji7)).toNat * 2) + 1)
        refine last_ (i:=23) (N:=none) (ms 24 24) rfl rfl (one_of HT_.out (by kernel_rfl)) (by decide) (fun K hK=>?_)
        refine skip_ (w1:=?_) (by rfl) rfl ?_ ?_
        rotate_left
        ·go_simp
         rfl
        refine hK.out _ _ ?_
        clear hK K
        refine done_ (done_of HT_.out (by kernel_rfl)) ?_
        try go_wp2
        go_roundg k1
        case measure=>have:=HK1.out;omega
        case rel=>exact ⟨(y219),(wrap64 (x10_1 + 1)),(by first|rfl|(simp;done)|(simp [*];done)),H',⟨by have:=HK1.out;omega⟩,⟨by (with_reducible repeat (first|apply Kd.pz16|apply Kd.pz15|apply Kd.pz19));exact HQ18.out⟩,⟨by repeat (first|(with_reducible first|exact HK.out|apply Kept.alloc|apply Kept.drewN|apply Kept.drew|refine Kept.setCell ?_ HMgo13.out _|refine Kept.setCell ?_ HMgo13.out _|refine Kept.setCell ?_ HMgo13.out _|refine Kept.setCell ?_ HMgo13.out _)|exact HK.out)⟩,⟨by repeat (first|(with_reducible first|exact HB.out|apply pz3|apply pz1|apply pz2|refine pz14 ?_ GB13.out|refine pz14 ?_ GB13.out|refine pz14 ?_ GB13.out|refine pz14 ?_ GB13.out)|exact HB.out)⟩⟩
       ·rw [if_neg c12] at H
        exact absurd H (by simp)
      ·rw [if_neg c11] at H
       exact absurd H (by simp)
     ·rw [if_neg c9] at H
      exact absurd H (by simp)
    ·rw [if_neg c8] at H
     exact absurd H (by simp)
   ·rw [if_neg c6] at H
    have c6b0:decide (x10_1<a3)=false:=decide_eq_false c6
    clear c6
    obtain rfl:=Option.some.inj H
    go_wp2
    first|go_end0|((try simp only [Exit.inBlock,Exit.then]);refine bodyPost_ret (results_none rfl _ _ _) rfl ?_)
    exact ⟨by first|rfl|(simp [pz6,pz5] <;> rfl)|(simp [*,pz6,pz5] <;> rfl),by (with_reducible repeat (first|apply Kd.pz16|apply Kd.pz15|apply Kd.pz19));exact HO_0.out,by repeat (first|(with_reducible first|exact HB.out|apply pz3|apply pz1|apply pz2)|exact HB.out),by repeat (first|(with_reducible first|exact HK.out|apply Kept.alloc|apply Kept.drewN|apply Kept.drew)|exact HK.out)⟩
def pq7.l0:Nat→List (S169)→Int→Unit→Int→Int→Option ((List (S169)))
 | 0,_,_,_,_,_=>none
 | k + 1,x0,x2,x4,x10,x11=>if x10=x11 then ((pq3.f k x0 (wrap64 (x2 - x10)) x2 x10 x4).bind fun t220=>(some t220)) else (if x10 > x11 then ((pq3.f k x0 (wrap64 (x2 - x10)) x2 x11 x4).bind fun t221=>(pq7.l0 k t221 x2 x4 (wrap64 (x10 - x11)) x11)) else ((pq3.f k x0 (wrap64 (x2 - x10)) (wrap64 ((wrap64 (x2 + x11)) - x10)) x10 x4).bind fun t222=>(pq7.l0 k t222 x2 x4 x10 (wrap64 (x11 - x10)))))
def pq7.f (k:Nat) (l0:List (S169)) (a1:Int) (a2:Int) (a3:Int) (a4:Unit):Option ((List (S169))):=pq7.l0 k l0 a2 a4 (wrap64 (a2 - a1)) (wrap64 (a3 - a2))
set_option maxHeartbeats 8000000 in
set_option maxRecDepth 100000 in
theorem pq7.calls (k:Nat) (P0_:Nat→Prop) (u9000_:Value) (l0:List (S169)) (a1:Int) (a2:Int) (a3:Int) (a4:Unit) (r:List (S169)) (w0 w:World) (hB:Below w0.heap.size w0 w) (ho0:Kd.R k169 169 w w0.heap.size P0_ u9000_ l0) (h:pq7.f k l0 a1 a2 a3 a4=some r) :
  Calls Tryz.prog 217 #[u9000_,.int .i64 a1,.int .i64 a2,.int .i64 a3,.func (.func 175) #[] #[]] w fun e w'=>e=.returned (.tuple #[])∧Kd.R k169 169 w' w0.heap.size (fun k_=>(P0_ k_∨w.heap.size≤k_)) u9000_ r∧Below w0.heap.size w0 w'∧Kept w w' (fun k_=>P0_ k_):=by
 have HO0:=pz4.mk (show Kd.R k169 169 w w0.heap.size (fun k_=>(P0_ k_∨w.heap.size≤k_)) u9000_ l0 from Kd.R_mono ho0 (fun k_ hk=>(.inl hk)))
 have HK:=pz4.mk (Kept.refl w (fun k_=>P0_ k_))
 have HW0:=pz4.mk hB.size
 have HB:=pz4.mk hB
 clear hB
 have H:(pq7.l0 k l0 a2 a4 (wrap64 (a2 - a1)) (wrap64 (a3 - a2)))=some r:=h
 clear h
 have H':=pz4.mk H
 clear H
 go_enter Tryz.func217,Tryz.ntmps217
 go_wp2
 go_loopg [10,11] k (fun kq v10 v11 w'=>∃ (x0_1:List (S169)) (x10_1:Int) (x11_1:Int),v10=.int .i64 x10_1∧v11=.int .i64 x11_1∧pz4 (pq7.l0 kq x0_1 a2 a4 x10_1 x11_1=some r)∧pz4 (kq≤k)∧pz4 (Kd.R k169 169 w' w0.heap.size (fun k_=>(P0_ k_∨w.heap.size≤k_)) u9000_ x0_1)∧pz4 (Kept w w' (fun k_=>P0_ k_))∧pz4 (Below w0.heap.size w0 w'))
 case atStart=>exact ⟨(l0),(wrap64 (a2 - a1)),(wrap64 (a3 - a2)),(by first|rfl|(simp;done)|(simp [*];done)),(by first|rfl|(simp;done)|(simp [*];done)),H',⟨Nat.le_refl _⟩,⟨by (with_reducible repeat (first|apply Kd.pz16|apply Kd.pz15|apply Kd.pz19));exact HO0.out⟩,⟨by repeat (first|(with_reducible first|exact HK.out|apply Kept.alloc|apply Kept.drewN|apply Kept.drew)|exact HK.out)⟩,⟨by repeat (first|(with_reducible first|exact HB.out|apply pz3|apply pz1|apply pz2)|exact HB.out)⟩⟩
 case round =>
  clear H'
  obtain ⟨x0_1,x10_1,x11_1,rfl,rfl,HA,HK1,HO_0,HK,HB⟩:=hrel
  cases gk with
  | zero=>exact absurd HA.out (by simp [pq7.l0])
  | succ k1 =>
   have H:=HA.out
   clear HA
   simp only [pq7.l0] at H
   by_cases c6:x10_1=x11_1
   ·rw [if_pos c6] at H
    have c6b0:(x10_1 == x11_1)=true:=beq_iff_eq.mpr c6
    have c6b1:(x10_1 != x11_1)=false:=bne_eq_false_iff_eq.mpr c6
    clear c6
    replace H:=Option.bind_eq_some_iff.mp H
    obtain ⟨t220,A70,H⟩:=H
    replace H:(some t220)=some r:=H
    have A7:=pz4.mk A70
    clear A70
    obtain rfl:=Option.some.inj H
    obtain ⟨Ao8,co8,eo8⟩:=Kd.R_slice HO_0.out
    subst eo8
    go_wp2_with (first|((with_reducible refine pz8 (f:=227) rfl ?_);refine pz21 (some 57) rfl rfl Tryz.func227 (by kernel_rfl) rfl #[.slice Ao8 x0_1.length co8,.int .i64 (wrap64 (a2 - x10_1)),.int .i64 a2,.int .i64 x10_1,.func (.func 175) #[] #[]] rfl (by (try simp only [pM]);first|done|rfl|(simp only [pL];rfl)) ?_;(with_reducible refine (pq3.calls k1 (fun k_=>some k_=(.slice Ao8 x0_1.length co8:Value).ownBlock) (.slice Ao8 x0_1.length co8) x0_1 (wrap64 (a2 - x10_1)) a2 x10_1 a4 t220 w0 _ ?side1 ?side2 A7.out).mono ?_);(case side1=>repeat (first|(with_reducible first|exact HB.out|apply pz3|apply pz1|apply pz2)|exact HB.out));(case side2=>exact Kd.R_tight rfl HO_0.out);rintro e w9 ⟨rfl,hy0,hb,hkp⟩;refine ⟨_,rfl,?_⟩;have n0_:=pz4.mk (Kd.R_reok rfl hy0 (fun k_ e_=>HO_0.out.1 k_ e_));have n1_:=pz4.mk (Kept.then_ (S:=(fun k_=>P0_ k_)) (by repeat (first|(with_reducible first|exact HK.out|apply Kept.alloc|apply Kept.drewN|apply Kept.drew)|exact HK.out)) hkp (fun k_ hs_=>(fun e_=>(HO_0.out.1 k_ e_.symm)) hs_));have n2_:=pz4.mk (hb);clear HO_0;clear HK;clear HB;have HO_0:=n0_;have HK:=n1_;have HB:=n2_;clear n0_ n1_ n2_;(try clear hb);(try clear hkp);(try clear hy0)))
    first|go_end0|((try simp only [Exit.inBlock,Exit.then]);refine bodyPost_ret (results_none rfl _ _ _) rfl ?_)
    exact ⟨by first|rfl|(simp [pz6,pz5] <;> rfl)|(simp [*,pz6,pz5] <;> rfl),by (with_reducible repeat (first|apply Kd.pz16|apply Kd.pz15|apply Kd.pz19));exact HO_0.out,by repeat (first|(with_reducible first|exact HB.out|apply pz3|apply pz1|apply pz2)|exact HB.out),by repeat (first|(with_reducible first|exact HK.out|apply Kept.alloc|apply Kept.drewN|apply Kept.drew)|exact HK.out)⟩
   ·rw [if_neg c6] at H
    have c6b0:(x10_1 == x11_1)=false:=beq_eq_false_iff_ne.mpr c6
    have c6b1:(x10_1 != x11_1)=true:=bne_iff_ne.mpr c6
    by_cases c10:x10_1 > x11_1
    ·rw [if_pos c10] at H
     have c10b0:decide (x11_1<x10_1)=true:=decide_eq_true c10
     clear c10
     replace H:=Option.bind_eq_some_iff.mp H
     obtain ⟨t221,A110,H⟩:=H
     replace H:(pq7.l0 k1 t221 a2 a4 (wrap64 (x10_1 - x11_1)) x11_1)=some r:=H
     have A11:=pz4.mk A110
     clear A110
     have H':=pz4.mk H
     clear H
     obtain ⟨Ao12,co12,eo12⟩:=Kd.R_slice HO_0.out
     subst eo12
     go_wp2_with (first|((with_reducible refine pz8 (f:=227) rfl ?_);refine pz21 (some 31) rfl rfl Tryz.func227 (by kernel_rfl) rfl #[.slice Ao12 x0_1.length co12,.int .i64 (wrap64 (a2 - x10_1)),.int .i64 a2,.int .i64 x11_1,.func (.func 175) #[] #[]] rfl (by (try simp only [pM]);first|done|rfl|(simp only [pL];rfl)) ?_;(with_reducible refine (pq3.calls k1 (fun k_=>some k_=(.slice Ao12 x0_1.length co12:Value).ownBlock) (.slice Ao12 x0_1.length co12) x0_1 (wrap64 (a2 - x10_1)) a2 x11_1 a4 t221 w0 _ ?side1 ?side2 A11.out).mono ?_);(case side1=>repeat (first|(with_reducible first|exact HB.out|apply pz3|apply pz1|apply pz2)|exact HB.out));(case side2=>exact Kd.R_tight rfl HO_0.out);rintro e w13 ⟨rfl,hy0,hb,hkp⟩;refine ⟨_,rfl,?_⟩;have n0_:=pz4.mk (Kd.R_reok rfl hy0 (fun k_ e_=>HO_0.out.1 k_ e_));have n1_:=pz4.mk (Kept.then_ (S:=(fun k_=>P0_ k_)) (by repeat (first|(with_reducible first|exact HK.out|apply Kept.alloc|apply Kept.drewN|apply Kept.drew)|exact HK.out)) hkp (fun k_ hs_=>(fun e_=>(HO_0.out.1 k_ e_.symm)) hs_));have n2_:=pz4.mk (hb);clear HO_0;clear HK;clear HB;have HO_0:=n0_;have HK:=n1_;have HB:=n2_;clear n0_ n1_ n2_;(try clear hb);(try clear hkp);(try clear hy0)))
     go_roundg k1
     case measure=>have:=HK1.out;omega
     case rel=>exact ⟨(t221),(wrap64 (x10_1 - x11_1)),(x11_1),(by first|rfl|(simp;done)|(simp [*];done)),(by first|rfl|(simp;done)|(simp [*];done)),H',⟨by have:=HK1.out;omega⟩,⟨by (with_reducible repeat (first|apply Kd.pz16|apply Kd.pz15|apply Kd.pz19));exact HO_0.out⟩,⟨by repeat (first|(with_reducible first|exact HK.out|apply Kept.alloc|apply Kept.drewN|apply Kept.drew)|exact HK.out)⟩,⟨by repeat (first|(with_reducible first|exact HB.out|apply pz3|apply pz1|apply pz2)|exact HB.out)⟩⟩
    ·rw [if_neg c10] at H
     have c10b0:decide (x11_1<x10_1)=false:=decide_eq_false c10
     clear c10
     replace H:=Option.bind_eq_some_iff.mp H
     obtain ⟨t222,A140,H⟩:=H
     replace H:(pq7.l0 k1 t222 a2 a4 x10_1 (wrap64 (x11_1 - x10_1)))=some r:=H
     have A14:=pz4.mk A140
     clear A140
     have H':=pz4.mk H
     clear H
     obtain ⟨Ao15,co15,eo15⟩:=Kd.R_slice HO_0.out
     subst eo15
     go_wp2_with (first|((with_reducible refine pz8 (f:=227) rfl ?_);refine pz21 (some 46) rfl rfl Tryz.func227 (by kernel_rfl) rfl #[.slice Ao15 x0_1.length co15,.int .i64 (wrap64 (a2 - x10_1)),.int .i64 (wrap64 ((wrap64 (a2 + x11_1)) - x10_1)),.int .i64 x10_1,.func (.func 175) #[] #[]] rfl (by (try simp only [pM]);first|done|rfl|(simp only [pL];rfl)) ?_;(with_reducible refine (pq3.calls k1 (fun k_=>some k_=(.slice Ao15 x0_1.length co15:Value).ownBlock) (.slice Ao15 x0_1.length co15) x0_1 (wrap64 (a2 - x10_1)) (wrap64 ((wrap64 (a2 + x11_1)) - x10_1)) x10_1 a4 t222 w0 _ ?side1 ?side2 A14.out).mono ?_);(case side1=>repeat (first|(with_reducible first|exact HB.out|apply pz3|apply pz1|apply pz2)|exact HB.out));(case side2=>exact Kd.R_tight rfl HO_0.out);rintro e w16 ⟨rfl,hy0,hb,hkp⟩;refine ⟨_,rfl,?_⟩;have n0_:=pz4.mk (Kd.R_reok rfl hy0 (fun k_ e_=>HO_0.out.1 k_ e_));have n1_:=pz4.mk (Kept.then_ (S:=(fun k_=>P0_ k_)) (by repeat (first|(with_reducible first|exact HK.out|apply Kept.alloc|apply Kept.drewN|apply Kept.drew)|exact HK.out)) hkp (fun k_ hs_=>(fun e_=>(HO_0.out.1 k_ e_.symm)) hs_));have n2_:=pz4.mk (hb);clear HO_0;clear HK;clear HB;have HO_0:=n0_;have HK:=n1_;have HB:=n2_;clear n0_ n1_ n2_;(try clear hb);(try clear hkp);(try clear hy0)))
     go_roundg k1
     case measure=>have:=HK1.out;omega
     case rel=>exact ⟨(t222),(x10_1),(wrap64 (x11_1 - x10_1)),(by first|rfl|(simp;done)|(simp [*];done)),(by first|rfl|(simp;done)|(simp [*];done)),H',⟨by have:=HK1.out;omega⟩,⟨by (with_reducible repeat (first|apply Kd.pz16|apply Kd.pz15|apply Kd.pz19));exact HO_0.out⟩,⟨by repeat (first|(with_reducible first|exact HK.out|apply Kept.alloc|apply Kept.drewN|apply Kept.drew)|exact HK.out)⟩,⟨by repeat (first|(with_reducible first|exact HB.out|apply pz3|apply pz1|apply pz2)|exact HB.out)⟩⟩
end Go.Proofs.Zq
end
