/- A part of a proof of statements of this seat: what its walks and its laws lean on; joined by a program of this repo (wip/pack.py) out of the texts XCRW, XApp2, XTree, XSm17a, XSm17b, XArgs, XHd, QOnionskinlaw09Few, QOnionskinlaw16Few, QEq32, QOnionskinref08Same, XEnt, XArgs2, XNdG, XDiffA, Drn, ShelfC, XSortC, XEqG, XLw. -/
import Derived.Below
import Derived.Calls
import Derived.Carry
import Derived.ChangeSame
import Derived.Deep.DeepHandedRow
import Derived.Deep.DeepWitnessRowRef
import Derived.Deep.Slices
import Derived.Ground.SlsfProg
import Derived.Lib.LaidTab
import Derived.Lib.SortBridge
import Derived.OpenShut
import Derived.ProofKit
import Derived.Shelf.SlGeneric
import Derived.Shelf.SlSortCmp.NoneTotal
import Derived.Shelf.SlSortCmp.WholeK
import Derived.Shelf.Vars
import Derived.SizedLaws
import Derived.Stop.LaidErr
import Derived.Test.YtjghikkboekonaaGreatDoorCards
import Derived.Test.YtjghikkboekonaaGreatDoorProg
import Derived.Test.YtjghikkboekonaaGreatDoorTie
import Derived.Test.YtjghikkboekonaaGreatDoorKAA
import Derived.Test.YtjghikkboekonaaGreatDoorKAB
import Derived.Test.YtjghikkboekonaaGreatDoorKAE
import Derived.Test.YtjghikkboekonaaGreatDoorKAI
set_option linter.unusedSimpArgs false
set_option linter.unusedVariables false
section
namespace Go.Proofs.Zq
open Go.RowKit Go.Proofs.YtjghikkboekonaaGreatDoor Go.Proofs.Zw.PrintWords Go.Proofs.Zw.PrintLast Go.Proofs.Zw.PrintMore
open Go.Proofs.Zt (tarM Ch rightC lessM chain)
theorem unmark_calls (w:World) (hG:GL w) (op:Int) (p:Str) (hl:p.length≤1000000) :
  Calls Tryz.prog 64 #[.int .i64 op,.string (B p)] w fun e w'=>e=.returned (.tuple #[.string (B (tarM op p)),.bool (!(tarM op p).isEmpty)])∧Below w.heap.size w w':=by
 have h:=paths_Unmark.calls (p.length + 31) op (B p) (unmarkR op p).1 (unmarkR op p).2 w hG (unmark_f op p (by omega) _ (by omega))
 rw [unmarkR_1,unmarkR_2] at h
 exact h
theorem less_calls (w:World) (hG:GL w) (a b:Ch Str Nd) (ha:a.path.length≤1000000) (hb:b.path.length≤1000000) :
  Calls Tryz.prog 45 #[.agg (chCells a).toArray,.agg (chCells b).toArray] w fun e w'=>e=.returned (.bool (lessM (tarM a.op a.path) (tarM b.op b.path)))∧Below w.heap.size w w' :=
 change_Less.calls 2000001 (B a.path) a.op a.node.kind a.node.mode a.node.uid a.node.gid a.node.mtime (B a.node.link) (B a.node.data) a.node.major a.node.minor (B a.node.attrs)
  (B b.path) b.op b.node.kind b.node.mode b.node.uid b.node.gid b.node.mtime (B b.node.link) (B b.node.data) b.node.major b.node.minor (B b.node.attrs) _ w hG (less_f (ofCh a) (ofCh b) ha hb _ (by omega))
section
variable {P:Program} {ops:Array Oper} {rest:List Oper} {o:Oper} {a:Act} {Q:Exit→Act→World→Prop} {W:World}
theorem wpList_giv (hw:Region.wanted o (yielded ops a.tmps)=true) {v:Value} (hrun:(execOp a.eval o).run P W=.ok (.value v) W)
  (h:wpList P ops Q rest (a.put o.dst v) W):wpList P ops Q (o :: rest) a W:=by
 unfold wpList
 rw [if_pos hw]
 refine Or.inl ?_
 unfold Oper.wp
 rw [hrun]
 exact h
end
def chZero0:Array Value:=#[.string (⟨#[]⟩:ByteArray),.int .i64 0,.int .i64 0,.int .i64 0,.int .i64 0,.int .i64 0,.int .i64 0,.string (⟨#[]⟩:ByteArray),.string (⟨#[]⟩:ByteArray),.int .i64 0,.int .i64 0,.string (⟨#[]⟩:ByteArray)]
structure AtC (w0 w:World) (g:Nat) (c:Ch Str Nd):Prop where
 blk:w.heap[g]?=some (.cells (chCells c).toArray 57 (0,0))
 below:Below w0.heap.size w0 w
theorem AtC.ext {w0 w w1:World} {g:Nat} {c:Ch Str Nd} (h:AtC w0 w g c) (hb:Below w.heap.size w w1):AtC w0 w1 g c:=⟨blk_below h.blk hb,YtjghikkboekonaaGreatDoor.below_then h.below hb⟩
theorem AtC.at {w0 w:World} {g:Nat} {c:Ch Str Nd} (h:AtC w0 w g c) (j:Nat) {v:Value} (hv:(chCells c)[j]?=some v):w.cell? ⟨g,j,none⟩=some v:=by
 rw [YtjghikkboekonaaGreatDoor.blk_cell h.blk];simpa using hv
theorem lyr_two {t:List (Ch Str Nd)} (h:lyrFits t=true) {e:Ch Str Nd} (he:e ∈ t):e.path.length≤1000000∧e.node.attrs.length≤10000000:=by
 have:=List.all_eq_true.1 h e he
 simpa [ndFits] using this
theorem AtC.node {w0 w:World} {g:Nat} {c:Ch Str Nd} (h:AtC w0 w g c):LiesAt w ⟨g,2,none⟩ (ndCells c.node):=fun j v hv=>by
 rw [Addr.add_mid]
 refine h.at (2 + j) ?_
 unfold chCells
 rw [Nat.add_comm 2 j,List.getElem?_cons_succ,List.getElem?_cons_succ]
 exact hv
def prevC (L:List (Ch Str Nd)) (i:Nat):Option (Ch Str Nd):=if i=0 then none else L[i - 1]?
def afterC:Option (Ch Str Nd)→Ch Str Nd→Bool
 | none,_=>true
 | some p,c=>lessM (tarM p.op p.path) (tarM c.op c.path)
theorem cGo_step (p:Option (Ch Str Nd)) (c:Ch Str Nd) (r:List (Ch Str Nd)):cGo p (c :: r)=((!(tarM c.op c.path).isEmpty && decide (Y.rt (tarM c.op c.path) c.node=0)) && ((decide (c.op=0) || decide (c.node=zeroN)) && (afterC p c && cGo (some c) r))):=by
 show (oneC c && _ && _)=_
 unfold oneC afterC
 cases p <;> simp [Bool.and_assoc]
theorem zero_eq (n:Nd):(n.kind == 0 && (n.mode == 0 && (n.uid == 0 && (n.gid == 0 && (n.mtime == 0 && ((B n.link).toList == ([]:List UInt8) && ((B n.data).toList == ([]:List UInt8) && (n.major == 0 && (n.minor == 0 && ((B n.attrs).toList == ([]:List UInt8)))))))))))=decide (n=zeroN):=by
 obtain ⟨a1,a2,a3,a4,a5,a6,a7,a8,a9,a10⟩:=n
 simp only [toList_B,zeroN,Nd.mk.injEq]
 rw [Bool.eq_iff_iff]
 simp
theorem eqN (d:Nat) (w:World) (n:Nd):(Op.equalIn (d + 2) 28 (.agg (ndCells n).toArray) (.agg (ndCells zeroN).toArray)).run Tryz.prog w=.ok (decide (n=zeroN)) w:=by
 have h:=eqA28 d w n.kind 0 n.mode 0 n.uid 0 n.gid 0 n.mtime 0 (B n.link) (B []) (B n.data) (B []) n.major 0 n.minor 0 (B n.attrs) (B [])
 rw [← zero_eq]
 simp only [toList_B] at h ⊢
 exact h
attribute [local go_sem high] eqN
set_option maxRecDepth 100000 in
set_option maxHeartbeats 4000000 in
theorem cright_calls (w:World) (hG:GL w) (A:Option Addr) (c:Nat) (l:List S57) (hr:Kd.C k57 w A l.length l) (hc:l.length≤c) (hfit:lyrFits (l.map chOf)=true) (hl:l.length≤1000000) :
  Calls Tryz.prog 29 #[.slice A l.length c] w fun e w'=>e=.returned (.bool (rightC Y (l.map chOf)))∧Below w.heap.size w w':=by
 have HR:=Lib.hid hr
 have HF:=Lib.hid hfit
 have HL:=Lib.hid hl
 clear hr hfit hl
 go_enter Tryz.func29,Tryz.ntmps29
 go_wp2
 go_loopg [9] (l.length + 1) (fun g v wr=>∃ i:Nat,v=.int .i64 i∧l.length<g + i∧Hid (i≤l.length)∧Hid (rightC Y (l.map chOf)=cGo (prevC (l.map chOf) i) ((l.map chOf).drop i))∧Hid (Below w.heap.size w wr))
 case atStart=>exact ⟨0,rfl,by omega,Lib.hid (by omega),Lib.hid (by rw [List.drop_zero];exact (cGo_all _).symm),Lib.hid (Below.refl _ _)⟩
 case round =>
  obtain ⟨i,rfl,hgi,HI,HG,HB⟩:=hrel
  by_cases hi:i<l.length
  ·cases gk with
   | zero=>omega
   | succ g1 =>
    obtain ⟨ad,rfl,hat⟩:=c_at HR.out i hi
    have HAT:=Lib.hid (hat.below HB.out)
    clear hat
    have HE:=Lib.hid (lyr_two HF.out (List.mem_map_of_mem (f:=chOf) (List.getElem_mem hi)))
    have HU:=Lib.hid Tryz.underlying57
    have HUN:=Lib.hid Tryz.underlying28
    obtain ⟨e,hee⟩:∃ e,e=chOf l[i]:=⟨_,rfl⟩
    rw [← hee] at HAT HE
    have hd:(l.map chOf).drop i=e :: (l.map chOf).drop (i + 1):=by rw [hee,List.drop_eq_getElem_cons (by simpa using hi)];simp
    have hp:prevC (l.map chOf) (i + 1)=some e:=by unfold prevC;rw [if_neg (by omega),Nat.add_sub_cancel,List.getElem?_map,List.getElem?_eq_getElem hi,hee];rfl
    have HP1:=Lib.hid hp
    obtain ⟨ok1,h1⟩:∃ ok1,ok1=(!(tarM e.op e.path).isEmpty && decide (Y.rt (tarM e.op e.path) e.node=0)):=⟨_,rfl⟩
    obtain ⟨ok2,h2⟩:∃ ok2,ok2=(decide (e.op=0) || decide (e.node=zeroN)):=⟨_,rfl⟩
    obtain ⟨ok3,h3⟩:∃ ok3,ok3=afterC (prevC (l.map chOf) i) e:=⟨_,rfl⟩
    have HG1:Hid (rightC Y (l.map chOf)=(ok1 && (ok2 && (ok3 && cGo (some e) ((l.map chOf).drop (i + 1)))))):=Lib.hid (by rw [HG.out,hd,cGo_step,h1,h2,h3])
    have H1:=Lib.hid h1
    have H2:=Lib.hid h2
    have H3:=Lib.hid h3
    clear hd hp hee h1 h2 h3 HG
    go_upto_region 4 with (first|((with_reducible refine gate_dst (N:=13) rfl ?_);refine wpList_load_agg rfl 57 _ rfl _ rfl (chCells e) _ HAT.out HU.out rfl rfl ?_)|((with_reducible refine gate_dst (N:=4) rfl ?_);refine box_event rfl (N:=4) rfl (cs:=chZero0) (t:=57) ?hr ?_;(case hr=>first|(go_simp;done)|(go_simp;rfl));intro g hg w2 hb2 hbl2;have HGE:Hid (w.heap.size≤g):=Lib.hid (by rw [hg];exact HB.out.size);have HB2:=Lib.hid hb2;have HBL2:=Lib.hid hbl2;clear hg hb2 hbl2)|((with_reducible refine gate_store (t:=57) (p:=4) rfl ?_);refine wpList_store_agg rfl rfl 57 _ _ rfl g (chCells e).toArray rfl rfl 57 chZero0 HB2.out rfl rfl (by simp [chCells,ndCells,Value.oneCell']) ?_;intro w3 hb3 hg3;have HB3:=Lib.hid hb3;have HBL3:Hid (Below w.heap.size w w3):=Lib.hid ((YtjghikkboekonaaGreatDoor.below_then HB.out HBL2.out).grown hg3 (Nat.le_trans HB.out.size HBL2.out.size) (fun j hj=>by cases hj;exact HGE.out));clear hb3 hg3))
    have HN:Hid (AtC w w3 g e):=Lib.hid ⟨HB3.out,HBL3.out⟩
    clear HB2 HB3 HBL2 HBL3 HGE
    have q0:=HN.out.at 0 (v:=.string (B e.path)) rfl
    have q1:=HN.out.at 1 (v:=.int .i64 e.op) rfl
    go_wp2_with fail
    refine (unmark_calls w3 (hG.ext HN.out.below) e.op e.path HE.out.1).mono ?_
    rintro x w4 ⟨rfl,hb⟩
    have HN4:=Lib.hid (HN.out.ext hb)
    clear hb q0 q1 HN
    obtain ⟨em,hem⟩:∃ em,em=(tarM e.op e.path).isEmpty:=⟨_,rfl⟩
    rw [← hem]
    have HEM:=Lib.hid hem
    clear hem
    go_upto_region 5 with (fail)
    go_cut [22] (fun v wc=>v=.bool (!ok1)∧Hid (AtC w wc g e))
    case first =>
     cases em with
     | true =>
      have HV:Hid (ok1=false):=Lib.hid (by rw [H1.out,← HEM.out];rfl)
      go_wp2_with fail
      go_meet
      exact ⟨by rw [HV.out];rfl,HN4⟩
     | false =>
      have HV:Hid (ok1=decide (Y.rt (tarM e.op e.path) e.node=0)):=Lib.hid (by rw [H1.out,← HEM.out];rfl)
      have HLN:=Lib.hid HN4.out.node
      go_wp2_with (first|((with_reducible refine gate_dst (N:=28) rfl ?_);refine wpList_load_agg rfl 28 _ rfl _ rfl (ndCells e.node) _ HLN.out HUN.out rfl rfl ?_;go_frame)|((with_reducible refine gate_dst (N:=29) rfl ?_);refine wpList_giv rfl (v:=.agg (eCells (tarM e.op e.path,e.node)).toArray) (by kernel_rfl) ?_;go_frame))
      refine (right_calls w4 (hG.ext HN4.out.below) (tarM e.op e.path) e.node HE.out.2).mono ?_
      rintro x w5 ⟨rfl,hb⟩
      have HN5:=Lib.hid (HN4.out.ext hb)
      clear hb
      have HV2:Hid ((rtM (tarM e.op e.path) e.node != 0)=!ok1):=Lib.hid (by rw [HV.out];show _=!decide (rtM _ _=0);rw [bne,Bool.not_inj_iff];rfl)
      go_wp2_with fail
      go_meet
      exact ⟨by rw [← HV2.out],HN5⟩
    case rest =>
    clear HN4
    obtain ⟨rfl,HN5⟩:=hcut
    cases ok1 with
    | false =>
     go_wp2_with fail
     go_ret
     exact ⟨by rw [HG1.out];rfl,HN5.out.below⟩
    | true =>
    go_upto_region 7 with (fail)
    have q1:=HN5.out.at 1 (v:=.int .i64 e.op) rfl
    go_cut [33] (fun v wc=>v=.bool (!ok2)∧Hid (AtC w wc g e))
    case first =>
     cases hop:(e.op != 0) with
     | false =>
      have HV:Hid (ok2=true):=Lib.hid (by rw [H2.out];have h9:e.op=0:=(by simpa using hop);simp [h9])
      go_wp2_with fail
      go_meet
      exact ⟨by rw [HV.out];rfl,HN5⟩
     | true =>
      have HV:Hid ((!decide (e.node=zeroN))=!ok2):=Lib.hid (by rw [H2.out];have h9:¬ e.op=0:=(by simpa using hop);simp [h9])
      have HLN:=Lib.hid HN5.out.node
      go_wp2_with (first|((with_reducible refine gate_dst (N:=39) rfl ?_);refine wpList_load_agg rfl 28 _ rfl _ rfl (ndCells e.node) _ HLN.out HUN.out rfl rfl ?_;go_frame)|((with_reducible refine gate_dst (N:=40) rfl ?_);refine wpList_giv rfl (v:=.agg (ndCells zeroN).toArray) (by kernel_rfl) ?_;go_frame))
      go_meet
      exact ⟨by rw [← HV.out],HN5⟩
    case rest =>
    clear HN5 q1
    obtain ⟨rfl,HN6⟩:=hcut
    cases ok2 with
    | false =>
     go_wp2_with fail
     go_ret
     exact ⟨by rw [HG1.out];rfl,HN6.out.below⟩
    | true =>
    go_upto_region 9 with (fail)
    have HL6:Hid (LiesAt wc ⟨g,0,none⟩ (chCells e)):=Lib.hid (fun j v hv=>by rw [Addr.add_mid,Nat.zero_add];exact HN6.out.at j hv)
    go_cut [43] (fun v w'=>v=.bool (!ok3)∧Hid (Below wc.heap.size wc w'))
    case first =>
     refine start_ (n:=13) (S:=fun w'=>Below wc.heap.size wc w') (ds:=[]) (ms 13 0) (by kernel_rfl) rfl rfl (Below.refl _ _).drew (fun hHeld=>?_)
     by_cases h0:i=0
     ·have ho:ok3=true:=by rw [H3.out,h0];rfl
      subst ho
      have hgt:decide ((0:Int)<(i:Int))=false:=by simp;omega
      (refine pU 0 44 ?_ (ms 13 1) rfl rfl (by kernel_rfl) (fun _ _ _=>id) (by rfl) ?_ ?_ ?_ ?_;rotate_left;(intro w';go_simp;with_reducible rfl);rotate_left;(simp only [aP,i64_w,i32_w];rfl))
      (refine pU 1 45 ?_ (ms 13 2) rfl rfl (by kernel_rfl) (fun _ _ _=>id) (by rfl) ?_ ?_ ?_ ?_;rotate_left;(intro w';go_simp;with_reducible rfl);rotate_left;(simp only [aP,i64_w,i32_w];rfl))
      (refine pU 2 46 ?_ (ms 13 3) rfl rfl (by kernel_rfl) (fun _ _ _=>id) (by rfl) ?_ ?_ ?_ ?_;rotate_left;(intro w';go_simp;with_reducible rfl);rotate_left;(simp only [aP,i64_w,i32_w];rfl))
      (refine pN 3 47 (ms 13 4) rfl rfl (by kernel_rfl) (fun _ _ _=>id) (by rfl) ?_ ?_ ?_;rotate_left;(simp only [aP,i64_w,i32_w];rfl))
      (refine pN 4 48 (ms 13 5) rfl rfl (by kernel_rfl) (fun _ _ _=>id) (by rfl) ?_ ?_ ?_;rotate_left;(simp only [aP,i64_w,i32_w];rfl))
      (refine pN 5 49 (ms 13 6) rfl rfl (by kernel_rfl) (fun _ _ _=>id) (by rfl) ?_ ?_ ?_;rotate_left;(simp only [aP,i64_w,i32_w];rfl))
      (refine pN 6 50 (ms 13 7) rfl rfl (by kernel_rfl) (fun _ _ _=>id) (by rfl) ?_ ?_ ?_;rotate_left;(simp only [aP,i64_w,i32_w];rfl))
      (refine pN 7 51 (ms 13 8) rfl rfl (by kernel_rfl) (fun _ _ _=>id) (by rfl) ?_ ?_ ?_;rotate_left;(simp only [aP,i64_w,i32_w];rfl))
      (refine pN 8 52 (ms 13 9) rfl rfl (by kernel_rfl) (fun _ _ _=>id) (by rfl) ?_ ?_ ?_;rotate_left;(simp only [aP,i64_w,i32_w];rfl))
      (refine pN 9 53 (ms 13 10) rfl rfl (by kernel_rfl) (fun _ _ _=>id) (by rfl) ?_ ?_ ?_;rotate_left;(simp only [aP,i64_w,i32_w];rfl))
      (refine pN 10 54 (ms 13 11) rfl rfl (by kernel_rfl) (fun _ _ _=>id) (by rfl) ?_ ?_ ?_;rotate_left;(simp only [aP,i64_w,i32_w];rfl))
      (refine pU 11 55 ?_ (ms 13 12) rfl rfl (by kernel_rfl) (fun _ _ _=>id) (by rfl) ?_ ?_ ?_ ?_;rotate_left;(intro w';go_simp;with_reducible rfl);rotate_left;(simp only [aP,i64_w,i32_w];rfl))
      (refine pU 12 43 ?_ (ms 13 13) rfl rfl (by kernel_rfl) (fun _ _ _=>id) (by rfl) ?_ ?_ ?_ ?_;rotate_left;(intro w';go_simp;with_reducible rfl);rotate_left;(simp only [aP,i64_w,i32_w];rfl))
      refine done_ (by kernel_rfl) ?_
      go_wp2_with fail
      go_meet
      exact ⟨rfl,Lib.hid hHeld⟩
     ·obtain ⟨m,hm⟩:∃ m,m + 1=i:=⟨i - 1,by omega⟩
      have hml:m<l.length:=by omega
      have hgt:decide (0<i)=true:=by simp;omega
      obtain ⟨ad',hade,hatm⟩:=c_at HR.out m hml
      obtain rfl:=Option.some.inj hade
      have HATM:=Lib.hid (hatm.below HN6.out.below)
      have HEY:=Lib.hid (lyr_two HF.out (List.mem_map_of_mem (f:=chOf) (List.getElem_mem hml)))
      obtain ⟨y,hy⟩:∃ y,y=chOf l[m]:=⟨_,rfl⟩
      rw [← hy] at HATM HEY
      have HO:Hid (lessM (tarM y.op y.path) (tarM e.op e.path)=ok3):=Lib.hid (by
       rw [H3.out];unfold prevC;rw [if_neg h0,← hm,Nat.add_sub_cancel,List.getElem?_map,List.getElem?_eq_getElem hml,hy];rfl)
      have hsub:IntKind.i64.wrap ((i:Int) - 1)=(m:Int):=by have:=HL.out;rw [← hm,IntWalk.i64_in _ (by omega)];omega
      clear hade hatm hy h0
      (refine pU 0 44 ?_ (ms 13 1) rfl rfl (by kernel_rfl) (fun _ _ _=>id) (by rfl) ?_ ?_ ?_ ?_;rotate_left;(intro w';go_simp;with_reducible rfl);rotate_left;(simp only [aP,i64_w,i32_w];rfl))
      (refine pU 1 45 ?_ (ms 13 2) rfl rfl (by kernel_rfl) (fun _ _ _=>id) (by rfl) ?_ ?_ ?_ ?_;rotate_left;(intro w';go_simp;with_reducible rfl);rotate_left;(simp only [aP,i64_w,i32_w];rfl))
      (refine pU 2 46 ?_ (ms 13 3) rfl rfl (by kernel_rfl) (fun _ _ _=>id) (by rfl) ?_ ?_ ?_ ?_;rotate_left;(intro w';go_simp;with_reducible rfl);rotate_left;(simp only [aP,i64_w,i32_w];rfl))
      (refine pU 3 47 ?_ (ms 13 4) rfl rfl (by kernel_rfl) (fun _ _ _=>id) (by rfl) ?_ ?_ ?_ ?_;rotate_left;(intro w';go_simp;with_reducible rfl);rotate_left;(simp only [aP,i64_w,i32_w];rfl))
      (refine pU 4 48 ?_ (ms 13 5) rfl rfl (by kernel_rfl) (fun _ _ _=>id) (by rfl) ?_ ?_ ?_ ?_;rotate_left;(intro w';go_simp;with_reducible rfl);rotate_left;(simp only [aP,i64_w,i32_w];rfl))
      (refine pU 5 49 ?_ (ms 13 6) rfl rfl (by kernel_rfl) (fun _ _ _=>id) (by rfl) ?_ ?_ ?_ ?_;rotate_left;(intro w';have hsub1:=hsub;go_simp;with_reducible rfl);rotate_left;(simp only [aP,i64_w,i32_w];rfl))
      have hm0:(0:Int)≤(m:Int):=by omega
      have hm1:(m:Int)<(l.length:Int):=by omega
      (refine pU 6 50 ?_ (ms 13 7) rfl rfl (by kernel_rfl) (fun _ _ _=>id) (by rfl) ?_ ?_ ?_ ?_;rotate_left;(intro w';go_simp;with_reducible rfl);rotate_left;(simp only [aP,i64_w,i32_w];rfl))
      refine take_ (i:=7) (N:=some 51) (v:=.agg (chCells y).toArray) (a':=?_) (ms 13 8) rfl rfl (by kernel_rfl) (fun _ _ _ h=>h) (yi_agg (by rfl) 57 _ rfl _ rfl _ _ (fun w' hb=>HATM.out.below hb) HU.out rfl rfl) hHeld ?_ ?_
      rotate_left
      ·(simp only [aP,i64_w,i32_w];rfl)
      refine take_ (i:=8) (N:=some 52) (v:=.agg (chCells e).toArray) (a':=?_) (ms 13 9) rfl rfl (by kernel_rfl) (fun _ _ _ h=>h) (yi_agg (by rfl) 57 _ rfl _ rfl _ _ (fun w' hb=>HL6.out.below hb) HU.out rfl rfl) hHeld ?_ ?_
      rotate_left
      ·(simp only [aP,i64_w,i32_w];rfl)
      refine one_ (i:=9) (N:=some 53) (ms 13 10) rfl rfl (by kernel_rfl) (by decide) (fun K hK=>?_)
      refine goes_ Tryz.func45 (by kernel_rfl) rfl #[.agg (chCells y).toArray,.agg (chCells e).toArray] (by rfl) rfl rfl (by simp only [List.map_toArray,List.map_cons,List.map_nil];rfl) ?_
      refine (less_calls _ (hG.ext (YtjghikkboekonaaGreatDoor.below_then HN6.out.below hHeld)) y e HEY.out.1 HE.out.1).mono ?_
      rintro x w6 ⟨rfl,hb6⟩
      refine ⟨_,rfl,?_⟩
      have HB6:=Lib.hid hb6
      clear hb6
      refine hK.out _ _ (YtjghikkboekonaaGreatDoor.below_then hHeld HB6.out) (fun hHeld=>?_)
      clear hK K
      refine norm_ (a':=?_) ?_ ?_
      rotate_left
      ·show Act.put _ (some 53) _=_
       (simp only [aP,i64_w,i32_w];rfl)
      rw [HO.out]
      (refine pU 10 54 ?_ (ms 13 11) rfl rfl (by kernel_rfl) (fun _ _ _=>id) (by rfl) ?_ ?_ ?_ ?_;rotate_left;(intro w';go_simp;with_reducible rfl);rotate_left;(simp only [aP,i64_w,i32_w];rfl))
      (refine pU 11 55 ?_ (ms 13 12) rfl rfl (by kernel_rfl) (fun _ _ _=>id) (by rfl) ?_ ?_ ?_ ?_;rotate_left;(intro w';go_simp;with_reducible rfl);rotate_left;(simp only [aP,i64_w,i32_w];rfl))
      (refine pU 12 43 ?_ (ms 13 13) rfl rfl (by kernel_rfl) (fun _ _ _=>id) (by rfl) ?_ ?_ ?_ ?_;rotate_left;(intro w';go_simp;with_reducible rfl);rotate_left;(simp only [aP,i64_w,i32_w];rfl))
      refine done_ (by kernel_rfl) ?_
      go_wp2_with fail
      go_meet
      exact ⟨rfl,Lib.hid hHeld⟩
    case rest =>
    obtain ⟨rfl,hb7⟩:=hcut
    have HB7:=Lib.hid (YtjghikkboekonaaGreatDoor.below_then HN6.out.below hb7.out)
    clear hb7
    cases ok3 with
    | false =>
     go_wp2_with fail
     go_ret
     exact ⟨by rw [HG1.out];rfl,HB7.out⟩
    | true =>
     have HG2:Hid (rightC Y (l.map chOf)=cGo (prevC (l.map chOf) (i + 1)) ((l.map chOf).drop (i + 1))):=Lib.hid (by rw [HG1.out,HP1.out];rfl)
     have HII:Hid (i + 1≤l.length):=Lib.hid hi
     have HLL:=HL.out
     go_wp2_with fail
     go_roundg g1
     case measure=>omega
     case rel=>exact ⟨i + 1,by go_num,by omega,HII,HG2,HB7⟩
  ·have he:i=l.length:=by have:=HI.out;omega
   subst he
   go_wp2_with fail
   go_ret
   refine ⟨?_,HB.out⟩
   rw [HG.out,List.drop_eq_nil_of_le (by simp)]
   rfl
end Go.Proofs.Zq
end
section
namespace Go.Proofs.Zq
open Go.RowKit Go.WideMaps Go.Maps Go.Proofs.YtjghikkboekonaaGreatDoor Go.Proofs.Zw.PrintWords Go.Proofs.Zw.PrintLast Go.Proofs.Zw.PrintMore
open Go.Proofs.Zt (rightT rightC applyM applyL parM lessM cmpM getL Ch puts Puts tkL PS Srt isM RightT RightL underM)
theorem getL_step {t:List (Str×Nd)} (hs:t.Pairwise fun a b=>a.1≠b.1) (i:Nat) (hi:i<t.length) (key:Str):getL (t.take (i + 1)) key=if key=t[i].1 then some t[i].2 else getL (t.take i) key:=by
 rw [List.take_succ_eq_append_getElem hi,Zt.getL_append]
 by_cases hk:key=t[i].1
 ·subst hk
  rw [if_pos rfl,if_pos rfl]
  have:getL (t.take i) t[i].1=none:=by
   cases h:getL (t.take i) t[i].1 with
   | none=>rfl
   | some n =>
    have hm:=Zt.getL_mem h
    obtain ⟨j,hj,he⟩:=List.getElem_of_mem hm
    have hj':j<i:=by simp at hj;omega
    have:=List.pairwise_iff_getElem.1 hs j i (by omega) hi hj'
    rw [List.getElem_take] at he
    rw [he] at this
    exact absurd rfl this
  rw [this];rfl
 ·rw [if_neg hk,if_neg (fun h=>hk h.symm)]
  cases getL (t.take i) key <;> rfl
theorem lyr_get {t:List (Ch Str Nd)} (h:lyrFits t=true) {e:Ch Str Nd} (he:e ∈ t):e.path.length≤1000000∧ndFits e.node=true:=by
 have:=List.all_eq_true.1 h e he
 simpa using this
theorem foldl_take (q:Str):∀ (l:List (Ch Str Nd)) (f:Str→Option Nd),l.foldl takeF f q=if tkL PS l q=true then none else f q
 | [],f=>by simp [tkL]
 | c :: r,f=>by
  rw [List.foldl_cons,foldl_take q r]
  have ht:tkL PS (c :: r) q=(Zt.Takes PS c q || tkL PS r q):=by simp [tkL]
  rw [ht]
  by_cases hr:tkL PS r q=true
  ·rw [if_pos hr,hr,Bool.or_true,if_pos rfl]
  ·have hr':tkL PS r q=false:=by simpa using hr
   rw [if_neg hr,hr',Bool.or_false]
   have hu:∀ a b,PS.under a b=underM a b:=fun _ _=>rfl
   unfold takeF Zt.Takes clearF
   simp only [hu]
   by_cases h1:c.op=1
   ·rw [if_pos h1]
    by_cases h2:underM c.path q=true
    ·simp [h1,h2]
    ·by_cases h3:q=c.path
     ·simp [h1,h2,h3]
     ·simp [h1,h2,h3]
   ·rw [if_neg h1]
    by_cases h2:c.op=2
    ·rw [if_pos h2]
     by_cases h3:underM c.path q=true <;> simp [h2,h3]
    ·rw [if_neg h2]
     simp [h1,h2]
theorem folderF_iff (g:Str→Option Nd) (p:Str):folderF g p=true↔Zt.Fold PS Y.dir g p:=by
 unfold folderF Zt.Fold
 rw [Bool.or_eq_true,decide_eq_true_eq]
 refine or_congr Iff.rfl ?_
 cases g p with
 | none=>simp
 | some n =>
  show decide (n.kind=1)=true↔∃ m,some n=some m∧Y.dir m=true
  constructor
  ·intro h;exact ⟨n,rfl,h⟩
  ·rintro ⟨m,hm,h⟩;cases hm;exact h
theorem putF_eq (g:Str→Option Nd) (c:Ch Str Nd):Zt.putF PS Y.dir c.path c.node g=putF g c:=by
 funext q
 unfold putF Zt.putF clearF
 have hd:Y.dir c.node=decide (c.node.kind=1):=rfl
 by_cases hq:q=c.path
 ·rw [if_pos hq,if_pos hq]
 ·rw [if_neg hq,if_neg hq]
  have hc:(Y.dir c.node=false∨¬ Zt.Fold PS Y.dir g c.path)↔(!decide (c.node.kind=1) || !folderF g c.path)=true:=by
   rw [← folderF_iff,hd]
   cases decide (c.node.kind=1) <;> cases folderF g c.path <;> simp
  by_cases h1:(!decide (c.node.kind=1) || !folderF g c.path)=true
  ·rw [if_pos h1]
   by_cases h2:underM c.path q=true
   ·rw [if_pos ⟨h2,hc.2 h1⟩,if_pos h2]
   ·rw [if_neg (fun h=>h2 h.1),if_neg h2]
  ·rw [if_neg h1,if_neg (fun h=>h1 (hc.1 h.2))]
theorem putF_V {g:Str→Option Nd} (hg:∀ x,(g x).isSome=true→PS.V x) {c:Ch Str Nd} (hv:PS.V c.path):∀ x,(putF g c x).isSome=true→PS.V x:=by
 intro x hx
 unfold putF at hx
 split at hx
 ·rename_i h;rw [h];exact hv
 ·split at hx
  ·unfold clearF at hx
   split at hx
   ·cases hx
   ·exact hg x hx
  ·exact hg x hx
theorem nd_size {w:World} {b n:Nat} {D:DataW Nd} {f:Str→Option Nd} (hown:w.ownsMap Tryz.prog 9 Rn b n D) (hat:∀ (key:Str) (z:DataW Nd),D.atKey (.string key) z=(match f key with|some v=>.held v|none=>z))
  (ks:List Str) (hnd:ks.Nodup) (hm:∀ x,x ∈ ks↔(f x).isSome=true):ks.length=Maps.size D:=by
 obtain ⟨es,rfl,hap,_⟩:=hown.entries strLaw
 have hks:∀ p ∈ es,∃ x,p.1=.string x:=by
  obtain ⟨es',e,h⟩:=hown.keysOf
  cases e
  intro p hp
  obtain ⟨v,hv⟩:=h p hp
  obtain ⟨x,_,h2,_⟩:=Maps.keyOf_str Tryz.underlying9 hv
  exact ⟨x,h2⟩
 have hp:ks.Perm (strKeys (.map es)):=(List.perm_ext_iff_of_nodup hnd (nodup_strKeys hap hks)).2 fun x=>by rw [hm,mem_strKeys hks,NdMap.has hat]
 rw [hp.length_eq]
 show (es.map _).length=es.length
 rw [List.length_map]
theorem keys_nodup {t:List (Str×Nd)} (h:Srt PS t):(t.map (·.1)).Nodup:=by
 refine List.pairwise_map.2 (h.s.imp fun {a b} hl e=>?_)
 have hl:cmpM a.1 b.1<0:=hl
 rw [e,Zt.cmpM_refl] at hl;omega
theorem keys_mem {t:List (Str×Nd)} (h:Srt PS t) {g:Str→Option Nd} (hq:∀ q,PS.V q→g q=getL t q) (hv:∀ x,(g x).isSome=true→PS.V x) (x:Str):x ∈ t.map (·.1)↔(g x).isSome=true:=by
 rw [List.mem_map]
 constructor
 ·rintro ⟨⟨p,n⟩,hm,rfl⟩
  rw [hq _ (h.v _ hm),h.get hm];rfl
 ·intro hx
  have:=hv x hx
  rw [hq x this] at hx
  obtain ⟨n,hn⟩:=Option.isSome_iff_exists.1 hx
  exact ⟨(x,n),Zt.getL_mem hn,rfl⟩
theorem getL_keys (g:Str→Option Nd) (ks:List Str) (hm:∀ x,x ∈ ks↔(g x).isSome=true) (q:Str):getL (ks.map fun k=>(k,(g k).getD zeroN)) q=g q:=by
 have h:∀ ks:List Str,getL (ks.map fun k=>(k,(g k).getD zeroN)) q=if q ∈ ks then some ((g q).getD zeroN) else none:=by
  intro ks
  induction ks with
  | nil=>rfl
  | cons k r ih =>
   show (if k=q then some ((g k).getD zeroN) else getL (r.map _) q)=_
   rw [ih]
   by_cases e:k=q
   ·subst e;simp
   ·have:¬ q=k:=fun h=>e h.symm
    simp [e,this]
 rw [h]
 cases hg:g q with
 | none=>rw [if_neg];rw [hm,hg];simp
 | some n=>rw [if_pos ((hm q).2 (by rw [hg];rfl))];rfl
theorem isM_short {x:Str} (h:PS.V x):x.length≤1000000:=by
 have hi:=Zt.isM_iff.1 (show isM x=true from h)
 have:=hi.all
 revert this
 split <;> omega
theorem info_en:(Tryz.prog.info? 32).map (fun i=>(i.zero,i.size,i.bytes))=some (some (.agg enZero),11,120):=by kernel_rfl
def chZero:Array Value:=#[.string (⟨#[]⟩:ByteArray),.int .i64 0,.int .i64 0,.int .i64 0,.int .i64 0,.int .i64 0,.int .i64 0,.string (⟨#[]⟩:ByteArray),.string (⟨#[]⟩:ByteArray),.int .i64 0,.int .i64 0,.string (⟨#[]⟩:ByteArray)]
set_option maxRecDepth 100000 in
set_option maxHeartbeats 4000000 in
theorem tapply_calls (w:World) (hG:GL w) (A:Option Addr) (c:Nat) (l:List S32) (hr:Kd.C k32 w A l.length l) (hc:l.length≤c) (hfit:rowFits (l.map enOf)=true) (hl:l.length≤1000000)
  (A2:Option Addr) (c2:Nat) (ls:List S57) (hr2:Kd.C k57 w A2 ls.length ls) (hc2:ls.length≤c2) (hfit2:lyrFits (ls.map chOf)=true) (hl2:ls.length≤1000000) :
  Calls Tryz.prog 24 #[.slice A l.length c,.slice A2 ls.length c2] w fun e w'=>∃ v:Value,e=.returned (.tuple #[v,.int .i64 (applyM Y (l.map enOf) (ls.map chOf)).2]) ∧
   Owr eCells 32 11 w.heap.size w' v (applyM Y (l.map enOf) (ls.map chOf)).1∧Below w.heap.size w w':=by
 have HR:=Lib.hid hr
 have HF:=Lib.hid hfit
 have HL:=Lib.hid hl
 have HR2:=Lib.hid hr2
 have HF2:=Lib.hid hfit2
 have HL2:=Lib.hid hl2
 have HCC:=Lib.hid hc
 have HCC2:=Lib.hid hc2
 clear hr hfit hl hr2 hfit2 hl2 hc hc2
 have hmm:=@run_makeMap Tryz.prog
 obtain ⟨res,hres⟩:∃ res,res=applyM Y (l.map enOf) (ls.map chOf):=⟨_,rfl⟩
 have HRES:=Lib.hid hres
 rw [← hres]
 clear hres
 go_enter Tryz.func24,Tryz.ntmps24
 go_wp2_with fail
 refine (tright_calls w hG A c l HR.out HCC.out HF.out HL.out).mono ?_
 rintro e w1 ⟨rfl,hb1⟩
 have HB1:=Lib.hid hb1
 clear hb1
 cases ht:rightT Y (l.map enOf) with
 | false =>
  have HE:Hid (res=([],1)):=Lib.hid (by rw [HRES.out];unfold applyM;rw [ht];rfl)
  go_wp2_with fail
  all_goals
   go_ret2
   exact ⟨_,by rw [HE.out];rfl,by rw [HE.out];exact Owr.nil _ _ _ _ _,HB1.out⟩
 | true =>
  go_wp2_with fail
  refine (cright_calls w1 (hG.ext HB1.out) A2 c2 ls (Kd.C_below HR2.out HB1.out) HCC2.out HF2.out HL2.out).mono ?_
  rintro e w2 ⟨rfl,hb2⟩
  have HB2:=Lib.hid (YtjghikkboekonaaGreatDoor.below_then HB1.out hb2)
  clear hb2
  cases hcr:rightC Y (ls.map chOf) with
  | false =>
   have HE:Hid (res=([],1)):=Lib.hid (by rw [HRES.out];unfold applyM;rw [ht,hcr];rfl)
   go_wp2_with fail
   all_goals
    go_ret2
    exact ⟨_,by rw [HE.out];rfl,by rw [HE.out];exact Owr.nil _ _ _ _ _,HB2.out⟩
  | true =>
   have HT:=Lib.hid ((Zt.rightT_iff Y).1 ht)
   have HCR:=Lib.hid ((Zt.rightC_iff Y).1 hcr)
   have HE:Hid (res=(match applyL PS Y.dir lessM (l.map enOf) (ls.map chOf) with|none=>([],10)|some t'=>if t'.length≤5000 then (t',0) else ([],2))):=Lib.hid (by
    rw [HRES.out];unfold applyM;rw [ht,hcr];simp only [Bool.and_self,if_true];cases applyL PS Y.dir lessM (l.map enOf) (ls.map chOf) <;> rfl)
   clear ht hcr
   have HM2:Hid (NdMap (w2.alloc (.map #[] 0)) w2.heap.size 0 (fun _=>none)):=Lib.hid (NdMap.made w2)
   have HB3:Hid (Below w.heap.size w (w2.alloc (.map #[] 0))):=Lib.hid (HB2.out.alloc HB2.out.size _)
   obtain ⟨bm,hbm⟩:∃ bm,bm=w2.heap.size:=⟨_,rfl⟩
   have HBM:Hid (w.heap.size≤bm):=Lib.hid (by rw [hbm];exact HB2.out.size)
   rw [← hbm] at HM2
   go_wp2
   rw [← hbm]
   clear hbm
   generalize w2.alloc (.map #[] 0)=w3 at HM2 HB3 ⊢
   clear hmm
   have HD:Hid ((l.map enOf).Pairwise fun a b=>a.1≠b.1):=Lib.hid (HT.out.srt.s.imp fun {a b} h e=>by
    have h:cmpM a.1 b.1<0:=h
    rw [e,Zt.cmpM_refl] at h;omega)
   have h49:=Tryz.underlying32
   have h31:=Tryz.underlying28
   have h33:=Tryz.underlying57
   go_loopg [27] (l.length + 1) (fun g v wr=>∃ i:Nat,v=.int .i64 i∧l.length<g + i∧Hid (i≤l.length)∧Hid (NdMap wr bm i (getL ((l.map enOf).take i)))∧Hid (Below w.heap.size w wr))
   case atStart=>exact ⟨0,rfl,by omega,Lib.hid (by omega),Lib.hid (by rw [List.take_zero];exact HM2.out),HB3⟩
   case round =>
    obtain ⟨i,rfl,hgi,HI,HM,HB⟩:=hrel
    by_cases hi:i<l.length
    ·cases gk with
     | zero=>omega
     | succ g1 =>
      obtain ⟨ad,rfl,hat⟩:=e_at HR.out i hi
      have HAT:=Lib.hid (hat.below HB.out)
      clear hat
      have HEF:=Lib.hid (fits_get HF.out (List.mem_map_of_mem (f:=enOf) (List.getElem_mem hi)))
      have hst:=getL_step HD.out i (by simpa using hi)
      rw [List.getElem_map] at hst
      obtain ⟨e,hee⟩:∃ e,e=enOf l[i]:=⟨_,rfl⟩
      rw [← hee] at HAT HEF hst
      have HST:=Lib.hid hst
      clear hst hee
      have HLL:=HL.out
      go_wp2_with (first|((with_reducible refine gate_dst (N:=30) rfl ?_);refine wpList_load_agg rfl 32 _ rfl _ rfl (eCells e) _ HAT.out h49 rfl rfl ?_)|((with_reducible refine gate_dst (N:=8) rfl ?_);refine box_event rfl (N:=8) rfl (cs:=enZero) (t:=32) ?hr ?_;(case hr=>first|(go_simp;done)|(go_simp;rfl));intro g hg w4 hb2 hbl2;have HGE:Hid (w.heap.size≤g):=Lib.hid (by rw [hg];exact HB.out.size);have HGW:Hid (wr.heap.size≤g):=Lib.hid (by rw [hg];exact Nat.le_refl _);have HB4:=Lib.hid hb2;have HBL4:=Lib.hid hbl2;clear hg hb2 hbl2)|((with_reducible refine gate_store (t:=32) (p:=8) rfl ?_);refine wpList_store_agg rfl rfl 32 _ _ rfl g (eCells e).toArray rfl rfl 32 enZero HB4.out rfl rfl (eCells_all _) ?_;intro w5 hb3 hg3;have q0:=(lies_of hb3) 0 _ rfl;simp only [Addr.add_mid,Nat.zero_add] at q0;have HN5:Hid (LiesAt w5 ⟨g,1,none⟩ (ndCells e.2)):=Lib.hid (fun j v hv=>(by have:=(lies_of hb3) (1 + j) v (by rw [Nat.add_comm];exact hv);rw [Addr.add_mid,Nat.zero_add] at this;rw [Addr.add_mid];exact this));have HBW5:Hid (Below wr.heap.size wr w5):=Lib.hid (HBL4.out.grown hg3 HBL4.out.size (fun j hj=>by cases hj;exact HGW.out));have HB5:Hid (Below w.heap.size w w5):=Lib.hid (YtjghikkboekonaaGreatDoor.below_then HB.out HBW5.out);clear hb3 hg3)|((with_reducible refine gate_dst (N:=35) rfl ?_);refine wpList_load_agg rfl 28 _ rfl _ rfl (ndCells e.2) _ HN5.out h31 rfl rfl ?_)|(at_mapUpdate;refine wpList_nd_up rfl rfl _ _ _ rfl bm i _ rfl (HM.out.ext HBW5.out) (by have:=HL.out;omega) e.1 e.2 rfl rfl (by have:=HEF.out.1;omega) _ HST.out ?_;intro w6 hm6 hg6;have HM6:=Lib.hid hm6;have HB6:Hid (Below w.heap.size w w6):=Lib.hid (HB5.out.grown hg6 HB5.out.size (fun j hj=>by cases hj;exact HBM.out));clear hm6 hg6 q0))
      have HII:Hid (i + 1≤l.length):=Lib.hid hi
      go_roundg g1
      case measure=>omega
      case rel=>exact ⟨i + 1,by go_num,by omega,HII,HM6,HB6⟩
    ·have he : i=l.length:=by have:=HI.out;omega
     subst he
     have HMM:Hid (NdMap wr bm l.length (getL (l.map enOf))):=Lib.hid (by have:=HM.out;rwa [List.take_of_length_le (by simp)] at this)
     clear HM HB3 HM2 HI hgi hi
     go_wp2_with fail
     obtain ⟨f0,hf0⟩:∃ f0,f0=getL (l.map enOf):=⟨_,rfl⟩
     rw [← hf0] at HMM
     have HF0:=Lib.hid hf0
     clear hf0
     have HLN:=HL.out
     go_loopg [39] (ls.length + 1) (fun g v wr=>∃ i:Nat,v=.int .i64 i∧ls.length<g + i∧Hid (i≤ls.length)∧Hid (NdMap wr bm l.length (((ls.map chOf).take i).foldl takeF f0))∧Hid (Below w.heap.size w wr))
     case atStart=>exact ⟨0,rfl,by omega,Lib.hid (by omega),Lib.hid (by rw [List.take_zero];exact HMM.out),HB⟩
     case round =>
      obtain ⟨i,rfl,hgi,HI,HM,HB⟩:=hrel
      by_cases hi:i<ls.length
      ·cases gk with
       | zero=>omega
       | succ g1 =>
        obtain ⟨ad,rfl,hat⟩:=c_at HR2.out i hi
        have HAT:=Lib.hid (hat.below HB.out)
        clear hat
        have HEF:=Lib.hid (lyr_get HF2.out (List.mem_map_of_mem (f:=chOf) (List.getElem_mem hi)))
        have hst:((ls.map chOf).take (i + 1)).foldl takeF f0=takeF (((ls.map chOf).take i).foldl takeF f0) (chOf ls[i]):=by
         rw [List.take_succ_eq_append_getElem (by simpa using hi),List.foldl_append,List.getElem_map];rfl
        obtain ⟨e,hee⟩:∃ e,e=chOf ls[i]:=⟨_,rfl⟩
        rw [← hee] at HAT HEF hst
        have HST:=Lib.hid hst
        clear hst hee
        have HLL:=HL2.out
        go_wp2_with (first|((with_reducible refine gate_dst (N:=42) rfl ?_);refine wpList_load_agg rfl 57 _ rfl _ rfl (chCells e) _ HAT.out h33 rfl rfl ?_)|((with_reducible refine gate_dst (N:=10) rfl ?_);refine box_event rfl (N:=10) rfl (cs:=chZero) (t:=57) ?hr ?_;(case hr=>first|(go_simp;done)|(go_simp;rfl));intro g hg w4 hb2 hbl2;have HGE:Hid (w.heap.size≤g):=Lib.hid (by rw [hg];exact HB.out.size);have HGW:Hid (wr.heap.size≤g):=Lib.hid (by rw [hg];exact Nat.le_refl _);have HB4:=Lib.hid hb2;have HBL4:=Lib.hid hbl2;clear hg hb2 hbl2)|((with_reducible refine gate_store (t:=57) (p:=10) rfl ?_);refine wpList_store_agg rfl rfl 57 _ _ rfl g (chCells e).toArray rfl rfl 57 chZero HB4.out rfl rfl (chCells_all _) ?_;intro w5 hb3 hg3;have HB6:=Lib.hid hb3;have q1:=(lies_of hb3) 1 _ rfl;simp only [Addr.add_mid,Nat.zero_add] at q1;have HBW5:Hid (Below wr.heap.size wr w5):=Lib.hid (HBL4.out.grown hg3 HBL4.out.size (fun j hj=>by cases hj;exact HGW.out));have HB5:Hid (Below w.heap.size w w5):=Lib.hid (YtjghikkboekonaaGreatDoor.below_then HB.out HBW5.out);clear hb3 hg3)|((with_reducible refine gate_dst (N:=44) rfl ?_);refine wpList_load_agg rfl 57 _ rfl _ rfl (chCells e) _ (lies_of HB6.out) h33 rfl rfl ?_))
        refine (take_calls w5 bm l.length _ (HM.out.ext HBW5.out) e (by have:=HEF.out.1;omega)).mono ?_
        rintro x w6 ⟨rfl,hm6,hg6⟩
        have HM6:Hid (NdMap w6 bm l.length (((ls.map chOf).take (i + 1)).foldl takeF f0)):=Lib.hid (by rw [HST.out];exact hm6)
        have HB7:Hid (Below w.heap.size w w6):=Lib.hid (HB5.out.grown hg6 HB5.out.size (fun j hj=>by cases hj;exact HBM.out))
        clear hm6 hg6
        have HII:Hid (i + 1≤ls.length):=Lib.hid hi
        go_wp2_with fail
        go_roundg g1
        case measure=>omega
        case rel=>exact ⟨i + 1,by go_num,by omega,HII,HM6,HB7⟩
      ·have he:i=ls.length:=by have:=HI.out;omega
       subst he
       have HMT:Hid (NdMap wr bm l.length ((ls.map chOf).foldl takeF f0)):=Lib.hid (by have:=HM.out;rwa [List.take_of_length_le (by simp)] at this)
       clear HM HMM HI hgi hi
       go_wp2_with fail
       obtain ⟨G0,hg0⟩:∃ G0,G0=(ls.map chOf).foldl takeF f0:=⟨_,rfl⟩
       rw [← hg0] at HMT
       have HG0:Hid (∀ q,PS.V q→G0 q=if tkL PS (ls.map chOf) q=true then none else getL (l.map enOf) q):=Lib.hid (fun q _=>by rw [hg0,foldl_take,HF0.out])
       have HGV:Hid (∀ x,(G0 x).isSome=true→PS.V x):=Lib.hid (fun x hx=>by
        rw [hg0,foldl_take,HF0.out] at hx
        split at hx
        ·cases hx
        ·obtain ⟨n,hn⟩:=Option.isSome_iff_exists.1 hx
         exact HT.out.srt.v _ (Zt.getL_mem hn))
       have HUN:=fun {o} hp=>Zt.applyL_unique (dir:=Y.dir) Zt.lessM_iff HCR.out.layR HT.out.srt HT.out.wf HG0.out (o:=o) hp
       have HUN:=Lib.hid (fun o=>HUN (o:=o))
       clear hg0
       have HLM:=HL2.out
       go_loopg [49] (ls.length + 1) (fun gg v wr=>∃ (i:Nat) (g:Str→Option Nd),v=.int .i64 i∧ls.length<gg + i∧Hid (i≤ls.length)∧Hid (NdMap wr bm (l.length + i) g) ∧
        Hid (∀ o,Puts PS Y.dir (puts ((ls.map chOf).drop i)) g o→Puts PS Y.dir (puts (ls.map chOf)) G0 o)∧Hid (∀ x,(g x).isSome=true→PS.V x)∧Hid (Below w.heap.size w wr))
       case atStart=>exact ⟨0,G0,rfl,by omega,Lib.hid (by omega),HMT,Lib.hid (fun o h=>h),HGV,HB⟩
       case round =>
        obtain ⟨i,gf,rfl,hgi,HI,HM,HPT,HV,HB⟩:=hrel
        by_cases hi:i<ls.length
        ·cases gk with
         | zero=>omega
         | succ g1 =>
          obtain ⟨ad,rfl,hat⟩:=c_at HR2.out i hi
          have HAT:=Lib.hid (hat.below HB.out)
          clear hat
          have HEF:=Lib.hid (lyr_get HF2.out (List.mem_map_of_mem (f:=chOf) (List.getElem_mem hi)))
          have hdr:(ls.map chOf).drop i=chOf ls[i] :: (ls.map chOf).drop (i + 1):=by rw [List.drop_eq_getElem_cons (by simpa using hi)];simp
          have hmem:chOf ls[i] ∈ ls.map chOf:=List.mem_map_of_mem (f:=chOf) (List.getElem_mem hi)
          obtain ⟨e,hee⟩:∃ e,e=chOf ls[i]:=⟨_,rfl⟩
          rw [← hee] at HAT HEF hdr hmem
          have HDR:=Lib.hid hdr
          have HMEM:=Lib.hid hmem
          clear hdr hee hmem
          have HLL:=HL2.out
          have HII:Hid (i + 1≤ls.length):=Lib.hid hi
          cases hop:(e.op == 0) with
          | false =>
           have hop1:¬ e.op=0:=by simpa using hop
           have HPT2:Hid (∀ o,Puts PS Y.dir (puts ((ls.map chOf).drop (i + 1))) gf o→Puts PS Y.dir (puts (ls.map chOf)) G0 o):=Lib.hid (fun o h=>HPT.out o (by rw [HDR.out];unfold puts;rw [if_neg hop1];exact h))
           go_wp2_with (first|((with_reducible refine gate_dst (N:=52) rfl ?_);refine wpList_load_agg rfl 57 _ rfl _ rfl (chCells e) _ HAT.out h33 rfl rfl ?_)|((with_reducible refine gate_dst (N:=12) rfl ?_);refine box_event rfl (N:=12) rfl (cs:=chZero) (t:=57) ?hr ?_;(case hr=>first|(go_simp;done)|(go_simp;rfl));intro g hg w4 hb2 hbl2;have HGE:Hid (w.heap.size≤g):=Lib.hid (by rw [hg];exact HB.out.size);have HGW:Hid (wr.heap.size≤g):=Lib.hid (by rw [hg];exact Nat.le_refl _);have HB4:=Lib.hid hb2;have HBL4:=Lib.hid hbl2;clear hg hb2 hbl2)|((with_reducible refine gate_store (t:=57) (p:=12) rfl ?_);refine wpList_store_agg rfl rfl 57 _ _ rfl g (chCells e).toArray rfl rfl 57 chZero HB4.out rfl rfl (chCells_all _) ?_;intro w5 hb3 hg3;have HB6:=Lib.hid hb3;have q1:=(lies_of hb3) 1 _ rfl;simp only [Addr.add_mid,Nat.zero_add] at q1;have HBW5:Hid (Below wr.heap.size wr w5):=Lib.hid (HBL4.out.grown hg3 HBL4.out.size (fun j hj=>by cases hj;exact HGW.out));have HB5:Hid (Below w.heap.size w w5):=Lib.hid (YtjghikkboekonaaGreatDoor.below_then HB.out HBW5.out);clear hb3 hg3)|((with_reducible refine gate_dst (N:=58) rfl ?_);refine wpList_load_agg rfl 57 _ rfl _ rfl (chCells e) _ (lies_of HB6.out) h33 rfl rfl ?_))
           go_roundg g1
           case measure=>omega
           case rel=>exact ⟨i + 1,gf,by go_num,by omega,HII,Lib.hid ((HM.out.ext HBW5.out).mono (by omega)),HPT2,HV,HB5⟩
          | true =>
           have hop1:e.op=0:=by simpa using hop
           go_wp2_with (first|((with_reducible refine gate_dst (N:=52) rfl ?_);refine wpList_load_agg rfl 57 _ rfl _ rfl (chCells e) _ HAT.out h33 rfl rfl ?_)|((with_reducible refine gate_dst (N:=12) rfl ?_);refine box_event rfl (N:=12) rfl (cs:=chZero) (t:=57) ?hr ?_;(case hr=>first|(go_simp;done)|(go_simp;rfl));intro g hg w4 hb2 hbl2;have HGE:Hid (w.heap.size≤g):=Lib.hid (by rw [hg];exact HB.out.size);have HGW:Hid (wr.heap.size≤g):=Lib.hid (by rw [hg];exact Nat.le_refl _);have HB4:=Lib.hid hb2;have HBL4:=Lib.hid hbl2;clear hg hb2 hbl2)|((with_reducible refine gate_store (t:=57) (p:=12) rfl ?_);refine wpList_store_agg rfl rfl 57 _ _ rfl g (chCells e).toArray rfl rfl 57 chZero HB4.out rfl rfl (chCells_all _) ?_;intro w5 hb3 hg3;have HB6:=Lib.hid hb3;have q1:=(lies_of hb3) 1 _ rfl;simp only [Addr.add_mid,Nat.zero_add] at q1;have HBW5:Hid (Below wr.heap.size wr w5):=Lib.hid (HBL4.out.grown hg3 HBL4.out.size (fun j hj=>by cases hj;exact HGW.out));have HB5:Hid (Below w.heap.size w w5):=Lib.hid (YtjghikkboekonaaGreatDoor.below_then HB.out HBW5.out);clear hb3 hg3)|((with_reducible refine gate_dst (N:=58) rfl ?_);refine wpList_load_agg rfl 57 _ rfl _ rfl (chCells e) _ (lies_of HB6.out) h33 rfl rfl ?_))
           refine (put_calls w5 bm (l.length + i) gf (HM.out.ext HBW5.out) (by have:=HL.out;omega) e (by have:=HEF.out.1;omega)).mono ?_
           rintro x w6 ⟨rfl,hm6,hg6⟩
           have HB7:Hid (Below w.heap.size w w6):=Lib.hid (HB5.out.grown hg6 HB5.out.size (fun j hj=>by cases hj;exact HBM.out))
           cases hfo:folderF gf (parM e.path) with
           | false =>
            have hp:=HPT.out none (by rw [HDR.out];unfold puts;rw [if_pos hop1];exact Puts.no (fun h=>by have:=(folderF_iff gf _).2 h;rw [show PS.par e.path=parM e.path from rfl,hfo] at this;cases this))
            have HE2:Hid (res=([],10)):=Lib.hid (by
             rcases HUN.out none hp with ⟨_,ha⟩|⟨_,_,h,_⟩
             ·rw [HE.out,ha]
             ·cases h)
            clear hm6 hg6 hp
            go_wp2_with fail
            all_goals
             go_ret2
             exact ⟨_,by rw [HE2.out];rfl,by rw [HE2.out];exact Owr.nil _ _ _ _ _,HB7.out⟩
           | true =>
            have HM6:Hid (NdMap w6 bm (l.length + (i + 1)) (putF gf e)):=Lib.hid (by rw [hfo,if_pos rfl] at hm6;exact hm6)
            have HPT2:Hid (∀ o,Puts PS Y.dir (puts ((ls.map chOf).drop (i + 1))) (putF gf e) o→Puts PS Y.dir (puts (ls.map chOf)) G0 o):=Lib.hid (fun o h=>HPT.out o (by
             rw [HDR.out];unfold puts;rw [if_pos hop1]
             exact Puts.step ((folderF_iff gf _).1 hfo) (by rw [putF_eq];exact h)))
            have HV2:=Lib.hid (putF_V HV.out (HCR.out.layR.put e HMEM.out hop1).1)
            clear hm6 hg6
            go_wp2_with fail
            go_roundg g1
            case measure=>omega
            case rel=>exact ⟨i + 1,putF gf e,by go_num,by omega,HII,HM6,HPT2,HV2,HB7⟩
        ·have he:i=ls.length:=by have:=HI.out;omega
         subst he
         have hp:=HPT.out (some gf) (by rw [List.drop_eq_nil_of_le (by simp)];exact Puts.nil gf)
         obtain ⟨t',HAP,HSR,HQ,HUQ⟩:∃ t',Hid (applyL PS Y.dir lessM (l.map enOf) (ls.map chOf)=some t')∧Hid (Srt PS t')∧Hid (∀ q,PS.V q→gf q=getL t' q)∧Hid (∀ out,Srt PS out→(∀ q,PS.V q→getL out q=gf q)→out=t'):=by
          rcases HUN.out _ hp with ⟨h,_⟩|⟨g',t',hg',h1,h2,h3,h4⟩
          ·cases h
          ·cases hg';exact ⟨t',h1,h2,h3,h4⟩
         have HE2:Hid (res=if t'.length≤5000 then (t',0) else ([],2)):=Lib.hid (by rw [HE.out,HAP.out])
         clear hp HPT HUN HG0
         obtain ⟨D,hown,hat⟩:=HM.out
         have hsz:=nd_size hown hat (t'.map (·.1)) (keys_nodup HSR.out) (fun x=>keys_mem HSR.out HQ.out HV.out x)
         rw [List.length_map] at hsz
         have HOWN:=Lib.hid hown
         clear hown hat
         by_cases h5:t'.length≤5000
         ·have hd5:(5000:Int)<(Maps.size D:Int)↔False:=by constructor <;> intro h <;> first|omega|cases h
          have HE3:Hid (res=(t',0)):=Lib.hid (by rw [HE2.out,if_pos h5])
          have hd6:decide ((5000:Int)<(Maps.size D:Int))=false:=by simp;omega
          go_wp2_with (first|(at_len;refine wpList_len_own _ rfl _ 83 rfl 9 28 Tryz.underlying83 Rn bm _ D rfl HOWN.out ?_))
          refine (keys_fn_calls wr bm).mono ?_
          rintro x w4 ⟨rfl,hw4⟩
          have HB4:Hid (Below wr.heap.size wr w4):=Lib.hid (by rw [hw4];exact YtjghikkboekonaaGreatDoor.below_new _ _)
          have HC4:Hid (w4.cell? ⟨wr.heap.size,0,none⟩=some (.map (some bm))):=Lib.hid (by rw [hw4];exact YtjghikkboekonaaGreatDoor.cell_new _ _ _ _ rfl)
          have HBW4:Hid (Below w.heap.size w w4):=Lib.hid (YtjghikkboekonaaGreatDoor.below_then HB.out HB4.out)
          clear hw4
          go_wp2_with fail
          refine (sorted_calls w4 (hG.ext HBW4.out) bm _ gf (HM.out.ext HB4.out) (by have:=HL.out;have:=HL2.out;omega) (fun x hx=>isM_short (HV.out x hx)) wr.heap.size HC4.out).mono ?_
          rintro x w5 ⟨v,ks,rfl,htx,hmem,hpw,hlen,hb5⟩
          have HTX:=Lib.hid htx
          have HMEM:=Lib.hid hmem
          have HPW:=Lib.hid hpw
          have HLEN:=Lib.hid hlen
          have HB5:Hid (Below w.heap.size w w5):=Lib.hid (YtjghikkboekonaaGreatDoor.below_then HBW4.out hb5)
          have HM5:Hid (NdMap w5 bm (l.length + ls.length) gf):=Lib.hid ((HM.out.ext HB4.out).ext hb5)
          clear htx hmem hpw hlen hb5 hd5 hd6
          obtain ⟨A9,c9,rfl,hcell⟩:=HTX.out
          have HCELL:=Lib.hid hcell
          clear hcell HTX
          obtain ⟨outs,houts⟩:∃ outs:List (Str×Nd),outs=ks.map fun k=>(k,(gf k).getD zeroN):=⟨_,rfl⟩
          have HOUT:Hid (outs=t'):=Lib.hid (by
           refine HUQ.out outs ⟨?_,?_⟩ ?_
           ·intro x hx
            rw [houts,List.mem_map] at hx
            obtain ⟨k,hk,rfl⟩:=hx
            exact HV.out k ((HMEM.out k).1 hk)
           ·rw [houts];exact List.pairwise_map.2 HPW.out
           ·intro q _
            rw [houts]
            exact getL_keys gf ks HMEM.out q)
          have HOL:Hid (outs.length=ks.length):=Lib.hid (by rw [houts];simp)
          have HOG:Hid (∀ i (h:i<ks.length),outs.take (i + 1)=outs.take i ++ [(ks[i],(gf ks[i]).getD zeroN)]):=Lib.hid (fun i h=>by
           rw [List.take_succ_eq_append_getElem (by rw [houts];simpa using h)]
           simp [houts])
          clear houts
          have HKL:Hid (ks.length≤2000000):=Lib.hid (by have:=HLEN.out;have:=HL.out;have:=HL2.out;omega)
          go_wp2_with fail
          obtain ⟨i0,hi,hz0,hz1,hz2⟩:=info_parts info_en
          have HI0:=Lib.hid hi
          have HZ0:=Lib.hid hz0
          have HZ1:=Lib.hid hz1
          have HZ2:=Lib.hid hz2
          clear hi hz0 hz1 hz2
          have hkl:=HKL.out
          go_loopg [13,70] (ks.length + 1) (fun gg v13 v70 wr=>∃ i:Nat,v70=.int .i64 i∧ks.length<gg + i∧Hid (i≤ks.length)∧Hid (Owr eCells 32 11 w5.heap.size wr v13 (outs.take i))∧Hid (Below w5.heap.size w5 wr))
          case atStart=>exact ⟨0,rfl,by omega,Lib.hid (by omega),Lib.hid (by rw [List.take_zero];exact Owr.nil _ _ _ _ _),Lib.hid (Below.refl _ _)⟩
          case round =>
           obtain ⟨i,rfl,hgi,HI,HO,HBr⟩:=hrel
           by_cases hi:i<ks.length
           ·cases gk with
            | zero=>omega
            | succ g1 =>
             obtain ⟨gb,rfl,hkc⟩:=HCELL.out i hi
             have hkc':=pw_cell_below HBr.out hkc
             have hmk:(gf ks[i]).isSome=true:=(HMEM.out _).1 (List.getElem_mem hi)
             have hks:=isM_short (HV.out _ hmk)
             have hlk:=(HM5.out.ext HBr.out).look (s:=ks[i]) (by omega)
             have hog:=HOG.out i hi
             generalize ks[i]=k at hkc' hks hlk hog
             generalize (gf k).getD zeroN=m at hlk hog
             clear hkc hmk
             have HOGI:=Lib.hid hog
             clear hog
             simp only [ndVal,ndCells] at hlk
             have hil:(outs.take i).length≤2000000:=by rw [List.length_take];omega
             have HIL:=Lib.hid hil
             clear hil
             go_wp2_with (at_builtin;refine wpList_append_one rfl _ _ 22 rfl w5.heap.size 32 11 120 i0 (.agg enZero) Tryz.underlying22 HI0.out HZ0.out HZ1.out HZ2.out rfl (by decide) eCells_len eCells_one _ (outs.take i) rfl (HO.out.alloc _) (k,m) _ 1 rfl ?c1 ?c2 ?c3 ?c4 ?_)
             case c1=>intro j u hu;exact YtjghikkboekonaaGreatDoor.cell_new_at (cs:=eCells (k,m)) rfl hu
             case c2=>have:=HIL.out;unfold maxLen;omega
             case c3=>have:=HIL.out;omega
             case c4=>have:=HBr.out.size;simp;omega
             intro v' w7 ho' hg'
             have HO7:Hid (Owr eCells 32 11 w5.heap.size w7 v' (outs.take (i + 1))):=Lib.hid (by rw [HOGI.out];exact ho')
             have HB7:Hid (Below w5.heap.size w5 w7):=Lib.hid ((HBr.out.alloc HBr.out.size _).grown hg' (by have:=HBr.out.size;simp;omega) (fun j hj=>(World.ownsRow.lt HO.out j hj).1))
             have HII:Hid (i + 1≤ks.length):=Lib.hid hi
             clear ho' hg'
             go_wp2_with fail
             go_roundg g1
             case measure=>omega
             case rel=>exact ⟨i + 1,by go_num,by omega,HII,HO7,HB7⟩
           ·have he:i=ks.length:=by have:=HI.out;omega
            subst he
            go_wp2_with fail
            go_ret2
            refine ⟨_,by rw [HE3.out];rfl,?_,YtjghikkboekonaaGreatDoor.below_then HB5.out HBr.out⟩
            rw [HE3.out,← HOUT.out]
            have:=HO.out
            rw [List.take_of_length_le (by rw [HOL.out];exact Nat.le_refl _)] at this
            exact own_weaken this HB5.out.size
         ·have HE3:Hid (res=([],2)):=Lib.hid (by rw [HE2.out,if_neg h5])
          have hd6:decide ((5000:Int)<(Maps.size D:Int))=true:=by simp;omega
          go_wp2_with (first|(at_len;refine wpList_len_own _ rfl _ 83 rfl 9 28 Tryz.underlying83 Rn bm _ D rfl HOWN.out ?_))
          all_goals
           go_ret2
           exact ⟨_,by rw [HE3.out];rfl,by rw [HE3.out];exact Owr.nil _ _ _ _ _,HB.out⟩
end Go.Proofs.Zq
end
section
namespace Go.Proofs.Zq
open Go.RowKit Go.WideMaps Go.Maps Go.Proofs.YtjghikkboekonaaGreatDoor Go.Proofs.Zw.PrintWords Go.Proofs.Zw.PrintLast Go.Proofs.Zw.PrintMore
open Go.Proofs.Zt (applyM)
theorem en_R {w:World} {base:Nat} {v:Value} {l:List (Str×Nd)} (h:Owr eCells 32 11 base w v l):Kd.R k32 32 w base (fun _=>True) v (l.map ofEn) :=
 R_of_own (d:=k32) (f:=enOf) (fun w base ok x=>by rw [← eCells_en];exact k32_mkM w base ok x) eCells_len (by rw [ens_back];exact h)
def lyrFits' (l:List S57):Prop:=lyrFits (l.map chOf)=true∧l.length≤1000000
instance (l:List S57):Decidable (lyrFits' l):=by unfold lyrFits';infer_instance
end Go.Proofs.Zq
end
section
namespace Go.Proofs.Zq
open Go.RowKit Go.Proofs.YtjghikkboekonaaGreatDoor
open Go.Proofs.Zt (applyM rightT Ch)
def dN:Nd:={ zeroN with kind:=1 }
end Go.Proofs.Zq
end
section
namespace Go.Proofs.Zq
open Go.RowKit Go.WideMaps Go.Maps Go.Proofs.YtjghikkboekonaaGreatDoor Go.Proofs.Zw.PrintWords Go.Proofs.Zw.PrintLast Go.Proofs.Zw.PrintMore
open Go.Proofs.Zt (applyM rightT Ch)
theorem en_C {w:World} {A:Option Addr} {xs:List S32} (h:RowAt eCells 11 w A (xs.map enOf)) (hn:xs.length≤9223372036854775807):Kd.C k32 w A xs.length xs :=
 C_of_row (d:=k32) (fun w x=>by rw [← eCells_en];exact k32_mk w x) h hn
theorem chCells_of (x:S57):chCells (chOf x)=[.string x.f0,.int .i64 x.f1,.int .i64 x.f2.f0,.int .i64 x.f2.f1,.int .i64 x.f2.f2,.int .i64 x.f2.f3,.int .i64 x.f2.f4,.string x.f2.f5,.string x.f2.f6,.int .i64 x.f2.f7,.int .i64 x.f2.f8,.string x.f2.f9]:=by
 obtain ⟨p,o,x⟩:=x
 obtain ⟨a1,a2,a3,a4,a5,a6,a7,a8,a9,a10⟩:=x
 simp [chCells,ndCells,chOf,ndOf,B_L]
theorem ch_C {w:World} {A:Option Addr} {xs:List S57} (h:RowAt chCells 12 w A (xs.map chOf)) (hn:xs.length≤9223372036854775807):Kd.C k57 w A xs.length xs :=
 C_of_row (d:=k57) (fun w x=>by rw [chCells_of];exact k57_mk w x) h hn
theorem row_of_block {α:Type} {enc:α→List Value} {k:Nat} (hk:∀ x,(enc x).length=k) {w:World} {g:Nat} {T:TypeId} {l:List α} (hl:l.length≤maxLen) (h:w.heap[g]?=some (.cells (flat enc l).toArray T (0,0))):RowAt enc k w (some ⟨g,0,none⟩) l:=by
 have hf:(flat enc l).length=l.length * k:=flat_length hk l
 have:Owr enc T k 0 w (.slice (some ⟨g,0,none⟩) l.length l.length) l:=⟨hf,.inr ⟨g,l.length,_,rfl,Nat.zero_le _,h,Nat.le_refl _,hl,by simpa using hf,by rw [List.toList_toArray,← hf,List.take_length]⟩⟩
 exact this.row hk
section
variable {P:Program} {ops:Array Oper} {rest:List Oper} {o:Oper} {a:Act} {Q:Exit→Act→World→Prop} {W:World}
theorem row_event (hgd:o.guard=none) {N:Tmp} (_hd:o.dst=some N) {cs:Array Value} {t:TypeId} {n:Nat}
  (hrun:(execOp a.eval o).run P W=.ok (.value (.slice (some ⟨W.heap.size,0,none⟩) n n)) (W.alloc (.cells cs t (0,0))))
  (h:∀ g,g=W.heap.size→∀ w1,w1.heap[g]?=some (.cells cs t (0,0))→Below W.heap.size W w1→wpList P ops Q rest (a.put o.dst (.slice (some ⟨g,0,none⟩) n n)) w1):wpList P ops Q (o :: rest) a W :=
 Kd.event_run hgd hrun (h _ rfl _ (Go.Proofs.Zw.PrintWords.blk_new W _) (Go.Proofs.Zw.PrintWords.pz3 (Below.refl _ _) _))
theorem build_event (hgd:o.guard=none) {N:Tmp} (_hd:o.dst=some N) (t:TypeId) (parts:Array (Nat×Operand)) (ho:o.op=.build t parts) (cs:Array Value) (hb:P.built t (parts.map fun (i,x)=>(i,a.eval x)).toList=some cs)
  (h:wpList P ops Q rest (a.put o.dst (.agg cs)) W):wpList P ops Q (o :: rest) a W :=
 wpList_build hgd t parts ho (by rw [hb];rfl) (by rw [hb];exact h)
end
section
variable {P:Program} {ops:Array Oper} {rest:List Oper} {o:Oper} {a:Act} {Q:Exit→Act→World→Prop} {W:World}
end
def m17 (k m:Int):Nd:={ zeroN with kind:=k,mode:=m }
end Go.Proofs.Zq
end
section
namespace Go.Proofs.Zq
open Go.ChangeShapes Go.WideShapes Go.ChangeAt Go.RowKit Go.WideElems Go.Proofs.YtjghikkboekonaaGreatDoor Go.Proofs.Zw.PrintWords
section
variable {H:Type} {enc:TypeId×Value→H}
theorem w_all {P:Program} {e:TypeId}:∀ {l:List (DataW H)} {d:DataW H},d ∈ l→∀ n ∈ d.weights P e,n ∈ DataW.weightsAll P e l
 | x :: r,d,hd,n,hn=>by
  simp only [DataW.weightsAll,List.mem_append]
  rcases List.mem_cons.1 hd with h|h
  ·rw [← h];exact .inl hn
  ·exact .inr (w_all h n hn)
theorem w_slice {P:Program} {t e:TypeId} {elems spare:List (DataW H)} (hu:P.underlying t=some (.slice e)) {d:DataW H} (hd:d ∈ elems) {n:Nat} (hn:n ∈ d.weights P e):n ∈ (DataW.slice elems spare).weights P t:=by
 simp only [DataW.weights,hu]
 exact List.mem_cons_of_mem _ (List.mem_append_left _ (w_all hd n hn))
theorem w_len {P:Program} {t e:TypeId} {elems spare:List (DataW H)} (hu:P.underlying t=some (.slice e)):(elems.length + spare.length) * P.bytesOf e ∈ (DataW.slice elems spare).weights P t:=by
 simp [DataW.weights,hu]
theorem w_field {P:Program} {t:TypeId} {fs:Array Field} {parts:List (DataW H)} (hu:P.underlying t=some (.struct fs)) {j:Nat} {f:Field} (hf:fs[j]?=some f) {d:DataW H} (hd:parts[j]?=some d) {n:Nat} (hn:n ∈ d.weights P f.type):n ∈ (DataW.agg parts).weights P t:=by
 simp only [DataW.weights,hu]
 refine DataW.weights_mem_each (t:=f.type) (j:=j) ?_ hd n hn
 rw [List.getElem?_map,Array.getElem?_toList,hf];rfl
theorem w_str {P:Program} {t:TypeId} (l:List UInt8):l.length ∈ (DataW.lit (.string l):DataW H).weights P t:=by simp [DataW.weights]
variable {W:World} {base:Nat} {spare:Nat→Bool} {held:Bool}
theorem str_open {fuel:Nat} {cs:List Value} {y:DataW H×List MemPlace} (h:DataW.trod enc Tryz.prog W base spare held fuel 9 cs=some y):∃ s:ByteArray,cs=[.string s]∧y.1=.lit (.string s.data.toList):=by
 obtain ⟨s,h1,h2,_⟩:=DataW.trod_string Tryz.underlying9 h
 exact ⟨s,h1,by rw [h2]⟩
theorem int_open {fuel:Nat} {cs:List Value} {y:DataW H×List MemPlace} (h:DataW.trod enc Tryz.prog W base spare held fuel 3 cs=some y):∃ n:Int,cs=[.int .i64 n]:=by
 obtain ⟨n,h1,_⟩:=DataW.trod_int Tryz.underlying3 h
 exact ⟨n,h1⟩
theorem b_len (s:ByteArray):s.data.toList.length=s.size:=by rw [Array.length_toList];rfl
set_option maxRecDepth 100000 in
theorem nd_open {fuel:Nat} {cs:List Value} {y:DataW H×List MemPlace} (h:DataW.trod enc Tryz.prog W base spare held fuel 28 cs=some y) :
  ∃ n:S28,cs=ndCells (ndOf n)∧∀ x,(x=n.f5.size∨x=n.f6.size∨x=n.f9.size)→x ∈ y.1.weights Tryz.prog 28:=by
 obtain ⟨xs,m,_,hx,hl,hlen,hf⟩:=DataW.trod_struct Tryz.underlying28 h
 have hC:cs.length=10:=hl.trans (by kernel_rfl)
 have hI:Tryz.prog.cellsOf 3=1:=by kernel_rfl
 have hS:Tryz.prog.cellsOf 9=1:=by kernel_rfl
 have hxs:xs.length=10:=hlen
 match cs,hC with
 | [c0,c1,c2,c3,c4,c5,c6,c7,c8,c9],_ =>
  match xs,hxs with
  | [y0,y1,y2,y3,y4,y5,y6,y7,y8,y9],_ =>
   have f0:DataW.trod enc Tryz.prog W base spare held m 3 ((List.drop 0 [c0,c1,c2,c3,c4,c5,c6,c7,c8,c9]).take (Tryz.prog.cellsOf 3))=some y0:=hf 0 _ rfl
   have f1:DataW.trod enc Tryz.prog W base spare held m 3 ((List.drop 1 [c0,c1,c2,c3,c4,c5,c6,c7,c8,c9]).take (Tryz.prog.cellsOf 3))=some y1:=hf 1 _ rfl
   have f2:DataW.trod enc Tryz.prog W base spare held m 3 ((List.drop 2 [c0,c1,c2,c3,c4,c5,c6,c7,c8,c9]).take (Tryz.prog.cellsOf 3))=some y2:=hf 2 _ rfl
   have f3:DataW.trod enc Tryz.prog W base spare held m 3 ((List.drop 3 [c0,c1,c2,c3,c4,c5,c6,c7,c8,c9]).take (Tryz.prog.cellsOf 3))=some y3:=hf 3 _ rfl
   have f4:DataW.trod enc Tryz.prog W base spare held m 3 ((List.drop 4 [c0,c1,c2,c3,c4,c5,c6,c7,c8,c9]).take (Tryz.prog.cellsOf 3))=some y4:=hf 4 _ rfl
   have f5:DataW.trod enc Tryz.prog W base spare held m 9 ((List.drop 5 [c0,c1,c2,c3,c4,c5,c6,c7,c8,c9]).take (Tryz.prog.cellsOf 9))=some y5:=hf 5 _ rfl
   have f6:DataW.trod enc Tryz.prog W base spare held m 9 ((List.drop 6 [c0,c1,c2,c3,c4,c5,c6,c7,c8,c9]).take (Tryz.prog.cellsOf 9))=some y6:=hf 6 _ rfl
   have f7:DataW.trod enc Tryz.prog W base spare held m 3 ((List.drop 7 [c0,c1,c2,c3,c4,c5,c6,c7,c8,c9]).take (Tryz.prog.cellsOf 3))=some y7:=hf 7 _ rfl
   have f8:DataW.trod enc Tryz.prog W base spare held m 3 ((List.drop 8 [c0,c1,c2,c3,c4,c5,c6,c7,c8,c9]).take (Tryz.prog.cellsOf 3))=some y8:=hf 8 _ rfl
   have f9:DataW.trod enc Tryz.prog W base spare held m 9 ((List.drop 9 [c0,c1,c2,c3,c4,c5,c6,c7,c8,c9]).take (Tryz.prog.cellsOf 9))=some y9:=hf 9 _ rfl
   rw [hI] at f0 f1 f2 f3 f4 f7 f8
   rw [hS] at f5 f6 f9
   obtain ⟨n0,e0⟩:=int_open f0
   obtain ⟨n1,e1⟩:=int_open f1
   obtain ⟨n2,e2⟩:=int_open f2
   obtain ⟨n3,e3⟩:=int_open f3
   obtain ⟨n4,e4⟩:=int_open f4
   obtain ⟨s5,e5,d5⟩:=str_open f5
   obtain ⟨s6,e6,d6⟩:=str_open f6
   obtain ⟨n7,e7⟩:=int_open f7
   obtain ⟨n8,e8⟩:=int_open f8
   obtain ⟨s9,e9,d9⟩:=str_open f9
   simp only [List.drop_zero,List.drop_succ_cons,List.take_succ_cons,List.take_zero,List.cons.injEq,and_true] at e0 e1 e2 e3 e4 e5 e6 e7 e8 e9
   refine ⟨⟨n0,n1,n2,n3,n4,s5,s6,n7,n8,s9⟩,?_,?_⟩
   ·rw [e0,e1,e2,e3,e4,e5,e6,e7,e8,e9]
    simp [ndCells,ndOf,B_L]
   ·rw [hx]
    intro x hx'
    rcases hx' with rfl|rfl|rfl
    ·exact w_field (j:=5) (d:=y5.1) Tryz.underlying28 rfl rfl (by rw [d5,← b_len];exact w_str _)
    ·exact w_field (j:=6) (d:=y6.1) Tryz.underlying28 rfl rfl (by rw [d6,← b_len];exact w_str _)
    ·exact w_field (j:=9) (d:=y9.1) Tryz.underlying28 rfl rfl (by rw [d9,← b_len];exact w_str _)
def enSz (e:S32) (x:Nat):Prop:=x=e.f0.size∨x=e.f1.f5.size∨x=e.f1.f6.size∨x=e.f1.f9.size
set_option maxRecDepth 100000 in
theorem en_open {fuel:Nat} {cs:List Value} {y:DataW H×List MemPlace} (h:DataW.trod enc Tryz.prog W base spare held fuel 32 cs=some y) :
  ∃ e:S32,cs=eCells (enOf e)∧∀ x,enSz e x→x ∈ y.1.weights Tryz.prog 32:=by
 obtain ⟨xs,m,_,hx,hl,hlen,hf⟩:=DataW.trod_struct Tryz.underlying32 h
 have hC:cs.length=11:=hl.trans (by kernel_rfl)
 have hN:Tryz.prog.cellsOf 28=10:=by kernel_rfl
 have hS:Tryz.prog.cellsOf 9=1:=by kernel_rfl
 have hxs:xs.length=2:=hlen
 match cs,hC with
 | c0 :: r,hr =>
  match xs,hxs with
  | [y0,y1],_ =>
   have f0:DataW.trod enc Tryz.prog W base spare held m 9 ((List.drop 0 (c0 :: r)).take (Tryz.prog.cellsOf 9))=some y0:=hf 0 _ rfl
   have f1:DataW.trod enc Tryz.prog W base spare held m 28 ((List.drop 1 (c0 :: r)).take (Tryz.prog.cellsOf 28))=some y1:=hf 1 _ rfl
   rw [hS] at f0
   rw [hN] at f1
   obtain ⟨s0,e0,d0⟩:=str_open f0
   obtain ⟨n1,e1,d1⟩:=nd_open f1
   have hrl:r.length=10:=by simpa using hr
   have er:(List.drop 1 (c0 :: r)).take 10=r:=by
    show r.take 10=r
    rw [List.take_of_length_le (by omega)]
   have e1':r=ndCells (ndOf n1):=er.symm.trans e1
   simp only [List.drop_zero,List.take_succ_cons,List.take_zero,List.cons.injEq,and_true] at e0
   refine ⟨⟨s0,n1⟩,?_,?_⟩
   ·rw [e0,e1']
    simp [eCells,enOf,B_L]
   ·rw [hx]
    intro x hx'
    rcases hx' with rfl|hx'
    ·exact w_field (j:=0) (d:=y0.1) Tryz.underlying32 rfl rfl (by rw [d0,← b_len];exact w_str _)
    ·exact w_field (j:=1) (d:=y1.1) Tryz.underlying32 rfl rfl (d1 x hx')
theorem row_open {α:Type} [Inhabited α] {t e k:Nat} {cells:α→List Value} {sz:α→Nat→Prop} (hu:Tryz.prog.underlying t=some (.slice e)) (hk:Tryz.prog.cellsOf e=k) (hk0:0<k) (hkl:∀ x,(cells x).length=k)
  (hel:∀ {fuel:Nat} {cs:List Value} {y:DataW H×List MemPlace},DataW.trod enc Tryz.prog W base spare held fuel e cs=some y→∃ x:α,cs=cells x∧∀ n,sz x n→n ∈ y.1.weights Tryz.prog e)
  {fuel:Nat} {cs:List Value} {y:DataW H×List MemPlace} (h:DataW.trod enc Tryz.prog W base spare held fuel t cs=some y) :
  ∃ (a:Option Addr) (l:List α) (cap:Nat),cs=[.slice a l.length cap]∧RowAt cells k W a l∧l.length≤cap∧cap≤maxLen∧(∀ x ∈ l,∀ n,sz x n→n ∈ y.1.weights Tryz.prog t)∧(l≠[]→∃ n ∈ y.1.weights Tryz.prog t,l.length * Tryz.prog.bytesOf e≤n):=by
 rcases Deep.open_slice hu h with ⟨h0,hy⟩|⟨a,len,cap,m,n,D,Pl,hcs,_,hl,hm,hmm,hx,hcell⟩
 ·exact ⟨none,[],0,h0,RowAt.nil _ _ _ _,Nat.le_refl _,Nat.zero_le _,fun x hx=>(List.not_mem_nil hx).elim,fun h=>absurd rfl h⟩
 ·have hlm:len≤m:=by rw [hmm];split <;> omega
  have hch:∃ F:Nat→α,∀ i,i<len→∃ cs',W.cells? base (a.add (i * k)) k=some cs'∧cs'=cells (F i)∧∀ n,sz (F i) n→n ∈ (D i).weights Tryz.prog e:=by
   refine Deep.choose_lt (p:=fun i x=>∃ cs',W.cells? base (a.add (i * k)) k=some cs'∧cs'=cells x∧∀ n,sz x n→n ∈ (D i).weights Tryz.prog e) fun i hi=>?_
   obtain ⟨cs',h1,h2⟩:=hcell i (by omega)
   rw [hk] at h1
   obtain ⟨x,h3,h4⟩:=hel h2
   exact ⟨x,cs',h1,h3,h4⟩
  obtain ⟨F,hF⟩:=hch
  have hlen:((List.range len).map F).length=len:=by simp
  refine ⟨some a,(List.range len).map F,cap,by rw [hlen];exact hcs,?_,by rw [hlen];exact hl,hm,?_,?_⟩
  ·intro i x hx'
   have hi:i<len:=by
    have:=(List.getElem?_eq_some_iff.1 hx').1
    rwa [hlen] at this
   have hxi:x=F i:=by
    rw [List.getElem?_map,List.getElem?_range hi] at hx'
    exact (Option.some.inj hx').symm
   subst hxi
   obtain ⟨cs0,c1,c2,_⟩:=hF 0 (by omega)
   obtain ⟨csi,d1,d2,_⟩:=hF i hi
   obtain ⟨_,g1,g2⟩:=World.cells?_some c1
   obtain ⟨_,g3,g4⟩:=World.cells?_some d1
   have z0:=g2 0 hk0
   rw [Nat.zero_mul,Deep.add_add,Nat.add_zero,c2] at z0
   have hz0:(cells (F 0))[0]?=some ((cells (F 0))[0]'(by rw [hkl];exact hk0)):=List.getElem?_eq_getElem _
   rw [hz0] at z0
   obtain ⟨b,o,sp⟩:=a
   obtain rfl:sp=none:=by simpa [Addr.add] using World.cell?_spot z0
   refine ⟨b,o,rfl,fun j u hu'=>?_⟩
   have hj:j<k:=by
    have:=(List.getElem?_eq_some_iff.1 hu').1
    rwa [hkl] at this
   have:=g4 j hj
   rw [Deep.add_add,Addr.add_mid,d2,hu'] at this
   rw [Nat.add_assoc];exact this
  ·intro x hx' n hn
   obtain ⟨i,hi,rfl⟩:=List.mem_map.1 hx'
   have hi:=List.mem_range.1 hi
   obtain ⟨_,_,_,h4⟩:=hF i hi
   rw [hx]
   exact w_slice hu (List.mem_map.2 ⟨i,List.mem_range.2 hi,rfl⟩) (h4 n hn)
  ·intro _
   rw [hx]
   refine ⟨_,w_len hu,?_⟩
   rw [List.length_map,List.length_map,List.length_range]
   exact Nat.mul_le_mul_right _ (by simp)
end
end Go.Proofs.Zq
end
section
namespace Go.Proofs.YtjghikkboekonaaGreatDoor
open Go.ChangeShapes Go.WideShapes Go.ChangeAt Go.RowKit Go.WideElems
theorem own:ownKnob Tryz.prog.godebug=none:=by kernel_rfl
theorem laidOut:laidOutB Tryz.prog=true:=by kernel_rfl
theorem star : "*" ++ "errors.errorString" = "*errors.errorString" := by decide
theorem rowErr (u : TypeId) (h : Tryz.prog.typeName? 3 u = some "*errors.errorString") : u = 236 :=
 typeName_ptr_named (nm := "errors.errorString") (by rw [star]; kernel_rfl) (by kernel_rfl) (by decide) u (by rw [star]; exact h)
theorem gl_of {W : World} (hL : laidMet Tryz.prog [("math/bits.deBruijn32tab", Rows.laid_math_bits_deBruijn32tab), ("math/bits.deBruijn64tab", Rows.laid_math_bits_deBruijn64tab), ("internal/strconv.uint64pow10", Rows.laid_internal_strconv_uint64pow10), ("unicode/utf8.acceptRanges", Rows.laid_unicode_utf8_acceptRanges), ("strconv.ErrRange", Rows.laid_strconv_ErrRange), ("strconv.ErrSyntax", Rows.laid_strconv_ErrSyntax), ("unicode/utf8.first", Rows.laid_unicode_utf8_first)] W) (hsh : W.ShapedOpen Tryz.prog) : GL W := by
 have h0 : laidMet Tryz.prog (("math/bits.deBruijn32tab", Rows.laid_math_bits_deBruijn32tab) :: ("math/bits.deBruijn64tab", Rows.laid_math_bits_deBruijn64tab) :: ("internal/strconv.uint64pow10", Lib.tabData .u64 Lib.pow10Tab) :: ("unicode/utf8.acceptRanges", Rows.laid_unicode_utf8_acceptRanges) :: ("strconv.ErrRange", Rows.laid_strconv_ErrRange) :: ("strconv.ErrSyntax", Rows.laid_strconv_ErrSyntax) :: ("unicode/utf8.first", Rows.laid_unicode_utf8_first) :: []) W := hL
 have h2:=h0.tail.tail
 have h3:=h2.tail.tail
 have h4:=h3.tail
 obtain ⟨a1,s1,hv1,_⟩:=laid_sentinel h3 (g:=2) (ti:=195) (tp:=236) (te:=238) (by kernel_rfl) (by kernel_rfl) Tryz.underlying195 rowErr Tryz.underlying236 Tryz.underlying238 rfl rfl Tryz.underlying9 (by kernel_rfl) (by kernel_rfl)
 obtain ⟨a2,s2,hv2,_⟩:=laid_sentinel h4 (g:=1) (ti:=195) (tp:=236) (te:=238) (by kernel_rfl) (by kernel_rfl) Tryz.underlying195 rowErr Tryz.underlying236 Tryz.underlying238 rfl rfl Tryz.underlying9 (by kernel_rfl) (by kernel_rfl)
 exact {
  max:=cell_of_shapedOpen_int (t:=3) (zero:=#[.int .i64 0]) hsh (of_decide_eq_true (by kernel_rfl)) (by kernel_rfl) rfl (by kernel_rfl) (by kernel_rfl) Tryz.underlying3
  pow:=Lib.tabIs_of_head (g:=5) (by kernel_rfl) (by kernel_rfl) Tryz.underlying240 Tryz.underlying140 (by kernel_rfl) (by kernel_rfl) h2
  syn:=⟨_,_,hv2⟩
  rng:=⟨_,_,hv1⟩ }
section
variable {H:Type} {enc:TypeId×Value→H}
theorem again_all {W W':World} (hb:Below W.heap.size W W') {sp:Nat→Bool}:∀ {ts:List TypeId} {vs:List Value} {ds:List (DataW H)} {ps:List MemPlace},(∀ t ∈ ts,Tryz.prog.readableRec t=true∧t<Tryz.prog.types.size) →
  DataW.TrodAll enc Tryz.prog W 0 (fun _=>true) true ts vs ds ps→(∀ x ∈ ps,x.block<W.heap.size)→(∀ x ∈ ps,sp x.block=true)→DataW.TrodAll enc Tryz.prog W' 0 sp true ts vs ds ps
 | [],[],[],_,_,h,_,_=>h
 | [],_ :: _,_,_,_,h,_,_=>h.elim
 | [],[],_ :: _,_,_,h,_,_=>h.elim
 | _ :: _,[],_,_,_,h,_,_=>h.elim
 | _ :: _,_ :: _,[],_,_,h,_,_=>h.elim
 | t :: ts,v :: vs,d :: ds,ps,ht,h,hlt,hsp=>by
  obtain ⟨p,q,h1,h2,rfl⟩:=h
  have hr:=ht t (List.mem_cons_self ..)
  exact ⟨p,q,Trod_stays laidOut hr.1 hr.2 h1 (fun x hx=>hb.same (hlt x (List.mem_append_left _ hx))) (fun x hx=>hsp x (List.mem_append_left _ hx)),
   again_all hb (fun t h=>ht t (List.mem_cons_of_mem _ h)) h2 (fun x hx=>hlt x (List.mem_append_right _ hx)) (fun x hx=>hsp x (List.mem_append_right _ hx)),rfl⟩
set_option maxRecDepth 100000 in
theorem law_post {f:Func} {s:ChangeSpec} {apart fresh handsOn again:Bool} {W W':World} {args:Array Value} {ds gs:List (DataW H)} {before:List MemPlace} (hs:s.vars=[]) (hf:f.resultTypes=#[4])
  (hfn:s.fn H ds={ results:=[.lit (.bool true)],args:=ds }) (ht:∀ t ∈ f.params.toList,Tryz.prog.readableRec t=true∧t<Tryz.prog.types.size)
  (hW:DataW.Whole enc Tryz.prog f.params.toList s.vars apart W args.toList ds gs before) (hb:Below W.heap.size W W') :
  s.post enc Tryz.prog f apart fresh handsOn again W args (.bool true) W':=by
 obtain ⟨p,q,hA,hV,rfl,hz,hn⟩:=id hW
 have hlt:∀ x ∈ p ++ q,x.block<W.heap.size:=fun x hx=>hW.lt x hx
 rw [hs] at hV
 obtain ⟨rfl,rfl⟩:=trodVars_none hV
 have hA':DataW.TrodAll enc Tryz.prog W 0 (fun _=>true) true f.params.toList args.toList ds p:=hA
 have hold:∀ x ∈ p ++ [],(fun b=>decide (b<W.heap.size)) x.block=true:=fun x hx=>by simpa using hlt x hx
 have hargs:∀ sp:Nat→Bool,(∀ x ∈ p ++ [],sp x.block=true)→DataW.TrodAll enc Tryz.prog W' 0 sp true f.params.toList args.toList (s.fn H (ds ++ [])).args p:=fun sp hsp=>by
  rw [List.append_nil,hfn]
  exact again_all hb ht hA' (fun x hx=>hlt x (List.mem_append_left _ hx)) (fun x hx=>hsp x (List.mem_append_left _ hx))
 have hres:∀ (b:Nat) (sp:Nat→Bool) (hd:Bool),DataW.TrodAll enc Tryz.prog W' b sp hd f.resultTypes.toList ((Value.bool true).resultList f.resultTypes.size) (s.fn H (ds ++ [])).results []:=fun b sp hd=>by
  rw [List.append_nil,hfn,hf]
  exact trodAll_mk1 (shut_bool Tryz.underlying4 _)
 have hvars:∀ sp:Nat→Bool,DataW.TrodVars enc Tryz.prog W' sp s.vars (s.fn H (ds ++ [])).vars []:=fun sp=>by
  rw [List.append_nil,hfn,hs];rfl
 refine ⟨ds,[],p ++ [],[],p,[],hW,hres _ _ _,hargs _ hold,hvars _,World.keptBut_mono (fun x hx=>⟨hx,?_⟩) (hb.frame (· ∈ p ++ [])),fun _=>?_⟩
 ·exact Or.inr (by simpa using hx)
 ·refine ⟨?_,_,_,([] ++ p) ++ [],⟨[] ++ p,[],trodAll_append (hargs _ (fun _ _=>rfl)) (hres _ _ _),hvars _,rfl,?_,?_⟩,?_⟩
  ·exact ok_one hf rfl (okWide_bool_mk Tryz.underlying4 _)
  ·intro b off hp
   have hin:MemPlace.cell b off ∈ p ++ []:=by simpa using hp
   rw [hb.frozen (hlt _ hin)]
   exact hz b off hin
  ·intro ha
   simpa using hn ha
  ·intro x hx _
   simpa using hx
end
def litCell:DataW Unit→Value
 | .lit (.int k z)=>Value.int k z
 | _=>Value.int .u8 0
def tabCells:DataW Unit→Array Value
 | .agg l=>(l.flatMap fun d=>match d with|.agg m=>m.map litCell|d=>[litCell d]).toArray
 | _=>#[]
abbrev synS:ByteArray:={ data:=#[105,110,118,97,108,105,100,32,115,121,110,116,97,120] }
abbrev rngS:ByteArray:={ data:=#[118,97,108,117,101,32,111,117,116,32,111,102,32,114,97,110,103,101] }
noncomputable def low:Nat:=(World.holding Tryz.prog default ⟨#[],#[],[]⟩).heap.size
def putVar (cs:Array Value):Obj→Obj
 | .cells _ t frozen=>.cells cs t frozen
 | o=>o
noncomputable def laidWorld (os:Os):World :=
 let w0:=World.holding Tryz.prog os ⟨#[.cells #[.string rngS] 238,.cells #[.string synS] 238],#[],[]⟩
 { w0 with heap:=((((((w0.heap.modify 6 (putVar (tabCells Rows.laid_math_bits_deBruijn32tab))).modify 7 (putVar (tabCells Rows.laid_math_bits_deBruijn64tab))).modify 5 (putVar (tabCells Rows.laid_internal_strconv_uint64pow10))).modify 4 (putVar (tabCells Rows.laid_unicode_utf8_acceptRanges))).modify 3 (putVar (tabCells Rows.laid_unicode_utf8_first))).modify 2
   (putVar #[.iface 236 (.pointer (some ⟨low,0,none⟩))])).modify 1 (putVar #[.iface 236 (.pointer (some ⟨low + 1,0,none⟩))]) }
theorem laid_met (os : Os) (args : Array Value) : laidMet Tryz.prog [("math/bits.deBruijn32tab", Rows.laid_math_bits_deBruijn32tab), ("math/bits.deBruijn64tab", Rows.laid_math_bits_deBruijn64tab), ("internal/strconv.uint64pow10", Rows.laid_internal_strconv_uint64pow10), ("unicode/utf8.acceptRanges", Rows.laid_unicode_utf8_acceptRanges), ("strconv.ErrRange", Rows.laid_strconv_ErrRange), ("strconv.ErrSyntax", Rows.laid_strconv_ErrSyntax), ("unicode/utf8.first", Rows.laid_unicode_utf8_first)] ((laidWorld os).forCall (fun _ _ => 0) ⟨#[], args, []⟩).memory :=
 laidMet_of_run' 8 (by kernel_rfl) (by kernel_rfl)
end Go.Proofs.YtjghikkboekonaaGreatDoor
end
section
namespace Go.Proofs.Zq
open Go.RowKit Go.Proofs.Zw.PrintWords Go.Proofs.Zw.PrintLast Go.Proofs.Zw.PrintMore
open Go.Proofs.YtjghikkboekonaaGreatDoor (GL)
attribute [local go_sem] max2_int min2_int max_two min_two max_three min_three max_four min_four
def onionskinlaw09_Few.l0:Nat→List (S32)→Int→Int→Option (Bool)
 | 0,_,_,_=>none
 | k + 1,x0,x3,x4=>if x4<(x0.length:Int) then (if 0≤x4 then (onionskinlaw09_Few.l0 k x0 (wrap64 ((wrap64 ((wrap64 ((wrap64 (x3 + (((rd_T32 x0 x4).f0).size:Int))) + (((rd_T32 x0 x4).f1.f5).size:Int))) + (((rd_T32 x0 x4).f1.f6).size:Int))) + (((rd_T32 x0 x4).f1.f9).size:Int))) (wrap64 (x4 + 1))) else (none)) else (if (x0.length:Int)≤30 then (some (decide (x3≤12000))) else (some false))
def onionskinlaw09_Few.f (k:Nat) (l0:List (S32)):Option (Bool):=onionskinlaw09_Few.l0 k l0 0 0
set_option maxHeartbeats 8000000 in
set_option maxRecDepth 100000 in
theorem onionskinlaw09_Few.calls (k:Nat) (A0:Option Addr) (c0:Nat) (l0:List (S32)) (r:Bool) (w:World) (hr0:Kd.C k32 w A0 l0.length l0) (hc0:l0.length≤c0) (h:onionskinlaw09_Few.f k l0=some r) :
  Calls Tryz.prog 14 #[.slice A0 l0.length c0] w fun e w'=>e=.returned (.bool r)∧Drawn0 w w':=by
 have HR0:=pz4.mk hr0
 have HC0:=pz4.mk hc0
 clear hr0 hc0
 have H:(onionskinlaw09_Few.l0 k l0 0 0)=some r:=h
 clear h
 have H':=pz4.mk H
 clear H
 go_enter Tryz.func14,Tryz.ntmps14
 go_wp2
 repeat (go_quiet (fail);try go_wp2)
 go_loopg [3,4] k (fun kq v3 v4 w'=>∃ (x3_1:Int) (x4_1:Int),v3=.int .i64 x3_1∧v4=.int .i64 x4_1∧pz4 (onionskinlaw09_Few.l0 kq l0 x3_1 x4_1=some r)∧pz4 (kq≤k)∧Drawn0 w w')
 case atStart=>exact ⟨(0),(0),(by first|rfl|(simp;done)|(simp [*];done)),(by first|rfl|(simp;done)|(simp [*];done)),H',⟨Nat.le_refl _⟩,by repeat (first|exact Drawn0.refl _|apply Drawn0.step)⟩
 case round =>
  clear H'
  try clear c1
  obtain ⟨x3_1,x4_1,rfl,rfl,HA,HK1,⟨m1,rfl⟩⟩:=hrel
  cases gk with
  | zero=>exact absurd HA.out (by simp [onionskinlaw09_Few.l0])
  | succ k1 =>
   have H:=HA.out
   clear HA
   simp only [onionskinlaw09_Few.l0] at H
   by_cases c2:x4_1<(l0.length:Int)
   ·rw [if_pos c2] at H
    have c2b0:decide (x4_1<(l0.length:Int))=true:=decide_eq_true c2
    clear c2
    by_cases c3:0≤x4_1
    ·rw [if_pos c3] at H
     have c3b0:decide (0≤x4_1)=true:=decide_eq_true c3
     clear c3
     have H':=pz4.mk H
     clear H
     have p486:0≤(x4_1:Int):=of_decide_eq_true (by first|(with_reducible assumption)|assumption)
     have q486:x4_1<(l0.length:Int):=of_decide_eq_true (by first|(with_reducible assumption)|assumption)
     obtain ⟨ad486,e486,hx486_0,hx486_1,hx486_2,hx486_3,hx486_4,hx486_5,hx486_6,hx486_7,hx486_8,hx486_9,hx486_10⟩:=at_T32 HR0.out x4_1 p486 q486
     cases e486
     replace p486:=eq_true p486
     replace q486:=eq_true q486
     have p487:0≤(x4_1:Int):=of_decide_eq_true (by first|(with_reducible assumption)|assumption)
     have q487:x4_1<(l0.length:Int):=of_decide_eq_true (by first|(with_reducible assumption)|assumption)
     obtain ⟨ad487,e487,hx487_0,hx487_1,hx487_2,hx487_3,hx487_4,hx487_5,hx487_6,hx487_7,hx487_8,hx487_9,hx487_10⟩:=at_T32 HR0.out x4_1 p487 q487
     obtain rfl:ad486=ad487:=(by injection e487)
     replace p487:=eq_true p487
     replace q487:=eq_true q487
     have p488:0≤(x4_1:Int):=of_decide_eq_true (by first|(with_reducible assumption)|assumption)
     have q488:x4_1<(l0.length:Int):=of_decide_eq_true (by first|(with_reducible assumption)|assumption)
     obtain ⟨ad488,e488,hx488_0,hx488_1,hx488_2,hx488_3,hx488_4,hx488_5,hx488_6,hx488_7,hx488_8,hx488_9,hx488_10⟩:=at_T32 HR0.out x4_1 p488 q488
     obtain rfl:ad486=ad488:=(by injection e488)
     replace p488:=eq_true p488
     replace q488:=eq_true q488
     have p489:0≤(x4_1:Int):=of_decide_eq_true (by first|(with_reducible assumption)|assumption)
     have q489:x4_1<(l0.length:Int):=of_decide_eq_true (by first|(with_reducible assumption)|assumption)
     obtain ⟨ad489,e489,hx489_0,hx489_1,hx489_2,hx489_3,hx489_4,hx489_5,hx489_6,hx489_7,hx489_8,hx489_9,hx489_10⟩:=at_T32 HR0.out x4_1 p489 q489
     obtain rfl:ad486=ad489:=(by injection e489)
     replace p489:=eq_true p489
     replace q489:=eq_true q489
     go_wp2
     repeat (go_quiet (fail);try go_wp2)
     go_roundg k1
     case measure=>have:=HK1.out;omega
     case rel=>exact ⟨(wrap64 ((wrap64 ((wrap64 ((wrap64 (x3_1 + (((rd_T32 l0 x4_1).f0).size:Int))) + (((rd_T32 l0 x4_1).f1.f5).size:Int))) + (((rd_T32 l0 x4_1).f1.f6).size:Int))) + (((rd_T32 l0 x4_1).f1.f9).size:Int))),(wrap64 (x4_1 + 1)),(by first|rfl|(simp;done)|(simp [*];done)),(by first|rfl|(simp;done)|(simp [*];done)),H',⟨by have:=HK1.out;omega⟩,by repeat (first|exact Drawn0.refl _|apply Drawn0.step)⟩
    ·rw [if_neg c3] at H
     exact absurd H (by simp)
   ·rw [if_neg c2] at H
    have c2b0:decide (x4_1<(l0.length:Int))=false:=decide_eq_false c2
    clear c2
    by_cases c4:(l0.length:Int)≤30
    ·rw [if_pos c4] at H
     have c4b0:decide ((l0.length:Int)≤30)=true:=decide_eq_true c4
     have c4b1:decide (l0.length≤30)=true:=decide_eq_true (by omega)
     clear c4
     obtain rfl:=Option.some.inj H
     go_wp2
     repeat (go_quiet (fail);try go_wp2)
     go_ret
     exact ⟨by first|rfl|(simp;done)|(simp [*];done),by repeat (first|exact Drawn0.refl _|apply Drawn0.step)⟩
    ·rw [if_neg c4] at H
     have c4b0:decide ((l0.length:Int)≤30)=false:=decide_eq_false c4
     have c4b1:decide (l0.length≤30)=false:=decide_eq_false (by omega)
     clear c4
     obtain rfl:=Option.some.inj H
     go_wp2
     repeat (go_quiet (fail);try go_wp2)
     go_ret
     exact ⟨by first|rfl|(simp;done)|(simp [*];done),by repeat (first|exact Drawn0.refl _|apply Drawn0.step)⟩

theorem eqA32 (d:Nat) (w:World) (x0 y0:ByteArray) (x1 y1:Int) (x2 y2:Int) (x3 y3:Int) (x4 y4:Int) (x5 y5:Int) (x6 y6:ByteArray) (x7 y7:ByteArray) (x8 y8:Int) (x9 y9:Int) (x10 y10:ByteArray) :
  (Op.equalIn (d + 3) 32 (.agg #[.string x0,.int .i64 x1,.int .i64 x2,.int .i64 x3,.int .i64 x4,.int .i64 x5,.string x6,.string x7,.int .i64 x8,.int .i64 x9,.string x10]) (.agg #[.string y0,.int .i64 y1,.int .i64 y2,.int .i64 y3,.int .i64 y4,.int .i64 y5,.string y6,.string y7,.int .i64 y8,.int .i64 y9,.string y10])).run Tryz.prog w=.ok (x0.toList == y0.toList && ((x1 == y1 && (x2 == y2 && (x3 == y3 && (x4 == y4 && (x5 == y5 && (x6.toList == y6.toList && (x7.toList == y7.toList && (x8 == y8 && (x9 == y9 && (x10.toList == y10.toList)))))))))))) w:=by
 refine eqA_of Tryz.underlying32 (by kernel_rfl) ?_
 refine eqf_cons (by rfl) (by go_simp;rfl) (by go_simp;rfl) (by go_simp) ?_
 exact eqf_last (by rfl) (by go_simp) (by go_simp) (eqA28 (d + 0) w _ _ _ _ _ _ _ _ _ _ _ _ _ _ _ _ _ _ _ _)
end Go.Proofs.Zq
end
section
namespace Go.Proofs.Zq
open Go.RowKit Go.Proofs.Zw.PrintWords Go.Proofs.Zw.PrintLast Go.Proofs.Zw.PrintMore
open Go.Proofs.YtjghikkboekonaaGreatDoor (GL)
attribute [local go_sem] max2_int min2_int max_two min_two max_three min_three max_four min_four
attribute [local go_sem high] eqA32

end Go.Proofs.Zq
end
section
namespace Go.Proofs.Zq
open Go.RowKit Go.Proofs.YtjghikkboekonaaGreatDoor Go.Proofs.Zw.PrintWords Go.Proofs.Zw.PrintLast Go.Proofs.Zw.PrintMore
open Go.Proofs.Zt (applyM rightT rightC Ch getL)
theorem w64 {x:Int} (h0 : -9223372036854775808≤x) (h1:x≤9223372036854775807):wrap64 x=x:=wrap_in h0 h1
theorem rdE {l:List S32} {i:Nat} (h:i<l.length):rd_T32 l (i:Int)=l[i]:=by
 unfold rd_T32
 rw [show ((i:Nat):Int).toNat=i from rfl,List.getD_eq_getElem?_getD,List.getElem?_eq_getElem h];rfl
def enTot (x:S32):Nat:=x.f0.size + x.f1.f5.size + x.f1.f6.size + x.f1.f9.size
def SzE (l:List S32):Prop:=∀ x ∈ l,enTot x≤562949953404928
def totE (l:List S32):Nat:=(l.map enTot).sum
theorem totE_snoc (l:List S32) (x:S32):totE (l ++ [x])=totE l + enTot x:=by simp [totE]
theorem totE_mem:∀ (l:List S32) {x:S32},x ∈ l→enTot x≤totE l
 | y :: r,x,h=>by
  have e:totE (y :: r)=enTot y + totE r:=by simp [totE]
  rcases List.mem_cons.1 h with h|h
  ·rw [e,h];omega
  ·have:=totE_mem r h;omega
theorem few09_l (l:List S32) (hs:SzE l) (hn:l.length≤1000000000000000):∀ d i (z:Int),i + d=l.length→(i≤30→∃ s:Nat,z=(s:Int)∧s=totE (l.take i)∧s≤i * 562949953404928) →
  ∃ b,Ev (fun k=>onionskinlaw09_Few.l0 k l z i) b∧(b=true→l.length≤30∧totE l≤12000):=by
 intro d
 induction d with
 | zero =>
  intro i z hi hz
  refine ⟨decide (l.length≤30∧z≤12000),Ev.step (f:=fun _=>some (decide (l.length≤30∧z≤12000))) (fun k=>?_) (Ev.now _),fun hb=>?_⟩
  ·simp only [onionskinlaw09_Few.l0]
   rw [if_neg (by omega)]
   by_cases h:l.length≤30
   ·rw [if_pos (by omega)];simp [h]
   ·rw [if_neg (by omega)];simp [h]
  ·have hb:=of_decide_eq_true hb
   obtain ⟨s,h1,h2,_⟩:=hz (by omega)
   rw [List.take_of_length_le (by omega)] at h2
   exact ⟨hb.1,by omega⟩
 | succ d ih =>
  intro i z hi hz
  have hlt:i<l.length:=by omega
  obtain ⟨z',hz'⟩:∃ z',z'=(wrap64 ((wrap64 ((wrap64 ((wrap64 (z + (((rd_T32 l i).f0).size:Int))) + (((rd_T32 l i).f1.f5).size:Int))) + (((rd_T32 l i).f1.f6).size:Int))) + (((rd_T32 l i).f1.f9).size:Int))):=⟨_,rfl⟩
  obtain ⟨b,e,hb⟩:=ih (i + 1) z' (by omega) (fun h30=>by
   obtain ⟨s,h1,h2,h3⟩:=hz (by omega)
   have hx:=hs _ (List.getElem_mem hlt)
   refine ⟨s + enTot l[i],?_,?_,by omega⟩
   ·rw [hz',rdE hlt]
    unfold enTot at hx ⊢
    rw [w64 (x:=z + (l[i].f0.size:Int)) (by omega) (by omega),w64 (x:=z + (l[i].f0.size:Int) + (l[i].f1.f5.size:Int)) (by omega) (by omega),w64 (x:=z + (l[i].f0.size:Int) + (l[i].f1.f5.size:Int) + (l[i].f1.f6.size:Int)) (by omega) (by omega),w64 (by omega) (by omega)]
    omega
   ·rw [List.take_succ_eq_append_getElem hlt,totE_snoc,h2])
  refine ⟨b,Ev.step (fun k=>?_) e,hb⟩
  simp only [onionskinlaw09_Few.l0]
  rw [if_pos (by omega),if_pos (by omega),← hz',w64 (by omega) (by omega)]
  rfl
theorem few09_ev (l:List S32) (hs:SzE l) (hn:l.length≤1000000000000000):∃ b,Ev (fun k=>onionskinlaw09_Few.f k l) b∧(b=true→l.length≤30∧totE l≤12000) :=
 few09_l l hs hn l.length 0 0 (by omega) (fun _=>⟨0,rfl,by simp [totE],by omega⟩)
theorem fitsE_of {l:List S32} (h:l.length≤30∧totE l≤12000):rowFits' l:=by
 refine ⟨?_,by omega⟩
 unfold rowFits
 rw [List.all_eq_true]
 intro x hx
 obtain ⟨y,hy,rfl⟩:=List.mem_map.1 hx
 have:=totE_mem l hy
 unfold enTot at this
 have e1:(enOf y).1.length=y.f0.size:=by show y.f0.data.toList.length=_;rw [Array.length_toList];rfl
 have e2:(enOf y).2.attrs.length=y.f1.f9.size:=by show y.f1.f9.data.toList.length=_;rw [Array.length_toList];rfl
 unfold ndFits
 rw [e1,e2]
 simp;omega
theorem fit_len {a:List (Str×Nd)} {t:List (Str×Nd)} {l:List (Ch Str Nd)} (h:applyM Y t l=(a,0)):a.length≤5000:=by
 obtain ⟨_,_,ha,_⟩:=Zt.applyM_ok Y h
 exact ha.len
theorem fit_apply {t:List (Str×Nd)} {l:List (Ch Str Nd)} {a:List (Str×Nd)} (h:applyM Y t l=(a,0)) (ht:rowFits t=true) (hl:lyrFits l=true):rowFits a=true:=by
 obtain ⟨_,_,ha,_⟩:=Zt.applyM_ok Y h
 unfold rowFits
 rw [List.all_eq_true]
 intro x hx
 have hg:=ha.srt.get (n:=x.2) hx
 have hv:=ha.srt.v x hx
 have hp:=isM_short hv
 have hn:ndFits x.2=true:=by
  by_cases hc:∃ c ∈ l,c.op=0∧c.path=x.1
  ·obtain ⟨c,hc,h0,hcp⟩:=hc
   have:=Zt.stays_put h hc h0
   rw [hcp,hg] at this
   rw [Option.some.inj this]
   exact (lyr_get hl hc).2
  ·have:=Zt.stays_had h hg (fun c hc' h=>hc ⟨c,hc',h⟩)
   have hm:=Zt.getL_mem this
   have:=List.all_eq_true.1 ht _ hm
   simp at this
   exact this.2
 simp [hn];exact hp
end Go.Proofs.Zq
end
section
namespace Go.Proofs.Zq
open Go.ChangeShapes Go.WideShapes Go.ChangeAt Go.RowKit Go.WideElems Go.Proofs.YtjghikkboekonaaGreatDoor Go.Proofs.Zw.PrintWords
section
variable {H:Type} {enc:TypeId×Value→H} {W:World} {base:Nat}
theorem weighs {ts:List TypeId} {ds:List (DataW H)} (h:(DataW.weightsEach Tryz.prog ts ds).all (·≤reachBytes)=true) (j:Nat) {t:TypeId} {d:DataW H} (ht:ts[j]?=some t) (hd:ds[j]?=some d):∀ n ∈ d.weights Tryz.prog t,n≤reachBytes:=fun n hn=>by
 have:=List.all_eq_true.1 h n (DataW.weights_mem_each ht hd n hn)
 simpa using this
theorem rowAt_map {α β:Type} {cells:β→List Value} {f:α→β} {k:Nat} {w:World} {a:Option Addr} {l:List α} (h:RowAt (fun x=>cells (f x)) k w a l):RowAt cells k w a (l.map f):=by
 intro i y hy
 rw [List.getElem?_map] at hy
 cases hx:l[i]? with
 | none=>rw [hx] at hy;cases hy
 | some x =>
  rw [hx] at hy
  cases hy
  exact h i x hx
instance:Inhabited S32:=⟨z32⟩
instance:Inhabited S57:=⟨z57⟩
theorem reach_is:reachBytes=140737488351232:=by decide
set_option maxRecDepth 100000 in
theorem ens_arg {v:Value} {d:DataW H} {p:List MemPlace} (hv:Value.okWide Tryz.prog W .any base 22 v) (h:DataW.Trod enc Tryz.prog W 0 (fun _=>true) true 22 v d p) (hw:∀ n ∈ d.weights Tryz.prog 22,n≤reachBytes) :
  ∃ (a:Option Addr) (l:List S32) (cap:Nat),v=.slice a l.length cap∧Kd.C k32 W a l.length l∧l.length≤cap∧SzE l∧l.length≤1000000000000000:=by
 obtain ⟨a0,len0,cap0,rfl⟩:=okWide_slice Tryz.underlying22 hv
 obtain ⟨fuel,hf⟩:=h
 obtain ⟨a,l,cap,hcs,hrow,hlc,hcm,hsz,hlen⟩:=row_open (k:=11) (cells:=fun x=>eCells (enOf x)) (sz:=enSz) Tryz.underlying22 (by kernel_rfl) (by decide) (fun _=>rfl) en_open hf
 simp [Value.cells] at hcs
 obtain ⟨rfl,rfl,rfl⟩:=hcs
 have hb:Tryz.prog.bytesOf 32=120:=by kernel_rfl
 have hl:l.length≤1000000000000000:=by
  by_cases h0:l=[]
  ·rw [h0];simp
  ·obtain ⟨n,h1,h2⟩:=hlen h0
   have:=hw n h1
   rw [reach_is] at this
   rw [hb] at h2
   omega
 refine ⟨a0,l,cap0,rfl,en_C (rowAt_map hrow) (by omega),hlc,fun x hx=>?_,hl⟩
 have h1:=hw _ (hsz x hx _ (.inl rfl))
 have h2:=hw _ (hsz x hx _ (.inr (.inl rfl)))
 have h3:=hw _ (hsz x hx _ (.inr (.inr (.inl rfl))))
 have h4:=hw _ (hsz x hx _ (.inr (.inr (.inr rfl))))
 rw [reach_is] at h1 h2 h3 h4
 unfold enTot
 omega
end
end Go.Proofs.Zq
end
section
namespace Go.Proofs.Zq
open Go.RowKit Go.WideMaps Go.Maps Go.Proofs.YtjghikkboekonaaGreatDoor Go.Proofs.Zw.PrintWords Go.Proofs.Zw.PrintLast Go.Proofs.Zw.PrintMore
section
variable {T:TypeId}
theorem NdMap.lookT (hT:Tryz.prog.underlying T=some (.map 9 28)) {w:World} {b n:Nat} {f:Str→Option Nd} (h:NdMap w b n f) {s:Str} (hs:s.length≤1000000000) :
  (Instr.lookup T (.map (some b)) (S s) true).run Tryz.prog w=.ok (.tuple #[ndVal ((f s).getD zeroN),.bool (f s).isSome]) w:=by
 obtain ⟨D,h1,h2⟩:=h
 obtain ⟨v,ps,hrun,hv⟩:=h1.look_ok strLaw hT (zeroNd w) (Rn_val zeroN) (keyStr hs)
 obtain ⟨m,rfl⟩:=Rn_inv hv
 rw [Rn_val,h2] at hv
 rw [hrun,NdMap.has h2]
 cases hf:f s with
 | none=>rw [hf] at hv;simp only [Option.some.injEq,Prod.mk.injEq,DataW.held.injEq] at hv;rw [hv.1];rfl
 | some x=>rw [hf] at hv;simp only [Option.some.injEq,Prod.mk.injEq,DataW.held.injEq] at hv;rw [hv.1];rfl
variable {P:Program} {w:World} {ops:Array Oper} {rest:List Oper} {o:Oper} {a:Act} {Q:Exit→Act→World→Prop}
theorem wpList_nd_upT (hT:Tryz.prog.underlying T=some (.map 9 28)) (hP:P=Tryz.prog) (hg:o.guard=none) (m x v:Operand) (hop:o.op=Op.mapUpdate T m x v) (b n:Nat) (f:Str→Option Nd) (hm:a.eval m=.map (some b)) (hown:NdMap w b n f) (hn:n≤1000000000)
  (s:Str) (c:Nd) (hx:a.eval x=S s) (hv:a.eval v=ndVal c) (hs:s.length≤1000000000) (f':Str→Option Nd) (hf:∀ key,f' key=if key=s then some c else f key)
  (hK:∀ w',NdMap w' b (n + 1) f'→w.grownBy w' (some b)→wpList P ops Q rest (a.put o.dst undef) w'):wpList P ops Q (o :: rest) a w:=by
 subst hP
 obtain ⟨D,h1,h2⟩:=hown
 refine wpList_mapUpdate_own _ hg m x v _ hop 9 28 strLaw hT _ b n D hm h1 (by unfold maxLen;omega) _ _ _ hx hv (keyStr hs) _ [] (Rn_val c) ?_
 intro w' h1' hg'
 refine hK w' ⟨_,h1',fun key z=>?_⟩ hg'
 rw [hf key]
 by_cases hk:key=s
 ·subst hk
  rw [atKey_put_same h1.isMap (by trivial),if_pos rfl]
 ·rw [atKey_put_other (by simpa using hk),h2,if_neg hk]
end
end Go.Proofs.Zq
end
section
namespace Go.Proofs.Zq
open Go.RowKit Go.WideMaps Go.Maps Go.Proofs.YtjghikkboekonaaGreatDoor Go.Proofs.Zw.PrintWords Go.Proofs.Zw.PrintLast Go.Proofs.Zw.PrintMore
open Go.Proofs.Zt (getL)
set_option maxRecDepth 100000 in
set_option maxHeartbeats 4000000 in
theorem index_calls (w:World) (A:Option Addr) (c:Nat) (l:List S32) (hr:Kd.C k32 w A l.length l) (hd:(l.map enOf).Pairwise fun a b=>a.1≠b.1) (hfit:rowFits (l.map enOf)=true) (hl:l.length≤1000000) :
  Calls Tryz.prog 42 #[.slice A l.length c] w fun e w'=>∃ b,e=.returned (.map (some b))∧w.heap.size≤b∧NdMap w' b l.length (getL (l.map enOf))∧Below w.heap.size w w':=by
 have HR:=Lib.hid hr
 have HF:=Lib.hid hfit
 have HL:=Lib.hid hl
 have HD:=Lib.hid hd
 clear hr hfit hl hd
 have hmm:=@run_makeMap Tryz.prog
 have HM2:Hid (NdMap (w.alloc (.map #[] 0)) w.heap.size 0 (fun _=>none)):=Lib.hid (NdMap.made w)
 have HB3:Hid (Below w.heap.size w (w.alloc (.map #[] 0))):=Lib.hid ((Below.refl w.heap.size w).alloc (Nat.le_refl _) _)
 obtain ⟨bm,hbm⟩:∃ bm,bm=w.heap.size:=⟨_,rfl⟩
 have HBM:Hid (w.heap.size≤bm):=Lib.hid (by rw [hbm];exact Nat.le_refl _)
 go_enter Tryz.func42,Tryz.ntmps42
 go_wp2
 rw [← hbm] at HM2 ⊢
 clear hbm
 generalize w.alloc (.map #[] 0)=w3 at HM2 HB3 ⊢
 clear hmm
 have h49:=Tryz.underlying32
 have h31:=Tryz.underlying28
 go_loopg [9] (l.length + 1) (fun g v wr=>∃ i:Nat,v=.int .i64 i∧l.length<g + i∧Hid (i≤l.length)∧Hid (NdMap wr bm i (getL ((l.map enOf).take i)))∧Hid (Below w.heap.size w wr))
 case atStart=>exact ⟨0,rfl,by omega,Lib.hid (by omega),Lib.hid (by rw [List.take_zero];exact HM2.out),HB3⟩
 case round =>
  obtain ⟨i,rfl,hgi,HI,HM,HB⟩:=hrel
  by_cases hi:i<l.length
  ·cases gk with
   | zero=>omega
   | succ g1 =>
    obtain ⟨ad,rfl,hat⟩:=e_at HR.out i hi
    have HAT:=Lib.hid (hat.below HB.out)
    clear hat
    have HEF:=Lib.hid (fits_get HF.out (List.mem_map_of_mem (f:=enOf) (List.getElem_mem hi)))
    have hst:=getL_step HD.out i (by simpa using hi)
    rw [List.getElem_map] at hst
    obtain ⟨e,hee⟩:∃ e,e=enOf l[i]:=⟨_,rfl⟩
    rw [← hee] at HAT HEF hst
    have HST:=Lib.hid hst
    clear hst hee
    have HLL:=HL.out
    go_wp2_with (first|((with_reducible refine gate_dst (N:=12) rfl ?_);refine wpList_load_agg rfl 32 _ rfl _ rfl (eCells e) _ HAT.out h49 rfl rfl ?_)|((with_reducible refine gate_dst (N:=5) rfl ?_);refine box_event rfl (N:=5) rfl (cs:=enZero) (t:=32) ?hr ?_;(case hr=>first|(go_simp;done)|(go_simp;rfl));intro g hg w4 hb2 hbl2;have HGE:Hid (w.heap.size≤g):=Lib.hid (by rw [hg];exact HB.out.size);have HGW:Hid (wr.heap.size≤g):=Lib.hid (by rw [hg];exact Nat.le_refl _);have HB4:=Lib.hid hb2;have HBL4:=Lib.hid hbl2;clear hg hb2 hbl2)|((with_reducible refine gate_store (t:=32) (p:=5) rfl ?_);refine wpList_store_agg rfl rfl 32 _ _ rfl g (eCells e).toArray rfl rfl 32 enZero HB4.out rfl rfl (eCells_all _) ?_;intro w5 hb3 hg3;have q0:=(lies_of hb3) 0 _ rfl;simp only [Addr.add_mid,Nat.zero_add] at q0;have HE5:=Lib.hid hb3;have HN5:Hid (LiesAt w5 ⟨g,1,none⟩ (ndCells e.2)):=Lib.hid (fun j v hv=>(by have:=(lies_of hb3) (1 + j) v (by rw [Nat.add_comm];exact hv);rw [Addr.add_mid,Nat.zero_add] at this;rw [Addr.add_mid];exact this));have HBW5:Hid (Below wr.heap.size wr w5):=Lib.hid (HBL4.out.grown hg3 HBL4.out.size (fun j hj=>by cases hj;exact HGW.out));have HB5:Hid (Below w.heap.size w w5):=Lib.hid (YtjghikkboekonaaGreatDoor.below_then HB.out HBW5.out);clear hb3 hg3)|((with_reducible refine gate_dst (N:=17) rfl ?_);refine wpList_load_agg rfl 28 _ rfl _ rfl (ndCells e.2) _ HN5.out h31 rfl rfl ?_)|(at_mapUpdate;refine wpList_nd_upT Tryz.underlying72 rfl rfl _ _ _ rfl bm i _ rfl (HM.out.ext HBW5.out) (by have:=HL.out;omega) e.1 e.2 rfl rfl (by have:=HEF.out.1;omega) _ HST.out ?_;intro w6 hm6 hg6;have HM6:=Lib.hid hm6;have HB6:Hid (Below w.heap.size w w6):=Lib.hid (HB5.out.grown hg6 HB5.out.size (fun j hj=>by cases hj;exact HBM.out));clear hm6 hg6 q0))
    have HII:Hid (i + 1≤l.length):=Lib.hid hi
    go_roundg g1
    case measure=>omega
    case rel=>exact ⟨i + 1,by go_num,by omega,HII,HM6,HB6⟩
  ·have he:i=l.length:=by have:=HI.out;omega
   subst he
   go_wp2_with fail
   go_ret
   exact ⟨bm,rfl,HBM.out,by have:=HM.out;rwa [List.take_of_length_le (by simp)] at this,HB.out⟩
end Go.Proofs.Zq
end
section
namespace Go.Proofs.YtjghikkboekonaaGreatDoor
def _root_.Go.GStep.Dr (d:Nat):GStep→Prop
 | .go _ w _=>d≤w.drawn
 | .comm _ _ _ _ w _=>d≤w.drawn
 | .spawn _ _ w _=>d≤w.drawn
 | .count _ w _=>d≤w.drawn
 | .timer _ _ w _=>d≤w.drawn
 | .alone _ _ w _=>d≤w.drawn
 | .newcoro _ _ _ w _=>d≤w.drawn
 | .coroswitch _ _ _ w _=>d≤w.drawn
 | .collect _ w _=>d≤w.drawn
 | .watch _ w _=>d≤w.drawn
 | .ended _ _ _=>True
def _root_.Go.Stepped.Dr (d:Nat):Stepped→Prop
 | .next m=>d≤m.world.drawn
 | .ended _ _=>True
def _root_.Go.Result.Dr {α:Type} (d:Nat):Result α→Prop
 | .ok _ w=>d≤w.drawn
 | .halt _ w=>d≤w.drawn
def _root_.Go.Move.Dr (d:Nat):Move→Prop
 | .goroutine m _=>d≤m.world.drawn
 | .machine s _=>s.Dr d
theorem dr_after {d:Nat} {es:Array Event} {s:GStep} (h:s.Dr d):(s.after es).Dr d:=by cases s <;> exact h
theorem dr_ask {α:Type} (a:Ask α):∀ (w:World) (d:Nat),d≤w.drawn→d≤(w.ask a).2.drawn:=by
 induction a with
 | done a=>intro w d h;exact h
 | ask what range k ih =>
  intro w d h
  unfold World.ask
  dsimp only
  split
  ·exact ih _ _ _ h
  ·exact ih _ _ _ (Nat.le_trans h (Nat.le_succ _))
theorem dr_sys {w:World} {d:Nat} (c:Sys) (h:d≤w.drawn):d≤(w.sys c).2.drawn:=by
 unfold World.sys
 have:=dr_ask (Kernel.perform c w.os) w d h
 split
 ·exact h
 ·rename_i r os w' e
  rw [e] at this
  exact this
theorem dr_freeze (w:World) (a:Addr) (n:Nat):(w.freeze a n).drawn=w.drawn:=by unfold World.freeze;split <;> rfl
theorem dr_view {p:Program} {w w':World} {at_:Addr} {u:TypeId} {k:Addr} {v:Value} {b:Bool} {l:List Addr} (h:w.viewStore p at_ u k v b=.ok (w',l)):w'.drawn=w.drawn:=by
 unfold World.viewStore at h
 simp only [bind,Except.bind,pure,Except.pure,throw,throwThe,MonadExceptOf.throw] at h
 repeat' split at h
 all_goals first|cases h|skip
 all_goals rfl
theorem dr_store {p:Program} {w w':World} {a:Addr} {v:Value} {b:Bool} {l:List Addr} (h:w.farStore p a v b=.ok (w',l)):w'.drawn=w.drawn:=by
 unfold World.farStore at h
 split at h
 ·split at h
  ·rename_i hv
   injection h with h
   subst h
   exact dr_view hv
  ·cases h
 ·cases h
theorem dr_run {α:Type} (p:Program) (s:Sem α):∀ (w:World) (d:Nat),d≤w.drawn→(s.run p w).Dr d:=by
 induction s with
 | pure a=>intro w d h;exact h
 | load m a k ih =>
  intro w d h
  unfold Sem.run
  repeat' split
  all_goals first|exact ih _ _ _ h|exact h
 | store m a v k ih =>
  intro w d h
  cases v <;> simp only [Sem.run]
  all_goals first|exact h|skip
  all_goals
   repeat' split
   all_goals first|exact h|exact ih _ _ h|(rename_i e;exact ih _ _ (by rw [dr_store e];exact h))
 | new o k ih=>intro w d h;exact ih _ _ _ h
 | shape r k ih=>intro w d h;exact ih _ _ _ h
 | freeze a n k ih=>intro w d h;exact ih _ _ (by rw [dr_freeze];exact h)
 | frozen a k ih=>intro w d h;exact ih _ _ _ h
 | getObj r k ih =>
  intro w d h
  unfold Sem.run
  repeat' split
  all_goals first|exact ih _ _ _ h|exact h
 | setObj r o k ih =>
  intro w d h
  unfold Sem.run
  repeat' split
  all_goals first|exact ih _ _ h|exact h
 | choose q k ih =>
  intro w d h
  unfold Sem.run
  split
  ·exact ih _ _ _ h
  ·exact ih _ _ _ (Nat.le_trans h (Nat.le_succ _))
 | sys c k ih=>intro w d h;exact ih _ _ _ (dr_sys c h)
 | program k ih=>intro w d h;exact ih _ _ _ h
 | mark m k ih=>intro w d h;exact ih _ _ h
 | halt x=>intro w d h;exact h
theorem dr_runT {α:Type} (p:Program) (s:Sem α):∀ (w:World) (es:Array Event) (d:Nat),d≤w.drawn→(s.runT p w es).1.Dr d:=by
 induction s with
 | pure a=>intro w es d h;exact h
 | load m a k ih =>
  intro w es d h
  unfold Sem.runT
  repeat' split
  all_goals first|exact ih _ _ _ _ h|exact h
 | store m a v k ih =>
  intro w es d h
  cases v <;> simp only [Sem.runT]
  all_goals first|exact h|skip
  all_goals
   repeat' split
   all_goals first|exact h|exact ih _ _ _ h|(rename_i e;exact ih _ _ _ (by rw [dr_store e];exact h))
 | new o k ih=>intro w es d h;exact ih _ _ _ _ h
 | shape r k ih=>intro w es d h;exact ih _ _ _ _ h
 | freeze a n k ih=>intro w es d h;exact ih _ _ _ (by rw [dr_freeze];exact h)
 | frozen a k ih=>intro w es d h;exact ih _ _ _ _ h
 | getObj r k ih =>
  intro w es d h
  unfold Sem.runT
  repeat' split
  all_goals first|exact ih _ _ _ _ h|exact h
 | setObj r o k ih =>
  intro w es d h
  unfold Sem.runT
  repeat' split
  all_goals first|exact ih _ _ _ h|exact h
 | choose q k ih =>
  intro w es d h
  unfold Sem.runT
  split
  ·exact ih _ _ _ _ h
  ·exact ih _ _ _ _ (Nat.le_trans h (Nat.le_succ _))
 | sys c k ih=>intro w es d h;exact ih _ _ _ _ (dr_sys c h)
 | program k ih=>intro w es d h;exact ih _ _ _ _ h
 | mark m k ih=>intro w es d h;exact ih _ _ _ h
 | halt x=>intro w es d h;exact h
theorem dr_ok {α:Type} {p:Program} {s:Sem α} {w w':World} {a:α} {d:Nat} (hd:d≤w.drawn) (h:s.run p w=.ok a w'):d≤w'.drawn:=by
 have:=dr_run p s w d hd
 rw [h] at this
 exact this
theorem dr_okT {α:Type} {p:Program} {s:Sem α} {w w':World} {a:α} {d:Nat} {es:Array Event} (hd:d≤w.drawn) (h:(s.runT p w es).1=.ok a w'):d≤w'.drawn:=by
 have:=dr_runT p s w es d hd
 rw [h] at this
 exact this
theorem dr_haltT {α:Type} {p:Program} {s:Sem α} {w w':World} {a:Halt} {d:Nat} {es:Array Event} (hd:d≤w.drawn) (h:(s.runT p w es).1=.halt a w'):d≤w'.drawn:=by
 have:=dr_runT p s w es d hd
 rw [h] at this
 exact this
theorem dr_okP {α:Type} {p:Program} {s:Sem α} {w w':World} {a:α} {d:Nat} {es es':Array Event} (hd:d≤w.drawn) (h:s.runT p w es=(.ok a w',es')):d≤w'.drawn:=by
 have:=dr_runT p s w es d hd
 rw [h] at this
 exact this
theorem dr_haltP {α:Type} {p:Program} {s:Sem α} {w w':World} {a:Halt} {d:Nat} {es es':Array Event} (hd:d≤w.drawn) (h:s.runT p w es=(.halt a w',es')):d≤w'.drawn:=by
 have:=dr_runT p s w es d hd
 rw [h] at this
 exact this
theorem dr_halt {α:Type} {p:Program} {s:Sem α} {w w':World} {a:Halt} {d:Nat} (hd:d≤w.drawn) (h:s.run p w=.halt a w'):d≤w'.drawn:=by
 have:=dr_run p s w d hd
 rw [h] at this
 exact this
theorem dr_endWith {w:World} {d:Nat} (fd:Nat) (t:ByteArray) (o:Outcome):(endWith w fd t o).Dr d:=by
 unfold endWith
 dsimp only
 repeat' split
 all_goals trivial
theorem dr_throwE {w w':World} {d:Nat} {fr:Frame} {m:String} {g:Goroutine} {es:Array Event} (h:d≤w.drawn) (e:endThrow fr m w=.go g w' es):d≤w'.drawn:=by
 unfold endThrow dieOf at e
 dsimp only at e
 injection e with _ e _
 rw [← e];exact h
theorem dr_endThrow {w:World} {d:Nat} (h:d≤w.drawn) (fr:Frame) (m:String):(endThrow fr m w).Dr d:=h
theorem dr_endPrinting {w:World} {d:Nat} (h:d≤w.drawn) (p:Program) (fr:Frame) (v:Value):(endPrinting p fr v w).Dr d:=by
 unfold endPrinting
 dsimp only
 split
 ·exact h
 ·trivial
theorem dr_endFatal {w:World} {d:Nat} (h:d≤w.drawn) (p:Program) (fr:Frame) (cs:List Frame) (dy:Option Dying) (m:String):(endFatal p fr cs dy m w).Dr d:=by
 unfold endFatal
 dsimp only
 split
 ·rename_i e;exact dr_ok h e
 ·trivial
 ·trivial
theorem dr_writeOn {w:World} {d:Nat} (h:d≤w.drawn) (p:Program) (fr:Frame) (dy:Dying) (f:Fatal):(writeOn p fr dy f w).Dr d:=by
 unfold writeOn
 dsimp only
 split
 ·trivial
 ·split
  ·rename_i e;exact dr_okP h e
  ·rename_i e;exact dr_haltP h e
  ·trivial
  ·trivial
theorem dr_die {w:World} {d:Nat} (h:d≤w.drawn) (p:Program) (fr:Frame) (dy:Dying):(die p fr dy w).Dr d:=by
 unfold die
 split
 ·exact dr_writeOn h _ _ _ _
 ·split
  ·split
   ·exact h
   ·exact dr_endWith _ _ _
  ·dsimp only
   split
   ·exact h
   ·split
    ·rename_i e;exact dr_ok h e
    ·trivial
   ·refine dr_after ?_
    split <;> rename_i e <;> first|trivial|exact dr_okT h e|exact dr_endPrinting (dr_haltT h e) _ _ _
   ·trivial
theorem dr_early {w:World} {d:Nat} (h:d≤w.drawn) (p:Program) (fr:Frame) (cs:List Frame) (dy:Option Dying) (g:Nat):(early p fr cs dy g w).Dr d:=by
 have hn:∀ w:World,d≤w.drawn→(match w.heap[g]? with
  | some (.pending c elem)=>GStep.go { frame:=fr,callers:=cs,status:=.running,dying:=dy } { w with heap:=w.heap.setIfInBounds g (.cells c elem) }
  | _ => .ended (.stuck "early: the variable does not wait" (fr.pos p)) w).Dr d := by
  intro w h
  split
  ·exact h
  ·trivial
 unfold early
 dsimp only
 split
 ·exact hn _ h
 ·split
  ·trivial
  ·split
   ·exact hn _ h
   ·split
    ·exact hn _ h
    ·split
     ·trivial
     ·exact h
     ·trivial
     ·exact hn _ h
     ·split
      ·exact h
      ·split
       ·exact hn _ h
       ·split
        ·rename_i e;exact hn _ (dr_ok h e)
        ·rename_i e;exact dr_ok h e
        ·trivial
theorem dr_return {w:World} {d:Nat} (h:d≤w.drawn) (p:Program) (main:Bool) (fr:Frame) (cs:List Frame) (dy:Option Dying) (v:Value):(doReturn p main fr cs dy v w).Dr d:=by
 unfold doReturn
 repeat' split
 all_goals first|exact h|trivial
theorem dr_deferred {w:World} {d:Nat} (h:d≤w.drawn) (p:Program) (fr:Frame) (cs:List Frame) (dy:Option Dying) (x:Deferred):(callDeferred p fr cs dy x w).Dr d:=by
 unfold callDeferred
 refine iteInduction (motive:=GStep.Dr d) (fun _=>trivial) (fun _=>?_)
 ·dsimp only
  refine dr_after ?_
  have:=dr_runT p (invoke x.target x.args) w #[] d h
  split <;> rename_i e <;> first|trivial|skip
  all_goals rw [e] at this
  all_goals first|exact this|exact dr_endFatal this _ _ _ _ _|exact dr_endThrow this _ _|(split <;> exact this)
theorem dr_unwind {w:World} {d:Nat} (h:d≤w.drawn) (p:Program) (main:Bool) (fr:Frame) (cs:List Frame) (dy:Option Dying):(unwind p main fr cs dy w).Dr d:=by
 unfold unwind
 split
 ·dsimp only
  refine dr_after ?_
  split <;> rename_i e
  ·exact dr_okT h e
  ·trivial
 ·exact dr_deferred h _ _ _ _ _
 ·split
  ·trivial
  ·split
   ·trivial
   ·split
    ·exact h
    ·split
     ·split
      ·exact h
      ·split
       ·rename_i e;exact dr_ok h e
       ·trivial
       ·trivial
     ·split
      ·exact dr_endPrinting h _ _ _
      ·trivial
  ·split
   ·exact dr_return h _ _ _ _ _ _
   ·dsimp only
    refine dr_after ?_
    split <;> rename_i e
    ·exact dr_return (dr_okT h e) _ _ _ _ _ _
    ·trivial
    ·trivial
theorem dr_apply {w:World} {d:Nat} (h:d≤w.drawn) (p:Program) (listen:Bool) (fr:Frame) (cs:List Frame) (dy:Option Dying) (s:Sem Next):(stepG.apply p listen fr cs dy s w).Dr d:=by
 unfold stepG.apply
 dsimp only
 have hr:∀ es,(if listen=true then s.runT p w es else (s.run p w,es)).1.Dr d:=by
  intro es
  split
  ·exact dr_runT p s w es d h
  ·exact dr_run p s w d h
 have:=hr #[]
 refine dr_after ?_
 split <;> rename_i e <;> first|trivial|skip
 all_goals rw [e] at this
 all_goals first|exact this|exact dr_endFatal this _ _ _ _ _|exact dr_endThrow this _ _|exact dr_early this _ _ _ _ _|((repeat' split) <;> first|exact this|exact dr_endThrow this _ _)
theorem dr_oper {w:World} {d:Nat} (h:d≤w.drawn) (p:Program) (listen:Bool) (fr:Frame) (cs:List Frame) (dy:Option Dying):(stepG.oper p listen fr cs dy w).Dr d:=by
 unfold stepG.oper
 split
 ·trivial
 ·split
  ·exact dr_apply h _ _ _ _ _ _
  ·exact dr_apply h _ _ _ _ _ _
theorem dr_exec {w:World} {d:Nat} (h:d≤w.drawn) (p:Program) (main listen:Bool) (fr:Frame) (cs:List Frame) (dy:Option Dying):(stepG.exec p main listen fr cs dy w).Dr d:=by
 unfold stepG.exec
 dsimp only
 split
 all_goals first|exact h|trivial|exact dr_apply h _ _ _ _ _ _|skip
 all_goals try (refine dr_after ?_;split <;> rename_i e <;> first|trivial|exact dr_apply (dr_okT h e) _ _ _ _ _ _|exact dr_okT h e|exact dr_haltT h e)
 all_goals try simp only [Option.elim]
 all_goals
  repeat' first|exact h|trivial|exact dr_apply h _ _ _ _ _ _|exact dr_oper h _ _ _ _ _|refine dr_after ?_|split
 all_goals try (rename_i e;first|exact dr_return (dr_okT h e) _ _ _ _ _ _|exact dr_apply (dr_okT h e) _ _ _ _ _ _|exact dr_okT h e|exact dr_haltT h e|exact dr_ok h e)
theorem dr_stepG {w:World} {d:Nat} (h:d≤w.drawn) (p:Program) (main:Bool) (g:Goroutine) (listen:Bool):(stepG p main g w listen).Dr d:=by
 unfold stepG
 dsimp only
 split
 ·exact dr_die h _ _ _
 ·exact dr_exec h _ _ _ _ _ _
 ·exact dr_unwind h _ _ _ _ _
theorem dr_comm {w:World} {d:Nat} (h:d≤w.drawn) (p:Program) (rest:Rest) (gs:Array Goroutine) (i:Nat) (g:Goroutine) (cases:Array CommCase) (b:Bool) (sh:CommShape):(communicate p rest gs i g cases b sh w).1.Dr d:=by
 unfold communicate
 dsimp only
 split
 ·trivial
 ·split
  ·split
   ·split
    ·rename_i e
     unfold waitingAt at e
     split at e
     ·split at e
      ·obtain rfl:=Option.some.inj e;exact h
      ·cases e
     ·obtain rfl:=Option.some.inj e;exact h
    ·trivial
   ·exact h
  ·split
   ·trivial
   ·rename_i e
    have:=dr_ok h e
    split
    ·split
     ·rename_i e;exact dr_halt this e
     ·trivial
    ·exact this
    ·exact this
    ·split
     ·exact this
     ·split
      ·rename_i e;have h2:=dr_ok this e;exact h2
      ·trivial
    ·exact this
    ·exact this
    ·trivial
theorem dr_look {w:World} {d:Nat} (h:d≤w.drawn) (p:Program) (gs:Array Goroutine) (rest:Rest):(look p gs rest w).Dr d:=by
 unfold look
 split
 ·dsimp only
  split
  ·trivial
  ·split
   ·trivial
   ·split
    ·rename_i e;have h2:=dr_ok h e;exact h2
    ·trivial
    ·trivial
 ·trivial
theorem dr_serve {m:Machine} {d:Nat} (h:d≤m.world.drawn) (p:Program) (k:Nat):(serve p m k).Dr d:=by
 unfold serve
 split
 ·trivial
 ·exact h
 ·dsimp only
  split
  ·trivial
  ·exact h
theorem dr_drain (w:World) (c:Nat):(drain w c).2.drawn=w.drawn:=by
 unfold drain
 split <;> rfl
theorem dr_retime {m:Machine} {d:Nat} (h:d≤m.world.drawn) (k:Nat) (t:Timer) (a b:Nat):d≤(retime m k t a b).2.world.drawn:=by
 unfold retime
 split
 rename_i e
 split at e
 ·rename_i c _
  have:=dr_drain m.world c
  rw [e] at this
  exact Nat.le_trans h (Nat.le_of_eq this.symm)
 ·obtain ⟨_,rfl⟩:=Prod.mk.inj e
  exact h
theorem dr_named {m m':Machine} {d:Nat} {v:Value} (var:Addr) (f:Nat→Timer→Value×Machine) (hf:∀ k t,d≤(f k t).2.world.drawn) (e:timerOp.named m var f=.ok (v,m')):d≤m'.world.drawn:=by
 unfold timerOp.named at e
 split at e
 ·rename_i k _
  injection e with e
  have:=hf k (m.rest.timers.getD k default)
  rw [e] at this
  exact this
 ·cases e
theorem dr_timer {m m':Machine} {d:Nat} {v:Value} (h:d≤m.world.drawn) (op:TimerOp) (e:timerOp m op=.ok (v,m')):d≤m'.world.drawn:=by
 unfold timerOp at e
 split at e
 ·split at e
  ·injection e with e;obtain ⟨_,rfl⟩:=Prod.mk.inj e;exact h
  ·split at e
   ·split at e
    ·cases e
    ·injection e with e;obtain ⟨_,rfl⟩:=Prod.mk.inj e;exact h
   ·cases e
 ·exact dr_named _ _ (fun k t=>dr_retime h _ _ _ _) e
 ·split at e
  ·rename_i e2
   unfold timerOp.opened at e2
   refine dr_named _ _ (fun k t=>dr_retime ?_ _ _ _ _) e
   split at e2
   ·split at e2
    ·obtain rfl:=Option.some.inj e2;exact h
    ·cases e2
   ·obtain rfl:=Option.some.inj e2;exact h
  ·cases e
 ·dsimp only at e
  injection e with e;obtain ⟨_,rfl⟩:=Prod.mk.inj e;exact h
theorem dr_runG {m:Machine} {d:Nat} (h:d≤m.world.drawn) (p:Program) (i:Nat) (listen:Bool):(runT p m i listen).1.Dr d:=by
 unfold runT
 dsimp only
 have hs:=dr_stepG h p (i == 0) (m.gs.swapAt! i { (default:Goroutine) with status:=.finished }).1 listen
 split <;> rename_i e <;> first|trivial|skip
 all_goals rw [e] at hs
 ·exact dr_comm hs _ _ _ _ _ _ _ _
 ·exact hs
 ·exact hs
 ·split
  ·trivial
  ·exact hs
 ·exact hs
 ·exact dr_look hs _ _ _
 ·exact hs
 ·exact hs
 ·dsimp only
  split
  ·exact hs
  ·split
   ·rename_i e;exact dr_throwE hs e
   ·trivial
  ·trivial
 ·dsimp only
  split
  ·rename_i e;have h2:=dr_timer (m:={ world:=_,gs:=_,rest:=_ }) hs _ e;exact h2
  ·split
   ·rename_i e;exact dr_throwE hs e
   ·trivial
  ·trivial
  ·trivial
theorem dr_askOn {m:Machine} {d:Nat} (h:d≤m.world.drawn) (p:Program):(askOn p m).Dr d:=by
 have hp:∀ m':Machine,d≤m'.world.drawn→(match (choose (.sched (runnable m.gs m.world.os.mono).length)).run p m'.world with
   | .halt _ w => Move.machine (.ended (.stuck "sched" "") w)
   | .ok k world =>
    if (runnable m.gs m.world.os.mono).length≤1 then .goroutine { m' with world } ((runnable m.gs m.world.os.mono).getD k 0) else
    match (choose (.extern "sched.slice" 65536)).run p world with
    | .halt _ w => .machine (.ended (.stuck "sched.slice" "") w)
    | .ok n world=>.goroutine { m' with world,rest:={ m'.rest with slice:=if n=0 then none else some ((runnable m.gs m.world.os.mono).getD k 0,n) } } ((runnable m.gs m.world.os.mono).getD k 0)).Dr d:=by
  intro m' h'
  split
  ·trivial
  ·rename_i e
   have:=dr_ok h' e
   split
   ·exact this
   ·split
    ·trivial
    ·rename_i e;exact dr_ok this e
 unfold askOn
 dsimp only
 split
 ·trivial
 ·rename_i e
  have h1:=dr_ok h e
  clear e
  split
  ·exact dr_serve (m:={ m with world:=_ }) h1 _ _
  ·split
   ·split
    ·exact h1
    ·split
     ·exact h1
     ·split
      ·trivial
      ·trivial
   ·split
    ·exact hp { m with world:=_ } h1
    ·split
     ·trivial
     ·rename_i e;have h2:=dr_ok h1 e;exact hp { m with world:=_ } h2
     ·rename_i e;have h2:=dr_ok h1 e;exact h2
     ·rename_i e;have h2:=dr_ok h1 e;exact hp (Machine.advanceTo { m with world:=_ } _) h2
theorem dr_askM {m:Machine} {d:Nat} (h:d≤m.world.drawn) (p:Program):(ask p m).Dr d:=by
 unfold ask
 split
 ·split
  ·trivial
  ·rename_i e
   have h1:=dr_ok h e
   have:=dr_look h1 p m.gs m.rest
   split
   ·rename_i e;rw [e] at this;exact dr_askOn this _
   ·exact this
  ·rename_i e;have h2:=dr_ok h e;exact dr_askOn (m:={ m with world:=_ }) h2 _
 ·exact dr_askOn h _
theorem dr_move {m:Machine} {d:Nat} (h:d≤m.world.drawn) (p:Program):(move p m).Dr d:=by
 unfold move
 split
 ·split
  ·exact h
  ·trivial
 ·split
  ·split
   ·exact h
   ·exact dr_askM (m:={ m with rest:={ m.rest with slice:=none } }) h p
  ·exact dr_askM h _
theorem dr_step {m:Machine} {d:Nat} (h:d≤m.world.drawn) (p:Program):(step p m).Dr d:=by
 unfold step stepT
 have:=dr_move h p
 split <;> rename_i e <;> rw [e] at this
 ·exact dr_runG this _ _ _
 ·exact this
theorem dr_runN {p:Program} {d:Nat}:∀ (n:Nat) (m:Machine),d≤m.world.drawn→(runN p n m).Dr d
 | 0,_,h=>h
 | n + 1,m,h=>by
  unfold runN
  have:=dr_step h p
  split
  ·rename_i e;rw [e] at this;exact dr_runN n _ this
  ·exact this
theorem dr_steps {p:Program} {m m':Machine} (h:Steps p m m'):m.world.drawn≤m'.world.drawn:=by
 obtain ⟨n,hn⟩:=h
 have:=dr_runN (p:=p) (d:=m.world.drawn) n m (Nat.le_refl _)
 rw [hn] at this
 exact this
theorem calls_drawn {p:Program} {f:FuncId} {args:Array Value} {w:World} {R:Ending→World→Prop} (h:Calls p f args w R):Calls p f args w fun e w'=>R e w'∧(e≠.outgrown→w.drawn≤w'.drawn):=by
 intro cs
 obtain ⟨e,w',fr,hR,hc,hf,hl⟩:=h cs
 refine ⟨e,w',fr,⟨hR,fun he=>?_⟩,hc,hf,hl⟩
 cases e with
 | outgrown=>exact absurd rfl he
 | returned v=>exact dr_steps hc
 | panicked c=>exact dr_steps hc
end Go.Proofs.YtjghikkboekonaaGreatDoor
end
section
namespace Go.Proofs
open Go.Shelf
def Tryz.laySortC_ren:Go.Shelf.Ren:=⟨fun|6=>43|15=>76|14=>75|28=>119|29=>120|20=>111|21=>112|22=>113|23=>114|24=>115|25=>116|26=>117|27=>118|46=>149|47=>150|48=>151|49=>152|50=>153|57=>182|n=>n,fun|22=>35|24=>57|25=>76|3=>3|39=>113|0=>0|53=>138|55=>140|4=>4|46=>131|45=>130|50=>135|5=>5|9=>9|66=>157|70=>161|76=>188|77=>189|n=>n,fun|n=>n⟩
theorem Tryz.laySortC:Go.Proofs.SlLaysF0.n6 Tryz.prog Tryz.laySortC_ren:={
 mixed:=by kernel_rfl
 f6:=⟨Tryz.f43.name,by decide,Tryz.func43.trans (congrArg some (by kernel_rfl))⟩
 f14:=⟨Tryz.f75.name,by decide,Tryz.func75.trans (congrArg some (by kernel_rfl))⟩
 f15:=Tryz.func76.trans (congrArg some (by kernel_rfl))
 f20:=⟨Tryz.f111.name,by decide,Tryz.func111.trans (congrArg some (by kernel_rfl))⟩
 f21:=⟨Tryz.f112.name,by decide,Tryz.func112.trans (congrArg some (by kernel_rfl))⟩
 f22:=⟨Tryz.f113.name,by decide,Tryz.func113.trans (congrArg some (by kernel_rfl))⟩
 f23:=⟨Tryz.f114.name,by decide,Tryz.func114.trans (congrArg some (by kernel_rfl))⟩
 f24:=⟨Tryz.f115.name,by decide,Tryz.func115.trans (congrArg some (by kernel_rfl))⟩
 f25:=⟨Tryz.f116.name,by decide,Tryz.func116.trans (congrArg some (by kernel_rfl))⟩
 f26:=⟨Tryz.f117.name,by decide,Tryz.func117.trans (congrArg some (by kernel_rfl))⟩
 f27:=⟨Tryz.f118.name,by decide,Tryz.func118.trans (congrArg some (by kernel_rfl))⟩
 f28:=Tryz.func119.trans (congrArg some (by kernel_rfl))
 f29:=Tryz.func120.trans (congrArg some (by kernel_rfl))
 f46:=⟨Tryz.f149.name,by decide,Tryz.func149.trans (congrArg some (by kernel_rfl))⟩
 f47:=Tryz.func150.trans (congrArg some (by kernel_rfl))
 f48:=Tryz.func151.trans (congrArg some (by kernel_rfl))
 f49:=⟨Tryz.f152.name,by decide,Tryz.func152.trans (congrArg some (by kernel_rfl))⟩
 f50:=⟨Tryz.f153.name,by decide,Tryz.func153.trans (congrArg some (by kernel_rfl))⟩
 f57:=⟨Tryz.f182.name,by decide,Tryz.func182.trans (congrArg some (by kernel_rfl))⟩
 t0:=Tryz.underlying0
 a0:=Tryz.isAgg0
 z0:=Tryz.sizeOf0
 v0:=Tryz.zeroValue0
 t3:=Tryz.underlying3
 a3:=Tryz.isAgg3
 z3:=Tryz.sizeOf3
 v3:=Tryz.zeroValue3
 t4:=Tryz.underlying4
 a4:=Tryz.isAgg4
 z4:=Tryz.sizeOf4
 v4:=Tryz.zeroValue4
 t5:=Tryz.underlying5
 a5:=Tryz.isAgg5
 z5:=Tryz.sizeOf5
 v5:=Tryz.zeroValue5
 t9:=Tryz.underlying9
 a9:=Tryz.isAgg9
 z9:=Tryz.sizeOf9
 v9:=Tryz.zeroValue9
 t22:=Tryz.underlying35
 a22:=Tryz.isAgg35
 z22:=Tryz.sizeOf35
 v22:=Tryz.zeroValue35
 t25:=Tryz.underlying76
 a25:=Tryz.isAgg76
 z25:=Tryz.sizeOf76
 v25:=Tryz.zeroValue76
 t39:=Tryz.underlying113
 a39:=Tryz.isAgg113
 z39:=Tryz.sizeOf113
 v39:=Tryz.zeroValue113
 t45:=Tryz.underlying130
 a45:=Tryz.isAgg130
 z45:=Tryz.sizeOf130
 v45:=Tryz.zeroValue130
 t46:=Tryz.underlying131
 a46:=Tryz.isAgg131
 z46:=Tryz.sizeOf131
 v46:=Tryz.zeroValue131
 t50:=Tryz.underlying135
 a50:=Tryz.isAgg135
 z50:=Tryz.sizeOf135
 v50:=Tryz.zeroValue135
 t53:=Tryz.underlying138
 a53:=Tryz.isAgg138
 z53:=Tryz.sizeOf138
 v53:=Tryz.zeroValue138
 t55:=Tryz.underlying140
 a55:=Tryz.isAgg140
 z55:=Tryz.sizeOf140
 v55:=Tryz.zeroValue140
 t66:=Tryz.underlying157
 a66:=Tryz.isAgg157
 z66:=Tryz.sizeOf157
 v66:=Tryz.zeroValue157
 t70:=Tryz.underlying161
 a70:=Tryz.isAgg161
 z70:=Tryz.sizeOf161
 v70:=Tryz.zeroValue161
 t76:=Tryz.underlying188
 a76:=Tryz.isAgg188
 z76:=Tryz.sizeOf188
 v76:=Tryz.zeroValue188
 t77:=Tryz.underlying189
 a77:=Tryz.isAgg189
 z77:=Tryz.sizeOf189
 v77:=Tryz.zeroValue189 }
end Go.Proofs
end
section
namespace Go.Proofs.Zq
open Go.RowKit Go.WideMaps Go.Maps Go.Sort Go.Proofs.YtjghikkboekonaaGreatDoor Go.Proofs.Zw.PrintWords Go.Proofs.Zw.PrintLast Go.Proofs.Zw.PrintMore
open Go.Proofs.Zt (Ch)
theorem laid_of {w w':World} (hb:Below w.heap.size w w') (hd:w.drawn≤w'.drawn):∃ q os,w'=grow (w.drewN q) os:=by
 refine ⟨w'.drawn - w.drawn,w'.heap.extract w.heap.size w'.heap.size,?_⟩
 obtain ⟨h,t,d,o,u⟩:=w
 obtain ⟨h',t',d',o',u'⟩:=w'
 obtain ⟨e1,e2,e3,e4,e5⟩:=hb
 dsimp only at e1 e2 e3 e4 e5 hd
 subst e1 e2 e3
 simp only [grow,World.drewN,World.mk.injEq,true_and,and_true]
 refine ⟨?_,by omega⟩
 apply Array.ext_getElem?
 intro i
 by_cases hi:i<h.size
 ·rw [Array.getElem?_append_left hi];exact e5 i hi
 ·rw [Array.getElem?_append_right (by omega),Array.getElem?_extract]
  by_cases hj:i<h'.size
  ·rw [if_pos (by omega)];congr 1;omega
  ·rw [if_neg (by omega),Array.getElem?_eq_none (by omega)]
theorem calls_laid {P:Program} {f:FuncId} {args:Array Value} {w:World} {v:Value} (h:Calls P f args w fun e w'=>e=.returned v∧Below w.heap.size w w'):Calls P f args w fun e w'=>e=.returned v∧∃ q os,w'=grow (w.drewN q) os:=by
 refine (calls_drawn h).mono ?_
 rintro e w' ⟨⟨rfl,hb⟩,hd⟩
 exact ⟨rfl,laid_of hb (hd (by simp))⟩
theorem flatK_list {α:Type} [Inhabited α] {enc:α→List Value} {k:Nat} (hk:∀ x,(enc x).length=k) (d:Array α):(flatK enc k d).toList=flat enc d.toList:=by
 apply List.ext_getElem?
 intro t
 have hl:(flat enc d.toList).length=d.size * k:=by rw [flat_length hk,Array.length_toList]
 have hs:(flatK enc k d).size=d.size * k:=size_flatK enc k d
 by_cases ht:t<d.size * k
 ·have k0:0<k:=by
   rcases Nat.eq_zero_or_pos k with h|h
   ·rw [h] at ht;omega
   ·exact h
  have h1:t / k<d.size:=Nat.div_lt_of_lt_mul (by rwa [Nat.mul_comm] at ht)
  have h2:t % k<(enc d[t / k]).length:=by rw [hk];exact Nat.mod_lt _ k0
  have e1:=flat_at hk d.toList (t / k) (t % k) d[t / k] ((enc d[t / k])[t % k]) (by rw [List.getElem?_eq_getElem (by simpa using h1)];simp) (List.getElem?_eq_getElem h2)
  rw [Nat.div_add_mod'] at e1
  rw [e1,Array.getElem?_toList,Array.getElem?_eq_getElem (by omega)]
  have e2:=get_flatK enc k d t ht
  rw [getElem!_pos (flatK enc k d) t (by omega)] at e2
  rw [e2,getElem!_pos d (t / k) h1,getElem!_pos (enc d[t / k]) (t % k) h2]
 ·rw [List.getElem?_eq_none (by rw [Array.length_toList];omega),List.getElem?_eq_none (by omega)]
theorem chC_len (e:Ch Str Nd):(chCells e).length=12:=rfl
theorem chC_one (e:Ch Str Nd):∀ u ∈ chCells e,u.oneCell'=true:=by
 intro u hu
 simp only [chCells,ndCells,List.mem_cons,List.not_mem_nil,or_false] at hu
 rcases hu with rfl|rfl|rfl|rfl|rfl|rfl|rfl|rfl|rfl|rfl|rfl|rfl <;> rfl
abbrev ShC:={c:Ch Str Nd // c.path.length≤1000000}
instance:Inhabited ShC:=⟨⟨⟨[],0,zeroN⟩,by simp⟩⟩
def encC (x:ShC):List Value:=chCells x.1
theorem encC_len (x:ShC):(encC x).length=12:=chC_len x.1
theorem encC_one (x:ShC):∀ v ∈ encC x,v.oneCell'=true:=chC_one x.1
theorem below_sorted {w w0:World} {g:Nat} (hg:w0.heap.size≤g) (hb:Below w0.heap.size w0 w) (m:Nat) (dk:Array ShC) (os:Array Obj):Below w0.heap.size w0 (sortWorldK encC 12 w g 0 m dk os):=by
 have h1:Below w0.heap.size w0 (putRow id (Sort.ahead w m) g 0 (flatK encC 12 dk)):=Go.Lib.below_putRow hb hg
 refine ⟨h1.os,h1.tape,h1.output,?_,fun k hk=>?_⟩
 ·refine Nat.le_trans h1.size ?_
  show (putRow id (Sort.ahead w m) g 0 (flatK encC 12 dk)).heap.size≤(grow (putRow id (Sort.ahead w m) g 0 (flatK encC 12 dk)) os).heap.size
  simp [grow]
 ·rw [← h1.block k hk]
  show ((putRow id (Sort.ahead w m) g 0 (flatK encC 12 dk)).heap ++ os)[k]?=_
  rw [Array.getElem?_append_left (by have:=h1.size;omega)]
theorem sortC_calls (gf:FuncId) (cf:ShC→ShC→Int) (hO:SWO (ltOf cf)) (eg:∀ args w,(callFunc gf args).run Tryz.prog w=.ok (.enter gf args) w) (w w0:World) (hb:Below w0.heap.size w0 w)
  (hcmp:∀ w1,Below w0.heap.size w0 w1→∀ x y:ShC,Calls Tryz.prog gf #[.agg (chCells x.1).toArray,.agg (chCells y.1).toArray] w1 fun e w2=>e=.returned (.int .i64 (cf x y))∧Below w1.heap.size w1 w2)
  (v:Value) (l:List ShC) (hown:Owr chCells 57 12 w0.heap.size w v (l.map (·.1))) (hlen:l.length≤100000000) :
  Calls Tryz.prog 43 #[v,.func (.func gf) #[] #[]] w fun e w'=>e=.returned (.tuple #[])∧∃ l':List ShC,l'.Perm l∧(l'.Pairwise fun a b=>¬ cf b a<0)∧Owr chCells 57 12 w0.heap.size w' v (l'.map (·.1))∧Below w0.heap.size w0 w':=by
 rcases hown.2 with ⟨rfl,h0⟩|⟨g,cap,cur,rfl,hg,hblk,hcap,hcm,hcs,hcur⟩
 ·obtain rfl:l=[]:=by rw [List.length_map] at h0;exact List.length_eq_zero_iff.1 h0
  refine (AnyF.slices_SortFunc_none (P:=Tryz.prog) (ρ:=Tryz.laySortC_ren) { Tryz.laySortC with } none 0 _ w).mono ?_
  rintro e w' ⟨rfl,rfl⟩
  exact ⟨rfl,[],List.Perm.refl _,List.Pairwise.nil,hown,hb⟩
 ·have hgl:g<w.heap.size:=Go.Proofs.Zw.PrintWords.blk_lt hblk
  have hfl:flat chCells (l.map (·.1))=(flatK encC 12 l.toArray).toList:=by
   rw [flatK_list encC_len]
   show (l.map (·.1)).flatMap chCells=l.flatMap encC
   rw [List.flatMap_map];rfl
  have hll:(l.map (·.1)).length=l.length:=List.length_map _
  have hH:HoldsK encC 12 w g 0 l.toArray:=by
   intro j hj
   have hj':j<l.length * 12:=by rw [size_flatK] at hj;simpa using hj
   refine ⟨?_,Go.Proofs.Zw.PrintWords.pz7 hblk _⟩
   rw [Nat.zero_add,Go.Proofs.Zw.PrintWords.blk_cell hblk j]
   have h2:(cur.toList.take ((l.map (·.1)).length * 12))[j]?=(flat chCells (l.map (·.1)))[j]?:=by rw [hcur]
   rw [List.getElem?_take_of_lt (by rw [hll];exact hj'),hfl] at h2
   rw [Array.getElem?_toList,Array.getElem?_toList,Array.getElem?_eq_getElem hj] at h2
   rw [getElem!_pos _ j hj]
   exact h2
  have hcall:=AnyQ.slices_SortFunc (P:=Tryz.prog) (ρ:=Tryz.laySortC_ren) Tryz.laySortC 12 (fun w=>by kernel_rfl) (fun w=>by kernel_rfl) encC encC_len encC_one cf hO gf #[] g 0 cap l.toArray w eg
   (fun m os dk hs x y=>calls_laid (hcmp _ (below_sorted hg hb m dk os) x y)) hH hgl (by simp;omega)
  have hsz:l.toArray.size=(l.map (·.1)).length:=by simp
  rw [hsz] at hcall
  refine hcall.mono ?_
  rintro e w' ⟨rfl,d',n,os,hp,hs,rfl⟩
  obtain ⟨hp1,_,hp3⟩:=hp
  have hd:d'.size=l.length:=by rw [hp1];simp
  have hperm:d'.toList.Perm l:=by
   have e1:d'.extract 0 (l.map (·.1)).length=d':=by rw [hll,← hd];simp
   have e2:l.toArray.extract 0 (l.map (·.1)).length=l.toArray:=by rw [hll];simp
   rw [e1,e2] at hp3
   exact hp3
  refine ⟨rfl,d'.toList,hperm,?_,?_,below_sorted hg hb n d' os⟩
  ·rw [List.pairwise_iff_getElem]
   intro i j hi hj hij
   have:=hs i j (Nat.zero_le _) hij (by rw [hll];rw [Array.length_toList] at hj;omega)
   have hi':i<d'.size:=by simpa using hi
   have hj':j<d'.size:=by simpa using hj
   rw [getElem!_pos d' i hi',getElem!_pos d' j hj'] at this
   simpa using of_decide_eq_false (p:=cf d'[j] d'[i]<0) this
  ·have hw:sortWorldK encC 12 w g 0 n d' os=grow ((w.drewN n).setCells g 0 (flat chCells (d'.toList.map (·.1)))) os:=by
    have hfl':flat chCells (d'.toList.map (·.1))=(flatK encC 12 d').toList:=by
     rw [flatK_list encC_len]
     show (d'.toList.map (·.1)).flatMap chCells=d'.toList.flatMap encC
     rw [List.flatMap_map];rfl
    have:=Go.Lib.sorted_world id w g 0 n (flatK encC 12 l.toArray) (flatK encC 12 d').toList os hH (by simp [hd])
    rw [List.map_id] at this
    rw [hfl',← this]
    show grow (putRow id _ g 0 (flatK encC 12 d')) os=_
    rw [Array.toArray_toList]
   rw [hw]
   have hfll:(flat chCells (d'.toList.map (·.1))).length=l.length * 12:=by rw [flat_length chC_len,List.length_map,Array.length_toList,hd]
   have hcap':l.length≤cap:=by rw [hll] at hcap;exact hcap
   obtain ⟨cur',q1,q2,q3⟩:=setCells_row (flat chCells (d'.toList.map (·.1))) 0 (w.drewN n) cur hblk (by rw [hfll];omega)
   have hlen':(d'.toList.map (·.1)).length=(l.map (·.1)).length:=by rw [List.length_map,List.length_map,hperm.length_eq]
   rw [← hlen']
   refine own_mk chC_len (cur:=cur') hg ?_ (by rw [hlen'];exact hcap) hcm (q2.trans hcs) ?_
   ·show ((((w.drewN n).setCells g 0 _).heap) ++ os)[g]?=_
    rw [Array.getElem?_append_left (Go.Proofs.Zw.PrintWords.blk_lt q1)]
    exact q1
   ·rw [q3,hlen',hll]
    simp only [List.take_zero,List.nil_append]
    rw [List.take_append_of_le_length (by rw [hfll];exact Nat.le_refl _),List.take_of_length_le (by rw [hfll];exact Nat.le_refl _)]
end Go.Proofs.Zq
end
section
namespace Go.Proofs.Zq
open Go.RowKit Go.Proofs.YtjghikkboekonaaGreatDoor Go.Proofs.Zw.PrintWords Go.Proofs.Zw.PrintLast Go.Proofs.Zw.PrintMore
theorem nd_eq (n m:Nd):(n.kind == m.kind && (n.mode == m.mode && (n.uid == m.uid && (n.gid == m.gid && (n.mtime == m.mtime && (n.link == m.link && (n.data == m.data && (n.major == m.major && (n.minor == m.minor && n.attrs == m.attrs)))))))))=decide (n=m):=by
 obtain ⟨a1,a2,a3,a4,a5,a6,a7,a8,a9,a10⟩:=n
 obtain ⟨b1,b2,b3,b4,b5,b6,b7,b8,b9,b10⟩:=m
 simp only [Nd.mk.injEq]
 rw [Bool.eq_iff_iff]
 simp
theorem eqNg (d:Nat) (w:World) (n m:Nd):(Op.equalIn (d + 2) 28 (.agg (ndCells n).toArray) (.agg (ndCells m).toArray)).run Tryz.prog w=.ok (decide (n=m)) w:=by
 have h:=eqA28 d w n.kind m.kind n.mode m.mode n.uid m.uid n.gid m.gid n.mtime m.mtime (B n.link) (B m.link) (B n.data) (B m.data) n.major m.major n.minor m.minor (B n.attrs) (B m.attrs)
 rw [← nd_eq]
 simp only [toList_B] at h ⊢
 exact h
theorem eqEg (d:Nat) (w:World) (a b:Str×Nd):(Op.equalIn (d + 3) 32 (.agg (eCells a).toArray) (.agg (eCells b).toArray)).run Tryz.prog w=.ok (decide (a=b)) w:=by
 obtain ⟨p,n⟩:=a
 obtain ⟨q,m⟩:=b
 have h:=eqA32 d w (B p) (B q) n.kind m.kind n.mode m.mode n.uid m.uid n.gid m.gid n.mtime m.mtime (B n.link) (B m.link) (B n.data) (B m.data) n.major m.major n.minor m.minor (B n.attrs) (B m.attrs)
 have e:decide ((p,n)=(q,m))=(p == q && decide (n=m)):=by rw [Bool.eq_iff_iff];simp
 rw [e,← nd_eq]
 simp only [toList_B] at h ⊢
 exact h
end Go.Proofs.Zq
end
section
namespace Go.Proofs.Zq
open Go.RowKit Go.Proofs.YtjghikkboekonaaGreatDoor Go.Proofs.Zw.PrintWords Go.Proofs.Zw.PrintLast Go.Proofs.Zw.PrintMore
open Go.Proofs.Zt (applyM RightT getL parM underM Ch)
theorem par_c (w:World) (p:Str) (h:p.length≤1000000):Calls Tryz.prog 19 #[.string (B p)] w fun x w'=>x=.returned (.string (B (parM p)))∧Below w.heap.size w w' :=
 paths_Parent.calls (B p) (B (parM p)) w (parent_f _ (by omega))
end Go.Proofs.Zq
end
