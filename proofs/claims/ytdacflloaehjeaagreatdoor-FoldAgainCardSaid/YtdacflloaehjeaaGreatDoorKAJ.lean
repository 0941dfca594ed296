/- A part of a proof of statements of this seat: what its walks and its laws lean on; joined by a program of this repo (wip/pack.py) out of the texts XCRW, XApp2, XTree, XSm17a, XSm17b, XArgs, XHd, QOnionskinlaw09Few, QOnionskinlaw16Few, QEq39, QOnionskinref08Same, XEnt, XArgs2, XRng, XCloneE, XStep, XArgs3. -/
import Derived.Below
import Derived.Carry
import Derived.ChangeSame
import Derived.Deep.DeepHandedRow
import Derived.Deep.DeepWitnessRowRef
import Derived.Deep.Slices
import Derived.Lib.LaidTab
import Derived.LoopIn
import Derived.LoopNIn
import Derived.OpenShut
import Derived.OwnWalkIn
import Derived.ProofKit
import Derived.RangeFuncBound
import Derived.RangeFuncBox
import Derived.RangeFuncCalls
import Derived.RangeFuncLeaves
import Derived.RangeFuncNested
import Derived.Shelf.Abstract
import Derived.Shelf.Vars
import Derived.SizedLaws
import Derived.Stop.LaidErr
import Derived.TacticsInMore
import Derived.Test.YtdacflloaehjeaaGreatDoorCards
import Derived.Test.YtdacflloaehjeaaGreatDoorTie
import Derived.WalkKit
import Derived.Test.YtdacflloaehjeaaGreatDoorKAA
import Derived.Test.YtdacflloaehjeaaGreatDoorKAB
import Derived.Test.YtdacflloaehjeaaGreatDoorKAE
import Derived.Test.YtdacflloaehjeaaGreatDoorKAH
import Derived.Test.YtdacflloaehjeaaGreatDoorKAI
set_option linter.unusedSimpArgs false
set_option linter.unusedVariables false
section
namespace Go.Proofs.YtdacflloaehjeaaGreatDoorQ
open Go.RowKit Go.Proofs.YtdacflloaehjeaaGreatDoor Go.Proofs.YtdacflloaehjeaaGreatDoorW.PrintWords Go.Proofs.YtdacflloaehjeaaGreatDoorW.PrintLast Go.Proofs.YtdacflloaehjeaaGreatDoorW.PrintMore
open Go.Proofs.YtdacflloaehjeaaGreatDoorT (tarM Ch rightC lessM chain)
theorem unmark_calls (w:World) (hG:GL w) (op:Int) (p:Str) (hl:p.length≤1000000) :
    Calls Tryz.prog 70 #[.int .i64 op,.string (B p)] w fun e w'=>e=.returned (.tuple #[.string (B (tarM op p)),.bool (!(tarM op p).isEmpty)])∧Below w.heap.size w w':=by
  have h:=paths_Unmark.calls (p.length + 31) op (B p) (unmarkR op p).1 (unmarkR op p).2 w hG (unmark_f op p (by omega) _ (by omega))
  rw [unmarkR_1,unmarkR_2] at h
  exact h
theorem less_calls (w:World) (hG:GL w) (a b:Ch Str Nd) (ha:a.path.length≤1000000) (hb:b.path.length≤1000000) :
    Calls Tryz.prog 48 #[.agg (chCells a).toArray,.agg (chCells b).toArray] w fun e w'=>e=.returned (.bool (lessM (tarM a.op a.path) (tarM b.op b.path)))∧Below w.heap.size w w' :=
  change_Less.calls 2000001 (B a.path) a.op a.node.kind a.node.mode a.node.uid a.node.gid a.node.mtime (B a.node.link) (B a.node.data) a.node.major a.node.minor (B a.node.attrs)
    (B b.path) b.op b.node.kind b.node.mode b.node.uid b.node.gid b.node.mtime (B b.node.link) (B b.node.data) b.node.major b.node.minor (B b.node.attrs) _ w hG (less_f (ofCh a) (ofCh b) ha hb _ (by omega))
section
variable {P:Program} {ops:Array Oper} {rest:List Oper} {o:Oper} {a:Act} {Q:Exit→Act→World→Prop} {W:World}
theorem wpList_giv (hw:Region.wanted o (yielded ops a.tmps)=true) {v:Value} (hrun:(execOp a.eval o).run P W=.ok (.value v) W)
    (h:wpList P ops Q rest (a.put o.dst v) W):wpList P ops Q (o :: rest) a W:=by
  unfold wpList
  rw [if_pos hw]
  refine Or.inl ?_
  unfold Oper.wp
  rw [hrun]
  exact h
end
def chZero0:Array Value:=#[.string (⟨#[]⟩:ByteArray),.int .i64 0,.int .i64 0,.int .i64 0,.int .i64 0,.int .i64 0,.int .i64 0,.string (⟨#[]⟩:ByteArray),.string (⟨#[]⟩:ByteArray),.int .i64 0,.int .i64 0,.string (⟨#[]⟩:ByteArray)]
structure AtC (w0 w:World) (g:Nat) (c:Ch Str Nd):Prop where
  blk:w.heap[g]?=some (.cells (chCells c).toArray 59 (0,0))
  below:Below w0.heap.size w0 w
theorem AtC.ext {w0 w w1:World} {g:Nat} {c:Ch Str Nd} (h:AtC w0 w g c) (hb:Below w.heap.size w w1):AtC w0 w1 g c:=⟨blk_below h.blk hb,Go.Proofs.YtdacflloaehjeaaGreatDoor.below_then h.below hb⟩
theorem AtC.at {w0 w:World} {g:Nat} {c:Ch Str Nd} (h:AtC w0 w g c) (j:Nat) {v:Value} (hv:(chCells c)[j]?=some v):w.cell? ⟨g,j,none⟩=some v:=by
  rw [Go.Proofs.YtdacflloaehjeaaGreatDoor.blk_cell h.blk];simpa using hv
theorem lyr_two {t:List (Ch Str Nd)} (h:lyrFits t=true) {e:Ch Str Nd} (he:e ∈ t):e.path.length≤1000000∧e.node.attrs.length≤10000000:=by
  have:=List.all_eq_true.1 h e he
  simpa [ndFits] using this
theorem AtC.node {w0 w:World} {g:Nat} {c:Ch Str Nd} (h:AtC w0 w g c):LiesAt w ⟨g,2,none⟩ (ndCells c.node):=fun j v hv=>by
  rw [Addr.add_mid]
  refine h.at (2 + j) ?_
  unfold chCells
  rw [Nat.add_comm 2 j,List.getElem?_cons_succ,List.getElem?_cons_succ]
  exact hv
def prevC (L:List (Ch Str Nd)) (i:Nat):Option (Ch Str Nd):=if i=0 then none else L[i - 1]?
def afterC:Option (Ch Str Nd)→Ch Str Nd→Bool
  | none,_=>true
  | some p,c=>lessM (tarM p.op p.path) (tarM c.op c.path)
theorem cGo_step (p:Option (Ch Str Nd)) (c:Ch Str Nd) (r:List (Ch Str Nd)):cGo p (c :: r)=((!(tarM c.op c.path).isEmpty && decide (Y.rt (tarM c.op c.path) c.node=0)) && ((decide (c.op=0) || decide (c.node=zeroN)) && (afterC p c && cGo (some c) r))):=by
  show (oneC c && _ && _)=_
  unfold oneC afterC
  cases p <;> simp [Bool.and_assoc]
theorem zero_eq (n:Nd):(n.kind == 0 && (n.mode == 0 && (n.uid == 0 && (n.gid == 0 && (n.mtime == 0 && ((B n.link).toList == ([]:List UInt8) && ((B n.data).toList == ([]:List UInt8) && (n.major == 0 && (n.minor == 0 && ((B n.attrs).toList == ([]:List UInt8)))))))))))=decide (n=zeroN):=by
  obtain ⟨a1,a2,a3,a4,a5,a6,a7,a8,a9,a10⟩:=n
  simp only [toList_B,zeroN,Nd.mk.injEq]
  rw [Bool.eq_iff_iff]
  simp
theorem eqN (d:Nat) (w:World) (n:Nd):(Op.equalIn (d + 2) 35 (.agg (ndCells n).toArray) (.agg (ndCells zeroN).toArray)).run Tryz.prog w=.ok (decide (n=zeroN)) w:=by
  have h:=eqA35 d w n.kind 0 n.mode 0 n.uid 0 n.gid 0 n.mtime 0 (B n.link) (B []) (B n.data) (B []) n.major 0 n.minor 0 (B n.attrs) (B [])
  rw [← zero_eq]
  simp only [toList_B] at h ⊢
  exact h
attribute [local go_sem high] eqN
set_option maxRecDepth 100000 in
set_option maxHeartbeats 4000000 in
theorem cright_calls (w:World) (hG:GL w) (A:Option Addr) (c:Nat) (l:List S59) (hr:Kd.C k59 w A l.length l) (hc:l.length≤c) (hfit:lyrFits (l.map chOf)=true) (hl:l.length≤1000000) :
    Calls Tryz.prog 42 #[.slice A l.length c] w fun e w'=>e=.returned (.bool (rightC Y (l.map chOf)))∧Below w.heap.size w w':=by
  have HR:=Lib.hid hr
  have HF:=Lib.hid hfit
  have HL:=Lib.hid hl
  clear hr hfit hl
  go_enter Tryz.func42,Tryz.ntmps42
  go_wp2
  go_loopg [9] (l.length + 1) (fun g v wr=>∃ i:Nat,v=.int .i64 i∧l.length<g + i∧Hid (i≤l.length)∧Hid (rightC Y (l.map chOf)=cGo (prevC (l.map chOf) i) ((l.map chOf).drop i))∧Hid (Below w.heap.size w wr))
  case atStart=>exact ⟨0,rfl,by omega,Lib.hid (by omega),Lib.hid (by rw [List.drop_zero];exact (cGo_all _).symm),Lib.hid (Below.refl _ _)⟩
  case round =>
    obtain ⟨i,rfl,hgi,HI,HG,HB⟩:=hrel
    by_cases hi:i<l.length
    · cases gk with
      | zero=>omega
      | succ g1 =>
        obtain ⟨ad,rfl,hat⟩:=c_at HR.out i hi
        have HAT:=Lib.hid (hat.below HB.out)
        clear hat
        have HE:=Lib.hid (lyr_two HF.out (List.mem_map_of_mem (f:=chOf) (List.getElem_mem hi)))
        have HU:=Lib.hid Tryz.underlying59
        have HUN:=Lib.hid Tryz.underlying35
        obtain ⟨e,hee⟩:∃ e,e=chOf l[i]:=⟨_,rfl⟩
        rw [← hee] at HAT HE
        have hd:(l.map chOf).drop i=e :: (l.map chOf).drop (i + 1):=by rw [hee,List.drop_eq_getElem_cons (by simpa using hi)];simp
        have hp:prevC (l.map chOf) (i + 1)=some e:=by unfold prevC;rw [if_neg (by omega),Nat.add_sub_cancel,List.getElem?_map,List.getElem?_eq_getElem hi,hee];rfl
        have HP1:=Lib.hid hp
        obtain ⟨ok1,h1⟩:∃ ok1,ok1=(!(tarM e.op e.path).isEmpty && decide (Y.rt (tarM e.op e.path) e.node=0)):=⟨_,rfl⟩
        obtain ⟨ok2,h2⟩:∃ ok2,ok2=(decide (e.op=0) || decide (e.node=zeroN)):=⟨_,rfl⟩
        obtain ⟨ok3,h3⟩:∃ ok3,ok3=afterC (prevC (l.map chOf) i) e:=⟨_,rfl⟩
        have HG1:Hid (rightC Y (l.map chOf)=(ok1 && (ok2 && (ok3 && cGo (some e) ((l.map chOf).drop (i + 1)))))):=Lib.hid (by rw [HG.out,hd,cGo_step,h1,h2,h3])
        have H1:=Lib.hid h1
        have H2:=Lib.hid h2
        have H3:=Lib.hid h3
        clear hd hp hee h1 h2 h3 HG
        go_upto_region 4 with (first|((with_reducible refine gate_dst (N:=13) rfl ?_);refine wpList_load_agg rfl 59 _ rfl _ rfl (chCells e) _ HAT.out HU.out rfl rfl ?_)|((with_reducible refine gate_dst (N:=4) rfl ?_);refine box_event rfl (N:=4) rfl (cs:=chZero0) (t:=59) ?hr ?_;(case hr=>first|(go_simp;done)|(go_simp;rfl));intro g hg w2 hb2 hbl2;have HGE:Hid (w.heap.size≤g):=Lib.hid (by rw [hg];exact HB.out.size);have HB2:=Lib.hid hb2;have HBL2:=Lib.hid hbl2;clear hg hb2 hbl2)|((with_reducible refine gate_store (t:=59) (p:=4) rfl ?_);refine wpList_store_agg rfl rfl 59 _ _ rfl g (chCells e).toArray rfl rfl 59 chZero0 HB2.out rfl rfl (by simp [chCells,ndCells,Value.oneCell']) ?_;intro w3 hb3 hg3;have HB3:=Lib.hid hb3;have HBL3:Hid (Below w.heap.size w w3):=Lib.hid ((Go.Proofs.YtdacflloaehjeaaGreatDoor.below_then HB.out HBL2.out).grown hg3 (Nat.le_trans HB.out.size HBL2.out.size) (fun j hj=>by cases hj;exact HGE.out));clear hb3 hg3))
        have HN:Hid (AtC w w3 g e):=Lib.hid ⟨HB3.out,HBL3.out⟩
        clear HB2 HB3 HBL2 HBL3 HGE
        have q0:=HN.out.at 0 (v:=.string (B e.path)) rfl
        have q1:=HN.out.at 1 (v:=.int .i64 e.op) rfl
        go_wp2_with fail
        refine (unmark_calls w3 (hG.ext HN.out.below) e.op e.path HE.out.1).mono ?_
        rintro x w4 ⟨rfl,hb⟩
        have HN4:=Lib.hid (HN.out.ext hb)
        clear hb q0 q1 HN
        obtain ⟨em,hem⟩:∃ em,em=(tarM e.op e.path).isEmpty:=⟨_,rfl⟩
        rw [← hem]
        have HEM:=Lib.hid hem
        clear hem
        go_upto_region 5 with (fail)
        go_cut [22] (fun v wc=>v=.bool (!ok1)∧Hid (AtC w wc g e))
        case first =>
          cases em with
          | true =>
            have HV:Hid (ok1=false):=Lib.hid (by rw [H1.out,← HEM.out];rfl)
            go_wp2_with fail
            go_meet
            exact ⟨by rw [HV.out];rfl,HN4⟩
          | false =>
            have HV:Hid (ok1=decide (Y.rt (tarM e.op e.path) e.node=0)):=Lib.hid (by rw [H1.out,← HEM.out];rfl)
            have HLN:=Lib.hid HN4.out.node
            go_wp2_with (first|((with_reducible refine gate_dst (N:=28) rfl ?_);refine wpList_load_agg rfl 35 _ rfl _ rfl (ndCells e.node) _ HLN.out HUN.out rfl rfl ?_;go_frame)|((with_reducible refine gate_dst (N:=29) rfl ?_);refine wpList_giv rfl (v:=.agg (eCells (tarM e.op e.path,e.node)).toArray) (by kernel_rfl) ?_;go_frame))
            refine (right_calls w4 (hG.ext HN4.out.below) (tarM e.op e.path) e.node HE.out.2).mono ?_
            rintro x w5 ⟨rfl,hb⟩
            have HN5:=Lib.hid (HN4.out.ext hb)
            clear hb
            have HV2:Hid ((rtM (tarM e.op e.path) e.node != 0)=!ok1):=Lib.hid (by rw [HV.out];show _=!decide (rtM _ _=0);rw [bne,Bool.not_inj_iff];rfl)
            go_wp2_with fail
            go_meet
            exact ⟨by rw [← HV2.out],HN5⟩
        case rest =>
        clear HN4
        obtain ⟨rfl,HN5⟩:=hcut
        cases ok1 with
        | false =>
          go_wp2_with fail
          go_ret
          exact ⟨by rw [HG1.out];rfl,HN5.out.below⟩
        | true =>
        go_upto_region 7 with (fail)
        have q1:=HN5.out.at 1 (v:=.int .i64 e.op) rfl
        go_cut [33] (fun v wc=>v=.bool (!ok2)∧Hid (AtC w wc g e))
        case first =>
          cases hop:(e.op != 0) with
          | false =>
            have HV:Hid (ok2=true):=Lib.hid (by rw [H2.out];have h9:e.op=0:=(by simpa using hop);simp [h9])
            go_wp2_with fail
            go_meet
            exact ⟨by rw [HV.out];rfl,HN5⟩
          | true =>
            have HV:Hid ((!decide (e.node=zeroN))=!ok2):=Lib.hid (by rw [H2.out];have h9:¬ e.op=0:=(by simpa using hop);simp [h9])
            have HLN:=Lib.hid HN5.out.node
            go_wp2_with (first|((with_reducible refine gate_dst (N:=39) rfl ?_);refine wpList_load_agg rfl 35 _ rfl _ rfl (ndCells e.node) _ HLN.out HUN.out rfl rfl ?_;go_frame)|((with_reducible refine gate_dst (N:=40) rfl ?_);refine wpList_giv rfl (v:=.agg (ndCells zeroN).toArray) (by kernel_rfl) ?_;go_frame))
            go_meet
            exact ⟨by rw [← HV.out],HN5⟩
        case rest =>
        clear HN5 q1
        obtain ⟨rfl,HN6⟩:=hcut
        cases ok2 with
        | false =>
          go_wp2_with fail
          go_ret
          exact ⟨by rw [HG1.out];rfl,HN6.out.below⟩
        | true =>
        go_upto_region 9 with (fail)
        have HL6:Hid (LiesAt wc ⟨g,0,none⟩ (chCells e)):=Lib.hid (fun j v hv=>by rw [Addr.add_mid,Nat.zero_add];exact HN6.out.at j hv)
        go_cut [43] (fun v w'=>v=.bool (!ok3)∧Hid (Below wc.heap.size wc w'))
        case first =>
          refine start_ (n:=13) (S:=fun w'=>Below wc.heap.size wc w') (ds:=[]) (ms 13 0) (by kernel_rfl) rfl rfl (Below.refl _ _).drew (fun hHeld=>?_)
          by_cases h0:i=0
          · have ho:ok3=true:=by rw [H3.out,h0];rfl
            subst ho
            have hgt:decide ((0:Int)<(i:Int))=false:=by simp;omega
            (refine pU 0 44 ?_ (ms 13 1) rfl rfl (by kernel_rfl) (fun _ _ _=>id) (by rfl) ?_ ?_ ?_ ?_;rotate_left;(intro w';go_simp;with_reducible rfl);rotate_left;(simp only [aP,i64_w,i32_w];rfl))
            (refine pU 1 45 ?_ (ms 13 2) rfl rfl (by kernel_rfl) (fun _ _ _=>id) (by rfl) ?_ ?_ ?_ ?_;rotate_left;(intro w';go_simp;with_reducible rfl);rotate_left;(simp only [aP,i64_w,i32_w];rfl))
            (refine pU 2 46 ?_ (ms 13 3) rfl rfl (by kernel_rfl) (fun _ _ _=>id) (by rfl) ?_ ?_ ?_ ?_;rotate_left;(intro w';go_simp;with_reducible rfl);rotate_left;(simp only [aP,i64_w,i32_w];rfl))
            (refine pN 3 47 (ms 13 4) rfl rfl (by kernel_rfl) (fun _ _ _=>id) (by rfl) ?_ ?_ ?_;rotate_left;(simp only [aP,i64_w,i32_w];rfl))
            (refine pN 4 48 (ms 13 5) rfl rfl (by kernel_rfl) (fun _ _ _=>id) (by rfl) ?_ ?_ ?_;rotate_left;(simp only [aP,i64_w,i32_w];rfl))
            (refine pN 5 49 (ms 13 6) rfl rfl (by kernel_rfl) (fun _ _ _=>id) (by rfl) ?_ ?_ ?_;rotate_left;(simp only [aP,i64_w,i32_w];rfl))
            (refine pN 6 50 (ms 13 7) rfl rfl (by kernel_rfl) (fun _ _ _=>id) (by rfl) ?_ ?_ ?_;rotate_left;(simp only [aP,i64_w,i32_w];rfl))
            (refine pN 7 51 (ms 13 8) rfl rfl (by kernel_rfl) (fun _ _ _=>id) (by rfl) ?_ ?_ ?_;rotate_left;(simp only [aP,i64_w,i32_w];rfl))
            (refine pN 8 52 (ms 13 9) rfl rfl (by kernel_rfl) (fun _ _ _=>id) (by rfl) ?_ ?_ ?_;rotate_left;(simp only [aP,i64_w,i32_w];rfl))
            (refine pN 9 53 (ms 13 10) rfl rfl (by kernel_rfl) (fun _ _ _=>id) (by rfl) ?_ ?_ ?_;rotate_left;(simp only [aP,i64_w,i32_w];rfl))
            (refine pN 10 54 (ms 13 11) rfl rfl (by kernel_rfl) (fun _ _ _=>id) (by rfl) ?_ ?_ ?_;rotate_left;(simp only [aP,i64_w,i32_w];rfl))
            (refine pU 11 55 ?_ (ms 13 12) rfl rfl (by kernel_rfl) (fun _ _ _=>id) (by rfl) ?_ ?_ ?_ ?_;rotate_left;(intro w';go_simp;with_reducible rfl);rotate_left;(simp only [aP,i64_w,i32_w];rfl))
            (refine pU 12 43 ?_ (ms 13 13) rfl rfl (by kernel_rfl) (fun _ _ _=>id) (by rfl) ?_ ?_ ?_ ?_;rotate_left;(intro w';go_simp;with_reducible rfl);rotate_left;(simp only [aP,i64_w,i32_w];rfl))
            refine done_ (by kernel_rfl) ?_
            go_wp2_with fail
            go_meet
            exact ⟨rfl,Lib.hid hHeld⟩
          · obtain ⟨m,hm⟩:∃ m,m + 1=i:=⟨i - 1,by omega⟩
            have hml:m<l.length:=by omega
            have hgt:decide (0<i)=true:=by simp;omega
            obtain ⟨ad',hade,hatm⟩:=c_at HR.out m hml
            obtain rfl:=Option.some.inj hade
            have HATM:=Lib.hid (hatm.below HN6.out.below)
            have HEY:=Lib.hid (lyr_two HF.out (List.mem_map_of_mem (f:=chOf) (List.getElem_mem hml)))
            obtain ⟨y,hy⟩:∃ y,y=chOf l[m]:=⟨_,rfl⟩
            rw [← hy] at HATM HEY
            have HO:Hid (lessM (tarM y.op y.path) (tarM e.op e.path)=ok3):=Lib.hid (by
              rw [H3.out];unfold prevC;rw [if_neg h0,← hm,Nat.add_sub_cancel,List.getElem?_map,List.getElem?_eq_getElem hml,hy];rfl)
            have hsub:IntKind.i64.wrap ((i:Int) - 1)=(m:Int):=by have:=HL.out;rw [← hm,IntWalk.i64_in _ (by omega)];omega
            clear hade hatm hy h0
            (refine pU 0 44 ?_ (ms 13 1) rfl rfl (by kernel_rfl) (fun _ _ _=>id) (by rfl) ?_ ?_ ?_ ?_;rotate_left;(intro w';go_simp;with_reducible rfl);rotate_left;(simp only [aP,i64_w,i32_w];rfl))
            (refine pU 1 45 ?_ (ms 13 2) rfl rfl (by kernel_rfl) (fun _ _ _=>id) (by rfl) ?_ ?_ ?_ ?_;rotate_left;(intro w';go_simp;with_reducible rfl);rotate_left;(simp only [aP,i64_w,i32_w];rfl))
            (refine pU 2 46 ?_ (ms 13 3) rfl rfl (by kernel_rfl) (fun _ _ _=>id) (by rfl) ?_ ?_ ?_ ?_;rotate_left;(intro w';go_simp;with_reducible rfl);rotate_left;(simp only [aP,i64_w,i32_w];rfl))
            (refine pU 3 47 ?_ (ms 13 4) rfl rfl (by kernel_rfl) (fun _ _ _=>id) (by rfl) ?_ ?_ ?_ ?_;rotate_left;(intro w';go_simp;with_reducible rfl);rotate_left;(simp only [aP,i64_w,i32_w];rfl))
            (refine pU 4 48 ?_ (ms 13 5) rfl rfl (by kernel_rfl) (fun _ _ _=>id) (by rfl) ?_ ?_ ?_ ?_;rotate_left;(intro w';go_simp;with_reducible rfl);rotate_left;(simp only [aP,i64_w,i32_w];rfl))
            (refine pU 5 49 ?_ (ms 13 6) rfl rfl (by kernel_rfl) (fun _ _ _=>id) (by rfl) ?_ ?_ ?_ ?_;rotate_left;(intro w';have hsub1:=hsub;go_simp;with_reducible rfl);rotate_left;(simp only [aP,i64_w,i32_w];rfl))
            have hm0:(0:Int)≤(m:Int):=by omega
            have hm1:(m:Int)<(l.length:Int):=by omega
            (refine pU 6 50 ?_ (ms 13 7) rfl rfl (by kernel_rfl) (fun _ _ _=>id) (by rfl) ?_ ?_ ?_ ?_;rotate_left;(intro w';go_simp;with_reducible rfl);rotate_left;(simp only [aP,i64_w,i32_w];rfl))
            refine take_ (i:=7) (N:=some 51) (v:=.agg (chCells y).toArray) (a':=?_) (ms 13 8) rfl rfl (by kernel_rfl) (fun _ _ _ h=>h) (yi_agg (by rfl) 59 _ rfl _ rfl _ _ (fun w' hb=>HATM.out.below hb) HU.out rfl rfl) hHeld ?_ ?_
            rotate_left
            · (simp only [aP,i64_w,i32_w];rfl)
            refine take_ (i:=8) (N:=some 52) (v:=.agg (chCells e).toArray) (a':=?_) (ms 13 9) rfl rfl (by kernel_rfl) (fun _ _ _ h=>h) (yi_agg (by rfl) 59 _ rfl _ rfl _ _ (fun w' hb=>HL6.out.below hb) HU.out rfl rfl) hHeld ?_ ?_
            rotate_left
            · (simp only [aP,i64_w,i32_w];rfl)
            refine one_ (i:=9) (N:=some 53) (ms 13 10) rfl rfl (by kernel_rfl) (by decide) (fun K hK=>?_)
            refine goes_ Tryz.func48 (by kernel_rfl) rfl #[.agg (chCells y).toArray,.agg (chCells e).toArray] (by rfl) rfl rfl (by simp only [List.map_toArray,List.map_cons,List.map_nil];rfl) ?_
            refine (less_calls _ (hG.ext (Go.Proofs.YtdacflloaehjeaaGreatDoor.below_then HN6.out.below hHeld)) y e HEY.out.1 HE.out.1).mono ?_
            rintro x w6 ⟨rfl,hb6⟩
            refine ⟨_,rfl,?_⟩
            have HB6:=Lib.hid hb6
            clear hb6
            refine hK.out _ _ (Go.Proofs.YtdacflloaehjeaaGreatDoor.below_then hHeld HB6.out) (fun hHeld=>?_)
            clear hK K
            refine norm_ (a':=?_) ?_ ?_
            rotate_left
            · show Act.put _ (some 53) _=_
              (simp only [aP,i64_w,i32_w];rfl)
            rw [HO.out]
            (refine pU 10 54 ?_ (ms 13 11) rfl rfl (by kernel_rfl) (fun _ _ _=>id) (by rfl) ?_ ?_ ?_ ?_;rotate_left;(intro w';go_simp;with_reducible rfl);rotate_left;(simp only [aP,i64_w,i32_w];rfl))
            (refine pU 11 55 ?_ (ms 13 12) rfl rfl (by kernel_rfl) (fun _ _ _=>id) (by rfl) ?_ ?_ ?_ ?_;rotate_left;(intro w';go_simp;with_reducible rfl);rotate_left;(simp only [aP,i64_w,i32_w];rfl))
            (refine pU 12 43 ?_ (ms 13 13) rfl rfl (by kernel_rfl) (fun _ _ _=>id) (by rfl) ?_ ?_ ?_ ?_;rotate_left;(intro w';go_simp;with_reducible rfl);rotate_left;(simp only [aP,i64_w,i32_w];rfl))
            refine done_ (by kernel_rfl) ?_
            go_wp2_with fail
            go_meet
            exact ⟨rfl,Lib.hid hHeld⟩
        case rest =>
        obtain ⟨rfl,hb7⟩:=hcut
        have HB7:=Lib.hid (Go.Proofs.YtdacflloaehjeaaGreatDoor.below_then HN6.out.below hb7.out)
        clear hb7
        cases ok3 with
        | false =>
          go_wp2_with fail
          go_ret
          exact ⟨by rw [HG1.out];rfl,HB7.out⟩
        | true =>
          have HG2:Hid (rightC Y (l.map chOf)=cGo (prevC (l.map chOf) (i + 1)) ((l.map chOf).drop (i + 1))):=Lib.hid (by rw [HG1.out,HP1.out];rfl)
          have HII:Hid (i + 1≤l.length):=Lib.hid hi
          have HLL:=HL.out
          go_wp2_with fail
          go_roundg g1
          case measure=>omega
          case rel=>exact ⟨i + 1,by go_num,by omega,HII,HG2,HB7⟩
    · have he:i=l.length:=by have:=HI.out;omega
      subst he
      go_wp2_with fail
      go_ret
      refine ⟨?_,HB.out⟩
      rw [HG.out,List.drop_eq_nil_of_le (by simp)]
      rfl
end Go.Proofs.YtdacflloaehjeaaGreatDoorQ
end
section
namespace Go.Proofs.YtdacflloaehjeaaGreatDoorQ
open Go.RowKit Go.WideMaps Go.Maps Go.Proofs.YtdacflloaehjeaaGreatDoor Go.Proofs.YtdacflloaehjeaaGreatDoorW.PrintWords Go.Proofs.YtdacflloaehjeaaGreatDoorW.PrintLast Go.Proofs.YtdacflloaehjeaaGreatDoorW.PrintMore
open Go.Proofs.YtdacflloaehjeaaGreatDoorT (rightT rightC applyM applyL parM lessM cmpM getL Ch puts Puts tkL PS Srt isM RightT RightL underM)
theorem getL_step {t:List (Str×Nd)} (hs:t.Pairwise fun a b=>a.1≠b.1) (i:Nat) (hi:i<t.length) (key:Str):getL (t.take (i + 1)) key=if key=t[i].1 then some t[i].2 else getL (t.take i) key:=by
  rw [List.take_succ_eq_append_getElem hi,YtdacflloaehjeaaGreatDoorT.getL_append]
  by_cases hk:key=t[i].1
  · subst hk
    rw [if_pos rfl,if_pos rfl]
    have : getL (t.take i) t[i].1=none:=by
      cases h:getL (t.take i) t[i].1 with
      | none=>rfl
      | some n =>
        have hm:=YtdacflloaehjeaaGreatDoorT.getL_mem h
        obtain ⟨j,hj,he⟩:=List.getElem_of_mem hm
        have hj':j<i:=by simp at hj;omega
        have:=List.pairwise_iff_getElem.1 hs j i (by omega) hi hj'
        rw [List.getElem_take] at he
        rw [he] at this
        exact absurd rfl this
    rw [this];rfl
  · rw [if_neg hk,if_neg (fun h=>hk h.symm)]
    cases getL (t.take i) key <;> rfl
theorem lyr_get {t:List (Ch Str Nd)} (h:lyrFits t=true) {e:Ch Str Nd} (he:e ∈ t):e.path.length≤1000000∧ndFits e.node=true:=by
  have:=List.all_eq_true.1 h e he
  simpa using this
theorem foldl_take (q:Str):∀ (l:List (Ch Str Nd)) (f:Str→Option Nd),l.foldl takeF f q=if tkL PS l q=true then none else f q
  | [],f=>by simp [tkL]
  | c :: r,f=>by
    rw [List.foldl_cons,foldl_take q r]
    have ht:tkL PS (c :: r) q=(YtdacflloaehjeaaGreatDoorT.Takes PS c q || tkL PS r q):=by simp [tkL]
    rw [ht]
    by_cases hr:tkL PS r q=true
    · rw [if_pos hr,hr,Bool.or_true,if_pos rfl]
    · have hr':tkL PS r q=false:=by simpa using hr
      rw [if_neg hr,hr',Bool.or_false]
      have hu:∀ a b,PS.under a b=underM a b:=fun _ _=>rfl
      unfold takeF YtdacflloaehjeaaGreatDoorT.Takes clearF
      simp only [hu]
      by_cases h1:c.op=1
      · rw [if_pos h1]
        by_cases h2:underM c.path q=true
        · simp [h1,h2]
        · by_cases h3:q=c.path
          · simp [h1,h2,h3]
          · simp [h1,h2,h3]
      · rw [if_neg h1]
        by_cases h2:c.op=2
        · rw [if_pos h2]
          by_cases h3:underM c.path q=true <;> simp [h2,h3]
        · rw [if_neg h2]
          simp [h1,h2]
theorem folderF_iff (g:Str→Option Nd) (p:Str):folderF g p=true↔YtdacflloaehjeaaGreatDoorT.Fold PS Y.dir g p:=by
  unfold folderF YtdacflloaehjeaaGreatDoorT.Fold
  rw [Bool.or_eq_true,decide_eq_true_eq]
  refine or_congr Iff.rfl ?_
  cases g p with
  | none=>simp
  | some n =>
    show decide (n.kind=1)=true↔∃ m,some n=some m∧Y.dir m=true
    constructor
    · intro h;exact ⟨n,rfl,h⟩
    · rintro ⟨m,hm,h⟩;cases hm;exact h
theorem putF_eq (g:Str→Option Nd) (c:Ch Str Nd):YtdacflloaehjeaaGreatDoorT.putF PS Y.dir c.path c.node g=putF g c:=by
  funext q
  unfold putF YtdacflloaehjeaaGreatDoorT.putF clearF
  have hd:Y.dir c.node=decide (c.node.kind=1):=rfl
  by_cases hq:q=c.path
  · rw [if_pos hq,if_pos hq]
  · rw [if_neg hq,if_neg hq]
    have hc:(Y.dir c.node=false∨¬ YtdacflloaehjeaaGreatDoorT.Fold PS Y.dir g c.path)↔(!decide (c.node.kind=1) || !folderF g c.path)=true:=by
      rw [← folderF_iff,hd]
      cases decide (c.node.kind=1) <;> cases folderF g c.path <;> simp
    by_cases h1:(!decide (c.node.kind=1) || !folderF g c.path)=true
    · rw [if_pos h1]
      by_cases h2:underM c.path q=true
      · rw [if_pos ⟨h2,hc.2 h1⟩,if_pos h2]
      · rw [if_neg (fun h=>h2 h.1),if_neg h2]
    · rw [if_neg h1,if_neg (fun h=>h1 (hc.1 h.2))]
theorem putF_V {g:Str→Option Nd} (hg:∀ x,(g x).isSome=true→PS.V x) {c:Ch Str Nd} (hv:PS.V c.path):∀ x,(putF g c x).isSome=true→PS.V x:=by
  intro x hx
  unfold putF at hx
  split at hx
  · rename_i h;rw [h];exact hv
  · split at hx
    · unfold clearF at hx
      split at hx
      · cases hx
      · exact hg x hx
    · exact hg x hx
theorem nd_size {w:World} {b n:Nat} {D:DataW Nd} {f:Str→Option Nd} (hown:w.ownsMap Tryz.prog 9 Rn b n D) (hat:∀ (key:Str) (z:DataW Nd),D.atKey (.string key) z=(match f key with|some v=>.held v|none=>z))
    (ks:List Str) (hnd:ks.Nodup) (hm:∀ x,x ∈ ks↔(f x).isSome=true):ks.length=Maps.size D:=by
  obtain ⟨es,rfl,hap,_⟩:=hown.entries strLaw
  have hks:∀ p ∈ es,∃ x,p.1=.string x:=by
    obtain ⟨es',e,h⟩:=hown.keysOf
    cases e
    intro p hp
    obtain ⟨v,hv⟩:=h p hp
    obtain ⟨x,_,h2,_⟩:=Maps.keyOf_str Tryz.underlying9 hv
    exact ⟨x,h2⟩
  have hp:ks.Perm (strKeys (.map es)):=(List.perm_ext_iff_of_nodup hnd (nodup_strKeys hap hks)).2 fun x=>by rw [hm,mem_strKeys hks,NdMap.has hat]
  rw [hp.length_eq]
  show (es.map _).length=es.length
  rw [List.length_map]
theorem keys_nodup {t:List (Str×Nd)} (h:Srt PS t):(t.map (·.1)).Nodup:=by
  refine List.pairwise_map.2 (h.s.imp fun {a b} hl e=>?_)
  have hl:cmpM a.1 b.1<0:=hl
  rw [e,YtdacflloaehjeaaGreatDoorT.cmpM_refl] at hl;omega
theorem keys_mem {t:List (Str×Nd)} (h:Srt PS t) {g:Str→Option Nd} (hq:∀ q,PS.V q→g q=getL t q) (hv:∀ x,(g x).isSome=true→PS.V x) (x:Str):x ∈ t.map (·.1)↔(g x).isSome=true:=by
  rw [List.mem_map]
  constructor
  · rintro ⟨⟨p,n⟩,hm,rfl⟩
    rw [hq _ (h.v _ hm),h.get hm];rfl
  · intro hx
    have:=hv x hx
    rw [hq x this] at hx
    obtain ⟨n,hn⟩:=Option.isSome_iff_exists.1 hx
    exact ⟨(x,n),YtdacflloaehjeaaGreatDoorT.getL_mem hn,rfl⟩
theorem getL_keys (g:Str→Option Nd) (ks:List Str) (hm:∀ x,x ∈ ks↔(g x).isSome=true) (q:Str):getL (ks.map fun k=>(k,(g k).getD zeroN)) q=g q:=by
  have h : ∀ ks:List Str,getL (ks.map fun k=>(k,(g k).getD zeroN)) q=if q ∈ ks then some ((g q).getD zeroN) else none:=by
    intro ks
    induction ks with
    | nil=>rfl
    | cons k r ih =>
      show (if k=q then some ((g k).getD zeroN) else getL (r.map _) q)=_
      rw [ih]
      by_cases e:k=q
      · subst e;simp
      · have:¬ q=k:=fun h=>e h.symm
        simp [e,this]
  rw [h]
  cases hg:g q with
  | none=>rw [if_neg];rw [hm,hg];simp
  | some n=>rw [if_pos ((hm q).2 (by rw [hg];rfl))];rfl
theorem isM_short {x:Str} (h:PS.V x):x.length≤1000000:=by
  have hi:=YtdacflloaehjeaaGreatDoorT.isM_iff.1 (show isM x=true from h)
  have:=hi.all
  revert this
  split <;> omega
theorem info_en:(Tryz.prog.info? 39).map (fun i=>(i.zero,i.size,i.bytes))=some (some (.agg enZero),11,120):=by kernel_rfl
def chZero:Array Value:=#[.string (⟨#[]⟩:ByteArray),.int .i64 0,.int .i64 0,.int .i64 0,.int .i64 0,.int .i64 0,.int .i64 0,.string (⟨#[]⟩:ByteArray),.string (⟨#[]⟩:ByteArray),.int .i64 0,.int .i64 0,.string (⟨#[]⟩:ByteArray)]
set_option maxRecDepth 100000 in
set_option maxHeartbeats 4000000 in
theorem tapply_calls (w : World) (hG:GL w) (A:Option Addr) (c:Nat) (l:List S39) (hr:Kd.C k39 w A l.length l) (hc:l.length≤c) (hfit:rowFits (l.map enOf)=true) (hl:l.length≤1000000)
    (A2:Option Addr) (c2:Nat) (ls:List S59) (hr2:Kd.C k59 w A2 ls.length ls) (hc2:ls.length≤c2) (hfit2:lyrFits (ls.map chOf)=true) (hl2:ls.length≤1000000) :
    Calls Tryz.prog 31 #[.slice A l.length c,.slice A2 ls.length c2] w fun e w'=>∃ v:Value,e=.returned (.tuple #[v,.int .i64 (applyM Y (l.map enOf) (ls.map chOf)).2]) ∧
      Owr eCells 39 11 w.heap.size w' v (applyM Y (l.map enOf) (ls.map chOf)).1∧Below w.heap.size w w':=by
  have HR:=Lib.hid hr
  have HF:=Lib.hid hfit
  have HL:=Lib.hid hl
  have HR2:=Lib.hid hr2
  have HF2:=Lib.hid hfit2
  have HL2:=Lib.hid hl2
  have HCC:=Lib.hid hc
  have HCC2:=Lib.hid hc2
  clear hr hfit hl hr2 hfit2 hl2 hc hc2
  have hmm:=@run_makeMap Tryz.prog
  obtain ⟨res,hres⟩:∃ res,res=applyM Y (l.map enOf) (ls.map chOf):=⟨_,rfl⟩
  have HRES:=Lib.hid hres
  rw [← hres]
  clear hres
  go_enter Tryz.func31,Tryz.ntmps31
  go_wp2_with fail
  refine (tright_calls w hG A c l HR.out HCC.out HF.out HL.out).mono ?_
  rintro e w1 ⟨rfl,hb1⟩
  have HB1:=Lib.hid hb1
  clear hb1
  cases ht:rightT Y (l.map enOf) with
  | false =>
    have HE:Hid (res=([],1)):=Lib.hid (by rw [HRES.out];unfold applyM;rw [ht];rfl)
    go_wp2_with fail
    all_goals
      go_ret2
      exact ⟨_,by rw [HE.out];rfl,by rw [HE.out];exact Owr.nil _ _ _ _ _,HB1.out⟩
  | true =>
    go_wp2_with fail
    refine (cright_calls w1 (hG.ext HB1.out) A2 c2 ls (Kd.C_below HR2.out HB1.out) HCC2.out HF2.out HL2.out).mono ?_
    rintro e w2 ⟨rfl,hb2⟩
    have HB2:=Lib.hid (Go.Proofs.YtdacflloaehjeaaGreatDoor.below_then HB1.out hb2)
    clear hb2
    cases hcr:rightC Y (ls.map chOf) with
    | false =>
      have HE:Hid (res=([],1)):=Lib.hid (by rw [HRES.out];unfold applyM;rw [ht,hcr];rfl)
      go_wp2_with fail
      all_goals
        go_ret2
        exact ⟨_,by rw [HE.out];rfl,by rw [HE.out];exact Owr.nil _ _ _ _ _,HB2.out⟩
    | true =>
      have HT:=Lib.hid ((YtdacflloaehjeaaGreatDoorT.rightT_iff Y).1 ht)
      have HCR:=Lib.hid ((YtdacflloaehjeaaGreatDoorT.rightC_iff Y).1 hcr)
      have HE:Hid (res=(match applyL PS Y.dir lessM (l.map enOf) (ls.map chOf) with|none=>([],10)|some t'=>if t'.length≤5000 then (t',0) else ([],2))):=Lib.hid (by
        rw [HRES.out];unfold applyM;rw [ht,hcr];simp only [Bool.and_self,if_true];cases applyL PS Y.dir lessM (l.map enOf) (ls.map chOf) <;> rfl)
      clear ht hcr
      have HM2:Hid (NdMap (w2.alloc (.map #[] 0)) w2.heap.size 0 (fun _=>none)):=Lib.hid (NdMap.made w2)
      have HB3:Hid (Below w.heap.size w (w2.alloc (.map #[] 0))):=Lib.hid (HB2.out.alloc HB2.out.size _)
      obtain ⟨bm,hbm⟩:∃ bm,bm=w2.heap.size:=⟨_,rfl⟩
      have HBM:Hid (w.heap.size≤bm):=Lib.hid (by rw [hbm];exact HB2.out.size)
      rw [← hbm] at HM2
      go_wp2
      rw [← hbm]
      clear hbm
      generalize w2.alloc (.map #[] 0)=w3 at HM2 HB3 ⊢
      clear hmm
      have HD:Hid ((l.map enOf).Pairwise fun a b=>a.1≠b.1):=Lib.hid (HT.out.srt.s.imp fun {a b} h e=>by
        have h:cmpM a.1 b.1<0:=h
        rw [e,YtdacflloaehjeaaGreatDoorT.cmpM_refl] at h;omega)
      have h49:=Tryz.underlying39
      have h31:=Tryz.underlying35
      have h33:=Tryz.underlying59
      go_loopg [27] (l.length + 1) (fun g v wr=>∃ i:Nat,v=.int .i64 i∧l.length<g + i∧Hid (i≤l.length)∧Hid (NdMap wr bm i (getL ((l.map enOf).take i)))∧Hid (Below w.heap.size w wr))
      case atStart=>exact ⟨0,rfl,by omega,Lib.hid (by omega),Lib.hid (by rw [List.take_zero];exact HM2.out),HB3⟩
      case round =>
        obtain ⟨i,rfl,hgi,HI,HM,HB⟩:=hrel
        by_cases hi:i<l.length
        · cases gk with
          | zero=>omega
          | succ g1 =>
            obtain ⟨ad,rfl,hat⟩:=e_at HR.out i hi
            have HAT:=Lib.hid (hat.below HB.out)
            clear hat
            have HEF:=Lib.hid (fits_get HF.out (List.mem_map_of_mem (f:=enOf) (List.getElem_mem hi)))
            have hst:=getL_step HD.out i (by simpa using hi)
            rw [List.getElem_map] at hst
            obtain ⟨e,hee⟩:∃ e,e=enOf l[i]:=⟨_,rfl⟩
            rw [← hee] at HAT HEF hst
            have HST:=Lib.hid hst
            clear hst hee
            have HLL:=HL.out
            go_wp2_with (first|((with_reducible refine gate_dst (N:=30) rfl ?_);refine wpList_load_agg rfl 39 _ rfl _ rfl (eCells e) _ HAT.out h49 rfl rfl ?_)|((with_reducible refine gate_dst (N:=8) rfl ?_);refine box_event rfl (N:=8) rfl (cs:=enZero) (t:=39) ?hr ?_;(case hr=>first|(go_simp;done)|(go_simp;rfl));intro g hg w4 hb2 hbl2;have HGE:Hid (w.heap.size≤g):=Lib.hid (by rw [hg];exact HB.out.size);have HGW:Hid (wr.heap.size≤g):=Lib.hid (by rw [hg];exact Nat.le_refl _);have HB4:=Lib.hid hb2;have HBL4:=Lib.hid hbl2;clear hg hb2 hbl2)|((with_reducible refine gate_store (t:=39) (p:=8) rfl ?_);refine wpList_store_agg rfl rfl 39 _ _ rfl g (eCells e).toArray rfl rfl 39 enZero HB4.out rfl rfl (eCells_all _) ?_;intro w5 hb3 hg3;have q0:=(lies_of hb3) 0 _ rfl;simp only [Addr.add_mid,Nat.zero_add] at q0;have HN5:Hid (LiesAt w5 ⟨g,1,none⟩ (ndCells e.2)):=Lib.hid (fun j v hv=>(by have:=(lies_of hb3) (1 + j) v (by rw [Nat.add_comm];exact hv);rw [Addr.add_mid,Nat.zero_add] at this;rw [Addr.add_mid];exact this));have HBW5:Hid (Below wr.heap.size wr w5):=Lib.hid (HBL4.out.grown hg3 HBL4.out.size (fun j hj=>by cases hj;exact HGW.out));have HB5:Hid (Below w.heap.size w w5):=Lib.hid (Go.Proofs.YtdacflloaehjeaaGreatDoor.below_then HB.out HBW5.out);clear hb3 hg3)|((with_reducible refine gate_dst (N:=35) rfl ?_);refine wpList_load_agg rfl 35 _ rfl _ rfl (ndCells e.2) _ HN5.out h31 rfl rfl ?_)|(at_mapUpdate;refine wpList_nd_up rfl rfl _ _ _ rfl bm i _ rfl (HM.out.ext HBW5.out) (by have:=HL.out;omega) e.1 e.2 rfl rfl (by have:=HEF.out.1;omega) _ HST.out ?_;intro w6 hm6 hg6;have HM6:=Lib.hid hm6;have HB6:Hid (Below w.heap.size w w6):=Lib.hid (HB5.out.grown hg6 HB5.out.size (fun j hj=>by cases hj;exact HBM.out));clear hm6 hg6 q0))
            have HII:Hid (i + 1≤l.length):=Lib.hid hi
            go_roundg g1
            case measure=>omega
            case rel=>exact ⟨i + 1,by go_num,by omega,HII,HM6,HB6⟩
        · have he : i = l.length:=by have:=HI.out;omega
          subst he
          have HMM:Hid (NdMap wr bm l.length (getL (l.map enOf))):=Lib.hid (by have:=HM.out;rwa [List.take_of_length_le (by simp)] at this)
          clear HM HB3 HM2 HI hgi hi
          go_wp2_with fail
          obtain ⟨f0,hf0⟩:∃ f0,f0=getL (l.map enOf):=⟨_,rfl⟩
          rw [← hf0] at HMM
          have HF0:=Lib.hid hf0
          clear hf0
          have HLN:=HL.out
          go_loopg [39] (ls.length + 1) (fun g v wr=>∃ i:Nat,v=.int .i64 i∧ls.length<g + i∧Hid (i≤ls.length)∧Hid (NdMap wr bm l.length (((ls.map chOf).take i).foldl takeF f0))∧Hid (Below w.heap.size w wr))
          case atStart=>exact ⟨0,rfl,by omega,Lib.hid (by omega),Lib.hid (by rw [List.take_zero];exact HMM.out),HB⟩
          case round =>
            obtain ⟨i,rfl,hgi,HI,HM,HB⟩:=hrel
            by_cases hi:i<ls.length
            · cases gk with
              | zero=>omega
              | succ g1 =>
                obtain ⟨ad,rfl,hat⟩:=c_at HR2.out i hi
                have HAT:=Lib.hid (hat.below HB.out)
                clear hat
                have HEF:=Lib.hid (lyr_get HF2.out (List.mem_map_of_mem (f:=chOf) (List.getElem_mem hi)))
                have hst:((ls.map chOf).take (i + 1)).foldl takeF f0=takeF (((ls.map chOf).take i).foldl takeF f0) (chOf ls[i]):=by
                  rw [List.take_succ_eq_append_getElem (by simpa using hi),List.foldl_append,List.getElem_map];rfl
                obtain ⟨e,hee⟩:∃ e,e=chOf ls[i]:=⟨_,rfl⟩
                rw [← hee] at HAT HEF hst
                have HST:=Lib.hid hst
                clear hst hee
                have HLL:=HL2.out
                go_wp2_with (first|((with_reducible refine gate_dst (N:=42) rfl ?_);refine wpList_load_agg rfl 59 _ rfl _ rfl (chCells e) _ HAT.out h33 rfl rfl ?_)|((with_reducible refine gate_dst (N:=10) rfl ?_);refine box_event rfl (N:=10) rfl (cs:=chZero) (t:=59) ?hr ?_;(case hr=>first|(go_simp;done)|(go_simp;rfl));intro g hg w4 hb2 hbl2;have HGE:Hid (w.heap.size≤g):=Lib.hid (by rw [hg];exact HB.out.size);have HGW:Hid (wr.heap.size≤g):=Lib.hid (by rw [hg];exact Nat.le_refl _);have HB4:=Lib.hid hb2;have HBL4:=Lib.hid hbl2;clear hg hb2 hbl2)|((with_reducible refine gate_store (t:=59) (p:=10) rfl ?_);refine wpList_store_agg rfl rfl 59 _ _ rfl g (chCells e).toArray rfl rfl 59 chZero HB4.out rfl rfl (chCells_all _) ?_;intro w5 hb3 hg3;have HB6:=Lib.hid hb3;have q1:=(lies_of hb3) 1 _ rfl;simp only [Addr.add_mid,Nat.zero_add] at q1;have HBW5:Hid (Below wr.heap.size wr w5):=Lib.hid (HBL4.out.grown hg3 HBL4.out.size (fun j hj=>by cases hj;exact HGW.out));have HB5:Hid (Below w.heap.size w w5):=Lib.hid (Go.Proofs.YtdacflloaehjeaaGreatDoor.below_then HB.out HBW5.out);clear hb3 hg3)|((with_reducible refine gate_dst (N:=44) rfl ?_);refine wpList_load_agg rfl 59 _ rfl _ rfl (chCells e) _ (lies_of HB6.out) h33 rfl rfl ?_))
                refine (take_calls w5 bm l.length _ (HM.out.ext HBW5.out) e (by have:=HEF.out.1;omega)).mono ?_
                rintro x w6 ⟨rfl,hm6,hg6⟩
                have HM6:Hid (NdMap w6 bm l.length (((ls.map chOf).take (i + 1)).foldl takeF f0)):=Lib.hid (by rw [HST.out];exact hm6)
                have HB7:Hid (Below w.heap.size w w6):=Lib.hid (HB5.out.grown hg6 HB5.out.size (fun j hj=>by cases hj;exact HBM.out))
                clear hm6 hg6
                have HII:Hid (i + 1≤ls.length):=Lib.hid hi
                go_wp2_with fail
                go_roundg g1
                case measure=>omega
                case rel=>exact ⟨i + 1,by go_num,by omega,HII,HM6,HB7⟩
            · have he : i = ls.length:=by have:=HI.out;omega
              subst he
              have HMT:Hid (NdMap wr bm l.length ((ls.map chOf).foldl takeF f0)):=Lib.hid (by have:=HM.out;rwa [List.take_of_length_le (by simp)] at this)
              clear HM HMM HI hgi hi
              go_wp2_with fail
              obtain ⟨G0,hg0⟩:∃ G0,G0=(ls.map chOf).foldl takeF f0:=⟨_,rfl⟩
              rw [← hg0] at HMT
              have HG0:Hid (∀ q,PS.V q→G0 q=if tkL PS (ls.map chOf) q=true then none else getL (l.map enOf) q):=Lib.hid (fun q _=>by rw [hg0,foldl_take,HF0.out])
              have HGV:Hid (∀ x,(G0 x).isSome=true→PS.V x):=Lib.hid (fun x hx=>by
                rw [hg0,foldl_take,HF0.out] at hx
                split at hx
                · cases hx
                · obtain ⟨n,hn⟩:=Option.isSome_iff_exists.1 hx
                  exact HT.out.srt.v _ (YtdacflloaehjeaaGreatDoorT.getL_mem hn))
              have HUN:=fun {o} hp=>YtdacflloaehjeaaGreatDoorT.applyL_unique (dir:=Y.dir) YtdacflloaehjeaaGreatDoorT.lessM_iff HCR.out.layR HT.out.srt HT.out.wf HG0.out (o:=o) hp
              have HUN:=Lib.hid (fun o=>HUN (o:=o))
              clear hg0
              have HLM:=HL2.out
              go_loopg [49] (ls.length + 1) (fun gg v wr=>∃ (i:Nat) (g:Str→Option Nd),v=.int .i64 i∧ls.length<gg + i∧Hid (i≤ls.length)∧Hid (NdMap wr bm (l.length + i) g) ∧
                Hid (∀ o,Puts PS Y.dir (puts ((ls.map chOf).drop i)) g o→Puts PS Y.dir (puts (ls.map chOf)) G0 o)∧Hid (∀ x,(g x).isSome=true→PS.V x)∧Hid (Below w.heap.size w wr))
              case atStart=>exact ⟨0,G0,rfl,by omega,Lib.hid (by omega),HMT,Lib.hid (fun o h=>h),HGV,HB⟩
              case round =>
                obtain ⟨i,gf,rfl,hgi,HI,HM,HPT,HV,HB⟩:=hrel
                by_cases hi:i<ls.length
                · cases gk with
                  | zero=>omega
                  | succ g1 =>
                    obtain ⟨ad,rfl,hat⟩:=c_at HR2.out i hi
                    have HAT:=Lib.hid (hat.below HB.out)
                    clear hat
                    have HEF:=Lib.hid (lyr_get HF2.out (List.mem_map_of_mem (f:=chOf) (List.getElem_mem hi)))
                    have hdr:(ls.map chOf).drop i=chOf ls[i] :: (ls.map chOf).drop (i + 1):=by rw [List.drop_eq_getElem_cons (by simpa using hi)];simp
                    have hmem:chOf ls[i] ∈ ls.map chOf:=List.mem_map_of_mem (f:=chOf) (List.getElem_mem hi)
                    obtain ⟨e,hee⟩:∃ e,e=chOf ls[i]:=⟨_,rfl⟩
                    rw [← hee] at HAT HEF hdr hmem
                    have HDR:=Lib.hid hdr
                    have HMEM:=Lib.hid hmem
                    clear hdr hee hmem
                    have HLL:=HL2.out
                    have HII:Hid (i + 1≤ls.length):=Lib.hid hi
                    cases hop:(e.op == 0) with
                    | false =>
                      have hop1:¬ e.op=0:=by simpa using hop
                      have HPT2:Hid (∀ o,Puts PS Y.dir (puts ((ls.map chOf).drop (i + 1))) gf o→Puts PS Y.dir (puts (ls.map chOf)) G0 o):=Lib.hid (fun o h=>HPT.out o (by rw [HDR.out];unfold puts;rw [if_neg hop1];exact h))
                      go_wp2_with (first|((with_reducible refine gate_dst (N:=52) rfl ?_);refine wpList_load_agg rfl 59 _ rfl _ rfl (chCells e) _ HAT.out h33 rfl rfl ?_)|((with_reducible refine gate_dst (N:=12) rfl ?_);refine box_event rfl (N:=12) rfl (cs:=chZero) (t:=59) ?hr ?_;(case hr=>first|(go_simp;done)|(go_simp;rfl));intro g hg w4 hb2 hbl2;have HGE:Hid (w.heap.size≤g):=Lib.hid (by rw [hg];exact HB.out.size);have HGW:Hid (wr.heap.size≤g):=Lib.hid (by rw [hg];exact Nat.le_refl _);have HB4:=Lib.hid hb2;have HBL4:=Lib.hid hbl2;clear hg hb2 hbl2)|((with_reducible refine gate_store (t:=59) (p:=12) rfl ?_);refine wpList_store_agg rfl rfl 59 _ _ rfl g (chCells e).toArray rfl rfl 59 chZero HB4.out rfl rfl (chCells_all _) ?_;intro w5 hb3 hg3;have HB6:=Lib.hid hb3;have q1:=(lies_of hb3) 1 _ rfl;simp only [Addr.add_mid,Nat.zero_add] at q1;have HBW5:Hid (Below wr.heap.size wr w5):=Lib.hid (HBL4.out.grown hg3 HBL4.out.size (fun j hj=>by cases hj;exact HGW.out));have HB5:Hid (Below w.heap.size w w5):=Lib.hid (Go.Proofs.YtdacflloaehjeaaGreatDoor.below_then HB.out HBW5.out);clear hb3 hg3)|((with_reducible refine gate_dst (N:=58) rfl ?_);refine wpList_load_agg rfl 59 _ rfl _ rfl (chCells e) _ (lies_of HB6.out) h33 rfl rfl ?_))
                      go_roundg g1
                      case measure=>omega
                      case rel=>exact ⟨i + 1,gf,by go_num,by omega,HII,Lib.hid ((HM.out.ext HBW5.out).mono (by omega)),HPT2,HV,HB5⟩
                    | true =>
                      have hop1:e.op=0:=by simpa using hop
                      go_wp2_with (first|((with_reducible refine gate_dst (N:=52) rfl ?_);refine wpList_load_agg rfl 59 _ rfl _ rfl (chCells e) _ HAT.out h33 rfl rfl ?_)|((with_reducible refine gate_dst (N:=12) rfl ?_);refine box_event rfl (N:=12) rfl (cs:=chZero) (t:=59) ?hr ?_;(case hr=>first|(go_simp;done)|(go_simp;rfl));intro g hg w4 hb2 hbl2;have HGE:Hid (w.heap.size≤g):=Lib.hid (by rw [hg];exact HB.out.size);have HGW:Hid (wr.heap.size≤g):=Lib.hid (by rw [hg];exact Nat.le_refl _);have HB4:=Lib.hid hb2;have HBL4:=Lib.hid hbl2;clear hg hb2 hbl2)|((with_reducible refine gate_store (t:=59) (p:=12) rfl ?_);refine wpList_store_agg rfl rfl 59 _ _ rfl g (chCells e).toArray rfl rfl 59 chZero HB4.out rfl rfl (chCells_all _) ?_;intro w5 hb3 hg3;have HB6:=Lib.hid hb3;have q1:=(lies_of hb3) 1 _ rfl;simp only [Addr.add_mid,Nat.zero_add] at q1;have HBW5:Hid (Below wr.heap.size wr w5):=Lib.hid (HBL4.out.grown hg3 HBL4.out.size (fun j hj=>by cases hj;exact HGW.out));have HB5:Hid (Below w.heap.size w w5):=Lib.hid (Go.Proofs.YtdacflloaehjeaaGreatDoor.below_then HB.out HBW5.out);clear hb3 hg3)|((with_reducible refine gate_dst (N:=58) rfl ?_);refine wpList_load_agg rfl 59 _ rfl _ rfl (chCells e) _ (lies_of HB6.out) h33 rfl rfl ?_))
                      refine (put_calls w5 bm (l.length + i) gf (HM.out.ext HBW5.out) (by have:=HL.out;omega) e (by have:=HEF.out.1;omega)).mono ?_
                      rintro x w6 ⟨rfl,hm6,hg6⟩
                      have HB7:Hid (Below w.heap.size w w6):=Lib.hid (HB5.out.grown hg6 HB5.out.size (fun j hj=>by cases hj;exact HBM.out))
                      cases hfo:folderF gf (parM e.path) with
                      | false =>
                        have hp:=HPT.out none (by rw [HDR.out];unfold puts;rw [if_pos hop1];exact Puts.no (fun h=>by have:=(folderF_iff gf _).2 h;rw [show PS.par e.path=parM e.path from rfl,hfo] at this;cases this))
                        have HE2:Hid (res=([],10)):=Lib.hid (by
                          rcases HUN.out none hp with ⟨_,ha⟩|⟨_,_,h,_⟩
                          · rw [HE.out,ha]
                          · cases h)
                        clear hm6 hg6 hp
                        go_wp2_with fail
                        all_goals
                          go_ret2
                          exact ⟨_,by rw [HE2.out];rfl,by rw [HE2.out];exact Owr.nil _ _ _ _ _,HB7.out⟩
                      | true =>
                        have HM6:Hid (NdMap w6 bm (l.length + (i + 1)) (putF gf e)):=Lib.hid (by rw [hfo,if_pos rfl] at hm6;exact hm6)
                        have HPT2:Hid (∀ o,Puts PS Y.dir (puts ((ls.map chOf).drop (i + 1))) (putF gf e) o→Puts PS Y.dir (puts (ls.map chOf)) G0 o):=Lib.hid (fun o h=>HPT.out o (by
                          rw [HDR.out];unfold puts;rw [if_pos hop1]
                          exact Puts.step ((folderF_iff gf _).1 hfo) (by rw [putF_eq];exact h)))
                        have HV2:=Lib.hid (putF_V HV.out (HCR.out.layR.put e HMEM.out hop1).1)
                        clear hm6 hg6
                        go_wp2_with fail
                        go_roundg g1
                        case measure=>omega
                        case rel=>exact ⟨i + 1,putF gf e,by go_num,by omega,HII,HM6,HPT2,HV2,HB7⟩
                · have he : i=ls.length:=by have:=HI.out;omega
                  subst he
                  have hp:=HPT.out (some gf) (by rw [List.drop_eq_nil_of_le (by simp)];exact Puts.nil gf)
                  obtain ⟨t',HAP,HSR,HQ,HUQ⟩:∃ t',Hid (applyL PS Y.dir lessM (l.map enOf) (ls.map chOf)=some t')∧Hid (Srt PS t')∧Hid (∀ q,PS.V q→gf q=getL t' q)∧Hid (∀ out,Srt PS out→(∀ q,PS.V q→getL out q=gf q)→out=t'):=by
                    rcases HUN.out _ hp with ⟨h,_⟩|⟨g',t',hg',h1,h2,h3,h4⟩
                    · cases h
                    · cases hg';exact ⟨t',h1,h2,h3,h4⟩
                  have HE2:Hid (res=if t'.length≤5000 then (t',0) else ([],2)):=Lib.hid (by rw [HE.out,HAP.out])
                  clear hp HPT HUN HG0
                  obtain ⟨D,hown,hat⟩:=HM.out
                  have hsz:=nd_size hown hat (t'.map (·.1)) (keys_nodup HSR.out) (fun x=>keys_mem HSR.out HQ.out HV.out x)
                  rw [List.length_map] at hsz
                  have HOWN:=Lib.hid hown
                  clear hown hat
                  by_cases h5:t'.length≤5000
                  · have hd5:(5000:Int)<(Maps.size D:Int)↔False:=by constructor <;> intro h <;> first|omega|cases h
                    have HE3:Hid (res=(t',0)):=Lib.hid (by rw [HE2.out,if_pos h5])
                    have hd6:decide ((5000:Int)<(Maps.size D:Int))=false:=by simp;omega
                    go_wp2_with (first|(at_len;refine wpList_len_own _ rfl _ 76 rfl 9 35 Tryz.underlying76 Rn bm _ D rfl HOWN.out ?_))
                    refine (keys_fn_calls wr bm).mono ?_
                    rintro x w4 ⟨rfl,hw4⟩
                    have HB4:Hid (Below wr.heap.size wr w4):=Lib.hid (by rw [hw4];exact Go.Proofs.YtdacflloaehjeaaGreatDoor.below_new _ _)
                    have HC4:Hid (w4.cell? ⟨wr.heap.size,0,none⟩=some (.map (some bm))):=Lib.hid (by rw [hw4];exact Go.Proofs.YtdacflloaehjeaaGreatDoor.cell_new _ _ _ _ rfl)
                    have HBW4:Hid (Below w.heap.size w w4):=Lib.hid (Go.Proofs.YtdacflloaehjeaaGreatDoor.below_then HB.out HB4.out)
                    clear hw4
                    go_wp2_with fail
                    refine (sorted_calls w4 (hG.ext HBW4.out) bm _ gf (HM.out.ext HB4.out) (by have:=HL.out;have:=HL2.out;omega) (fun x hx=>isM_short (HV.out x hx)) wr.heap.size HC4.out).mono ?_
                    rintro x w5 ⟨v,ks,rfl,htx,hmem,hpw,hlen,hb5⟩
                    have HTX:=Lib.hid htx
                    have HMEM:=Lib.hid hmem
                    have HPW:=Lib.hid hpw
                    have HLEN:=Lib.hid hlen
                    have HB5:Hid (Below w.heap.size w w5):=Lib.hid (Go.Proofs.YtdacflloaehjeaaGreatDoor.below_then HBW4.out hb5)
                    have HM5:Hid (NdMap w5 bm (l.length + ls.length) gf):=Lib.hid ((HM.out.ext HB4.out).ext hb5)
                    clear htx hmem hpw hlen hb5 hd5 hd6
                    obtain ⟨A9,c9,rfl,hcell⟩:=HTX.out
                    have HCELL:=Lib.hid hcell
                    clear hcell HTX
                    obtain ⟨outs,houts⟩:∃ outs:List (Str×Nd),outs=ks.map fun k=>(k,(gf k).getD zeroN):=⟨_,rfl⟩
                    have HOUT:Hid (outs=t'):=Lib.hid (by
                      refine HUQ.out outs ⟨?_,?_⟩ ?_
                      · intro x hx
                        rw [houts,List.mem_map] at hx
                        obtain ⟨k,hk,rfl⟩:=hx
                        exact HV.out k ((HMEM.out k).1 hk)
                      · rw [houts];exact List.pairwise_map.2 HPW.out
                      · intro q _
                        rw [houts]
                        exact getL_keys gf ks HMEM.out q)
                    have HOL:Hid (outs.length=ks.length):=Lib.hid (by rw [houts];simp)
                    have HOG:Hid (∀ i (h:i<ks.length),outs.take (i + 1)=outs.take i ++ [(ks[i],(gf ks[i]).getD zeroN)]):=Lib.hid (fun i h=>by
                      rw [List.take_succ_eq_append_getElem (by rw [houts];simpa using h)]
                      simp [houts])
                    clear houts
                    have HKL:Hid (ks.length≤2000000):=Lib.hid (by have:=HLEN.out;have:=HL.out;have:=HL2.out;omega)
                    go_wp2_with fail
                    obtain ⟨i0,hi,hz0,hz1,hz2⟩:=info_parts info_en
                    have HI0:=Lib.hid hi
                    have HZ0:=Lib.hid hz0
                    have HZ1:=Lib.hid hz1
                    have HZ2:=Lib.hid hz2
                    clear hi hz0 hz1 hz2
                    have hkl:=HKL.out
                    go_loopg [13,70] (ks.length + 1) (fun gg v13 v70 wr=>∃ i:Nat,v70=.int .i64 i∧ks.length<gg + i∧Hid (i≤ks.length)∧Hid (Owr eCells 39 11 w5.heap.size wr v13 (outs.take i))∧Hid (Below w5.heap.size w5 wr))
                    case atStart=>exact ⟨0,rfl,by omega,Lib.hid (by omega),Lib.hid (by rw [List.take_zero];exact Owr.nil _ _ _ _ _),Lib.hid (Below.refl _ _)⟩
                    case round =>
                      obtain ⟨i,rfl,hgi,HI,HO,HBr⟩:=hrel
                      by_cases hi:i<ks.length
                      · cases gk with
                        | zero=>omega
                        | succ g1 =>
                          obtain ⟨gb,rfl,hkc⟩:=HCELL.out i hi
                          have hkc':=pw_cell_below HBr.out hkc
                          have hmk:(gf ks[i]).isSome=true:=(HMEM.out _).1 (List.getElem_mem hi)
                          have hks:=isM_short (HV.out _ hmk)
                          have hlk:=(HM5.out.ext HBr.out).look (s:=ks[i]) (by omega)
                          have hog:=HOG.out i hi
                          generalize ks[i]=k at hkc' hks hlk hog
                          generalize (gf k).getD zeroN=m at hlk hog
                          clear hkc hmk
                          have HOGI:=Lib.hid hog
                          clear hog
                          simp only [ndVal,ndCells] at hlk
                          have hil:(outs.take i).length≤2000000:=by rw [List.length_take];omega
                          have HIL:=Lib.hid hil
                          clear hil
                          go_wp2_with (at_builtin;refine wpList_append_one rfl _ _ 22 rfl w5.heap.size 39 11 120 i0 (.agg enZero) Tryz.underlying22 HI0.out HZ0.out HZ1.out HZ2.out rfl (by decide) eCells_len eCells_one _ (outs.take i) rfl (HO.out.alloc _) (k,m) _ 1 rfl ?c1 ?c2 ?c3 ?c4 ?_)
                          case c1=>intro j u hu;exact Go.Proofs.YtdacflloaehjeaaGreatDoor.cell_new_at (cs:=eCells (k,m)) rfl hu
                          case c2=>have:=HIL.out;unfold maxLen;omega
                          case c3=>have:=HIL.out;omega
                          case c4=>have:=HBr.out.size;simp;omega
                          intro v' w7 ho' hg'
                          have HO7:Hid (Owr eCells 39 11 w5.heap.size w7 v' (outs.take (i + 1))):=Lib.hid (by rw [HOGI.out];exact ho')
                          have HB7:Hid (Below w5.heap.size w5 w7):=Lib.hid ((HBr.out.alloc HBr.out.size _).grown hg' (by have:=HBr.out.size;simp;omega) (fun j hj=>(World.ownsRow.lt HO.out j hj).1))
                          have HII:Hid (i + 1≤ks.length):=Lib.hid hi
                          clear ho' hg'
                          go_wp2_with fail
                          go_roundg g1
                          case measure=>omega
                          case rel=>exact ⟨i + 1,by go_num,by omega,HII,HO7,HB7⟩
                      · have he:i=ks.length:=by have:=HI.out;omega
                        subst he
                        go_wp2_with fail
                        go_ret2
                        refine ⟨_,by rw [HE3.out];rfl,?_,Go.Proofs.YtdacflloaehjeaaGreatDoor.below_then HB5.out HBr.out⟩
                        rw [HE3.out,← HOUT.out]
                        have:=HO.out
                        rw [List.take_of_length_le (by rw [HOL.out];exact Nat.le_refl _)] at this
                        exact own_weaken this HB5.out.size
                  · have HE3:Hid (res=([],2)):=Lib.hid (by rw [HE2.out,if_neg h5])
                    have hd6:decide ((5000:Int)<(Maps.size D:Int))=true:=by simp;omega
                    go_wp2_with (first|(at_len;refine wpList_len_own _ rfl _ 76 rfl 9 35 Tryz.underlying76 Rn bm _ D rfl HOWN.out ?_))
                    all_goals
                      go_ret2
                      exact ⟨_,by rw [HE3.out];rfl,by rw [HE3.out];exact Owr.nil _ _ _ _ _,HB.out⟩
end Go.Proofs.YtdacflloaehjeaaGreatDoorQ
end
section
namespace Go.Proofs.YtdacflloaehjeaaGreatDoorQ
open Go.RowKit Go.WideMaps Go.Maps Go.Proofs.YtdacflloaehjeaaGreatDoor Go.Proofs.YtdacflloaehjeaaGreatDoorW.PrintWords Go.Proofs.YtdacflloaehjeaaGreatDoorW.PrintLast Go.Proofs.YtdacflloaehjeaaGreatDoorW.PrintMore
open Go.Proofs.YtdacflloaehjeaaGreatDoorT (applyM)
theorem en_R {w:World} {base:Nat} {v:Value} {l:List (Str×Nd)} (h:Owr eCells 39 11 base w v l):Kd.R k39 39 w base (fun _=>True) v (l.map ofEn) :=
  R_of_own (d:=k39) (f:=enOf) (fun w base ok x=>by rw [← eCells_en];exact k39_mkM w base ok x) eCells_len (by rw [ens_back];exact h)
def lyrFits' (l:List S59):Prop:=lyrFits (l.map chOf)=true∧l.length≤1000000
instance (l:List S59):Decidable (lyrFits' l):=by unfold lyrFits';infer_instance
end Go.Proofs.YtdacflloaehjeaaGreatDoorQ
end
section
namespace Go.Proofs.YtdacflloaehjeaaGreatDoorQ
open Go.RowKit Go.Proofs.YtdacflloaehjeaaGreatDoor
open Go.Proofs.YtdacflloaehjeaaGreatDoorT (applyM rightT Ch)
def dN:Nd:={ zeroN with kind:=1 }
end Go.Proofs.YtdacflloaehjeaaGreatDoorQ
end
section
namespace Go.Proofs.YtdacflloaehjeaaGreatDoorQ
open Go.RowKit Go.WideMaps Go.Maps Go.Proofs.YtdacflloaehjeaaGreatDoor Go.Proofs.YtdacflloaehjeaaGreatDoorW.PrintWords Go.Proofs.YtdacflloaehjeaaGreatDoorW.PrintLast Go.Proofs.YtdacflloaehjeaaGreatDoorW.PrintMore
open Go.Proofs.YtdacflloaehjeaaGreatDoorT (applyM rightT Ch)
theorem en_C {w:World} {A:Option Addr} {xs:List S39} (h:RowAt eCells 11 w A (xs.map enOf)) (hn:xs.length≤9223372036854775807):Kd.C k39 w A xs.length xs :=
  C_of_row (d:=k39) (fun w x=>by rw [← eCells_en];exact k39_mk w x) h hn
theorem chCells_of (x:S59):chCells (chOf x)=[.string x.f0,.int .i64 x.f1,.int .i64 x.f2.f0,.int .i64 x.f2.f1,.int .i64 x.f2.f2,.int .i64 x.f2.f3,.int .i64 x.f2.f4,.string x.f2.f5,.string x.f2.f6,.int .i64 x.f2.f7,.int .i64 x.f2.f8,.string x.f2.f9]:=by
  obtain ⟨p,o,x⟩:=x
  obtain ⟨a1,a2,a3,a4,a5,a6,a7,a8,a9,a10⟩:=x
  simp [chCells,ndCells,chOf,ndOf,B_L]
theorem chCells_len (e:Ch Str Nd):(chCells e).length=12:=rfl
theorem ch_C {w:World} {A:Option Addr} {xs:List S59} (h:RowAt chCells 12 w A (xs.map chOf)) (hn:xs.length≤9223372036854775807):Kd.C k59 w A xs.length xs :=
  C_of_row (d:=k59) (fun w x=>by rw [chCells_of];exact k59_mk w x) h hn
theorem row_of_block {α:Type} {enc:α→List Value} {k:Nat} (hk:∀ x,(enc x).length=k) {w:World} {g:Nat} {T:TypeId} {l:List α} (hl:l.length≤maxLen) (h:w.heap[g]?=some (.cells (flat enc l).toArray T (0,0))):RowAt enc k w (some ⟨g,0,none⟩) l:=by
  have hf:(flat enc l).length=l.length * k:=flat_length hk l
  have:Owr enc T k 0 w (.slice (some ⟨g,0,none⟩) l.length l.length) l:=⟨hf,.inr ⟨g,l.length,_,rfl,Nat.zero_le _,h,Nat.le_refl _,hl,by simpa using hf,by rw [List.toList_toArray,← hf,List.take_length]⟩⟩
  exact this.row hk
section
variable {P:Program} {ops:Array Oper} {rest:List Oper} {o:Oper} {a:Act} {Q:Exit→Act→World→Prop} {W:World}
theorem row_event (hgd:o.guard=none) {N:Tmp} (_hd:o.dst=some N) {cs:Array Value} {t:TypeId} {n:Nat}
    (hrun:(execOp a.eval o).run P W=.ok (.value (.slice (some ⟨W.heap.size,0,none⟩) n n)) (W.alloc (.cells cs t (0,0))))
    (h:∀ g,g=W.heap.size→∀ w1,w1.heap[g]?=some (.cells cs t (0,0))→Below W.heap.size W w1→wpList P ops Q rest (a.put o.dst (.slice (some ⟨g,0,none⟩) n n)) w1):wpList P ops Q (o :: rest) a W :=
  Kd.event_run hgd hrun (h _ rfl _ (Go.Proofs.YtdacflloaehjeaaGreatDoorW.PrintWords.blk_new W _) (Go.Proofs.YtdacflloaehjeaaGreatDoorW.PrintWords.below_alloc (Below.refl _ _) _))
theorem build_event (hgd:o.guard=none) {N:Tmp} (_hd:o.dst=some N) (t:TypeId) (parts:Array (Nat×Operand)) (ho:o.op=.build t parts) (cs:Array Value) (hb:P.built t (parts.map fun (i,x)=>(i,a.eval x)).toList=some cs)
    (h:wpList P ops Q rest (a.put o.dst (.agg cs)) W):wpList P ops Q (o :: rest) a W :=
  wpList_build hgd t parts ho (by rw [hb];rfl) (by rw [hb];exact h)
end
section
variable {P:Program} {ops:Array Oper} {rest:List Oper} {o:Oper} {a:Act} {Q:Exit→Act→World→Prop} {W:World}
end
def m17 (k m:Int):Nd:={ zeroN with kind:=k,mode:=m }
end Go.Proofs.YtdacflloaehjeaaGreatDoorQ
end
section
namespace Go.Proofs.YtdacflloaehjeaaGreatDoorQ
open Go.ChangeShapes Go.WideShapes Go.ChangeAt Go.RowKit Go.WideElems Go.Proofs.YtdacflloaehjeaaGreatDoor Go.Proofs.YtdacflloaehjeaaGreatDoorW.PrintWords
section
variable {H:Type} {enc:TypeId×Value→H}
theorem w_all {P:Program} {e:TypeId}:∀ {l:List (DataW H)} {d:DataW H},d ∈ l→∀ n ∈ d.weights P e,n ∈ DataW.weightsAll P e l
  | x :: r,d,hd,n,hn=>by
    simp only [DataW.weightsAll,List.mem_append]
    rcases List.mem_cons.1 hd with h|h
    · rw [← h];exact .inl hn
    · exact .inr (w_all h n hn)
theorem w_slice {P:Program} {t e:TypeId} {elems spare:List (DataW H)} (hu:P.underlying t=some (.slice e)) {d:DataW H} (hd:d ∈ elems) {n:Nat} (hn:n ∈ d.weights P e):n ∈ (DataW.slice elems spare).weights P t:=by
  simp only [DataW.weights,hu]
  exact List.mem_cons_of_mem _ (List.mem_append_left _ (w_all hd n hn))
theorem w_len {P:Program} {t e:TypeId} {elems spare:List (DataW H)} (hu:P.underlying t=some (.slice e)):(elems.length + spare.length) * P.bytesOf e ∈ (DataW.slice elems spare).weights P t:=by
  simp [DataW.weights,hu]
theorem w_field {P:Program} {t:TypeId} {fs:Array Field} {parts:List (DataW H)} (hu:P.underlying t=some (.struct fs)) {j:Nat} {f:Field} (hf:fs[j]?=some f) {d:DataW H} (hd:parts[j]?=some d) {n:Nat} (hn:n ∈ d.weights P f.type):n ∈ (DataW.agg parts).weights P t:=by
  simp only [DataW.weights,hu]
  refine DataW.weights_mem_each (t:=f.type) (j:=j) ?_ hd n hn
  rw [List.getElem?_map,Array.getElem?_toList,hf];rfl
theorem w_str {P:Program} {t:TypeId} (l:List UInt8):l.length ∈ (DataW.lit (.string l):DataW H).weights P t:=by simp [DataW.weights]
variable {W:World} {base:Nat} {spare:Nat→Bool} {held:Bool}
theorem str_open {fuel:Nat} {cs:List Value} {y:DataW H×List MemPlace} (h:DataW.trod enc Tryz.prog W base spare held fuel 9 cs=some y):∃ s:ByteArray,cs=[.string s]∧y.1=.lit (.string s.data.toList):=by
  obtain ⟨s,h1,h2,_⟩:=DataW.trod_string Tryz.underlying9 h
  exact ⟨s,h1,by rw [h2]⟩
theorem int_open {fuel:Nat} {cs:List Value} {y:DataW H×List MemPlace} (h:DataW.trod enc Tryz.prog W base spare held fuel 3 cs=some y):∃ n:Int,cs=[.int .i64 n]:=by
  obtain ⟨n,h1,_⟩:=DataW.trod_int Tryz.underlying3 h
  exact ⟨n,h1⟩
theorem b_len (s:ByteArray):s.data.toList.length=s.size:=by rw [Array.length_toList];rfl
set_option maxRecDepth 100000 in
theorem nd_open {fuel:Nat} {cs:List Value} {y:DataW H×List MemPlace} (h:DataW.trod enc Tryz.prog W base spare held fuel 35 cs=some y) :
    ∃ n:S35,cs=ndCells (ndOf n)∧∀ x,(x=n.f5.size∨x=n.f6.size∨x=n.f9.size)→x ∈ y.1.weights Tryz.prog 35:=by
  obtain ⟨xs,m,_,hx,hl,hlen,hf⟩:=DataW.trod_struct Tryz.underlying35 h
  have hC:cs.length=10:=hl.trans (by kernel_rfl)
  have hI:Tryz.prog.cellsOf 3=1:=by kernel_rfl
  have hS:Tryz.prog.cellsOf 9=1:=by kernel_rfl
  have hxs:xs.length=10:=hlen
  match cs,hC with
  | [c0, c1,c2,c3,c4,c5,c6,c7,c8,c9],_ =>
    match xs,hxs with
    | [y0,y1,y2,y3,y4,y5,y6,y7,y8,y9],_ =>
      have f0:DataW.trod enc Tryz.prog W base spare held m 3 ((List.drop 0 [c0,c1,c2,c3,c4,c5,c6,c7,c8,c9]).take (Tryz.prog.cellsOf 3))=some y0:=hf 0 _ rfl
      have f1:DataW.trod enc Tryz.prog W base spare held m 3 ((List.drop 1 [c0,c1,c2,c3,c4,c5,c6,c7,c8,c9]).take (Tryz.prog.cellsOf 3))=some y1:=hf 1 _ rfl
      have f2:DataW.trod enc Tryz.prog W base spare held m 3 ((List.drop 2 [c0,c1,c2,c3,c4,c5,c6,c7,c8,c9]).take (Tryz.prog.cellsOf 3))=some y2:=hf 2 _ rfl
      have f3:DataW.trod enc Tryz.prog W base spare held m 3 ((List.drop 3 [c0,c1,c2,c3,c4,c5,c6,c7,c8,c9]).take (Tryz.prog.cellsOf 3))=some y3:=hf 3 _ rfl
      have f4:DataW.trod enc Tryz.prog W base spare held m 3 ((List.drop 4 [c0,c1,c2,c3,c4,c5,c6,c7,c8,c9]).take (Tryz.prog.cellsOf 3))=some y4:=hf 4 _ rfl
      have f5:DataW.trod enc Tryz.prog W base spare held m 9 ((List.drop 5 [c0,c1,c2,c3,c4,c5,c6,c7,c8,c9]).take (Tryz.prog.cellsOf 9))=some y5:=hf 5 _ rfl
      have f6:DataW.trod enc Tryz.prog W base spare held m 9 ((List.drop 6 [c0,c1,c2,c3,c4,c5,c6,c7,c8,c9]).take (Tryz.prog.cellsOf 9))=some y6:=hf 6 _ rfl
      have f7:DataW.trod enc Tryz.prog W base spare held m 3 ((List.drop 7 [c0,c1,c2,c3,c4,c5,c6,c7,c8,c9]).take (Tryz.prog.cellsOf 3))=some y7:=hf 7 _ rfl
      have f8:DataW.trod enc Tryz.prog W base spare held m 3 ((List.drop 8 [c0,c1,c2,c3,c4,c5,c6,c7,c8,c9]).take (Tryz.prog.cellsOf 3))=some y8:=hf 8 _ rfl
      have f9:DataW.trod enc Tryz.prog W base spare held m 9 ((List.drop 9 [c0,c1,c2,c3,c4,c5,c6,c7,c8,c9]).take (Tryz.prog.cellsOf 9))=some y9:=hf 9 _ rfl
      rw [hI] at f0 f1 f2 f3 f4 f7 f8
      rw [hS] at f5 f6 f9
      obtain ⟨n0,e0⟩:=int_open f0
      obtain ⟨n1,e1⟩:=int_open f1
      obtain ⟨n2,e2⟩:=int_open f2
      obtain ⟨n3,e3⟩:=int_open f3
      obtain ⟨n4,e4⟩:=int_open f4
      obtain ⟨s5,e5,d5⟩:=str_open f5
      obtain ⟨s6,e6,d6⟩:=str_open f6
      obtain ⟨n7,e7⟩:=int_open f7
      obtain ⟨n8,e8⟩:=int_open f8
      obtain ⟨s9,e9,d9⟩:=str_open f9
      simp only [List.drop_zero,List.drop_succ_cons,List.take_succ_cons,List.take_zero,List.cons.injEq,and_true] at e0 e1 e2 e3 e4 e5 e6 e7 e8 e9
      refine ⟨⟨n0,n1,n2,n3,n4,s5,s6,n7,n8,s9⟩,?_,?_⟩
      · rw [e0,e1,e2,e3,e4,e5,e6,e7,e8,e9]
        simp [ndCells,ndOf,B_L]
      · rw [hx]
        intro x hx'
        rcases hx' with rfl|rfl|rfl
        · exact w_field (j:=5) (d:=y5.1) Tryz.underlying35 rfl rfl (by rw [d5,← b_len];exact w_str _)
        · exact w_field (j:=6) (d:=y6.1) Tryz.underlying35 rfl rfl (by rw [d6,← b_len];exact w_str _)
        · exact w_field (j:=9) (d:=y9.1) Tryz.underlying35 rfl rfl (by rw [d9,← b_len];exact w_str _)
def chSz (e:S59) (x:Nat):Prop:=x=e.f0.size∨x=e.f2.f5.size∨x=e.f2.f6.size∨x=e.f2.f9.size
set_option maxRecDepth 100000 in
theorem ch_open {fuel:Nat} {cs:List Value} {y:DataW H×List MemPlace} (h:DataW.trod enc Tryz.prog W base spare held fuel 59 cs=some y) :
    ∃ e:S59,cs=chCells (chOf e)∧∀ x,chSz e x→x ∈ y.1.weights Tryz.prog 59:=by
  obtain ⟨xs,m,_,hx,hl,hlen,hf⟩:=DataW.trod_struct Tryz.underlying59 h
  have hC:cs.length=12:=hl.trans (by kernel_rfl)
  have hN:Tryz.prog.cellsOf 35=10:=by kernel_rfl
  have hI:Tryz.prog.cellsOf 3=1:=by kernel_rfl
  have hS:Tryz.prog.cellsOf 9=1:=by kernel_rfl
  have hxs:xs.length=3:=hlen
  match cs,hC with
  | c0 :: c1 :: r,hr =>
    match xs,hxs with
    | [y0,y1,y2],_ =>
      have f0:DataW.trod enc Tryz.prog W base spare held m 9 ((List.drop 0 (c0 :: c1 :: r)).take (Tryz.prog.cellsOf 9))=some y0:=hf 0 _ rfl
      have f1:DataW.trod enc Tryz.prog W base spare held m 3 ((List.drop 1 (c0 :: c1 :: r)).take (Tryz.prog.cellsOf 3))=some y1:=hf 1 _ rfl
      have f2:DataW.trod enc Tryz.prog W base spare held m 35 ((List.drop 2 (c0 :: c1 :: r)).take (Tryz.prog.cellsOf 35))=some y2:=hf 2 _ rfl
      rw [hS] at f0
      rw [hI] at f1
      rw [hN] at f2
      obtain ⟨s0,e0,d0⟩:=str_open f0
      obtain ⟨i1,e1⟩:=int_open f1
      obtain ⟨n2,e2,d2⟩:=nd_open f2
      have hrl:r.length=10:=by simpa using hr
      have er:(List.drop 2 (c0 :: c1 :: r)).take 10=r:=by
        show r.take 10=r
        rw [List.take_of_length_le (by omega)]
      have e2':r=ndCells (ndOf n2):=er.symm.trans e2
      simp only [List.drop_zero,List.drop_succ_cons,List.take_succ_cons,List.take_zero,List.cons.injEq,and_true] at e0 e1
      refine ⟨⟨s0,i1,n2⟩,?_,?_⟩
      · rw [e0,e1,e2']
        simp [chCells,chOf,B_L]
      · rw [hx]
        intro x hx'
        rcases hx' with rfl|hx'
        · exact w_field (j:=0) (d:=y0.1) Tryz.underlying59 rfl rfl (by rw [d0,← b_len];exact w_str _)
        · exact w_field (j:=2) (d:=y2.1) Tryz.underlying59 rfl rfl (d2 x hx')
theorem row_open {α:Type} [Inhabited α] {t e k:Nat} {cells:α→List Value} {sz:α→Nat→Prop} (hu:Tryz.prog.underlying t=some (.slice e)) (hk:Tryz.prog.cellsOf e=k) (hk0:0<k) (hkl:∀ x,(cells x).length=k)
    (hel:∀ {fuel:Nat} {cs:List Value} {y:DataW H×List MemPlace},DataW.trod enc Tryz.prog W base spare held fuel e cs=some y→∃ x:α,cs=cells x∧∀ n,sz x n→n ∈ y.1.weights Tryz.prog e)
    {fuel:Nat} {cs:List Value} {y:DataW H×List MemPlace} (h:DataW.trod enc Tryz.prog W base spare held fuel t cs=some y) :
    ∃ (a:Option Addr) (l:List α) (cap:Nat),cs=[.slice a l.length cap]∧RowAt cells k W a l∧l.length≤cap∧cap≤maxLen∧(∀ x ∈ l,∀ n,sz x n→n ∈ y.1.weights Tryz.prog t)∧(l≠[]→∃ n ∈ y.1.weights Tryz.prog t,l.length * Tryz.prog.bytesOf e≤n):=by
  rcases Deep.open_slice hu h with ⟨h0,hy⟩|⟨a,len,cap,m,n,D,Pl,hcs,_,hl,hm,hmm,hx,hcell⟩
  · exact ⟨none,[],0,h0,RowAt.nil _ _ _ _,Nat.le_refl _,Nat.zero_le _,fun x hx=>(List.not_mem_nil hx).elim,fun h=>absurd rfl h⟩
  · have hlm:len≤m:=by rw [hmm];split <;> omega
    have hch:∃ F:Nat→α,∀ i,i<len→∃ cs',W.cells? base (a.add (i * k)) k=some cs'∧cs'=cells (F i)∧∀ n,sz (F i) n→n ∈ (D i).weights Tryz.prog e:=by
      refine Deep.choose_lt (p:=fun i x=>∃ cs',W.cells? base (a.add (i * k)) k=some cs'∧cs'=cells x∧∀ n,sz x n→n ∈ (D i).weights Tryz.prog e) fun i hi=>?_
      obtain ⟨cs',h1,h2⟩:=hcell i (by omega)
      rw [hk] at h1
      obtain ⟨x,h3,h4⟩:=hel h2
      exact ⟨x,cs',h1,h3,h4⟩
    obtain ⟨F,hF⟩:=hch
    have hlen:((List.range len).map F).length=len:=by simp
    refine ⟨some a,(List.range len).map F,cap,by rw [hlen];exact hcs,?_,by rw [hlen];exact hl,hm,?_,?_⟩
    · intro i x hx'
      have hi:i<len:=by
        have:=(List.getElem?_eq_some_iff.1 hx').1
        rwa [hlen] at this
      have hxi:x=F i:=by
        rw [List.getElem?_map,List.getElem?_range hi] at hx'
        exact (Option.some.inj hx').symm
      subst hxi
      obtain ⟨cs0,c1,c2,_⟩:=hF 0 (by omega)
      obtain ⟨csi,d1,d2,_⟩:=hF i hi
      obtain ⟨_,g1,g2⟩:=World.cells?_some c1
      obtain ⟨_,g3,g4⟩:=World.cells?_some d1
      have z0:=g2 0 hk0
      rw [Nat.zero_mul,Deep.add_add,Nat.add_zero,c2] at z0
      have hz0:(cells (F 0))[0]?=some ((cells (F 0))[0]'(by rw [hkl];exact hk0)):=List.getElem?_eq_getElem _
      rw [hz0] at z0
      obtain ⟨b,o,sp⟩:=a
      obtain rfl:sp=none:=by simpa [Addr.add] using World.cell?_spot z0
      refine ⟨b,o,rfl,fun j u hu'=>?_⟩
      have hj:j<k:=by
        have:=(List.getElem?_eq_some_iff.1 hu').1
        rwa [hkl] at this
      have:=g4 j hj
      rw [Deep.add_add,Addr.add_mid,d2,hu'] at this
      rw [Nat.add_assoc];exact this
    · intro x hx' n hn
      obtain ⟨i,hi,rfl⟩:=List.mem_map.1 hx'
      have hi:=List.mem_range.1 hi
      obtain ⟨_,_,_,h4⟩:=hF i hi
      rw [hx]
      exact w_slice hu (List.mem_map.2 ⟨i,List.mem_range.2 hi,rfl⟩) (h4 n hn)
    · intro _
      rw [hx]
      refine ⟨_,w_len hu,?_⟩
      rw [List.length_map,List.length_map,List.length_range]
      exact Nat.mul_le_mul_right _ (by simp)
end
end Go.Proofs.YtdacflloaehjeaaGreatDoorQ
end
section
namespace Go.Proofs.YtdacflloaehjeaaGreatDoor
open Go.ChangeShapes Go.WideShapes Go.ChangeAt Go.RowKit Go.WideElems
theorem own:ownKnob Tryz.prog.godebug=none:=by kernel_rfl
theorem laidOut:laidOutB Tryz.prog=true:=by kernel_rfl
theorem star : "*" ++ "errors.errorString" = "*errors.errorString" := by decide
theorem rowErr (u : TypeId) (h : Tryz.prog.typeName? 3 u = some "*errors.errorString") : u = 232 :=
  typeName_ptr_named (nm := "errors.errorString") (by rw [star]; kernel_rfl) (by kernel_rfl) (by decide) u (by rw [star]; exact h)
theorem gl_of {W : World} (hL : laidMet Tryz.prog [("math/bits.deBruijn32tab", Rows.laid_math_bits_deBruijn32tab), ("math/bits.deBruijn64tab", Rows.laid_math_bits_deBruijn64tab), ("internal/strconv.uint64pow10", Rows.laid_internal_strconv_uint64pow10), ("unicode/utf8.acceptRanges", Rows.laid_unicode_utf8_acceptRanges), ("strconv.ErrRange", Rows.laid_strconv_ErrRange), ("strconv.ErrSyntax", Rows.laid_strconv_ErrSyntax), ("unicode/utf8.first", Rows.laid_unicode_utf8_first)] W) (hsh : W.ShapedOpen Tryz.prog) : GL W := by
  have h0 : laidMet Tryz.prog (("math/bits.deBruijn32tab", Rows.laid_math_bits_deBruijn32tab) :: ("math/bits.deBruijn64tab", Rows.laid_math_bits_deBruijn64tab) :: ("internal/strconv.uint64pow10", Lib.tabData .u64 Lib.pow10Tab) :: ("unicode/utf8.acceptRanges", Rows.laid_unicode_utf8_acceptRanges) :: ("strconv.ErrRange", Rows.laid_strconv_ErrRange) :: ("strconv.ErrSyntax", Rows.laid_strconv_ErrSyntax) :: ("unicode/utf8.first", Rows.laid_unicode_utf8_first) :: []) W := hL
  have h2:=h0.tail.tail
  have h3:=h2.tail.tail
  have h4:=h3.tail
  obtain ⟨a1,s1,hv1,_⟩:=laid_sentinel h3 (g:=2) (ti:=192) (tp:=232) (te:=234) (by kernel_rfl) (by kernel_rfl) Tryz.underlying192 rowErr Tryz.underlying232 Tryz.underlying234 rfl rfl Tryz.underlying9 (by kernel_rfl) (by kernel_rfl)
  obtain ⟨a2,s2,hv2,_⟩:=laid_sentinel h4 (g:=1) (ti:=192) (tp:=232) (te:=234) (by kernel_rfl) (by kernel_rfl) Tryz.underlying192 rowErr Tryz.underlying232 Tryz.underlying234 rfl rfl Tryz.underlying9 (by kernel_rfl) (by kernel_rfl)
  exact {
    max:=cell_of_shapedOpen_int (t:=3) (zero:=#[.int .i64 0]) hsh (of_decide_eq_true (by kernel_rfl)) (by kernel_rfl) rfl (by kernel_rfl) (by kernel_rfl) Tryz.underlying3
    pow:=Lib.tabIs_of_head (g:=5) (by kernel_rfl) (by kernel_rfl) Tryz.underlying236 Tryz.underlying138 (by kernel_rfl) (by kernel_rfl) h2
    syn:=⟨_,_,hv2⟩
    rng:=⟨_,_,hv1⟩ }
section
variable {H:Type} {enc:TypeId×Value→H}
theorem again_all {W W':World} (hb:Below W.heap.size W W') {sp:Nat→Bool}:∀ {ts:List TypeId} {vs:List Value} {ds:List (DataW H)} {ps:List MemPlace},(∀ t ∈ ts,Tryz.prog.readableRec t=true∧t<Tryz.prog.types.size) →
    DataW.TrodAll enc Tryz.prog W 0 (fun _=>true) true ts vs ds ps→(∀ x ∈ ps,x.block<W.heap.size)→(∀ x ∈ ps,sp x.block=true)→DataW.TrodAll enc Tryz.prog W' 0 sp true ts vs ds ps
  | [],[],[],_,_,h,_,_=>h
  | [],_ :: _,_,_,_,h,_,_=>h.elim
  | [],[],_ :: _,_,_,h,_,_=>h.elim
  | _ :: _,[],_,_,_,h,_,_=>h.elim
  | _ :: _,_ :: _,[],_,_,h,_,_=>h.elim
  | t :: ts,v :: vs,d :: ds,ps,ht,h,hlt,hsp=>by
    obtain ⟨p,q,h1,h2,rfl⟩:=h
    have hr:=ht t (List.mem_cons_self ..)
    exact ⟨p,q,Trod_stays laidOut hr.1 hr.2 h1 (fun x hx=>hb.same (hlt x (List.mem_append_left _ hx))) (fun x hx=>hsp x (List.mem_append_left _ hx)),
      again_all hb (fun t h=>ht t (List.mem_cons_of_mem _ h)) h2 (fun x hx=>hlt x (List.mem_append_right _ hx)) (fun x hx=>hsp x (List.mem_append_right _ hx)),rfl⟩
set_option maxRecDepth 100000 in
theorem law_post {f:Func} {s:ChangeSpec} {apart fresh handsOn again:Bool} {W W':World} {args:Array Value} {ds gs:List (DataW H)} {before:List MemPlace} (hs:s.vars=[]) (hf:f.resultTypes=#[4])
    (hfn:s.fn H ds={ results:=[.lit (.bool true)],args:=ds }) (ht:∀ t ∈ f.params.toList,Tryz.prog.readableRec t=true∧t<Tryz.prog.types.size)
    (hW:DataW.Whole enc Tryz.prog f.params.toList s.vars apart W args.toList ds gs before) (hb:Below W.heap.size W W') :
    s.post enc Tryz.prog f apart fresh handsOn again W args (.bool true) W':=by
  obtain ⟨p,q,hA,hV,rfl,hz,hn⟩:=id hW
  have hlt:∀ x ∈ p ++ q,x.block<W.heap.size:=fun x hx=>hW.lt x hx
  rw [hs] at hV
  obtain ⟨rfl,rfl⟩:=trodVars_none hV
  have hA':DataW.TrodAll enc Tryz.prog W 0 (fun _=>true) true f.params.toList args.toList ds p:=hA
  have hold:∀ x ∈ p ++ [],(fun b=>decide (b<W.heap.size)) x.block=true:=fun x hx=>by simpa using hlt x hx
  have hargs:∀ sp:Nat→Bool,(∀ x ∈ p ++ [],sp x.block=true)→DataW.TrodAll enc Tryz.prog W' 0 sp true f.params.toList args.toList (s.fn H (ds ++ [])).args p:=fun sp hsp=>by
    rw [List.append_nil,hfn]
    exact again_all hb ht hA' (fun x hx=>hlt x (List.mem_append_left _ hx)) (fun x hx=>hsp x (List.mem_append_left _ hx))
  have hres:∀ (b:Nat) (sp:Nat→Bool) (hd:Bool),DataW.TrodAll enc Tryz.prog W' b sp hd f.resultTypes.toList ((Value.bool true).resultList f.resultTypes.size) (s.fn H (ds ++ [])).results []:=fun b sp hd=>by
    rw [List.append_nil,hfn,hf]
    exact trodAll_mk1 (shut_bool Tryz.underlying4 _)
  have hvars:∀ sp:Nat→Bool,DataW.TrodVars enc Tryz.prog W' sp s.vars (s.fn H (ds ++ [])).vars []:=fun sp=>by
    rw [List.append_nil,hfn,hs];rfl
  refine ⟨ds,[],p ++ [],[],p,[],hW,hres _ _ _,hargs _ hold,hvars _,World.keptBut_mono (fun x hx=>⟨hx,?_⟩) (hb.frame (· ∈ p ++ [])),fun _=>?_⟩
  · exact Or.inr (by simpa using hx)
  · refine ⟨?_,_,_,([] ++ p) ++ [],⟨[] ++ p,[],trodAll_append (hargs _ (fun _ _=>rfl)) (hres _ _ _),hvars _,rfl,?_,?_⟩,?_⟩
    · exact ok_one hf rfl (okWide_bool_mk Tryz.underlying4 _)
    · intro b off hp
      have hin:MemPlace.cell b off ∈ p ++ []:=by simpa using hp
      rw [hb.frozen (hlt _ hin)]
      exact hz b off hin
    · intro ha
      simpa using hn ha
    · intro x hx _
      simpa using hx
end
def litCell:DataW Unit→Value
  | .lit (.int k z)=>Value.int k z
  | _=>Value.int .u8 0
def tabCells:DataW Unit→Array Value
  | .agg l=>(l.flatMap fun d=>match d with|.agg m=>m.map litCell|d=>[litCell d]).toArray
  | _=>#[]
abbrev synS:ByteArray:={ data:=#[105,110,118,97,108,105,100,32,115,121,110,116,97,120] }
abbrev rngS:ByteArray:={ data:=#[118,97,108,117,101,32,111,117,116,32,111,102,32,114,97,110,103,101] }
noncomputable def low:Nat:=(World.holding Tryz.prog default ⟨#[],#[],[]⟩).heap.size
def putVar (cs:Array Value):Obj→Obj
  | .cells _ t frozen=>.cells cs t frozen
  | o=>o
noncomputable def laidWorld (os:Os):World :=
  let w0:=World.holding Tryz.prog os ⟨#[.cells #[.string rngS] 234,.cells #[.string synS] 234],#[],[]⟩
  { w0 with heap:=((((((w0.heap.modify 6 (putVar (tabCells Rows.laid_math_bits_deBruijn32tab))).modify 7 (putVar (tabCells Rows.laid_math_bits_deBruijn64tab))).modify 5 (putVar (tabCells Rows.laid_internal_strconv_uint64pow10))).modify 4 (putVar (tabCells Rows.laid_unicode_utf8_acceptRanges))).modify 3 (putVar (tabCells Rows.laid_unicode_utf8_first))).modify 2
      (putVar #[.iface 232 (.pointer (some ⟨low,0,none⟩))])).modify 1 (putVar #[.iface 232 (.pointer (some ⟨low + 1,0,none⟩))]) }
theorem laid_met (os : Os) (args : Array Value) : laidMet Tryz.prog [("math/bits.deBruijn32tab", Rows.laid_math_bits_deBruijn32tab), ("math/bits.deBruijn64tab", Rows.laid_math_bits_deBruijn64tab), ("internal/strconv.uint64pow10", Rows.laid_internal_strconv_uint64pow10), ("unicode/utf8.acceptRanges", Rows.laid_unicode_utf8_acceptRanges), ("strconv.ErrRange", Rows.laid_strconv_ErrRange), ("strconv.ErrSyntax", Rows.laid_strconv_ErrSyntax), ("unicode/utf8.first", Rows.laid_unicode_utf8_first)] ((laidWorld os).forCall (fun _ _ => 0) ⟨#[], args, []⟩).memory :=
  laidMet_of_run' 8 (by kernel_rfl) (by kernel_rfl)
end Go.Proofs.YtdacflloaehjeaaGreatDoor
end
section
namespace Go.Proofs.YtdacflloaehjeaaGreatDoorQ
open Go.RowKit Go.Proofs.YtdacflloaehjeaaGreatDoorW.PrintWords Go.Proofs.YtdacflloaehjeaaGreatDoorW.PrintLast Go.Proofs.YtdacflloaehjeaaGreatDoorW.PrintMore
open Go.Proofs.YtdacflloaehjeaaGreatDoor (GL)
attribute [local go_sem] max2_int min2_int max_two min_two max_three min_three max_four min_four

def onionskinlaw16_Few.l0:Nat→List (S59)→Int→Int→Option (Bool)
 | 0,_,_,_=>none
 | k + 1,x0,x3,x4=>if x4<(x0.length:Int) then (if 0≤x4 then (onionskinlaw16_Few.l0 k x0 (wrap64 ((wrap64 ((wrap64 ((wrap64 (x3 + (((rd_T59 x0 x4).f0).size:Int))) + (((rd_T59 x0 x4).f2.f5).size:Int))) + (((rd_T59 x0 x4).f2.f6).size:Int))) + (((rd_T59 x0 x4).f2.f9).size:Int))) (wrap64 (x4 + 1))) else (none)) else (if (x0.length:Int)≤30 then (some (decide (x3≤6000))) else (some false))
def onionskinlaw16_Few.f (k:Nat) (l0:List (S59)):Option (Bool):=onionskinlaw16_Few.l0 k l0 0 0
set_option maxHeartbeats 8000000 in
set_option maxRecDepth 100000 in
theorem onionskinlaw16_Few.calls (k:Nat) (A0:Option Addr) (c0:Nat) (l0:List (S59)) (r:Bool) (w:World) (hr0:Kd.C k59 w A0 l0.length l0) (hc0:l0.length≤c0) (h:onionskinlaw16_Few.f k l0=some r) :
  Calls Tryz.prog 30 #[.slice A0 l0.length c0] w fun e w'=>e=.returned (.bool r)∧Drawn0 w w':=by
 have HR0:=Aside0.mk hr0
 have HC0:=Aside0.mk hc0
 clear hr0 hc0
 have H:(onionskinlaw16_Few.l0 k l0 0 0)=some r:=h
 clear h
 have H':=Aside0.mk H
 clear H
 go_enter Tryz.func30,Tryz.ntmps30
 go_wp2
 repeat (go_quiet (fail);try go_wp2)
 go_loopg [3,4] k (fun kq v3 v4 w'=>∃ (x3_1:Int) (x4_1:Int),v3=.int .i64 x3_1∧v4=.int .i64 x4_1∧Aside0 (onionskinlaw16_Few.l0 kq l0 x3_1 x4_1=some r)∧Aside0 (kq≤k)∧Drawn0 w w')
 case atStart=>exact ⟨(0),(0),(by first|rfl|(simp;done)|(simp [*];done)),(by first|rfl|(simp;done)|(simp [*];done)),H',⟨Nat.le_refl _⟩,by repeat (first|exact Drawn0.refl _|apply Drawn0.step)⟩
 case round =>
  clear H'
  obtain ⟨x3_1,x4_1,rfl,rfl,HA,HK1,⟨m1,rfl⟩⟩:=hrel
  cases gk with
  | zero=>exact absurd HA.out (by simp [onionskinlaw16_Few.l0])
  | succ k1 =>
   have H:=HA.out
   clear HA
   simp only [onionskinlaw16_Few.l0] at H
   by_cases c2:x4_1<(l0.length:Int)
   ·rw [if_pos c2] at H
    have c2b0:decide (x4_1<(l0.length:Int))=true:=decide_eq_true c2
    clear c2
    by_cases c3:0≤x4_1
    ·rw [if_pos c3] at H
     have c3b0:decide (0≤x4_1)=true:=decide_eq_true c3
     clear c3
     have H':=Aside0.mk H
     clear H
     have p885:0≤(x4_1:Int):=of_decide_eq_true (by first|(with_reducible assumption)|assumption)
     have q885:x4_1<(l0.length:Int):=of_decide_eq_true (by first|(with_reducible assumption)|assumption)
     obtain ⟨ad885,e885,hx885_0,hx885_1,hx885_2,hx885_3,hx885_4,hx885_5,hx885_6,hx885_7,hx885_8,hx885_9,hx885_10,hx885_11⟩:=at_T59 HR0.out x4_1 p885 q885
     cases e885
     replace p885:=eq_true p885
     replace q885:=eq_true q885
     have p886:0≤(x4_1:Int):=of_decide_eq_true (by first|(with_reducible assumption)|assumption)
     have q886:x4_1<(l0.length:Int):=of_decide_eq_true (by first|(with_reducible assumption)|assumption)
     obtain ⟨ad886,e886,hx886_0,hx886_1,hx886_2,hx886_3,hx886_4,hx886_5,hx886_6,hx886_7,hx886_8,hx886_9,hx886_10,hx886_11⟩:=at_T59 HR0.out x4_1 p886 q886
     obtain rfl:ad885=ad886:=(by injection e886)
     replace p886:=eq_true p886
     replace q886:=eq_true q886
     have p887:0≤(x4_1:Int):=of_decide_eq_true (by first|(with_reducible assumption)|assumption)
     have q887:x4_1<(l0.length:Int):=of_decide_eq_true (by first|(with_reducible assumption)|assumption)
     obtain ⟨ad887,e887,hx887_0,hx887_1,hx887_2,hx887_3,hx887_4,hx887_5,hx887_6,hx887_7,hx887_8,hx887_9,hx887_10,hx887_11⟩:=at_T59 HR0.out x4_1 p887 q887
     obtain rfl:ad885=ad887:=(by injection e887)
     replace p887:=eq_true p887
     replace q887:=eq_true q887
     have p888:0≤(x4_1:Int):=of_decide_eq_true (by first|(with_reducible assumption)|assumption)
     have q888:x4_1<(l0.length:Int):=of_decide_eq_true (by first|(with_reducible assumption)|assumption)
     obtain ⟨ad888,e888,hx888_0,hx888_1,hx888_2,hx888_3,hx888_4,hx888_5,hx888_6,hx888_7,hx888_8,hx888_9,hx888_10,hx888_11⟩:=at_T59 HR0.out x4_1 p888 q888
     obtain rfl:ad885=ad888:=(by injection e888)
     replace p888:=eq_true p888
     replace q888:=eq_true q888
     go_wp2
     repeat (go_quiet (fail);try go_wp2)
     go_roundg k1
     case measure=>have:=HK1.out;omega
     case rel=>exact ⟨(wrap64 ((wrap64 ((wrap64 ((wrap64 (x3_1 + (((rd_T59 l0 x4_1).f0).size:Int))) + (((rd_T59 l0 x4_1).f2.f5).size:Int))) + (((rd_T59 l0 x4_1).f2.f6).size:Int))) + (((rd_T59 l0 x4_1).f2.f9).size:Int))),(wrap64 (x4_1 + 1)),(by first|rfl|(simp;done)|(simp [*];done)),(by first|rfl|(simp;done)|(simp [*];done)),H',⟨by have:=HK1.out;omega⟩,by repeat (first|exact Drawn0.refl _|apply Drawn0.step)⟩
    ·rw [if_neg c3] at H
     exact absurd H (by simp)
   ·rw [if_neg c2] at H
    have c2b0:decide (x4_1<(l0.length:Int))=false:=decide_eq_false c2
    clear c2
    by_cases c4:(l0.length:Int)≤30
    ·rw [if_pos c4] at H
     have c4b0:decide ((l0.length:Int)≤30)=true:=decide_eq_true c4
     have c4b1:decide (l0.length≤30)=true:=decide_eq_true (by omega)
     clear c4
     obtain rfl:=Option.some.inj H
     go_wp2
     repeat (go_quiet (fail);try go_wp2)
     go_ret
     exact ⟨by first|rfl|(simp;done)|(simp [*];done),by repeat (first|exact Drawn0.refl _|apply Drawn0.step)⟩
    ·rw [if_neg c4] at H
     have c4b0:decide ((l0.length:Int)≤30)=false:=decide_eq_false c4
     have c4b1:decide (l0.length≤30)=false:=decide_eq_false (by omega)
     clear c4
     obtain rfl:=Option.some.inj H
     go_wp2
     repeat (go_quiet (fail);try go_wp2)
     go_ret
     exact ⟨by first|rfl|(simp;done)|(simp [*];done),by repeat (first|exact Drawn0.refl _|apply Drawn0.step)⟩
theorem eqA39 (d:Nat) (w:World) (x0 y0:ByteArray) (x1 y1:Int) (x2 y2:Int) (x3 y3:Int) (x4 y4:Int) (x5 y5:Int) (x6 y6:ByteArray) (x7 y7:ByteArray) (x8 y8:Int) (x9 y9:Int) (x10 y10:ByteArray) :
  (Op.equalIn (d + 3) 39 (.agg #[.string x0,.int .i64 x1,.int .i64 x2,.int .i64 x3,.int .i64 x4,.int .i64 x5,.string x6,.string x7,.int .i64 x8,.int .i64 x9,.string x10]) (.agg #[.string y0,.int .i64 y1,.int .i64 y2,.int .i64 y3,.int .i64 y4,.int .i64 y5,.string y6,.string y7,.int .i64 y8,.int .i64 y9,.string y10])).run Tryz.prog w=.ok (x0.toList == y0.toList && ((x1 == y1 && (x2 == y2 && (x3 == y3 && (x4 == y4 && (x5 == y5 && (x6.toList == y6.toList && (x7.toList == y7.toList && (x8 == y8 && (x9 == y9 && (x10.toList == y10.toList)))))))))))) w:=by
 refine eqA_of Tryz.underlying39 (by kernel_rfl) ?_
 refine eqf_cons (by rfl) (by go_simp;rfl) (by go_simp;rfl) (by go_simp) ?_
 exact eqf_last (by rfl) (by go_simp) (by go_simp) (eqA35 (d + 0) w _ _ _ _ _ _ _ _ _ _ _ _ _ _ _ _ _ _ _ _)
end Go.Proofs.YtdacflloaehjeaaGreatDoorQ
end
section
namespace Go.Proofs.YtdacflloaehjeaaGreatDoorQ
open Go.RowKit Go.Proofs.YtdacflloaehjeaaGreatDoorW.PrintWords Go.Proofs.YtdacflloaehjeaaGreatDoorW.PrintLast Go.Proofs.YtdacflloaehjeaaGreatDoorW.PrintMore
open Go.Proofs.YtdacflloaehjeaaGreatDoor (GL)
attribute [local go_sem] max2_int min2_int max_two min_two max_three min_three max_four min_four
attribute [local go_sem high] eqA39
def onionskinref08_Same.l0:Nat→List (S39)→List (S39)→Int→Option (Bool)
 | 0,_,_,_=>none
 | k + 1,x0,x1,x5=>if x5<(x0.length:Int) then (if 0≤x5 then (if x5<(x1.length:Int) then (if (!((((rd_T39 x0 x5).f0).toList) == (((rd_T39 x1 x5).f0).toList)) || ((!(((rd_T39 x0 x5).f1.f0) == ((rd_T39 x1 x5).f1.f0)) || (!(((rd_T39 x0 x5).f1.f1) == ((rd_T39 x1 x5).f1.f1)) || (!(((rd_T39 x0 x5).f1.f2) == ((rd_T39 x1 x5).f1.f2)) || (!(((rd_T39 x0 x5).f1.f3) == ((rd_T39 x1 x5).f1.f3)) || (!(((rd_T39 x0 x5).f1.f4) == ((rd_T39 x1 x5).f1.f4)) || (!((((rd_T39 x0 x5).f1.f5).toList) == (((rd_T39 x1 x5).f1.f5).toList)) || (!((((rd_T39 x0 x5).f1.f6).toList) == (((rd_T39 x1 x5).f1.f6).toList)) || (!(((rd_T39 x0 x5).f1.f7) == ((rd_T39 x1 x5).f1.f7)) || (!(((rd_T39 x0 x5).f1.f8) == ((rd_T39 x1 x5).f1.f8)) || (!((((rd_T39 x0 x5).f1.f9).toList) == (((rd_T39 x1 x5).f1.f9).toList))))))))))))))=true then (some false) else (onionskinref08_Same.l0 k x0 x1 (wrap64 (x5 + 1)))) else (none)) else (none)) else (some true)
def onionskinref08_Same.f (k:Nat) (l0:List (S39)) (l1:List (S39)):Option (Bool):=if (l0.length:Int)=(l1.length:Int) then (onionskinref08_Same.l0 k l0 l1 0) else (some false)
set_option maxHeartbeats 8000000 in
set_option maxRecDepth 100000 in
theorem onionskinref08_Same.calls (k:Nat) (A0:Option Addr) (c0:Nat) (l0:List (S39)) (A1:Option Addr) (c1:Nat) (l1:List (S39)) (r:Bool) (w:World) (hr0:Kd.C k39 w A0 l0.length l0) (hc0:l0.length≤c0) (hr1:Kd.C k39 w A1 l1.length l1) (hc1:l1.length≤c1) (h:onionskinref08_Same.f k l0 l1=some r) :
  Calls Tryz.prog 21 #[.slice A0 l0.length c0,.slice A1 l1.length c1] w fun e w'=>e=.returned (.bool r)∧Drawn0 w w':=by
 have hu39:=Tryz.underlying39
 have HR0:=Aside0.mk hr0
 have HC0:=Aside0.mk hc0
 clear hr0 hc0
 have HR1:=Aside0.mk hr1
 have HC1:=Aside0.mk hc1
 clear hr1 hc1
 have H:(if (l0.length:Int)=(l1.length:Int) then (onionskinref08_Same.l0 k l0 l1 0) else (some false))=some r:=h
 clear h
 by_cases c3:(l0.length:Int)=(l1.length:Int)
 ·rw [if_pos c3] at H
  have c3b0:((l0.length:Int) == (l1.length:Int))=true:=beq_iff_eq.mpr c3
  have c3b1:((l0.length:Int) != (l1.length:Int))=false:=bne_eq_false_iff_eq.mpr c3
  have c3b2:(l0.length == l1.length)=true:=by first|simpa using c3|(simp at c3 ⊢;omega)
  clear c3
  have H':=Aside0.mk H
  clear H
  go_enter Tryz.func21,Tryz.ntmps21
  go_wp2
  repeat (go_quiet (fail);try go_wp2)
  go_loopg [5] k (fun kq v5 w'=>∃ (x5_1:Int),v5=.int .i64 x5_1∧Aside0 (onionskinref08_Same.l0 kq l0 l1 x5_1=some r)∧Aside0 (kq≤k)∧Drawn0 w w')
  case atStart=>exact ⟨(0),(by first|rfl|(simp;done)|(simp [*];done)),H',⟨Nat.le_refl _⟩,by repeat (first|exact Drawn0.refl _|apply Drawn0.step)⟩
  case round =>
   clear H'
   try clear c1;try clear c2;try clear p2;try clear c3;try clear c3b0;try clear c3b1;try clear c3b2
   obtain ⟨x5_1,rfl,HA,HK1,⟨m1,rfl⟩⟩:=hrel
   cases gk with
   | zero=>exact absurd HA.out (by simp [onionskinref08_Same.l0])
   | succ k1 =>
    have H:=HA.out
    clear HA
    simp only [onionskinref08_Same.l0] at H
    by_cases c4:x5_1<(l0.length:Int)
    ·rw [if_pos c4] at H
     have c4b0:decide (x5_1<(l0.length:Int))=true:=decide_eq_true c4
     clear c4
     by_cases c5:0≤x5_1
     ·rw [if_pos c5] at H
      have c5b0:decide (0≤x5_1)=true:=decide_eq_true c5
      clear c5
      by_cases c6:x5_1<(l1.length:Int)
      ·rw [if_pos c6] at H
       have c6b0:decide (x5_1<(l1.length:Int))=true:=decide_eq_true c6
       clear c6
       by_cases c7:(!((((rd_T39 l0 x5_1).f0).toList) == (((rd_T39 l1 x5_1).f0).toList)) || ((!(((rd_T39 l0 x5_1).f1.f0) == ((rd_T39 l1 x5_1).f1.f0)) || (!(((rd_T39 l0 x5_1).f1.f1) == ((rd_T39 l1 x5_1).f1.f1)) || (!(((rd_T39 l0 x5_1).f1.f2) == ((rd_T39 l1 x5_1).f1.f2)) || (!(((rd_T39 l0 x5_1).f1.f3) == ((rd_T39 l1 x5_1).f1.f3)) || (!(((rd_T39 l0 x5_1).f1.f4) == ((rd_T39 l1 x5_1).f1.f4)) || (!((((rd_T39 l0 x5_1).f1.f5).toList) == (((rd_T39 l1 x5_1).f1.f5).toList)) || (!((((rd_T39 l0 x5_1).f1.f6).toList) == (((rd_T39 l1 x5_1).f1.f6).toList)) || (!(((rd_T39 l0 x5_1).f1.f7) == ((rd_T39 l1 x5_1).f1.f7)) || (!(((rd_T39 l0 x5_1).f1.f8) == ((rd_T39 l1 x5_1).f1.f8)) || (!((((rd_T39 l0 x5_1).f1.f9).toList) == (((rd_T39 l1 x5_1).f1.f9).toList))))))))))))))=true
       ·rw [if_pos c7] at H
        have c7b0:(!((((rd_T39 l0 x5_1).f0).toList) == (((rd_T39 l1 x5_1).f0).toList)) || ((!(((rd_T39 l0 x5_1).f1.f0) == ((rd_T39 l1 x5_1).f1.f0)) || (!(((rd_T39 l0 x5_1).f1.f1) == ((rd_T39 l1 x5_1).f1.f1)) || (!(((rd_T39 l0 x5_1).f1.f2) == ((rd_T39 l1 x5_1).f1.f2)) || (!(((rd_T39 l0 x5_1).f1.f3) == ((rd_T39 l1 x5_1).f1.f3)) || (!(((rd_T39 l0 x5_1).f1.f4) == ((rd_T39 l1 x5_1).f1.f4)) || (!((((rd_T39 l0 x5_1).f1.f5).toList) == (((rd_T39 l1 x5_1).f1.f5).toList)) || (!((((rd_T39 l0 x5_1).f1.f6).toList) == (((rd_T39 l1 x5_1).f1.f6).toList)) || (!(((rd_T39 l0 x5_1).f1.f7) == ((rd_T39 l1 x5_1).f1.f7)) || (!(((rd_T39 l0 x5_1).f1.f8) == ((rd_T39 l1 x5_1).f1.f8)) || (!((((rd_T39 l0 x5_1).f1.f9).toList) == (((rd_T39 l1 x5_1).f1.f9).toList))))))))))))))=true:=c7
        clear c7
        obtain rfl:=Option.some.inj H
        have p814:0≤(x5_1:Int):=of_decide_eq_true (by first|(with_reducible assumption)|assumption)
        have q814:x5_1<(l0.length:Int):=of_decide_eq_true (by first|(with_reducible assumption)|assumption)
        obtain ⟨ad814,e814,hx814_0,hx814_1,hx814_2,hx814_3,hx814_4,hx814_5,hx814_6,hx814_7,hx814_8,hx814_9,hx814_10⟩:=at_T39 HR0.out x5_1 p814 q814
        cases e814
        replace p814:=eq_true p814
        replace q814:=eq_true q814
        have p815:0≤(x5_1:Int):=of_decide_eq_true (by first|(with_reducible assumption)|assumption)
        have q815:x5_1<(l1.length:Int):=of_decide_eq_true (by first|(with_reducible assumption)|assumption)
        obtain ⟨ad815,e815,hx815_0,hx815_1,hx815_2,hx815_3,hx815_4,hx815_5,hx815_6,hx815_7,hx815_8,hx815_9,hx815_10⟩:=at_T39 HR1.out x5_1 p815 q815
        cases e815
        replace p815:=eq_true p815
        replace q815:=eq_true q815
        go_wp2
        repeat (go_quiet (fail);try go_wp2)
        go_ret
        exact ⟨by first|rfl|(simp;done)|(simp [*];done),by repeat (first|exact Drawn0.refl _|apply Drawn0.step)⟩
       ·rw [if_neg c7] at H
        have c7b0:(!((((rd_T39 l0 x5_1).f0).toList) == (((rd_T39 l1 x5_1).f0).toList)) || ((!(((rd_T39 l0 x5_1).f1.f0) == ((rd_T39 l1 x5_1).f1.f0)) || (!(((rd_T39 l0 x5_1).f1.f1) == ((rd_T39 l1 x5_1).f1.f1)) || (!(((rd_T39 l0 x5_1).f1.f2) == ((rd_T39 l1 x5_1).f1.f2)) || (!(((rd_T39 l0 x5_1).f1.f3) == ((rd_T39 l1 x5_1).f1.f3)) || (!(((rd_T39 l0 x5_1).f1.f4) == ((rd_T39 l1 x5_1).f1.f4)) || (!((((rd_T39 l0 x5_1).f1.f5).toList) == (((rd_T39 l1 x5_1).f1.f5).toList)) || (!((((rd_T39 l0 x5_1).f1.f6).toList) == (((rd_T39 l1 x5_1).f1.f6).toList)) || (!(((rd_T39 l0 x5_1).f1.f7) == ((rd_T39 l1 x5_1).f1.f7)) || (!(((rd_T39 l0 x5_1).f1.f8) == ((rd_T39 l1 x5_1).f1.f8)) || (!((((rd_T39 l0 x5_1).f1.f9).toList) == (((rd_T39 l1 x5_1).f1.f9).toList))))))))))))))=false:=by simpa using c7
        clear c7
        have H':=Aside0.mk H
        clear H
        have p814:0≤(x5_1:Int):=of_decide_eq_true (by first|(with_reducible assumption)|assumption)
        have q814:x5_1<(l0.length:Int):=of_decide_eq_true (by first|(with_reducible assumption)|assumption)
        obtain ⟨ad814,e814,hx814_0,hx814_1,hx814_2,hx814_3,hx814_4,hx814_5,hx814_6,hx814_7,hx814_8,hx814_9,hx814_10⟩:=at_T39 HR0.out x5_1 p814 q814
        cases e814
        replace p814:=eq_true p814
        replace q814:=eq_true q814
        have p815:0≤(x5_1:Int):=of_decide_eq_true (by first|(with_reducible assumption)|assumption)
        have q815:x5_1<(l1.length:Int):=of_decide_eq_true (by first|(with_reducible assumption)|assumption)
        obtain ⟨ad815,e815,hx815_0,hx815_1,hx815_2,hx815_3,hx815_4,hx815_5,hx815_6,hx815_7,hx815_8,hx815_9,hx815_10⟩:=at_T39 HR1.out x5_1 p815 q815
        cases e815
        replace p815:=eq_true p815
        replace q815:=eq_true q815
        go_wp2
        repeat (go_quiet (fail);try go_wp2)
        go_roundg k1
        case measure=>have:=HK1.out;omega
        case rel=>exact ⟨(wrap64 (x5_1 + 1)),(by first|rfl|(simp;done)|(simp [*];done)),H',⟨by have:=HK1.out;omega⟩,by repeat (first|exact Drawn0.refl _|apply Drawn0.step)⟩
      ·rw [if_neg c6] at H
       exact absurd H (by simp)
     ·rw [if_neg c5] at H
      exact absurd H (by simp)
    ·rw [if_neg c4] at H
     have c4b0:decide (x5_1<(l0.length:Int))=false:=decide_eq_false c4
     clear c4
     obtain rfl:=Option.some.inj H
     go_wp2
     repeat (go_quiet (fail);try go_wp2)
     go_ret
     exact ⟨by first|rfl|(simp;done)|(simp [*];done),by repeat (first|exact Drawn0.refl _|apply Drawn0.step)⟩
 ·rw [if_neg c3] at H
  have c3b0:((l0.length:Int) == (l1.length:Int))=false:=beq_eq_false_iff_ne.mpr c3
  have c3b1:((l0.length:Int) != (l1.length:Int))=true:=bne_iff_ne.mpr c3
  have c3b2:(l0.length == l1.length)=false:=by first|simpa using c3|(simp at c3 ⊢;omega)
  obtain rfl:=Option.some.inj H
  go_enter Tryz.func21,Tryz.ntmps21
  go_wp2
  repeat (go_quiet (fail);try go_wp2)
  go_ret
  exact ⟨by first|rfl|(simp;done)|(simp [*];done),by repeat (first|exact Drawn0.refl _|apply Drawn0.step)⟩
end Go.Proofs.YtdacflloaehjeaaGreatDoorQ
end
section
namespace Go.Proofs.YtdacflloaehjeaaGreatDoorQ
open Go.RowKit Go.Proofs.YtdacflloaehjeaaGreatDoor Go.Proofs.YtdacflloaehjeaaGreatDoorW.PrintWords Go.Proofs.YtdacflloaehjeaaGreatDoorW.PrintLast Go.Proofs.YtdacflloaehjeaaGreatDoorW.PrintMore
open Go.Proofs.YtdacflloaehjeaaGreatDoorT (applyM rightT rightC Ch getL)
theorem w64 {x:Int} (h0 : -9223372036854775808≤x) (h1:x≤9223372036854775807):wrap64 x=x:=wrap_in h0 h1
theorem rdE {l:List S39} {i:Nat} (h:i<l.length):rd_T39 l (i:Int)=l[i]:=by
  unfold rd_T39
  rw [show ((i:Nat):Int).toNat=i from rfl,List.getD_eq_getElem?_getD,List.getElem?_eq_getElem h];rfl
theorem rdC {l:List S59} {i:Nat} (h:i<l.length):rd_T59 l (i:Int)=l[i]:=by
  unfold rd_T59
  rw [show ((i:Nat):Int).toNat=i from rfl,List.getD_eq_getElem?_getD,List.getElem?_eq_getElem h];rfl
def chTot (x:S59):Nat:=x.f0.size + x.f2.f5.size + x.f2.f6.size + x.f2.f9.size
def SzC (l:List S59):Prop:=∀ x ∈ l,chTot x≤562949953404928
def totC (l:List S59):Nat:=(l.map chTot).sum
theorem totC_snoc (l:List S59) (x:S59):totC (l ++ [x])=totC l + chTot x:=by simp [totC]
theorem totC_mem:∀ (l:List S59) {x:S59},x ∈ l→chTot x≤totC l
  | y :: r,x,h=>by
    have e:totC (y :: r)=chTot y + totC r:=by simp [totC]
    rcases List.mem_cons.1 h with h|h
    · rw [e,h];omega
    · have:=totC_mem r h;omega
theorem few16_l (l:List S59) (hs:SzC l) (hn:l.length≤1000000000000000):∀ d i (z:Int),i + d=l.length→(i≤30→∃ s:Nat,z=(s:Int)∧s=totC (l.take i)∧s≤i * 562949953404928) →
    ∃ b,Ev (fun k=>onionskinlaw16_Few.l0 k l z i) b∧(b=true→l.length≤30∧totC l≤6000):=by
  intro d
  induction d with
  | zero =>
    intro i z hi hz
    refine ⟨decide (l.length≤30∧z≤6000),Ev.step (f:=fun _=>some (decide (l.length≤30∧z≤6000))) (fun k=>?_) (Ev.now _),fun hb=>?_⟩
    · simp only [onionskinlaw16_Few.l0]
      rw [if_neg (by omega)]
      by_cases h:l.length≤30
      · rw [if_pos (by omega)];simp [h]
      · rw [if_neg (by omega)];simp [h]
    · have hb:=of_decide_eq_true hb
      obtain ⟨s,h1,h2,_⟩:=hz (by omega)
      rw [List.take_of_length_le (by omega)] at h2
      exact ⟨hb.1,by omega⟩
  | succ d ih =>
    intro i z hi hz
    have hlt:i<l.length:=by omega
    obtain ⟨z',hz'⟩:∃ z',z'=(wrap64 ((wrap64 ((wrap64 ((wrap64 (z + (((rd_T59 l i).f0).size:Int))) + (((rd_T59 l i).f2.f5).size:Int))) + (((rd_T59 l i).f2.f6).size:Int))) + (((rd_T59 l i).f2.f9).size:Int))):=⟨_,rfl⟩
    obtain ⟨b,e,hb⟩:=ih (i + 1) z' (by omega) (fun h30=>by
      obtain ⟨s,h1,h2,h3⟩:=hz (by omega)
      have hx:=hs _ (List.getElem_mem hlt)
      refine ⟨s + chTot l[i],?_,?_,by omega⟩
      · rw [hz',rdC hlt]
        unfold chTot at hx ⊢
        rw [w64 (x:=z + (l[i].f0.size:Int)) (by omega) (by omega),w64 (x:=z + (l[i].f0.size:Int) + (l[i].f2.f5.size:Int)) (by omega) (by omega),w64 (x:=z + (l[i].f0.size:Int) + (l[i].f2.f5.size:Int) + (l[i].f2.f6.size:Int)) (by omega) (by omega),w64 (by omega) (by omega)]
        omega
      · rw [List.take_succ_eq_append_getElem hlt,totC_snoc,h2])
    refine ⟨b,Ev.step (fun k=>?_) e,hb⟩
    simp only [onionskinlaw16_Few.l0]
    rw [if_pos (by omega),if_pos (by omega),← hz',w64 (by omega) (by omega)]
    rfl
theorem few16_ev (l:List S59) (hs:SzC l) (hn:l.length≤1000000000000000):∃ b,Ev (fun k=>onionskinlaw16_Few.f k l) b∧(b=true→l.length≤30∧totC l≤6000) :=
  few16_l l hs hn l.length 0 0 (by omega) (fun _=>⟨0,rfl,by simp [totC],by omega⟩)
theorem fitsC_of {l:List S59} (h:l.length≤30∧totC l≤6000):lyrFits' l:=by
  refine ⟨?_,by omega⟩
  unfold lyrFits
  rw [List.all_eq_true]
  intro x hx
  obtain ⟨y,hy,rfl⟩:=List.mem_map.1 hx
  have:=totC_mem l hy
  unfold chTot at this
  have e1:(chOf y).path.length=y.f0.size:=by show y.f0.data.toList.length=_;rw [Array.length_toList];rfl
  have e2:(chOf y).node.attrs.length=y.f2.f9.size:=by show y.f2.f9.data.toList.length=_;rw [Array.length_toList];rfl
  unfold ndFits
  rw [e1,e2]
  simp;omega
theorem ba_eq (a b:ByteArray):(a.toList == b.toList)=decide (a=b):=by
  rw [Bool.eq_iff_iff,beq_iff_eq,decide_eq_true_eq]
  constructor
  · intro h
    rw [ByteArray.toList_eq,ByteArray.toList_eq] at h
    obtain ⟨x⟩:=a;obtain ⟨y⟩:=b
    congr 1
    exact Array.toList_inj.1 h
  · rintro rfl;rfl
theorem same_l (a b:List S39) (hl:a.length=b.length) (hn:a.length≤1000000000000000) (d0:Bool) (hd0:d0=true↔a=b):∀ d i,i + d=a.length→a.take i=b.take i→Ev (fun k=>onionskinref08_Same.l0 k a b i) d0:=by
  intro d
  induction d with
  | zero =>
    intro i hi ht
    have:a=b:=by rwa [List.take_of_length_le (by omega),List.take_of_length_le (by omega)] at ht
    rw [hd0.2 this]
    refine Ev.step (f:=fun _=>some true) (fun k=>?_) (Ev.now _)
    simp only [onionskinref08_Same.l0];rw [if_neg (by omega)]
  | succ d ih =>
    intro i hi ht
    have h1:i<a.length:=by omega
    have h2:i<b.length:=by omega
    by_cases he:a[i]=b[i]
    · refine Ev.step (fun k=>?_) (ih (i + 1) (by omega) (by rw [List.take_succ_eq_append_getElem h1,List.take_succ_eq_append_getElem h2,ht,he]))
      simp only [onionskinref08_Same.l0,ba_eq]
      rw [rdE h1,rdE h2,he,if_pos (by omega),if_pos (by omega),if_pos (by omega),if_neg (by simp),w64 (by omega) (by omega)]
      rfl
    · have hne:d0=false:=by
        cases hd:d0 with
        | false=>rfl
        | true =>
          have:=hd0.1 hd
          subst this
          exact absurd rfl he
      rw [hne]
      refine Ev.step (f:=fun _=>some false) (fun k=>?_) (Ev.now _)
      simp only [onionskinref08_Same.l0,ba_eq]
      rw [rdE h1,rdE h2,if_pos (by omega),if_pos (by omega),if_pos (by omega),if_pos ?_]
      generalize a[i]=x at he
      generalize b[i]=y at he
      obtain ⟨x0,x1,x2,x3,x4,x5,x6,x7,x8,x9,x10⟩:=x
      obtain ⟨y0,y1,y2,y3,y4,y5,y6,y7,y8,y9,y10⟩:=y
      apply Classical.byContradiction
      intro hc
      apply he
      simp at hc
      obtain ⟨q0,q1,q2,q3,q4,q5,q6,q7,q8,q9,q10⟩:=hc
      subst q0;subst q1;subst q2;subst q3;subst q4;subst q5;subst q6;subst q7;subst q8;subst q9;subst q10
      rfl
theorem same_ev (a b:List S39) (hn:a.length≤1000000000000000) {d0:Bool} (hd0:d0=true↔a=b):Ev (fun k=>onionskinref08_Same.f k a b) d0:=by
  unfold onionskinref08_Same.f
  by_cases hl:a.length=b.length
  · refine Ev.congr (fun k=>?_) (same_l a b hl hn d0 hd0 a.length 0 (by omega) rfl)
    rw [if_pos (by omega)];rfl
  · have hne:d0=false:=by
      cases hd:d0 with
      | false=>rfl
      | true=>exact absurd (by rw [hd0.1 hd]) hl
    rw [hne]
    exact Ev.congr (fun k=>by rw [if_neg (by omega)]) (Ev.now _)
theorem fit_len {a:List (Str×Nd)} {t:List (Str×Nd)} {l:List (Ch Str Nd)} (h:applyM Y t l=(a,0)):a.length≤5000:=by
  obtain ⟨_,_,ha,_⟩:=YtdacflloaehjeaaGreatDoorT.applyM_ok Y h
  exact ha.len
theorem fit_apply {t:List (Str×Nd)} {l:List (Ch Str Nd)} {a:List (Str×Nd)} (h:applyM Y t l=(a,0)) (ht:rowFits t=true) (hl:lyrFits l=true):rowFits a=true:=by
  obtain ⟨_,_,ha,_⟩:=YtdacflloaehjeaaGreatDoorT.applyM_ok Y h
  unfold rowFits
  rw [List.all_eq_true]
  intro x hx
  have hg:=ha.srt.get (n:=x.2) hx
  have hv:=ha.srt.v x hx
  have hp:=isM_short hv
  have hn:ndFits x.2=true:=by
    by_cases hc:∃ c ∈ l,c.op=0∧c.path=x.1
    · obtain ⟨c,hc,h0,hcp⟩:=hc
      have:=YtdacflloaehjeaaGreatDoorT.stays_put h hc h0
      rw [hcp,hg] at this
      rw [Option.some.inj this]
      exact (lyr_get hl hc).2
    · have:=YtdacflloaehjeaaGreatDoorT.stays_had h hg (fun c hc' h=>hc ⟨c,hc',h⟩)
      have hm:=YtdacflloaehjeaaGreatDoorT.getL_mem this
      have:=List.all_eq_true.1 ht _ hm
      simp at this
      exact this.2
  simp [hn];exact hp
end Go.Proofs.YtdacflloaehjeaaGreatDoorQ
end
section
namespace Go.Proofs.YtdacflloaehjeaaGreatDoorQ
open Go.ChangeShapes Go.WideShapes Go.ChangeAt Go.RowKit Go.WideElems Go.Proofs.YtdacflloaehjeaaGreatDoor Go.Proofs.YtdacflloaehjeaaGreatDoorW.PrintWords
section
variable {H:Type} {enc:TypeId×Value→H} {W:World} {base:Nat}
theorem weighs {ts:List TypeId} {ds:List (DataW H)} (h:(DataW.weightsEach Tryz.prog ts ds).all (·≤reachBytes)=true) (j:Nat) {t:TypeId} {d:DataW H} (ht:ts[j]?=some t) (hd:ds[j]?=some d):∀ n ∈ d.weights Tryz.prog t,n≤reachBytes:=fun n hn=>by
  have:=List.all_eq_true.1 h n (DataW.weights_mem_each ht hd n hn)
  simpa using this
theorem rowAt_map {α β:Type} {cells:β→List Value} {f:α→β} {k:Nat} {w:World} {a:Option Addr} {l:List α} (h:RowAt (fun x=>cells (f x)) k w a l):RowAt cells k w a (l.map f):=by
  intro i y hy
  rw [List.getElem?_map] at hy
  cases hx:l[i]? with
  | none=>rw [hx] at hy;cases hy
  | some x =>
    rw [hx] at hy
    cases hy
    exact h i x hx
instance:Inhabited S39:=⟨z39⟩
instance:Inhabited S59:=⟨z59⟩
theorem reach_is:reachBytes=140737488351232:=by decide
end
end Go.Proofs.YtdacflloaehjeaaGreatDoorQ
end
section
namespace Go.Proofs.YtdacflloaehjeaaGreatDoorQ
open Go.RowKit Go.Proofs.YtdacflloaehjeaaGreatDoor
variable {F:Fence} {n:Nat} {P:Program}
abbrev Rec (fn:FuncId) (tmps:Array Value) (ps:Array Tmp) (assign body:Code) (D:Nat) (st:LoopState) (pe:Option Code):Loop:={ state:=st,pending:=pe,fn,tmps,params:=ps,assign,body,defers:=D }
def RecAt (L D:Nat) (r:Loop) (W:World):Prop:=W.heap[L]?=some (.loop r)∧W.heap[D]?=some (.deferred (some []))
theorem range_mem {g:Operand} {ps:Array Tmp} {assign body:Code} {Q:Exit→Act→World→Prop} {a:Act} {w:World}
    (hro:F.round=none) (h1:1≤n) {gf:Nat} {lb:Array Value} (hg:a.eval g=.func (.func gf) #[] lb) (hFg:F.fn gf) (eg:∀ args w,(callFunc gf args).run P w=.ok (.enter gf args) w)
    (Out:Option Code→World→Prop)
    (hit:∀ fn,F.fn fn→∀ W1,W1=(w.alloc (.deferred (some []))).alloc (.loop (Rec fn a.tmps ps assign body w.heap.size .ready none))→RecAt (w.heap.size + 1) w.heap.size (Rec fn a.tmps ps assign body w.heap.size .ready none) W1 →
      CallsIn F (n - 1) P gf (#[.func (.yield (w.heap.size + 1)) #[] #[]] ++ lb) W1 fun e W'=>(∃ v,e=.returned v)∧∃ st pe,st≠.busy∧RecAt (w.heap.size + 1) w.heap.size (Rec fn a.tmps ps assign body w.heap.size st pe) W'∧Out pe W')
    (hdone:∀ W o,Out none W→W.heap[w.heap.size + 1]?=some (.loop o)→∀ o',W.heap[w.heap.size]?=some (.deferred (some []))→Q .normal { a with defers:={ target:=.collected w.heap.size,args:=#[] } :: a.defers } (W.putObj (w.heap.size + 1) (.loop o')))
    (hstop:∀ c W o,Out (some c) W→W.heap[w.heap.size + 1]?=some (.loop o)→∀ o',W.heap[w.heap.size]?=some (.deferred (some []))→c.wpIn F n P Q { a with defers:={ target:=.collected w.heap.size,args:=#[] } :: a.defers } (W.putObj (w.heap.size + 1) (.loop o'))) :
    (Code.rangeFunc g ps assign body).wpIn F n P Q a w:=by
  refine wpIn_rangeFunc fun fn hfn=>?_
  rw [hro]
  obtain ⟨W1,hW1⟩:∃ W1,W1=(w.alloc (.deferred (some []))).alloc (.loop (Rec fn a.tmps ps assign body w.heap.size .ready none)):=⟨_,rfl⟩
  have hL:W1.heap[w.heap.size + 1]?=some (.loop (Rec fn a.tmps ps assign body w.heap.size .ready none)):=by
    rw [hW1];have h:=World.alloc_heap_new (w.alloc (.deferred (some []))) (.loop (Rec fn a.tmps ps assign body w.heap.size .ready none));rwa [World.size_alloc] at h
  have hD:W1.heap[w.heap.size]?=some (.deferred (some [])):=by
    rw [hW1];exact (Below.heap_alloc _ _ _ (by simp)).trans (World.alloc_heap_new w _)
  refine ⟨w.heap.size + 1,[{ target:=.collected w.heap.size,args:=#[] }],W1,{ target:=.fn (.func gf) lb,args:=#[.func (.yield (w.heap.size + 1)) #[] #[]] },W1,gf,
    #[.func (.yield (w.heap.size + 1)) #[] #[]] ++ lb,W1,?_,?_,?_,?_,fun _=>h1,?_⟩
  · rw [hW1];exact run_enterLoop_outer _ _ _ _ _
  · simp only [resolve,hg]
    simp [go_sem]
  · intro f' hf';simp [Target.leads] at hf';subst hf';exact hFg
  · simp [invoke,go_sem,eg]
  · refine (hit fn hfn W1 hW1 ⟨hL,hD⟩).mono ?_
    rintro e W2 ⟨⟨v,rfl⟩,st,pe,hst,⟨hl,hd⟩,ho⟩
    refine ⟨pe,_,run_endLoop (P:=P) hl hst,?_⟩
    cases pe with
    | none=>exact hdone _ _ ho hl _ hd
    | some c=>exact hstop c _ _ ho hl _ hd
def roundOut (L D:Nat) (r:Loop) (G:World→Prop) (X:Code→World→Prop):Exit→Act→World→Prop
  | .normal,_,W=>RecAt L D r W∧G W
  | .ret,_,W=>RecAt L D r W∧X .ret W
  | .exit id,_,W=>RecAt L D r W∧X (.exit id) W
  | .goto t,_,W=>RecAt L D r W∧X (.goto t) W
  | .panic _,_,_=>False
  | .outgrown,_,_=>False
theorem yield_mem {fn:FuncId} {tmps:Array Value} {ps:Array Tmp} {assign body:Code} {L D:Nat} {args:Array Value} {W:World} {m:Nat} (hLD:L≠D) (hF:F.fn fn)
    (hr:RecAt L D (Rec fn tmps ps assign body D .ready none) W) (hps:args.size=ps.size) (G:World→Prop) (X:Code→World→Prop)
    (hround:assign.wpIn (F.inRound L) m P (Exit.then (fun a₁ W₁=>RecAt L D (Rec fn tmps ps assign body D .ready none) W₁∧∀ W2,Hid (W2=W₁.putObj L (.loop (Rec fn tmps ps assign body D .busy none)))→Hid (RecAt L D (Rec fn tmps ps assign body D .busy none) W2) →
      body.wpIn (F.inRound L) m P (roundOut L D (Rec fn tmps ps assign body D .busy none) G X) a₁ W2) (fun _ _ _=>False)) { tmps:=(ps.zip args).foldl (fun t (p,v)=>t.setIfInBounds p v) tmps,defers:=[] } W) :
    YieldAt F m P L args W fun e W' =>
      (e=.returned (.bool true)∧RecAt L D (Rec fn tmps ps assign body D .ready none) W'∧∃ W3,W'=W3.putObj L (.loop (Rec fn tmps ps assign body D .ready none))∧RecAt L D (Rec fn tmps ps assign body D .busy none) W3∧G W3) ∨
      (e=.returned (.bool false)∧∃ c,RecAt L D (Rec fn tmps ps assign body D .done (some c)) W'∧∃ W3,W'=W3.putObj L (.loop (Rec fn tmps ps assign body D .done (some c)))∧RecAt L D (Rec fn tmps ps assign body D .busy none) W3∧X c W3):=by
  obtain ⟨hl,hd⟩:=hr
  have put:∀ {V:World} {r:Loop},RecAt L D r V→∀ r',RecAt L D r' (V.putObj L (.loop r')):=fun h r' =>
    ⟨World.putObj_heap_same (Array.getElem?_eq_some_iff.1 h.1).1,(World.putObj_heap_other (Ne.symm hLD)).trans h.2⟩
  refine ⟨fn,_,assign,body,run_yield (P:=P) (args:=args) hl hps,roundIn_of_wpIn hF (wpIn_mono hround ?_)⟩
  rintro e a₁ W₁ hp
  cases e with
  | normal =>
    obtain ⟨hr1,hb⟩:=hp
    refine ⟨_,run_beginRound hr1.1 rfl,wpIn_mono (hb _ (Lib.hid rfl) (Lib.hid (put hr1 _))) ?_⟩
    rintro e a3 W3 hp
    cases e with
    | normal=>exact ⟨_,_,run_endRound (P:=P) none hp.1.1,.inl ⟨rfl,put hp.1 _,W3,rfl,hp.1,hp.2⟩⟩
    | ret=>exact ⟨_,_,run_endRound (P:=P) (some .ret) hp.1.1,.inr ⟨rfl,.ret,put hp.1 _,W3,rfl,hp.1,hp.2⟩⟩
    | exit id=>exact ⟨_,_,run_endRound (P:=P) (some (.exit id)) hp.1.1,.inr ⟨rfl,.exit id,put hp.1 _,W3,rfl,hp.1,hp.2⟩⟩
    | goto t=>exact ⟨_,_,run_endRound (P:=P) (some (.goto t)) hp.1.1,.inr ⟨rfl,.goto t,put hp.1 _,W3,rfl,hp.1,hp.2⟩⟩
    | panic ch=>exact hp.elim
    | outgrown=>exact hp.elim
  | ret=>exact hp.elim
  | exit id=>exact hp.elim
  | goto t=>exact hp.elim
  | panic ch=>exact hp.elim
  | outgrown=>exact hp.elim
end Go.Proofs.YtdacflloaehjeaaGreatDoorQ
end
section
namespace Go.Proofs.YtdacflloaehjeaaGreatDoorQ
open Go.RowKit Go.WideMaps Go.Maps Go.Proofs.YtdacflloaehjeaaGreatDoor Go.Proofs.YtdacflloaehjeaaGreatDoorW.PrintWords Go.Proofs.YtdacflloaehjeaaGreatDoorW.PrintLast Go.Proofs.YtdacflloaehjeaaGreatDoorW.PrintMore
theorem wpList_append_lies {α:Type} {P:Program} {enc:α→List Value} {w:World} {ops:Array Oper} {rest:List Oper} {o:Oper} {a:Act} {Q:Exit→Act→World→Prop} (hw:Region.wanted o (yielded ops a.tmps)=true) (s x:Operand) (t:TypeId)
    (ho:o.op=.call { callee:=.builtin .append,args:=#[s,x],argTypes:=#[t,t] })
    (base T k bytes:Nat) (i:TypeInfo) (z:Value) (ht:P.underlying t=some (.slice T)) (hi:P.info? T=some i) (hz:i.zero=some z)
    (hsize:i.size=k) (hby:i.bytes=bytes) (hzs:z.cells.size=k) (hsz:0<k) (hk:∀ x,(enc x).length=k) (h1:∀ x,∀ u ∈ enc x,u.oneCell'=true)
    (v:Value) (l:List α) (hs:a.eval s=v) (hown:Owr enc T k base w v l) (ad:Addr) (n c:Nat) (m:List α) (hx:a.eval x=.slice (some ad) n c) (hnm:n=m.length) (hr:LiesAt w ad (flat enc m))
    (h63:l.length + m.length≤maxLen) (hbytes:(l.length + m.length) * bytes≤140737488355328) (hbase:base≤w.heap.size)
    (h:∀ v' w',Owr enc T k base w' v' (l ++ m)→w.grownBy w' v.ownBlock→wpList P ops Q rest (a.put o.dst v') w'):wpList P ops Q (o :: rest) a w:=by
  subst hnm
  obtain ⟨v',w',hrun,h2,h3,_⟩:=run_append_own (P:=P) w base t o.type T i z k bytes ht hi hz hsize hby hzs hsz v l.length (flat enc l) hown ad m.length c (flat enc m) (flat_length hk m) hr (fun u hu=>by
    obtain ⟨x,_,hx⟩:=List.mem_flatMap.1 hu
    exact h1 x u hx) h63 hbytes hbase
  unfold wpList
  rw [if_pos hw]
  refine Or.inl ?_
  unfold Oper.wp execOp
  simp only [ho,resolve,invoke,builtin,Sem.run_bind,Sem.run_pure,Result.andThen_ok,List.map_toArray,List.map_cons,List.map_nil,hs,hx,hrun]
  refine h v' w' ?_ h3
  unfold Owr
  rw [flat_append,List.length_append]
  exact h2
theorem en_flat {w:World} {ad:Addr} {l:List S39} (h:Kd.C k39 w (some ad) l.length l):LiesAt w ad (flat eCells (l.map enOf)):=fun j u hu=>by
  obtain ⟨i,jj,x,h1,h2,rfl⟩:=flat_get eCells_len _ j u hu
  rw [List.getElem?_map] at h1
  have hi:i<l.length:=by
    apply Classical.byContradiction
    intro hn
    rw [List.getElem?_eq_none (by omega)] at h1
    simp at h1
  rw [List.getElem?_eq_getElem hi] at h1
  obtain rfl:=Option.some.inj h1
  obtain ⟨ad',h3,h4⟩:=e_at h i hi
  obtain rfl:=Option.some.inj h3
  have:=h4 jj u h2
  rwa [Addr.add_add] at this
set_option maxRecDepth 100000 in
theorem clone_en_calls (w:World) (A:Option Addr) (c:Nat) (l:List S39) (hr:Kd.C k39 w A l.length l) (hl:l.length≤1000000) :
    Calls Tryz.prog 68 #[.slice A l.length c] w fun e w'=>∃ v,e=.returned v∧Owr eCells 39 11 w.heap.size w' v (l.map enOf)∧Below w.heap.size w w':=by
  have HR:=Lib.hid hr
  have HL:=Lib.hid hl
  have hu:=Tryz.underlying22
  obtain ⟨i0,hi,hz0,hz1,hz2⟩:=info_parts info_en
  have HI:=Lib.hid hi
  have HZ0:=Lib.hid hz0
  have HZ1:=Lib.hid hz1
  have HZ2:=Lib.hid hz2
  clear hr hl hi hz0 hz1 hz2
  cases A with
  | none =>
    have hnil:l=[]:=by
      cases l with
      | nil=>rfl
      | cons x r=>obtain ⟨ad,h,_⟩:=e_at HR.out 0 (by simp);cases h
    subst hnil
    go_enter Tryz.func68,Tryz.ntmps68
    have q:=fun (w:World) (a:Option Addr) (n c n' c':Nat)=>Go.Lib.run_eql_slice_nil (P:=Tryz.prog) w 22 _ a n c n' c' hu
    go_wp2_with fail
    go_ret
    exact ⟨_,rfl,Owr.nil _ _ _ _ _,Below.refl _ _⟩
  | some ad =>
    have HFL:=Lib.hid (en_flat HR.out)
    go_enter Tryz.func68,Tryz.ntmps68
    have q:=fun (w:World) (a:Option Addr) (n c n' c':Nat)=>Go.Lib.run_eql_slice_nil (P:=Tryz.prog) w 22 _ a n c n' c' hu
    go_wp2_with (at_builtin;refine wpList_append_lies (by rfl) _ _ 22 rfl w.heap.size 39 11 120 i0 (.agg enZero) hu HI.out HZ0.out HZ1.out HZ2.out rfl (by decide) eCells_len eCells_one _ [] rfl (own_empty eCells 11 w.heap.size w (Nat.le_refl _)) ad l.length c (l.map enOf) rfl (by simp) (HFL.out.below (Go.Proofs.YtdacflloaehjeaaGreatDoor.below_new _ _)) ?c1 ?c2 ?c3 ?_)
    case c1=>have:=HL.out;unfold maxLen;simp;omega
    case c2=>have:=HL.out;simp;omega
    case c3=>simp
    intro v' w' ho hg
    have HO:=Lib.hid ho
    have HB:Hid (Below w.heap.size w w'):=Lib.hid (((Below.refl w.heap.size w).alloc (Nat.le_refl _) _).grown hg (by simp) (fun j hj=>by simp [Value.ownBlock] at hj;omega))
    clear ho hg
    go_wp2
    go_ret
    exact ⟨_,rfl,by simpa using HO.out,HB.out⟩
end Go.Proofs.YtdacflloaehjeaaGreatDoorQ
end
section
namespace Go.Proofs.YtdacflloaehjeaaGreatDoorQ
open Go.RowKit Go.Shelf Go.Proofs.YtdacflloaehjeaaGreatDoor Go.Proofs.YtdacflloaehjeaaGreatDoorW.PrintWords Go.Proofs.YtdacflloaehjeaaGreatDoorW.PrintLast Go.Proofs.YtdacflloaehjeaaGreatDoorW.PrintMore
open Go.Proofs.YtdacflloaehjeaaGreatDoorT (applyM ontoGo ontoM Ch)
theorem s_at {w:World} {A:Option Addr} {xs:List (List S59)} (h:Kd.C (Kd.slice 59 k59) w A xs.length xs) (i:Nat) (hi:i<xs.length) :
    ∃ ad A0 c0,A=some ad∧w.cell? (ad.add i)=some (.slice A0 xs[i].length c0)∧xs[i].length≤c0∧Kd.C k59 w A0 xs[i].length xs[i]:=by
  obtain ⟨ad,c,e,_,hK,hc0⟩:=Kd.C_get h ([]:List S59) (i:Int) (by omega) (by omega)
  have hc:∀ j u,c[j]?=some u→w.cell? (ad.add (i * 1 + j))=some u:=hc0
  have hd:xs.getD ((i:Nat):Int).toNat []=xs[i]:=by
    rw [show ((i:Nat):Int).toNat=i from rfl,List.getD_eq_getElem?_getD,List.getElem?_eq_getElem hi];rfl
  rw [hd] at hK
  obtain ⟨A0,c0,rfl,l0,g0⟩:=hK
  exact ⟨ad,A0,c0,e,by have hq:=hc 0 _ rfl;rwa [Nat.mul_one,Nat.add_zero] at hq,l0,g0⟩
theorem own_C {W:World} {nb:Nat} {v:Value} {l:List (Str×Nd)} (h:Go.Proofs.YtdacflloaehjeaaGreatDoor.Owr eCells 39 11 nb W v l):∃ A c,v=.slice A (l.map ofEn).length c∧(l.map ofEn).length≤c∧Kd.C k39 W A (l.map ofEn).length (l.map ofEn):=by
  have hr:=en_R h
  obtain ⟨A,c,rfl⟩:=Kd.R_slice hr
  exact ⟨A,c,rfl,(Kd.R_reads' hr).2.1,(Kd.R_reads' hr).2.2⟩
theorem own_block {W:World} {nb b:Nat} {v:Value} {l:List (Str×Nd)} (h:Go.Proofs.YtdacflloaehjeaaGreatDoor.Owr eCells 39 11 nb W v l) (hb:b<nb):v.ownBlock=none∨v.ownBlock≠some b:=by
  rcases h.2 with ⟨hv,_⟩|⟨g,cap,cur,hv,hg,_⟩
  · subst hv;exact .inl rfl
  · subst hv
    refine .inr fun h=>?_
    have:g=b:=Option.some.inj h
    omega
theorem own_low {W:World} {nb b:Nat} {v:Value} {l:List (Str×Nd)} (h:Go.Proofs.YtdacflloaehjeaaGreatDoor.Owr eCells 39 11 nb W v l) (hb:b≤nb):Go.Proofs.YtdacflloaehjeaaGreatDoor.Owr eCells 39 11 b W v l:=by
  refine ⟨h.1,?_⟩
  rcases h.2 with h0|⟨g,cap,cur,hv,hg,rest⟩
  · exact .inl h0
  · exact .inr ⟨g,cap,cur,hv,Nat.le_trans hb hg,rest⟩
def TreeIn (i:Nat) (w:World) (nb:Nat) (W:World) (v:Value) (t:List (Str×Nd)):Prop :=
  (i=0∧∃ (A:Option Addr) (c:Nat) (l:List S39),v=.slice A l.length c∧l.length≤c∧Kd.C k39 w A l.length l∧t=l.map enOf)∨Go.Proofs.YtdacflloaehjeaaGreatDoor.Owr eCells 39 11 nb W v t
theorem TreeIn.C {i:Nat} {w W:World} {nb:Nat} {v:Value} {t:List (Str×Nd)} (h:TreeIn i w nb W v t) (hb:Below w.heap.size w W) :
    ∃ A c,v=.slice A (t.map ofEn).length c∧(t.map ofEn).length≤c∧Kd.C k39 W A (t.map ofEn).length (t.map ofEn):=by
  rcases h with ⟨_,A,c,l,rfl,hc,hr,rfl⟩|h
  · rw [ens_forth]
    exact ⟨A,c,rfl,hc,Kd.C_below hr hb⟩
  · exact own_C h
theorem TreeIn.kept {i:Nat} {w W W':World} {nb b:Nat} {v:Value} {t:List (Str×Nd)} (h:TreeIn i w nb W v t) (hg:W.grownBy W' (some b)) (hb:b<nb):TreeIn i w nb W' v t:=by
  rcases h with h|h
  · exact .inl h
  · exact .inr (h.kept hg (own_block h hb))
theorem TreeIn.ext {i:Nat} {w W W':World} {nb:Nat} {v:Value} {t:List (Str×Nd)} (h:TreeIn i w nb W v t) (hb:Below W.heap.size W W'):TreeIn i w nb W' v t:=by
  rcases h with h|h
  · exact .inl h
  · exact .inr (h.ext hb)
attribute [local go_sem] Oper.semAt_some
set_option maxRecDepth 100000 in
set_option maxHeartbeats 4000000 in
theorem steps1_in (m:Nat) (w:World) (hG:GL w) (A1:Option Addr) (c1:Nat) (s:List (List S59)) (hS:Kd.C (Kd.slice 59 k59) w A1 s.length s) (hs:s.length≤1000000) (hf:∀ l ∈ s,lyrFits' l)
    (sb tb nb L:Nat) (htb:w.heap.size≤tb) (hsn:sb<nb) (htn:tb<nb) (hne:sb≠tb)
    (X:Nat→List (Str×Nd)→Value→World→Prop) (Xe:Nat→Int→World→Prop)
    (hX:∀ i t v W u,X i t v W→nb≤W.heap.size→X i t v (W.setCell ⟨tb,0,none⟩ u))
    (hY : ∀ (i:Nat) (t:List (Str×Nd)) (v:Value) (W W1:World) (x:Value) (rows:List (Str×Nd)) (err:Int) (hi:i<s.length),applyM Y t (s[i].map chOf)=(rows,err)→X i t v W→nb≤W.heap.size→Below w.heap.size w W1→Below W.heap.size W W1→Go.Proofs.YtdacflloaehjeaaGreatDoor.Owr eCells 39 11 nb W1 x rows →
      YieldAt Fence.wide m Tryz.prog L #[.int .i64 i,.agg #[x,.int .i64 err]] W1 fun e W' =>
        (W'.cell? ⟨sb,0,none⟩=W1.cell? ⟨sb,0,none⟩∧W'.heap[tb]?=W1.heap[tb]?∧Go.Proofs.YtdacflloaehjeaaGreatDoor.Owr eCells 39 11 nb W' x rows∧Below w.heap.size w W'∧nb≤W'.heap.size) ∧
        ((e=.returned (.bool true)∧(err=0→X (i + 1) rows x W')∧(err≠0→Xe i err W'))∨(e=.returned (.bool false)∧err≠0∧Xe i err W')))
    (W:World) (t0:List (Str×Nd)) (v0:Value) (h0:X 0 t0 v0 W) (hv0:TreeIn 0 w nb W v0 t0) (hft0:rowFits t0=true) (hlt0:t0.length≤1000000) (hWsb:W.cell? ⟨sb,0,none⟩=some (.slice A1 s.length c1))
    (hWtb:W.heap[tb]?=some (.cells #[v0] 22 (0,0))) (hWn:nb≤W.heap.size) (hWb:Below w.heap.size w W) :
    CallsIn Fence.wide (m + 1) Tryz.prog 107 #[.func (.yield L) #[] #[],.pointer (some ⟨sb,0,none⟩),.pointer (some ⟨tb,0,none⟩)] W fun e W'=>(∃ v,e=.returned v)∧Below w.heap.size w W' ∧
      ((∃ x t,ontoGo Y 0 t0 (s.map (List.map chOf))=(t,s.length,0)∧TreeIn s.length w nb W' x t∧rowFits t=true∧X s.length t x W') ∨
       (∃ i err,err≠0∧ontoGo Y 0 t0 (s.map (List.map chOf))=([],i,err)∧Xe i err W')):=by
  have HS:=Lib.hid hS
  have HL:=Lib.hid hs
  have HF:=Lib.hid hf
  have HX:=Lib.hid hX
  have HY:=Lib.hid hY
  have HNE:=Lib.hid hne
  have HTB:=Lib.hid htb
  have HSN:=Lib.hid hsn
  have HTN:=Lib.hid htn
  have HI0:Hid (X 0 t0 v0 W∧TreeIn 0 w nb W v0 t0∧rowFits t0=true∧t0.length≤1000000∧W.cell? ⟨sb,0,none⟩=some (.slice A1 s.length c1)∧W.heap[tb]?=some (.cells #[v0] 22 (0,0))∧nb≤W.heap.size∧Below w.heap.size w W):=Lib.hid ⟨h0,hv0,hft0,hlt0,hWsb,hWtb,hWn,hWb⟩
  clear hS hs hf hX hY hne htb hsn htn h0 hv0 hft0 hlt0 hWtb hWn hWb
  refine callsIn_of_wp Tryz.func107 rfl trivial ?_ rfl
  simp only [Tryz.ntmps107,List.size_toArray,List.length_cons,List.length_nil,Nat.reduceAdd,Nat.reduceSub,Array.replicate_succ,Array.replicate_zero,List.push_toArray,List.append_toArray,List.nil_append,List.cons_append]
  gi_wp2
  gi_loopw [10] (fun p wr=>∃ (i:Nat) (t:List (Str×Nd)) (v:Value),p=.int .i64 i∧Hid (i≤s.length)∧Hid (ontoGo Y 0 t0 (s.map (List.map chOf))=ontoGo Y i t ((s.drop i).map (List.map chOf)))∧Hid (X i t v wr∧TreeIn i w nb wr v t∧rowFits t=true∧t.length≤1000000∧wr.cell? ⟨sb,0,none⟩=some (.slice A1 s.length c1)∧wr.heap[tb]?=some (.cells #[v] 22 (0,0))∧nb≤wr.heap.size∧Below w.heap.size w wr))
    (fun p _=>s.length - (intOf p).toNat)
  case atStart=>exact ⟨0,t0,v0,rfl,Lib.hid (Nat.zero_le _),Lib.hid (by rw [List.drop_zero]),HI0⟩
  case round =>
    clear HI0 hWsb
    obtain ⟨i,t,v,rfl,HII,HO,HI⟩:=hrel
    by_cases hi:i<s.length
    · obtain ⟨h1,h2,h3,h4,h5,h6,h7,h8⟩:=HI.out
      obtain ⟨ads,As,cs,rfl,hsc,hlc,hcc⟩:=s_at HS.out i hi
      obtain ⟨At,ct,hv,hct,hcr⟩:=h2.C h8
      have q0:wr.cell? ⟨tb,0,none⟩=some (.slice At t.length ct):=by rw [Go.Proofs.YtdacflloaehjeaaGreatDoor.blk_cell h6,← List.length_map (f:=ofEn),← hv];rfl
      have q1:wr.cell? (ads.add i)=some (.slice As s[i].length cs):=pw_cell_below h8 hsc
      have hff:=HF.out _ (List.getElem_mem hi)
      obtain ⟨rows,err,hae⟩:∃ rows err,applyM Y t (s[i].map chOf)=(rows,err):=⟨_,_,rfl⟩
      have hcall:=tapply_calls wr (hG.ext h8) At ct (t.map ofEn) hcr hct (by rw [ens_back];exact h3) (by rw [List.length_map];exact h4) As cs s[i] (Kd.C_below hcc h8) hlc hff.1 hff.2
      rw [ens_back,hae,List.length_map] at hcall
      have HCALL:=Lib.hid hcall
      have HAE:=Lib.hid hae
      have hdr:ontoGo Y i t ((s.drop i).map (List.map chOf))=ontoGo Y i t (s[i].map chOf :: (s.drop (i + 1)).map (List.map chOf)):=by rw [List.drop_eq_getElem_cons hi];rfl
      have HDR:=Lib.hid hdr
      have HLF:=Lib.hid hff.1
      have hln:=HL.out
      clear hae hcall hdr hff hsc hcc h2 h3 h4 h6 hct hcr
      clear hv
      gi_wp2_with fail
      refine ⟨trivial,(callsIn_wide.2 HCALL.out).mono ?_⟩
      rintro e w1 ⟨x,rfl,ho,hb⟩
      have hb1:=Go.Proofs.YtdacflloaehjeaaGreatDoor.below_then h8 hb
      obtain ⟨ax,capx,rfl,_,_⟩:=Go.Proofs.YtdacflloaehjeaaGreatDoor.Owr.val ho
      obtain ⟨fn,tmps,assign,body,hy,hR⟩:=HY.out i t v wr w1 _ rows err hi HAE.out h1 h7 hb1 hb (own_low ho h7)
      have HT1:Hid (w1.heap[tb]?=some (.cells #[v] 22 (0,0))):=Lib.hid (blk_below (by obtain ⟨_,_,_,_,_,h,_⟩:=HI.out;exact h) hb)
      have HS1:Hid (w1.cell? ⟨sb,0,none⟩=some (.slice (some ads) s.length c1)):=Lib.hid (pw_cell_below hb (by obtain ⟨_,_,_,_,h,_⟩:=HI.out;exact h))
      clear h1 h5 h7 h8 ho hb hb1 q0 q1 HCALL
      gi_wp2_with fail
      refine hR.mono ?_
      clear hR hy
      rintro e W3 ⟨⟨k1,k2,k3,k4,k5⟩,hend⟩
      have HK:=Lib.hid (And.intro k1 (And.intro k2 (And.intro k3 (And.intro k4 k5))))
      have q2:W3.cell? ⟨tb,0,none⟩=some v:=by rw [Go.Proofs.YtdacflloaehjeaaGreatDoor.blk_cell (k2.trans HT1.out)];rfl
      have d2:W3.frozen? ⟨tb,0,none⟩=false:=Go.Proofs.YtdacflloaehjeaaGreatDoor.blk_free (k2.trans HT1.out) 0
      clear k1 k2 k3 k4 k5
      rcases hend with ⟨rfl,hx0,hxe⟩|⟨rfl,hne0,hxe⟩
      · by_cases herr:err=0
        · subst herr
          have HXN:=Lib.hid (hx0 rfl)
          clear hx0 hxe
          gi_wp2_with fail
          go_roundw
          case rel =>
            obtain ⟨k1,k2,k3,k4,k5⟩:=HK.out
            obtain ⟨g1,g2,g3,g4,g5,g6,g7,g8⟩:=HI.out
            refine ⟨i + 1,rows,_,by go_num,Lib.hid hi,Lib.hid ?_,Lib.hid ⟨HX.out _ _ _ _ _ HXN.out k5,.inr (k3.kept (grownBy_setCell' _ _ _) (own_block k3 HTN.out)),fit_apply HAE.out g3 HLF.out,by have:=fit_len HAE.out;omega,?_,Go.Proofs.YtdacflloaehjeaaGreatDoor.heap_set (k2.trans HT1.out) 0 _,by rw [World.size_setCell];exact k5,k4.setCell (p:=⟨tb,0,none⟩) HTB.out _⟩⟩
            · rw [HO.out,HDR.out,YtdacflloaehjeaaGreatDoorT.onto_ok (by rw [HAE.out]),HAE.out]
            · exact (World.cell?_setCell_far W3 ⟨tb,0,none⟩ ⟨sb,0,none⟩ _ (fun h=>HNE.out h.symm)).trans (k1.trans HS1.out)
          case measure=>simp [intOf];omega
        · have HXE:=Lib.hid (hxe herr)
          have he1:(err != 0)=true:=by simpa using herr
          have HER:=Lib.hid herr
          clear hx0 hxe herr
          gi_wp2_with fail
          refine bodyPost_ret (results_none rfl _ _ _) rfl ?_
          exact ⟨⟨_,rfl⟩,HK.out.2.2.2.1,.inr ⟨i,err,HER.out,by rw [HO.out,HDR.out,YtdacflloaehjeaaGreatDoorT.onto_no (by rw [HAE.out];exact HER.out),HAE.out],HXE.out⟩⟩
      · have HXE:=Lib.hid hxe
        have HER:=Lib.hid hne0
        clear hxe hne0
        gi_wp2_with fail
        refine bodyPost_ret (results_none rfl _ _ _) rfl ?_
        exact ⟨⟨_,rfl⟩,HK.out.2.2.2.1,.inr ⟨i,err,HER.out,by rw [HO.out,HDR.out,YtdacflloaehjeaaGreatDoorT.onto_no (by rw [HAE.out];exact HER.out),HAE.out],HXE.out⟩⟩
    · have he:i=s.length:=by have:=HII.out;omega
      subst he
      gi_wp2
      go_end0
      obtain ⟨h1,h2,h3,h4,h5,h6,h7,h8⟩:=HI.out
      refine ⟨⟨_,rfl⟩,h8,.inl ⟨v,t,?_,h2,h3,h1⟩⟩
      rw [HO.out,List.drop_eq_nil_of_le (Nat.le_refl _)]
      rfl
end Go.Proofs.YtdacflloaehjeaaGreatDoorQ
end
section
namespace Go.Proofs.YtdacflloaehjeaaGreatDoorQ
open Go.ChangeShapes Go.WideShapes Go.ChangeAt Go.RowKit Go.WideElems Go.Proofs.YtdacflloaehjeaaGreatDoor Go.Proofs.YtdacflloaehjeaaGreatDoorW.PrintWords
section
variable {H:Type} {enc:TypeId×Value→H} {W:World} {base:Nat}
structure Ly (W:World) where
  a:Option Addr
  l:List S59
  cap:Nat
  b:Nat
  row:Kd.C k59 W a l.length l
  le:l.length≤cap
  bd:l.length * 128≤b
def lyCells {W:World} (x:Ly W):List Value:=[.slice x.a x.l.length x.cap]
def lySz {W:World} (x:Ly W) (n:Nat):Prop:=(∃ c ∈ x.l,chSz c n)∨(x.l≠[]∧n=x.b)
instance:Inhabited (Ly W):=⟨⟨none,[],0,0,Kd.C_nil _ _,Nat.le_refl _,Nat.le_refl _⟩⟩
set_option maxRecDepth 100000 in
theorem ly_open {spare:Nat→Bool} {held:Bool} {fuel:Nat} {cs:List Value} {y:DataW H×List MemPlace} (h:DataW.trod enc Tryz.prog W base spare held fuel 25 cs=some y) :
    ∃ x:Ly W,cs=lyCells x∧∀ n,lySz x n→n ∈ y.1.weights Tryz.prog 25:=by
  obtain ⟨a,l,cap,hcs,hrow,hlc,hcm,hsz,hlen⟩:=row_open (k:=12) (cells:=fun x=>chCells (chOf x)) (sz:=chSz) Tryz.underlying25 (by kernel_rfl) (by decide) (fun _=>rfl) ch_open h
  have hb:Tryz.prog.bytesOf 59=128:=by kernel_rfl
  have hC:Kd.C k59 W a l.length l:=ch_C (rowAt_map hrow) (by unfold maxLen at hcm;omega)
  by_cases h0:l=[]
  · subst h0
    exact ⟨⟨a,[],cap,0,hC,hlc,Nat.le_refl _⟩,hcs,fun n hn=>by
      rcases hn with ⟨c,hc,_⟩|⟨h,_⟩
      · cases hc
      · exact absurd rfl h⟩
  · obtain ⟨b,h1,h2⟩:=hlen h0
    rw [hb] at h2
    exact ⟨⟨a,l,cap,b,hC,hlc,h2⟩,hcs,fun n hn=>by
      rcases hn with ⟨c,hc,hcn⟩|⟨_,rfl⟩
      · exact hsz c hc n hcn
      · exact h1⟩
set_option maxRecDepth 100000 in
theorem stk_arg {v:Value} {d:DataW H} {p:List MemPlace} (hv:Value.okWide Tryz.prog W .any base 47 v) (h:DataW.Trod enc Tryz.prog W 0 (fun _=>true) true 47 v d p) (hw:∀ n ∈ d.weights Tryz.prog 47,n≤reachBytes) :
    ∃ (a:Option Addr) (s:List (List S59)) (cap:Nat),v=.slice a s.length cap∧Kd.C (Kd.slice 59 k59) W a s.length s∧s.length≤cap∧(∀ l ∈ s,SzC l∧l.length≤1000000000000000)∧s.length≤1000000000000000:=by
  obtain ⟨a0,len0,cap0,rfl⟩:=okWide_slice Tryz.underlying47 hv
  obtain ⟨fuel,hf⟩:=h
  obtain ⟨a,L,cap,hcs,hrow,hlc,hcm,hsz,hlen⟩:=row_open (k:=1) (cells:=lyCells (W:=W)) (sz:=lySz) Tryz.underlying47 (by kernel_rfl) (by decide) (fun _=>rfl) ly_open hf
  simp [Value.cells] at hcs
  obtain ⟨rfl,rfl,rfl⟩:=hcs
  have hb:Tryz.prog.bytesOf 25=24:=by kernel_rfl
  have hl:L.length≤1000000000000000:=by
    by_cases h0:L=[]
    · rw [h0];simp
    · obtain ⟨n,h1,h2⟩:=hlen h0
      have:=hw n h1
      rw [reach_is] at this
      rw [hb] at h2
      omega
  refine ⟨a0,L.map (·.l),cap0,by rw [List.length_map],⟨rfl,by rw [List.length_map];omega,fun h0=>?_⟩,by rw [List.length_map];exact hlc,fun l hl'=>?_,by rw [List.length_map];exact hl⟩
  · cases L with
    | nil=>simp at h0
    | cons x r =>
      obtain ⟨b,o,ha,_⟩:=hrow 0 x rfl
      refine ⟨⟨b,o,none⟩,ha,fun j q hq=>?_⟩
      rw [List.getElem?_map] at hq
      obtain ⟨z,hz,rfl⟩:=Option.map_eq_some_iff.1 hq
      refine ⟨lyCells z,rfl,⟨z.a,z.cap,rfl,z.le,z.row⟩,fun i u hu=>?_⟩
      obtain ⟨b',o',ha',hc⟩:=hrow j z hz
      rw [ha] at ha'
      cases ha'
      show W.cell? ((⟨b,o,none⟩:Addr).add (j * 1 + i))=_
      rw [Go.Proofs.YtdacflloaehjeaaGreatDoor.add_at,← Nat.add_assoc]
      exact hc i u hu
  · obtain ⟨z,hz,rfl⟩:=List.mem_map.1 hl'
    refine ⟨fun c hc=>?_,?_⟩
    · have h1:=hw _ (hsz z hz _ (.inl ⟨c,hc,.inl rfl⟩))
      have h2:=hw _ (hsz z hz _ (.inl ⟨c,hc,.inr (.inl rfl)⟩))
      have h3:=hw _ (hsz z hz _ (.inl ⟨c,hc,.inr (.inr (.inl rfl))⟩))
      have h4:=hw _ (hsz z hz _ (.inl ⟨c,hc,.inr (.inr (.inr rfl))⟩))
      rw [reach_is] at h1 h2 h3 h4
      unfold chTot
      omega
    · by_cases h0:z.l=[]
      · rw [h0];simp
      · have h1:=hw _ (hsz z hz _ (.inr ⟨h0,rfl⟩))
        have h2:=z.bd
        rw [reach_is] at h1
        omega
end
end Go.Proofs.YtdacflloaehjeaaGreatDoorQ
end
