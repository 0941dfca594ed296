/- A part of a proof of TreeStaysCardSaid of this seat: what its walks and its laws lean on; joined by a program of this repo (wip/pack.py) out of the texts Stays. -/
import Derived.Test.YtdkjinmkallhnaaGreatDoorKAI
import Derived.Test.YtdkjinmkallhnaaGreatDoorKAJ
set_option linter.unusedSimpArgs false
set_option linter.unusedVariables false
section
namespace Go.Proofs.YtdkjinmkallhnaaGreatDoorQ
open Go.RowKit Go.Proofs.YtdkjinmkallhnaaGreatDoor Go.Proofs.YtdkjinmkallhnaaGreatDoorW.PrintWords Go.Proofs.YtdkjinmkallhnaaGreatDoorW.PrintLast Go.Proofs.YtdkjinmkallhnaaGreatDoorW.PrintMore
open Go.Proofs.YtdkjinmkallhnaaGreatDoorT (applyM RightT rightT getL underM PS Ch)
def touchB (p:Str) (c:Ch Str Nd):Bool:=(decide (c.path=p) && decide (c.op≠2)) || (underM c.path p && (decide (c.op≠0) || decide (c.node.kind≠1)))
def putB (p:Str) (c:Ch Str Nd):Bool:=decide (c.op=0) && decide (c.path=p)
theorem stay_in {T a:List (Str×Nd)} {l:List (Ch Str Nd)} (h:applyM Y T l=(a,0)) {e:Str×Nd} (he:e ∈ T) (hu:l.any (touchB e.1)=false):getN a e.1=(e.2,true):=by
  obtain ⟨ht,_⟩:=YtdkjinmkallhnaaGreatDoorT.applyM_ok Y h
  have hg:=ht.srt.get (n:=e.2) he
  have hs:=YtdkjinmkallhnaaGreatDoorT.stays_same h (ht.srt.v e he) (fun c hc hx=>by
    have h1:=List.any_eq_false.1 hu c hc
    apply h1
    unfold touchB
    rcases hx with ⟨h2,h3⟩|⟨h2,h3⟩
    · simp [h2,h3]
    · rcases h3 with h3|h3
      · simp [h2,h3]
      · have h4:decide (c.node.kind=1)=false:=h3
        have h5:¬ c.node.kind=1:=by simpa using h4
        simp [h2,h5])
  unfold getN
  rw [hs,hg]
theorem had_in {T a:List (Str×Nd)} {l:List (Ch Str Nd)} (h:applyM Y T l=(a,0)) {e:Str×Nd} (he:e ∈ a) (hu:l.any (putB e.1)=false):getN T e.1=(e.2,true):=by
  obtain ⟨_,_,ha,_⟩:=YtdkjinmkallhnaaGreatDoorT.applyM_ok Y h
  have hs:=YtdkjinmkallhnaaGreatDoorT.stays_had h (ha.srt.get (n:=e.2) he) (fun c hc hx=>by
    have h1:=List.any_eq_false.1 hu c hc
    exact h1 (by unfold putB;simp [hx.1,hx.2]))
  unfold getN
  rw [hs]
theorem put_in {T a:List (Str×Nd)} {l:List (Ch Str Nd)} (h:applyM Y T l=(a,0)) {c:Ch Str Nd} (hc:c ∈ l) (h0:c.op=0):getN a c.path=(c.node,true):=by
  unfold getN
  rw [YtdkjinmkallhnaaGreatDoorT.stays_put h hc h0]
theorem eqNN (d:Nat) (w:World) (n:Nd):(Op.equalIn (d + 2) 26 (.agg (ndCells n).toArray) (.agg (ndCells n).toArray)).run Tryz.prog w=.ok true w:=by
  have h:=eqA26 d w n.kind n.kind n.mode n.mode n.uid n.uid n.gid n.gid n.mtime n.mtime (B n.link) (B n.link) (B n.data) (B n.data) n.major n.major n.minor n.minor (B n.attrs) (B n.attrs)
  simp only [beq_self_eq_true,Bool.and_self] at h
  exact h
attribute [local go_sem high] eqNN
theorem e_lies {w:World} {ad:Addr} {l:List S40} (h:Kd.C k40 w (some ad) l.length l) (i:Nat) (hi:i<l.length):LiesAt w (ad.add (i * 11)) (eCells (enOf l[i])):=by
  obtain ⟨ad',h1,h2⟩:=e_at h i hi
  obtain rfl:=Option.some.inj h1
  exact h2
theorem LiesAt.node {w:World} {a:Addr} {c:Ch Str Nd} (h:LiesAt w a (chCells c)):LiesAt w (a.add 2) (ndCells c.node):=fun j v hv=>by
  rw [Addr.add_add]
  refine h (2 + j) v ?_
  unfold chCells
  rw [Nat.add_comm 2 j]
  exact hv
theorem LiesAt.enode {w:World} {a:Addr} {e:Str×Nd} (h:LiesAt w a (eCells e)):LiesAt w (a.add 1) (ndCells e.2):=fun j v hv=>by
  rw [Addr.add_add]
  refine h (1 + j) v ?_
  unfold eCells
  rw [Nat.add_comm 1 j]
  exact hv
set_option maxRecDepth 100000 in
set_option maxHeartbeats 4000000 in
theorem treeStays_calls (w : World) (hG:GL w) (A0:Option Addr) (c0:Nat) (l0:List S40) (hr0:Kd.C k40 w A0 l0.length l0) (hc0:l0.length≤c0) (h0:SzE l0) (n0:l0.length≤1000000000000000)
    (A1:Option Addr) (c1:Nat) (l1:List S38) (hr1:Kd.C k38 w A1 l1.length l1) (hc1:l1.length≤c1) (h1:SzC l1) (n1:l1.length≤1000000000000000) :
    Calls Tryz.prog 5 #[.slice A0 l0.length c0,.slice A1 l1.length c1] w fun e w'=>e=.returned (.bool true)∧Below w.heap.size w w':=by
  obtain ⟨b0,e0,q0⟩:=few09_ev l0 h0 n0
  obtain ⟨b1,e1,q1⟩:=few16_ev l1 h1 n1
  obtain ⟨k0,e0⟩:=e0.rounds
  obtain ⟨k1,e1⟩:=e1.rounds
  have F0:Hid (b0=true→rowFits' l0):=Lib.hid fun h=>fitsE_of (q0 h)
  have F1:Hid (b1=true→lyrFits' l1):=Lib.hid fun h=>fitsC_of (q1 h)
  have E0:=Lib.hid e0
  have E1:=Lib.hid e1
  have HR0:=Lib.hid hr0
  have HR1:=Lib.hid hr1
  have HC0:=Lib.hid hc0
  have HC1:=Lib.hid hc1
  clear hr0 hr1 hc0 hc1 e0 e1 h0 h1 n0 n1 q0 q1
  have HUN:=Lib.hid Tryz.underlying26
  have HUC:=Lib.hid Tryz.underlying38
  go_enter Tryz.func5,Tryz.ntmps5
  go_wp2_with fail
  refine (small17_calls w hG).mono ?_
  rintro x w2 ⟨rfl,hb⟩
  have HB2:=Lib.hid hb
  clear hb
  go_wp2_with fail
  refine (onionskinlaw09_Few.calls k0 A0 c0 l0 b0 w2 (Kd.C_below HR0.out HB2.out) HC0.out E0.out).mono ?_
  rintro x w3 ⟨rfl,hd⟩
  have HB3:=Lib.hid (Go.Proofs.YtdkjinmkallhnaaGreatDoor.below_then HB2.out hd.below)
  clear hd HB2
  go_wp2_with fail
  refine (onionskinlaw16_Few.calls k1 A1 c1 l1 b1 w3 (Kd.C_below HR1.out HB3.out) HC1.out E1.out).mono ?_
  rintro x w4 ⟨rfl,hd⟩
  have HB4:=Lib.hid (Go.Proofs.YtdkjinmkallhnaaGreatDoor.below_then HB3.out hd.below)
  clear hd HB3
  cases b0 with
  | false =>
    go_wp2_with fail
    go_ret
    exact ⟨rfl,HB4.out⟩
  | true =>
  cases b1 with
  | false =>
    go_wp2_with fail
    go_ret
    exact ⟨rfl,HB4.out⟩
  | true =>
  have HF0:=Lib.hid (F0.out rfl)
  have HF1:=Lib.hid (F1.out rfl)
  obtain ⟨a,e,hae⟩:∃ a e,applyM Y (l0.map enOf) (l1.map chOf)=(a,e):=⟨_,_,rfl⟩
  have HA:=Lib.hid hae
  clear hae F0 F1
  go_wp2_with fail
  refine (tree_Apply.calls A0 c0 l0 A1 c1 l1 (a.map ofEn) e w4 (hG.ext HB4.out) (Kd.C_below HR0.out HB4.out) HC0.out (Kd.C_below HR1.out HB4.out) HC1.out (by rw [apply_f HF0.out HF1.out,HA.out])).mono ?_
  rintro x w5 ⟨v,rfl,ho,hb⟩
  have HB5:=Lib.hid (Go.Proofs.YtdkjinmkallhnaaGreatDoor.below_then HB4.out hb)
  obtain ⟨A2,c2,rfl⟩:=Kd.R_slice ho
  have HR2:=Lib.hid (Kd.R_reads' ho).2.2
  have HC2:=Lib.hid (Kd.R_reads' ho).2.1
  clear hb ho HB4 E0 E1 HC0 HC1
  by_cases he:e=0
  · subst he
    have hfit:=fits_apply HA.out HF0.out HF1.out
    obtain ⟨_,_,ha,_⟩:=YtdkjinmkallhnaaGreatDoorT.applyM_ok Y HA.out
    have haa:=HA.out
    rw [← ens_back a] at ha haa
    obtain ⟨t,ht⟩:∃ t,t=a.map ofEn:=⟨_,rfl⟩
    rw [← ht] at ha HR2 HC2 hfit haa ⊢
    have HRT:Hid (tree_Right.f t=some true):=Lib.hid (by rw [right_f0 hfit,(YtdkjinmkallhnaaGreatDoorT.rightT_iff Y).2 ha])
    have HFT:=Lib.hid hfit
    have HAT:=Lib.hid haa
    clear ha hfit ht HA haa
    go_wp2_with fail
    refine (tree_Right.calls A2 c2 t true w5 (hG.ext HB5.out) HR2.out HC2.out HRT.out).mono ?_
    rintro x w6 ⟨rfl,hb⟩
    have HB6:=Lib.hid (Go.Proofs.YtdkjinmkallhnaaGreatDoor.below_then HB5.out hb)
    have HR6:=Lib.hid (Kd.C_below HR2.out hb)
    clear hb HR2 HB5 HRT HC2
    go_wp2
    go_loopg [10] (l1.length + 1) (fun gq v wr=>∃ i:Nat,v=.int .i64 i∧l1.length<gq + i∧Hid (i≤l1.length)∧Hid (Kd.C k40 wr A2 t.length t)∧Hid (Below w.heap.size w wr))
    case atStart=>exact ⟨0,rfl,by omega,Lib.hid (by omega),HR6,HB6⟩
    case round =>
      clear HR6 HB6
      obtain ⟨i,rfl,hgi,HI,HR,HB⟩:=hrel
      by_cases hi:i<l1.length
      · cases gk with
        | zero=>omega
        | succ g1 =>
          obtain ⟨ad1,rfl,hat1⟩:=c_at HR1.out i hi
          have hm:chOf l1[i] ∈ l1.map chOf:=List.mem_map_of_mem (f:=chOf) (List.getElem_mem hi)
          obtain ⟨c,hc⟩:∃ c,c=chOf l1[i]:=⟨_,rfl⟩
          rw [← hc] at hat1 hm
          have HCW:=Lib.hid hat1
          have HPI:Hid (c.op=0→getN (t.map enOf) c.path=(c.node,true)):=Lib.hid (put_in HAT.out hm)
          have HII:Hid (i + 1≤l1.length):=Lib.hid hi
          have hlt:=HFT.out.2
          have hl1:=HF1.out.2
          have q0:=(HCW.out.below HB.out) 0 _ rfl
          rw [Addr.add_zero'] at q0
          clear hat1 hc hm
          go_wp2_with fail
          refine (get_calls wr A2 c2 t HR.out HFT.out.2 c.path).mono ?_
          rintro x w7 ⟨rfl,hb⟩
          obtain ⟨m,is,hmi⟩:∃ m is,getN (t.map enOf) c.path=(m,is):=⟨_,_,rfl⟩
          rw [hmi]
          have HMI:=Lib.hid hmi
          have HW7:=Lib.hid (Go.Proofs.YtdkjinmkallhnaaGreatDoor.below_then HB.out hb)
          have HR7:=Lib.hid (Kd.C_below HR.out hb)
          clear hb hmi HB HR
          go_upto_region 15 with (first|((with_reducible refine gate_dst (N:=11) rfl ?_);refine box_event rfl (N:=11) rfl (cs:=ndZero) (t:=26) ?hr ?_;(case hr=>first|(go_simp;done)|(go_simp;rfl));intro g hg w8 hb2 hbl2;have HGE8:Hid (w7.heap.size≤g):=Lib.hid (by rw [hg];exact Nat.le_refl _);have HB2:=Lib.hid hb2;have HBL2:=Lib.hid hbl2;clear hg hb2 hbl2)|((with_reducible refine gate_store (t:=26) (p:=11) rfl ?_);refine wpList_store_agg rfl rfl 26 _ _ rfl g (ndCells m).toArray rfl rfl 26 ndZero HB2.out rfl rfl (ndCells_all _) ?_;intro w9 hb3 hg3;have HB9:=Lib.hid hb3;have HBL3:Hid (Below w7.heap.size w7 w9):=Lib.hid (HBL2.out.grown hg3 HBL2.out.size (fun j hj=>by cases hj;exact HGE8.out));clear hb3 hg3))
          have HW9:=Lib.hid (Go.Proofs.YtdkjinmkallhnaaGreatDoor.below_then HW7.out HBL3.out)
          have HR9:=Lib.hid (Kd.C_below HR7.out HBL3.out)
          have HLM:=Lib.hid (lies_of HB9.out)
          clear HB2 HBL2 HBL3 HGE8 HW7 HR7
          have HC9:=Lib.hid (HCW.out.below HW9.out)
          have HCN:=Lib.hid HC9.out.node
          clear q0
          go_cut [87] (fun v wc=>v=.bool false∧Hid (Below w9.heap.size w9 wc))
          case first =>
            as_aux_lemma =>
              have hi0:(0:Int)≤(i:Int):=by omega
              have hi1:(i:Int)<(l1.length:Int):=by omega
              refine start_ (n:=19) (S:=fun w'=>Below w9.heap.size w9 w') (ds:=[]) (ms 19 0) (by kernel_rfl) rfl rfl (Below.refl _ _).drew (fun hHeld=>?_)
              (refine pU 0 69 ?_ (ms 19 1) rfl rfl (by kernel_rfl) (fun _ _ _=>id) (by rfl) ?_ ?_ ?_ ?_;rotate_left;(intro w';go_simp;with_reducible rfl);rotate_left;(simp only [aP,i64_w,i32_w];rfl))
              (refine pU 1 70 ?_ (ms 19 2) rfl rfl (by kernel_rfl) (fun _ _ _=>id) (by rfl) ?_ ?_ ?_ ?_;rotate_left;(intro w';go_simp;with_reducible rfl);rotate_left;(simp only [aP,i64_w,i32_w];rfl))
              (refine pU 2 71 ?_ (ms 19 3) rfl rfl (by kernel_rfl) (fun _ _ _=>id) (by rfl) ?_ ?_ ?_ ?_;rotate_left;(intro w';go_simp;with_reducible rfl);rotate_left;(simp only [aP,i64_w,i32_w];rfl))
              (refine pU 3 72 ?_ (ms 19 4) rfl rfl (by kernel_rfl) (fun _ _ _=>id) (by rfl) ?_ ?_ ?_ ?_;rotate_left;(intro w';go_simp;with_reducible rfl);rotate_left;(simp only [aP,i64_w,i32_w];rfl))
              (refine take_ (i:=4) (N:=some 73) (v:=?_) (a':=?_) (ms 19 5) rfl rfl (by kernel_rfl) (fun _ _ _ h=>h) (Or.inl ⟨by rfl,?_⟩) hHeld ?_ ?_;rotate_left;(intro w' hS';have hc0:w'.cell? ⟨(ad1.add (i * 12)).block,(ad1.add (i * 12)).off + 1,none⟩=some (.int .i64 c.op):=(HC9.out.below hS') 1 _ rfl;go_simp;with_reducible rfl);rotate_left;(simp only [aP,i64_w,i32_w];rfl))
              by_cases hop:c.op=0
              · have hq:=HMI.out
                rw [HPI.out hop] at hq
                obtain ⟨rfl,rfl⟩:=Prod.mk.inj hq
                have hop1:(c.op == 0)=true:=by simpa using hop
                clear hq
                (refine pU 5 74 ?_ (ms 19 6) rfl rfl (by kernel_rfl) (fun _ _ _=>id) (by rfl) ?_ ?_ ?_ ?_;rotate_left;(intro w';go_simp;with_reducible rfl);rotate_left;(simp only [aP,i64_w,i32_w];rfl))
                (refine pU 6 75 ?_ (ms 19 7) rfl rfl (by kernel_rfl) (fun _ _ _=>id) (by rfl) ?_ ?_ ?_ ?_;rotate_left;(intro w';go_simp;with_reducible rfl);rotate_left;(simp only [aP,i64_w,i32_w];rfl))
                (refine pU 7 76 ?_ (ms 19 8) rfl rfl (by kernel_rfl) (fun _ _ _=>id) (by rfl) ?_ ?_ ?_ ?_;rotate_left;(intro w';go_simp;with_reducible rfl);rotate_left;(simp only [aP,i64_w,i32_w];rfl))
                (refine pU 8 77 ?_ (ms 19 9) rfl rfl (by kernel_rfl) (fun _ _ _=>id) (by rfl) ?_ ?_ ?_ ?_;rotate_left;(intro w';go_simp;with_reducible rfl);rotate_left;(simp only [aP,i64_w,i32_w];rfl))
                (refine pU 9 78 ?_ (ms 19 10) rfl rfl (by kernel_rfl) (fun _ _ _=>id) (by rfl) ?_ ?_ ?_ ?_;rotate_left;(intro w';go_simp;with_reducible rfl);rotate_left;(simp only [aP,i64_w,i32_w];rfl))
                refine take_ (i:=10) (N:=some 79) (v:=.agg (ndCells c.node).toArray) (a':=?_) (ms 19 11) rfl rfl (by kernel_rfl) (fun _ _ _ h=>h) (yi_agg (by rfl) 26 _ rfl _ rfl _ _ (fun w' hb=>HLM.out.below hb) HUN.out rfl rfl) hHeld ?_ ?_
                rotate_left
                · (simp only [aP,i64_w,i32_w];rfl)
                (refine pU 11 80 ?_ (ms 19 12) rfl rfl (by kernel_rfl) (fun _ _ _=>id) (by rfl) ?_ ?_ ?_ ?_;rotate_left;(intro w';go_simp;with_reducible rfl);rotate_left;(simp only [aP,i64_w,i32_w];rfl))
                (refine pU 12 81 ?_ (ms 19 13) rfl rfl (by kernel_rfl) (fun _ _ _=>id) (by rfl) ?_ ?_ ?_ ?_;rotate_left;(intro w';go_simp;with_reducible rfl);rotate_left;(simp only [aP,i64_w,i32_w];rfl))
                (refine pU 13 82 ?_ (ms 19 14) rfl rfl (by kernel_rfl) (fun _ _ _=>id) (by rfl) ?_ ?_ ?_ ?_;rotate_left;(intro w';go_simp;with_reducible rfl);rotate_left;(simp only [aP,i64_w,i32_w];rfl))
                (refine pU 14 83 ?_ (ms 19 15) rfl rfl (by kernel_rfl) (fun _ _ _=>id) (by rfl) ?_ ?_ ?_ ?_;rotate_left;(intro w';go_simp;with_reducible rfl);rotate_left;(simp only [aP,i64_w,i32_w];rfl))
                refine take_ (i:=15) (N:=some 84) (v:=.agg (ndCells c.node).toArray) (a':=?_) (ms 19 16) rfl rfl (by kernel_rfl) (fun _ _ _ h=>h) (yi_agg (by rfl) 26 _ rfl _ rfl _ _ (fun w' hb=>HCN.out.below hb) HUN.out rfl rfl) hHeld ?_ ?_
                rotate_left
                · (simp only [aP,i64_w,i32_w];rfl)
                (refine pU 16 85 ?_ (ms 19 17) rfl rfl (by kernel_rfl) (fun _ _ _=>id) (by rfl) ?_ ?_ ?_ ?_;rotate_left;(intro w';go_simp;with_reducible rfl);rotate_left;(simp only [aP,i64_w,i32_w];rfl))
                (refine pU 17 86 ?_ (ms 19 18) rfl rfl (by kernel_rfl) (fun _ _ _=>id) (by rfl) ?_ ?_ ?_ ?_;rotate_left;(intro w';go_simp;with_reducible rfl);rotate_left;(simp only [aP,i64_w,i32_w];rfl))
                (refine pU 18 87 ?_ (ms 19 19) rfl rfl (by kernel_rfl) (fun _ _ _=>id) (by rfl) ?_ ?_ ?_ ?_;rotate_left;(intro w';go_simp;with_reducible rfl);rotate_left;(simp only [aP,i64_w,i32_w];rfl))
                refine done_ (by kernel_rfl) ?_
                go_wp2_with fail
                go_meet
                exact ⟨rfl,Lib.hid hHeld⟩
              · have hop1:(c.op == 0)=false:=by simpa using hop
                (refine pU 5 74 ?_ (ms 19 6) rfl rfl (by kernel_rfl) (fun _ _ _=>id) (by rfl) ?_ ?_ ?_ ?_;rotate_left;(intro w';go_simp;with_reducible rfl);rotate_left;(simp only [aP,i64_w,i32_w];rfl))
                (refine pU 6 75 ?_ (ms 19 7) rfl rfl (by kernel_rfl) (fun _ _ _=>id) (by rfl) ?_ ?_ ?_ ?_;rotate_left;(intro w';go_simp;with_reducible rfl);rotate_left;(simp only [aP,i64_w,i32_w];rfl))
                (refine pN 7 76 (ms 19 8) rfl rfl (by kernel_rfl) (fun _ _ _=>id) (by rfl) ?_ ?_ ?_;rotate_left;(simp only [aP,i64_w,i32_w];rfl))
                (refine pN 8 77 (ms 19 9) rfl rfl (by kernel_rfl) (fun _ _ _=>id) (by rfl) ?_ ?_ ?_;rotate_left;(simp only [aP,i64_w,i32_w];rfl))
                (refine pN 9 78 (ms 19 10) rfl rfl (by kernel_rfl) (fun _ _ _=>id) (by rfl) ?_ ?_ ?_;rotate_left;(simp only [aP,i64_w,i32_w];rfl))
                (refine pN 10 79 (ms 19 11) rfl rfl (by kernel_rfl) (fun _ _ _=>id) (by rfl) ?_ ?_ ?_;rotate_left;(simp only [aP,i64_w,i32_w];rfl))
                (refine pN 11 80 (ms 19 12) rfl rfl (by kernel_rfl) (fun _ _ _=>id) (by rfl) ?_ ?_ ?_;rotate_left;(simp only [aP,i64_w,i32_w];rfl))
                (refine pN 12 81 (ms 19 13) rfl rfl (by kernel_rfl) (fun _ _ _=>id) (by rfl) ?_ ?_ ?_;rotate_left;(simp only [aP,i64_w,i32_w];rfl))
                (refine pN 13 82 (ms 19 14) rfl rfl (by kernel_rfl) (fun _ _ _=>id) (by rfl) ?_ ?_ ?_;rotate_left;(simp only [aP,i64_w,i32_w];rfl))
                (refine pN 14 83 (ms 19 15) rfl rfl (by kernel_rfl) (fun _ _ _=>id) (by rfl) ?_ ?_ ?_;rotate_left;(simp only [aP,i64_w,i32_w];rfl))
                (refine pN 15 84 (ms 19 16) rfl rfl (by kernel_rfl) (fun _ _ _=>id) (by rfl) ?_ ?_ ?_;rotate_left;(simp only [aP,i64_w,i32_w];rfl))
                (refine pN 16 85 (ms 19 17) rfl rfl (by kernel_rfl) (fun _ _ _=>id) (by rfl) ?_ ?_ ?_;rotate_left;(simp only [aP,i64_w,i32_w];rfl))
                (refine pN 17 86 (ms 19 18) rfl rfl (by kernel_rfl) (fun _ _ _=>id) (by rfl) ?_ ?_ ?_;rotate_left;(simp only [aP,i64_w,i32_w];rfl))
                (refine pU 18 87 ?_ (ms 19 19) rfl rfl (by kernel_rfl) (fun _ _ _=>id) (by rfl) ?_ ?_ ?_ ?_;rotate_left;(intro w';go_simp;with_reducible rfl);rotate_left;(simp only [aP,i64_w,i32_w];rfl))
                refine done_ (by kernel_rfl) ?_
                go_wp2_with fail
                go_meet
                exact ⟨rfl,Lib.hid hHeld⟩
          case rest =>
          obtain ⟨rfl,HBB⟩:=hcut
          have HW10:=Lib.hid (Go.Proofs.YtdkjinmkallhnaaGreatDoor.below_then HW9.out HBB.out)
          have HR10:=Lib.hid (Kd.C_below HR9.out HBB.out)
          clear HBB HW9 HR9
          go_wp2_with fail
          go_roundg g1
          case measure=>omega
          case rel=>exact ⟨i + 1,by go_num,by omega,HII,HR10,HW10⟩
      · have he : i = l1.length := by have:=HI.out;omega
        subst he
        clear HI hgi
        go_wp2
        go_loopg [13] (l0.length + 1) (fun gq v wr=>∃ j:Nat,v=.int .i64 j∧l0.length<gq + j∧Hid (j≤l0.length)∧Hid (Kd.C k40 wr A2 t.length t)∧Hid (Below w.heap.size w wr))
        case atStart=>exact ⟨0,rfl,by omega,Lib.hid (by omega),HR,HB⟩
        case round =>
          clear HR HB
          obtain ⟨j,rfl,hgj,HJ,HR,HB⟩:=hrel
          by_cases hj:j<l0.length
          · cases gk with
            | zero=>omega
            | succ g1 =>
              obtain ⟨ad0,rfl,hat0⟩:=e_at HR0.out j hj
              have hm:enOf l0[j] ∈ l0.map enOf:=List.mem_map_of_mem (f:=enOf) (List.getElem_mem hj)
              obtain ⟨e,hee⟩:∃ e,e=enOf l0[j]:=⟨_,rfl⟩
              rw [← hee] at hat0 hm
              have HEW:=Lib.hid hat0
              have HM:=Lib.hid hm
              have HJJ:Hid (j + 1≤l0.length):=Lib.hid hj
              clear hat0 hm hee
              have hl0:=HF0.out.2
              have hj0:(0:Int)≤(j:Int):=by omega
              have hj1:(j:Int)<(l0.length:Int):=by omega
              go_wp2
              go_loopg [14,15] (l1.length + 1) (fun gq v u wr=>∃ k:Nat,v=.bool (((l1.map chOf).take k).any (touchB e.1))∧u=.int .i64 k∧l1.length<gq + k∧Hid (k≤l1.length)∧Hid (Kd.C k40 wr A2 t.length t)∧Hid (Below w.heap.size w wr))
              case atStart=>exact ⟨0,rfl,rfl,by omega,Lib.hid (by omega),HR,HB⟩
              case round =>
                clear HR HB
                obtain ⟨k,rfl,rfl,hgk,HK,HR,HB⟩:=hrel
                by_cases hk:k<l1.length
                · cases gk with
                  | zero=>omega
                  | succ g2 =>
                    obtain ⟨ad1,rfl,hat1⟩:=c_at HR1.out k hk
                    have hcl:=(lyr_two HF1.out.1 (List.mem_map_of_mem (f:=chOf) (List.getElem_mem hk))).1
                    obtain ⟨c,hc⟩:∃ c,c=chOf l1[k]:=⟨_,rfl⟩
                    have hst:((l1.map chOf).take (k + 1)).any (touchB e.1)=(((l1.map chOf).take k).any (touchB e.1) || touchB e.1 c):=by rw [List.take_succ_eq_append_getElem (by simpa using hk),List.any_append,List.getElem_map,← hc];simp
                    rw [← hc] at hat1 hcl
                    have HST:=Lib.hid hst
                    have HCL:=Lib.hid hcl
                    have HKK:Hid (k + 1≤l1.length):=Lib.hid hk
                    have HCT:=Lib.hid (hat1.below HB.out)
                    clear hst hc hat1 hcl
                    have hl1:=HF1.out.2
                    go_upto_region 25 with (first|((with_reducible refine gate_dst (N:=103) rfl ?_);refine wpList_load_agg rfl 38 _ rfl _ rfl (chCells c) _ HCT.out HUC.out rfl rfl ?_)|((with_reducible refine gate_dst (N:=16) rfl ?_);refine box_event rfl (N:=16) rfl (cs:=chZero) (t:=38) ?hr ?_;(case hr=>first|(go_simp;done)|(go_simp;rfl));intro g hg w8 hb2 hbl2;have HGE8:Hid (wr.heap.size≤g):=Lib.hid (by rw [hg];exact Nat.le_refl _);have HB2:=Lib.hid hb2;have HBL2:=Lib.hid hbl2;clear hg hb2 hbl2)|((with_reducible refine gate_store (t:=38) (p:=16) rfl ?_);refine wpList_store_agg rfl rfl 38 _ _ rfl g (chCells c).toArray rfl rfl 38 chZero HB2.out rfl rfl (chCells_all _) ?_;intro w9 hb3 hg3;have HB9:=Lib.hid hb3;have HBL3:Hid (Below wr.heap.size wr w9):=Lib.hid (HBL2.out.grown hg3 HBL2.out.size (fun j hj=>by cases hj;exact HGE8.out));clear hb3 hg3))
                    have HW9:=Lib.hid (Go.Proofs.YtdkjinmkallhnaaGreatDoor.below_then HB.out HBL3.out)
                    have HR9:=Lib.hid (Kd.C_below HR.out HBL3.out)
                    have HC9:=Lib.hid (lies_of HB9.out)
                    clear HB2 HBL2 HBL3 HGE8 HB HR HB9 HCT
                    obtain ⟨tb,htb⟩:∃ tb,tb=((l1.map chOf).take k).any (touchB e.1):=⟨_,rfl⟩
                    rw [← htb] at HST ⊢
                    clear htb
                    have HE9:=Lib.hid (HEW.out.below HW9.out)
                    have hk0:(0:Int)≤(k:Int):=by omega
                    have hk1:(k:Int)<(l1.length:Int):=by omega
                    cases tb with
                    | true =>
                      as_aux_lemma =>
                        refine start_ (n:=38) (S:=fun w'=>Below w9.heap.size w9 w') (ds:=[]) (ms 38 0) (by kernel_rfl) rfl rfl (Below.refl _ _).drew (fun hHeld=>?_)
                        (refine pU 0 104 ?_ (ms 38 1) rfl rfl (by kernel_rfl) (fun _ _ _=>id) (by rfl) ?_ ?_ ?_ ?_;rotate_left;(intro w';go_simp;with_reducible rfl);rotate_left;(simp only [aP,i64_w,i32_w];rfl))
                        (refine pU 1 105 ?_ (ms 38 2) rfl rfl (by kernel_rfl) (fun _ _ _=>id) (by rfl) ?_ ?_ ?_ ?_;rotate_left;(intro w';go_simp;with_reducible rfl);rotate_left;(simp only [aP,i64_w,i32_w];rfl))
                        (refine pN 2 106 (ms 38 3) rfl rfl (by kernel_rfl) (fun _ _ _=>id) (by rfl) ?_ ?_ ?_;rotate_left;(simp only [aP,i64_w,i32_w];rfl))
                        (refine pN 3 107 (ms 38 4) rfl rfl (by kernel_rfl) (fun _ _ _=>id) (by rfl) ?_ ?_ ?_;rotate_left;(simp only [aP,i64_w,i32_w];rfl))
                        (refine pN 4 108 (ms 38 5) rfl rfl (by kernel_rfl) (fun _ _ _=>id) (by rfl) ?_ ?_ ?_;rotate_left;(simp only [aP,i64_w,i32_w];rfl))
                        (refine pN 5 109 (ms 38 6) rfl rfl (by kernel_rfl) (fun _ _ _=>id) (by rfl) ?_ ?_ ?_;rotate_left;(simp only [aP,i64_w,i32_w];rfl))
                        (refine pN 6 110 (ms 38 7) rfl rfl (by kernel_rfl) (fun _ _ _=>id) (by rfl) ?_ ?_ ?_;rotate_left;(simp only [aP,i64_w,i32_w];rfl))
                        (refine pN 7 111 (ms 38 8) rfl rfl (by kernel_rfl) (fun _ _ _=>id) (by rfl) ?_ ?_ ?_;rotate_left;(simp only [aP,i64_w,i32_w];rfl))
                        (refine pN 8 112 (ms 38 9) rfl rfl (by kernel_rfl) (fun _ _ _=>id) (by rfl) ?_ ?_ ?_;rotate_left;(simp only [aP,i64_w,i32_w];rfl))
                        (refine pN 9 113 (ms 38 10) rfl rfl (by kernel_rfl) (fun _ _ _=>id) (by rfl) ?_ ?_ ?_;rotate_left;(simp only [aP,i64_w,i32_w];rfl))
                        (refine pN 10 114 (ms 38 11) rfl rfl (by kernel_rfl) (fun _ _ _=>id) (by rfl) ?_ ?_ ?_;rotate_left;(simp only [aP,i64_w,i32_w];rfl))
                        (refine pN 11 115 (ms 38 12) rfl rfl (by kernel_rfl) (fun _ _ _=>id) (by rfl) ?_ ?_ ?_;rotate_left;(simp only [aP,i64_w,i32_w];rfl))
                        (refine pN 12 116 (ms 38 13) rfl rfl (by kernel_rfl) (fun _ _ _=>id) (by rfl) ?_ ?_ ?_;rotate_left;(simp only [aP,i64_w,i32_w];rfl))
                        (refine pN 13 117 (ms 38 14) rfl rfl (by kernel_rfl) (fun _ _ _=>id) (by rfl) ?_ ?_ ?_;rotate_left;(simp only [aP,i64_w,i32_w];rfl))
                        (refine pN 14 118 (ms 38 15) rfl rfl (by kernel_rfl) (fun _ _ _=>id) (by rfl) ?_ ?_ ?_;rotate_left;(simp only [aP,i64_w,i32_w];rfl))
                        (refine pU 15 119 ?_ (ms 38 16) rfl rfl (by kernel_rfl) (fun _ _ _=>id) (by rfl) ?_ ?_ ?_ ?_;rotate_left;(intro w';go_simp;with_reducible rfl);rotate_left;(simp only [aP,i64_w,i32_w];rfl))
                        (refine pU 16 120 ?_ (ms 38 17) rfl rfl (by kernel_rfl) (fun _ _ _=>id) (by rfl) ?_ ?_ ?_ ?_;rotate_left;(intro w';go_simp;with_reducible rfl);rotate_left;(simp only [aP,i64_w,i32_w];rfl))
                        (refine pN 17 121 (ms 38 18) rfl rfl (by kernel_rfl) (fun _ _ _=>id) (by rfl) ?_ ?_ ?_;rotate_left;(simp only [aP,i64_w,i32_w];rfl))
                        (refine pN 18 122 (ms 38 19) rfl rfl (by kernel_rfl) (fun _ _ _=>id) (by rfl) ?_ ?_ ?_;rotate_left;(simp only [aP,i64_w,i32_w];rfl))
                        (refine pN 19 123 (ms 38 20) rfl rfl (by kernel_rfl) (fun _ _ _=>id) (by rfl) ?_ ?_ ?_;rotate_left;(simp only [aP,i64_w,i32_w];rfl))
                        (refine pN 20 124 (ms 38 21) rfl rfl (by kernel_rfl) (fun _ _ _=>id) (by rfl) ?_ ?_ ?_;rotate_left;(simp only [aP,i64_w,i32_w];rfl))
                        (refine pN 21 125 (ms 38 22) rfl rfl (by kernel_rfl) (fun _ _ _=>id) (by rfl) ?_ ?_ ?_;rotate_left;(simp only [aP,i64_w,i32_w];rfl))
                        (refine pN 22 126 (ms 38 23) rfl rfl (by kernel_rfl) (fun _ _ _=>id) (by rfl) ?_ ?_ ?_;rotate_left;(simp only [aP,i64_w,i32_w];rfl))
                        (refine pN 23 127 (ms 38 24) rfl rfl (by kernel_rfl) (fun _ _ _=>id) (by rfl) ?_ ?_ ?_;rotate_left;(simp only [aP,i64_w,i32_w];rfl))
                        (refine pN 24 128 (ms 38 25) rfl rfl (by kernel_rfl) (fun _ _ _=>id) (by rfl) ?_ ?_ ?_;rotate_left;(simp only [aP,i64_w,i32_w];rfl))
                        (refine pN 25 129 (ms 38 26) rfl rfl (by kernel_rfl) (fun _ _ _=>id) (by rfl) ?_ ?_ ?_;rotate_left;(simp only [aP,i64_w,i32_w];rfl))
                        (refine pN 26 130 (ms 38 27) rfl rfl (by kernel_rfl) (fun _ _ _=>id) (by rfl) ?_ ?_ ?_;rotate_left;(simp only [aP,i64_w,i32_w];rfl))
                        (refine pN 27 131 (ms 38 28) rfl rfl (by kernel_rfl) (fun _ _ _=>id) (by rfl) ?_ ?_ ?_;rotate_left;(simp only [aP,i64_w,i32_w];rfl))
                        (refine pN 28 132 (ms 38 29) rfl rfl (by kernel_rfl) (fun _ _ _=>id) (by rfl) ?_ ?_ ?_;rotate_left;(simp only [aP,i64_w,i32_w];rfl))
                        (refine pN 29 133 (ms 38 30) rfl rfl (by kernel_rfl) (fun _ _ _=>id) (by rfl) ?_ ?_ ?_;rotate_left;(simp only [aP,i64_w,i32_w];rfl))
                        (refine pN 30 134 (ms 38 31) rfl rfl (by kernel_rfl) (fun _ _ _=>id) (by rfl) ?_ ?_ ?_;rotate_left;(simp only [aP,i64_w,i32_w];rfl))
                        (refine pN 31 135 (ms 38 32) rfl rfl (by kernel_rfl) (fun _ _ _=>id) (by rfl) ?_ ?_ ?_;rotate_left;(simp only [aP,i64_w,i32_w];rfl))
                        (refine pN 32 136 (ms 38 33) rfl rfl (by kernel_rfl) (fun _ _ _=>id) (by rfl) ?_ ?_ ?_;rotate_left;(simp only [aP,i64_w,i32_w];rfl))
                        (refine pN 33 137 (ms 38 34) rfl rfl (by kernel_rfl) (fun _ _ _=>id) (by rfl) ?_ ?_ ?_;rotate_left;(simp only [aP,i64_w,i32_w];rfl))
                        (refine pN 34 138 (ms 38 35) rfl rfl (by kernel_rfl) (fun _ _ _=>id) (by rfl) ?_ ?_ ?_;rotate_left;(simp only [aP,i64_w,i32_w];rfl))
                        (refine pN 35 139 (ms 38 36) rfl rfl (by kernel_rfl) (fun _ _ _=>id) (by rfl) ?_ ?_ ?_;rotate_left;(simp only [aP,i64_w,i32_w];rfl))
                        (refine pU 36 140 ?_ (ms 38 37) rfl rfl (by kernel_rfl) (fun _ _ _=>id) (by rfl) ?_ ?_ ?_ ?_;rotate_left;(intro w';go_simp;with_reducible rfl);rotate_left;(simp only [aP,i64_w,i32_w];rfl))
                        (refine pU 37 14 ?_ (ms 38 38) rfl rfl (by kernel_rfl) (fun _ _ _=>id) (by rfl) ?_ ?_ ?_ ?_;rotate_left;(intro w';go_simp;with_reducible rfl);rotate_left;(simp only [aP,i64_w,i32_w];rfl))
                        refine done_ (by kernel_rfl) ?_
                        go_wp2_with fail
                        go_roundg g2
                        case measure=>omega
                        case rel=>exact ⟨k + 1,by rw [HST.out];rfl,by go_num,by omega,HKK,Lib.hid (Kd.C_below HR9.out hHeld),Lib.hid (Go.Proofs.YtdkjinmkallhnaaGreatDoor.below_then HW9.out hHeld)⟩
                    | false =>
                      as_aux_lemma =>
                        refine start_ (n:=38) (S:=fun w'=>Below w9.heap.size w9 w') (ds:=[]) (ms 38 0) (by kernel_rfl) rfl rfl (Below.refl _ _).drew (fun hHeld=>?_)
                        (refine pU 0 104 ?_ (ms 38 1) rfl rfl (by kernel_rfl) (fun _ _ _=>id) (by rfl) ?_ ?_ ?_ ?_;rotate_left;(intro w';go_simp;with_reducible rfl);rotate_left;(simp only [aP,i64_w,i32_w];rfl))
                        (refine pU 1 105 ?_ (ms 38 2) rfl rfl (by kernel_rfl) (fun _ _ _=>id) (by rfl) ?_ ?_ ?_ ?_;rotate_left;(intro w';go_simp;with_reducible rfl);rotate_left;(simp only [aP,i64_w,i32_w];rfl))
                        (refine pU 2 106 ?_ (ms 38 3) rfl rfl (by kernel_rfl) (fun _ _ _=>id) (by rfl) ?_ ?_ ?_ ?_;rotate_left;(intro w';go_simp;with_reducible rfl);rotate_left;(simp only [aP,i64_w,i32_w];rfl))
                        (refine take_ (i:=3) (N:=some 107) (v:=?_) (a':=?_) (ms 38 4) rfl rfl (by kernel_rfl) (fun _ _ _ h=>h) (Or.inl ⟨by rfl,?_⟩) hHeld ?_ ?_;rotate_left;(intro w' hS';have hc0:=(HC9.out.below hS') 0 _ rfl;simp only [Addr.add_zero'] at hc0;go_simp;with_reducible rfl);rotate_left;(simp only [aP,i64_w,i32_w];rfl))
                        (refine pU 4 108 ?_ (ms 38 5) rfl rfl (by kernel_rfl) (fun _ _ _=>id) (by rfl) ?_ ?_ ?_ ?_;rotate_left;(intro w';go_simp;with_reducible rfl);rotate_left;(simp only [aP,i64_w,i32_w];rfl))
                        (refine pU 5 109 ?_ (ms 38 6) rfl rfl (by kernel_rfl) (fun _ _ _=>id) (by rfl) ?_ ?_ ?_ ?_;rotate_left;(intro w';go_simp;with_reducible rfl);rotate_left;(simp only [aP,i64_w,i32_w];rfl))
                        (refine pU 6 110 ?_ (ms 38 7) rfl rfl (by kernel_rfl) (fun _ _ _=>id) (by rfl) ?_ ?_ ?_ ?_;rotate_left;(intro w';go_simp;with_reducible rfl);rotate_left;(simp only [aP,i64_w,i32_w];rfl))
                        (refine pU 7 111 ?_ (ms 38 8) rfl rfl (by kernel_rfl) (fun _ _ _=>id) (by rfl) ?_ ?_ ?_ ?_;rotate_left;(intro w';go_simp;with_reducible rfl);rotate_left;(simp only [aP,i64_w,i32_w];rfl))
                        (refine take_ (i:=8) (N:=some 112) (v:=?_) (a':=?_) (ms 38 9) rfl rfl (by kernel_rfl) (fun _ _ _ h=>h) (Or.inl ⟨by rfl,?_⟩) hHeld ?_ ?_;rotate_left;(intro w' hS';have hc0:=(HE9.out.below hS') 0 _ rfl;simp only [Addr.add_zero'] at hc0;go_simp;with_reducible rfl);rotate_left;(simp only [aP,i64_w,i32_w];rfl))
                        by_cases hp:c.path=e.1
                        · have hp1:(c.path == e.1)=true:=by simpa using hp
                          have HPE:=Lib.hid hp
                          clear hp
                          (refine pU 9 113 ?_ (ms 38 10) rfl rfl (by kernel_rfl) (fun _ _ _=>id) (by rfl) ?_ ?_ ?_ ?_;rotate_left;(intro w';go_simp;with_reducible rfl);rotate_left;(simp only [aP,i64_w,i32_w];rfl))
                          (refine pU 10 114 ?_ (ms 38 11) rfl rfl (by kernel_rfl) (fun _ _ _=>id) (by rfl) ?_ ?_ ?_ ?_;rotate_left;(intro w';go_simp;with_reducible rfl);rotate_left;(simp only [aP,i64_w,i32_w];rfl))
                          (refine pU 11 115 ?_ (ms 38 12) rfl rfl (by kernel_rfl) (fun _ _ _=>id) (by rfl) ?_ ?_ ?_ ?_;rotate_left;(intro w';go_simp;with_reducible rfl);rotate_left;(simp only [aP,i64_w,i32_w];rfl))
                          (refine take_ (i:=12) (N:=some 116) (v:=?_) (a':=?_) (ms 38 13) rfl rfl (by kernel_rfl) (fun _ _ _ h=>h) (Or.inl ⟨by rfl,?_⟩) hHeld ?_ ?_;rotate_left;(intro w' hS';have hc0:w'.cell? ⟨g,1,none⟩=some (.int .i64 c.op):=(HC9.out.below hS') 1 _ rfl;go_simp;with_reducible rfl);rotate_left;(simp only [aP,i64_w,i32_w];rfl))
                          by_cases h2:c.op=2
                          · have h21:(c.op != 2)=false:=by simpa using h2
                            have HNE:Hid ((decide (c.path=e.1) && decide (c.op≠2))=false):=Lib.hid (by simp [h2])
                            clear h2
                            (refine pU 13 117 ?_ (ms 38 14) rfl rfl (by kernel_rfl) (fun _ _ _=>id) (by rfl) ?_ ?_ ?_ ?_;rotate_left;(intro w';go_simp;with_reducible rfl);rotate_left;(simp only [aP,i64_w,i32_w];rfl))
                            (refine pU 14 118 ?_ (ms 38 15) rfl rfl (by kernel_rfl) (fun _ _ _=>id) (by rfl) ?_ ?_ ?_ ?_;rotate_left;(intro w';go_simp;with_reducible rfl);rotate_left;(simp only [aP,i64_w,i32_w];rfl))
                            (refine pU 15 119 ?_ (ms 38 16) rfl rfl (by kernel_rfl) (fun _ _ _=>id) (by rfl) ?_ ?_ ?_ ?_;rotate_left;(intro w';go_simp;with_reducible rfl);rotate_left;(simp only [aP,i64_w,i32_w];rfl))
                            (refine pU 16 120 ?_ (ms 38 17) rfl rfl (by kernel_rfl) (fun _ _ _=>id) (by rfl) ?_ ?_ ?_ ?_;rotate_left;(intro w';go_simp;with_reducible rfl);rotate_left;(simp only [aP,i64_w,i32_w];rfl))
                            (refine pU 17 121 ?_ (ms 38 18) rfl rfl (by kernel_rfl) (fun _ _ _=>id) (by rfl) ?_ ?_ ?_ ?_;rotate_left;(intro w';go_simp;with_reducible rfl);rotate_left;(simp only [aP,i64_w,i32_w];rfl))
                            (refine take_ (i:=18) (N:=some 122) (v:=?_) (a':=?_) (ms 38 19) rfl rfl (by kernel_rfl) (fun _ _ _ h=>h) (Or.inl ⟨by rfl,?_⟩) hHeld ?_ ?_;rotate_left;(intro w' hS';have hc0:=(HC9.out.below hS') 0 _ rfl;simp only [Addr.add_zero'] at hc0;go_simp;with_reducible rfl);rotate_left;(simp only [aP,i64_w,i32_w];rfl))
                            (refine pU 19 123 ?_ (ms 38 20) rfl rfl (by kernel_rfl) (fun _ _ _=>id) (by rfl) ?_ ?_ ?_ ?_;rotate_left;(intro w';go_simp;with_reducible rfl);rotate_left;(simp only [aP,i64_w,i32_w];rfl))
                            (refine pU 20 124 ?_ (ms 38 21) rfl rfl (by kernel_rfl) (fun _ _ _=>id) (by rfl) ?_ ?_ ?_ ?_;rotate_left;(intro w';go_simp;with_reducible rfl);rotate_left;(simp only [aP,i64_w,i32_w];rfl))
                            (refine pU 21 125 ?_ (ms 38 22) rfl rfl (by kernel_rfl) (fun _ _ _=>id) (by rfl) ?_ ?_ ?_ ?_;rotate_left;(intro w';go_simp;with_reducible rfl);rotate_left;(simp only [aP,i64_w,i32_w];rfl))
                            (refine pU 22 126 ?_ (ms 38 23) rfl rfl (by kernel_rfl) (fun _ _ _=>id) (by rfl) ?_ ?_ ?_ ?_;rotate_left;(intro w';go_simp;with_reducible rfl);rotate_left;(simp only [aP,i64_w,i32_w];rfl))
                            (refine take_ (i:=23) (N:=some 127) (v:=?_) (a':=?_) (ms 38 24) rfl rfl (by kernel_rfl) (fun _ _ _ h=>h) (Or.inl ⟨by rfl,?_⟩) hHeld ?_ ?_;rotate_left;(intro w' hS';have hc0:=(HE9.out.below hS') 0 _ rfl;simp only [Addr.add_zero'] at hc0;go_simp;with_reducible rfl);rotate_left;(simp only [aP,i64_w,i32_w];rfl))
                            refine one_ (i:=24) (N:=some 128) (ms 38 25) rfl rfl (by kernel_rfl) (by decide) (fun K hK=>?_)
                            refine goes_ Tryz.func25 (by kernel_rfl) rfl #[.string (B c.path),.string (B e.1)] (by rfl) rfl rfl (by simp only [List.map_toArray,List.map_cons,List.map_nil];rfl) ?_
                            refine (under_c _ c.path e.1 HCL.out).mono ?_
                            rintro x w10 ⟨rfl,hb10⟩
                            refine ⟨_,rfl,?_⟩
                            have HB10:=Lib.hid hb10
                            clear hb10
                            refine hK.out _ _ (Go.Proofs.YtdkjinmkallhnaaGreatDoor.below_then hHeld HB10.out) (fun hHeld=>?_)
                            clear hK K
                            refine norm_ (a':=?_) ?_ ?_
                            rotate_left
                            · show Act.put _ (some 128) _=_
                              (simp only [aP,i64_w,i32_w];rfl)
                            cases hu:underM c.path e.1 with
                            | false =>
                              have HV:Hid (touchB e.1 c=false):=Lib.hid (by unfold touchB;rw [HNE.out,hu];rfl)
                              (refine pU 25 129 ?_ (ms 38 26) rfl rfl (by kernel_rfl) (fun _ _ _=>id) (by rfl) ?_ ?_ ?_ ?_;rotate_left;(intro w';go_simp;with_reducible rfl);rotate_left;(simp only [aP,i64_w,i32_w];rfl))
                              (refine pN 26 130 (ms 38 27) rfl rfl (by kernel_rfl) (fun _ _ _=>id) (by rfl) ?_ ?_ ?_;rotate_left;(simp only [aP,i64_w,i32_w];rfl))
                              (refine pN 27 131 (ms 38 28) rfl rfl (by kernel_rfl) (fun _ _ _=>id) (by rfl) ?_ ?_ ?_;rotate_left;(simp only [aP,i64_w,i32_w];rfl))
                              (refine pN 28 132 (ms 38 29) rfl rfl (by kernel_rfl) (fun _ _ _=>id) (by rfl) ?_ ?_ ?_;rotate_left;(simp only [aP,i64_w,i32_w];rfl))
                              (refine pN 29 133 (ms 38 30) rfl rfl (by kernel_rfl) (fun _ _ _=>id) (by rfl) ?_ ?_ ?_;rotate_left;(simp only [aP,i64_w,i32_w];rfl))
                              (refine pN 30 134 (ms 38 31) rfl rfl (by kernel_rfl) (fun _ _ _=>id) (by rfl) ?_ ?_ ?_;rotate_left;(simp only [aP,i64_w,i32_w];rfl))
                              (refine pN 31 135 (ms 38 32) rfl rfl (by kernel_rfl) (fun _ _ _=>id) (by rfl) ?_ ?_ ?_;rotate_left;(simp only [aP,i64_w,i32_w];rfl))
                              (refine pN 32 136 (ms 38 33) rfl rfl (by kernel_rfl) (fun _ _ _=>id) (by rfl) ?_ ?_ ?_;rotate_left;(simp only [aP,i64_w,i32_w];rfl))
                              (refine pN 33 137 (ms 38 34) rfl rfl (by kernel_rfl) (fun _ _ _=>id) (by rfl) ?_ ?_ ?_;rotate_left;(simp only [aP,i64_w,i32_w];rfl))
                              (refine pN 34 138 (ms 38 35) rfl rfl (by kernel_rfl) (fun _ _ _=>id) (by rfl) ?_ ?_ ?_;rotate_left;(simp only [aP,i64_w,i32_w];rfl))
                              (refine pU 35 139 ?_ (ms 38 36) rfl rfl (by kernel_rfl) (fun _ _ _=>id) (by rfl) ?_ ?_ ?_ ?_;rotate_left;(intro w';go_simp;with_reducible rfl);rotate_left;(simp only [aP,i64_w,i32_w];rfl))
                              (refine pU 36 140 ?_ (ms 38 37) rfl rfl (by kernel_rfl) (fun _ _ _=>id) (by rfl) ?_ ?_ ?_ ?_;rotate_left;(intro w';go_simp;with_reducible rfl);rotate_left;(simp only [aP,i64_w,i32_w];rfl))
                              (refine pU 37 14 ?_ (ms 38 38) rfl rfl (by kernel_rfl) (fun _ _ _=>id) (by rfl) ?_ ?_ ?_ ?_;rotate_left;(intro w';go_simp;with_reducible rfl);rotate_left;(simp only [aP,i64_w,i32_w];rfl))
                              refine done_ (by kernel_rfl) ?_
                              go_wp2_with fail
                              go_roundg g2
                              case measure=>omega
                              case rel=>exact ⟨k + 1,by rw [HST.out,HV.out];rfl,by go_num,by omega,HKK,Lib.hid (Kd.C_below HR9.out hHeld),Lib.hid (Go.Proofs.YtdkjinmkallhnaaGreatDoor.below_then HW9.out hHeld)⟩
                            | true =>
                              (refine pU 25 129 ?_ (ms 38 26) rfl rfl (by kernel_rfl) (fun _ _ _=>id) (by rfl) ?_ ?_ ?_ ?_;rotate_left;(intro w';go_simp;with_reducible rfl);rotate_left;(simp only [aP,i64_w,i32_w];rfl))
                              (refine pU 26 130 ?_ (ms 38 27) rfl rfl (by kernel_rfl) (fun _ _ _=>id) (by rfl) ?_ ?_ ?_ ?_;rotate_left;(intro w';go_simp;with_reducible rfl);rotate_left;(simp only [aP,i64_w,i32_w];rfl))
                              (refine take_ (i:=27) (N:=some 131) (v:=?_) (a':=?_) (ms 38 28) rfl rfl (by kernel_rfl) (fun _ _ _ h=>h) (Or.inl ⟨by rfl,?_⟩) hHeld ?_ ?_;rotate_left;(intro w' hS';have hc0:w'.cell? ⟨g,1,none⟩=some (.int .i64 c.op):=(HC9.out.below hS') 1 _ rfl;go_simp;with_reducible rfl);rotate_left;(simp only [aP,i64_w,i32_w];rfl))
                              by_cases hop:c.op=0
                              · have hop1:(c.op != 0)=false:=by simpa using hop
                                have HV:Hid (touchB e.1 c=(c.node.kind != 1)):=Lib.hid (by unfold touchB;rw [HNE.out,hu,Bool.eq_iff_iff];simp [hop])
                                (refine pU 28 132 ?_ (ms 38 29) rfl rfl (by kernel_rfl) (fun _ _ _=>id) (by rfl) ?_ ?_ ?_ ?_;rotate_left;(intro w';go_simp;with_reducible rfl);rotate_left;(simp only [aP,i64_w,i32_w];rfl))
                                (refine pU 29 133 ?_ (ms 38 30) rfl rfl (by kernel_rfl) (fun _ _ _=>id) (by rfl) ?_ ?_ ?_ ?_;rotate_left;(intro w';go_simp;with_reducible rfl);rotate_left;(simp only [aP,i64_w,i32_w];rfl))
                                (refine pU 30 134 ?_ (ms 38 31) rfl rfl (by kernel_rfl) (fun _ _ _=>id) (by rfl) ?_ ?_ ?_ ?_;rotate_left;(intro w';go_simp;with_reducible rfl);rotate_left;(simp only [aP,i64_w,i32_w];rfl))
                                (refine pU 31 135 ?_ (ms 38 32) rfl rfl (by kernel_rfl) (fun _ _ _=>id) (by rfl) ?_ ?_ ?_ ?_;rotate_left;(intro w';go_simp;with_reducible rfl);rotate_left;(simp only [aP,i64_w,i32_w];rfl))
                                (refine take_ (i:=32) (N:=some 136) (v:=?_) (a':=?_) (ms 38 33) rfl rfl (by kernel_rfl) (fun _ _ _ h=>h) (Or.inl ⟨by rfl,?_⟩) hHeld ?_ ?_;rotate_left;(intro w' hS';have hc0:w'.cell? ⟨g,2,none⟩=some (.int .i64 c.node.kind):=(HC9.out.below hS') 2 _ rfl;go_simp;with_reducible rfl);rotate_left;(simp only [aP,i64_w,i32_w];rfl))
                                (refine pU 33 137 ?_ (ms 38 34) rfl rfl (by kernel_rfl) (fun _ _ _=>id) (by rfl) ?_ ?_ ?_ ?_;rotate_left;(intro w';go_simp;with_reducible rfl);rotate_left;(simp only [aP,i64_w,i32_w];rfl))
                                (refine pU 34 138 ?_ (ms 38 35) rfl rfl (by kernel_rfl) (fun _ _ _=>id) (by rfl) ?_ ?_ ?_ ?_;rotate_left;(intro w';go_simp;with_reducible rfl);rotate_left;(simp only [aP,i64_w,i32_w];rfl))
                                (refine pU 35 139 ?_ (ms 38 36) rfl rfl (by kernel_rfl) (fun _ _ _=>id) (by rfl) ?_ ?_ ?_ ?_;rotate_left;(intro w';go_simp;with_reducible rfl);rotate_left;(simp only [aP,i64_w,i32_w];rfl))
                                (refine pU 36 140 ?_ (ms 38 37) rfl rfl (by kernel_rfl) (fun _ _ _=>id) (by rfl) ?_ ?_ ?_ ?_;rotate_left;(intro w';go_simp;with_reducible rfl);rotate_left;(simp only [aP,i64_w,i32_w];rfl))
                                (refine pU 37 14 ?_ (ms 38 38) rfl rfl (by kernel_rfl) (fun _ _ _=>id) (by rfl) ?_ ?_ ?_ ?_;rotate_left;(intro w';go_simp;with_reducible rfl);rotate_left;(simp only [aP,i64_w,i32_w];rfl))
                                refine done_ (by kernel_rfl) ?_
                                go_wp2_with fail
                                go_roundg g2
                                case measure=>omega
                                case rel=>exact ⟨k + 1,by rw [HST.out,HV.out];rfl,by go_num,by omega,HKK,Lib.hid (Kd.C_below HR9.out hHeld),Lib.hid (Go.Proofs.YtdkjinmkallhnaaGreatDoor.below_then HW9.out hHeld)⟩
                              · have hop1:(c.op != 0)=true:=by simpa using hop
                                have HV:Hid (touchB e.1 c=true):=Lib.hid (by unfold touchB;rw [HNE.out,hu];simp [hop])
                                (refine pU 28 132 ?_ (ms 38 29) rfl rfl (by kernel_rfl) (fun _ _ _=>id) (by rfl) ?_ ?_ ?_ ?_;rotate_left;(intro w';go_simp;with_reducible rfl);rotate_left;(simp only [aP,i64_w,i32_w];rfl))
                                (refine pU 29 133 ?_ (ms 38 30) rfl rfl (by kernel_rfl) (fun _ _ _=>id) (by rfl) ?_ ?_ ?_ ?_;rotate_left;(intro w';go_simp;with_reducible rfl);rotate_left;(simp only [aP,i64_w,i32_w];rfl))
                                (refine pN 30 134 (ms 38 31) rfl rfl (by kernel_rfl) (fun _ _ _=>id) (by rfl) ?_ ?_ ?_;rotate_left;(simp only [aP,i64_w,i32_w];rfl))
                                (refine pN 31 135 (ms 38 32) rfl rfl (by kernel_rfl) (fun _ _ _=>id) (by rfl) ?_ ?_ ?_;rotate_left;(simp only [aP,i64_w,i32_w];rfl))
                                (refine pN 32 136 (ms 38 33) rfl rfl (by kernel_rfl) (fun _ _ _=>id) (by rfl) ?_ ?_ ?_;rotate_left;(simp only [aP,i64_w,i32_w];rfl))
                                (refine pN 33 137 (ms 38 34) rfl rfl (by kernel_rfl) (fun _ _ _=>id) (by rfl) ?_ ?_ ?_;rotate_left;(simp only [aP,i64_w,i32_w];rfl))
                                (refine pU 34 138 ?_ (ms 38 35) rfl rfl (by kernel_rfl) (fun _ _ _=>id) (by rfl) ?_ ?_ ?_ ?_;rotate_left;(intro w';go_simp;with_reducible rfl);rotate_left;(simp only [aP,i64_w,i32_w];rfl))
                                (refine pU 35 139 ?_ (ms 38 36) rfl rfl (by kernel_rfl) (fun _ _ _=>id) (by rfl) ?_ ?_ ?_ ?_;rotate_left;(intro w';go_simp;with_reducible rfl);rotate_left;(simp only [aP,i64_w,i32_w];rfl))
                                (refine pU 36 140 ?_ (ms 38 37) rfl rfl (by kernel_rfl) (fun _ _ _=>id) (by rfl) ?_ ?_ ?_ ?_;rotate_left;(intro w';go_simp;with_reducible rfl);rotate_left;(simp only [aP,i64_w,i32_w];rfl))
                                (refine pU 37 14 ?_ (ms 38 38) rfl rfl (by kernel_rfl) (fun _ _ _=>id) (by rfl) ?_ ?_ ?_ ?_;rotate_left;(intro w';go_simp;with_reducible rfl);rotate_left;(simp only [aP,i64_w,i32_w];rfl))
                                refine done_ (by kernel_rfl) ?_
                                go_wp2_with fail
                                go_roundg g2
                                case measure=>omega
                                case rel=>exact ⟨k + 1,by rw [HST.out,HV.out];rfl,by go_num,by omega,HKK,Lib.hid (Kd.C_below HR9.out hHeld),Lib.hid (Go.Proofs.YtdkjinmkallhnaaGreatDoor.below_then HW9.out hHeld)⟩
                          · have h21:(c.op != 2)=true:=by simpa using h2
                            have HV:Hid (touchB e.1 c=true):=Lib.hid (by unfold touchB;simp [HPE.out,h2])
                            (refine pU 13 117 ?_ (ms 38 14) rfl rfl (by kernel_rfl) (fun _ _ _=>id) (by rfl) ?_ ?_ ?_ ?_;rotate_left;(intro w';go_simp;with_reducible rfl);rotate_left;(simp only [aP,i64_w,i32_w];rfl))
                            (refine pU 14 118 ?_ (ms 38 15) rfl rfl (by kernel_rfl) (fun _ _ _=>id) (by rfl) ?_ ?_ ?_ ?_;rotate_left;(intro w';go_simp;with_reducible rfl);rotate_left;(simp only [aP,i64_w,i32_w];rfl))
                            (refine pU 15 119 ?_ (ms 38 16) rfl rfl (by kernel_rfl) (fun _ _ _=>id) (by rfl) ?_ ?_ ?_ ?_;rotate_left;(intro w';go_simp;with_reducible rfl);rotate_left;(simp only [aP,i64_w,i32_w];rfl))
                            (refine pU 16 120 ?_ (ms 38 17) rfl rfl (by kernel_rfl) (fun _ _ _=>id) (by rfl) ?_ ?_ ?_ ?_;rotate_left;(intro w';go_simp;with_reducible rfl);rotate_left;(simp only [aP,i64_w,i32_w];rfl))
                            (refine pN 17 121 (ms 38 18) rfl rfl (by kernel_rfl) (fun _ _ _=>id) (by rfl) ?_ ?_ ?_;rotate_left;(simp only [aP,i64_w,i32_w];rfl))
                            (refine pN 18 122 (ms 38 19) rfl rfl (by kernel_rfl) (fun _ _ _=>id) (by rfl) ?_ ?_ ?_;rotate_left;(simp only [aP,i64_w,i32_w];rfl))
                            (refine pN 19 123 (ms 38 20) rfl rfl (by kernel_rfl) (fun _ _ _=>id) (by rfl) ?_ ?_ ?_;rotate_left;(simp only [aP,i64_w,i32_w];rfl))
                            (refine pN 20 124 (ms 38 21) rfl rfl (by kernel_rfl) (fun _ _ _=>id) (by rfl) ?_ ?_ ?_;rotate_left;(simp only [aP,i64_w,i32_w];rfl))
                            (refine pN 21 125 (ms 38 22) rfl rfl (by kernel_rfl) (fun _ _ _=>id) (by rfl) ?_ ?_ ?_;rotate_left;(simp only [aP,i64_w,i32_w];rfl))
                            (refine pN 22 126 (ms 38 23) rfl rfl (by kernel_rfl) (fun _ _ _=>id) (by rfl) ?_ ?_ ?_;rotate_left;(simp only [aP,i64_w,i32_w];rfl))
                            (refine pN 23 127 (ms 38 24) rfl rfl (by kernel_rfl) (fun _ _ _=>id) (by rfl) ?_ ?_ ?_;rotate_left;(simp only [aP,i64_w,i32_w];rfl))
                            (refine pN 24 128 (ms 38 25) rfl rfl (by kernel_rfl) (fun _ _ _=>id) (by rfl) ?_ ?_ ?_;rotate_left;(simp only [aP,i64_w,i32_w];rfl))
                            (refine pN 25 129 (ms 38 26) rfl rfl (by kernel_rfl) (fun _ _ _=>id) (by rfl) ?_ ?_ ?_;rotate_left;(simp only [aP,i64_w,i32_w];rfl))
                            (refine pN 26 130 (ms 38 27) rfl rfl (by kernel_rfl) (fun _ _ _=>id) (by rfl) ?_ ?_ ?_;rotate_left;(simp only [aP,i64_w,i32_w];rfl))
                            (refine pN 27 131 (ms 38 28) rfl rfl (by kernel_rfl) (fun _ _ _=>id) (by rfl) ?_ ?_ ?_;rotate_left;(simp only [aP,i64_w,i32_w];rfl))
                            (refine pN 28 132 (ms 38 29) rfl rfl (by kernel_rfl) (fun _ _ _=>id) (by rfl) ?_ ?_ ?_;rotate_left;(simp only [aP,i64_w,i32_w];rfl))
                            (refine pN 29 133 (ms 38 30) rfl rfl (by kernel_rfl) (fun _ _ _=>id) (by rfl) ?_ ?_ ?_;rotate_left;(simp only [aP,i64_w,i32_w];rfl))
                            (refine pN 30 134 (ms 38 31) rfl rfl (by kernel_rfl) (fun _ _ _=>id) (by rfl) ?_ ?_ ?_;rotate_left;(simp only [aP,i64_w,i32_w];rfl))
                            (refine pN 31 135 (ms 38 32) rfl rfl (by kernel_rfl) (fun _ _ _=>id) (by rfl) ?_ ?_ ?_;rotate_left;(simp only [aP,i64_w,i32_w];rfl))
                            (refine pN 32 136 (ms 38 33) rfl rfl (by kernel_rfl) (fun _ _ _=>id) (by rfl) ?_ ?_ ?_;rotate_left;(simp only [aP,i64_w,i32_w];rfl))
                            (refine pN 33 137 (ms 38 34) rfl rfl (by kernel_rfl) (fun _ _ _=>id) (by rfl) ?_ ?_ ?_;rotate_left;(simp only [aP,i64_w,i32_w];rfl))
                            (refine pN 34 138 (ms 38 35) rfl rfl (by kernel_rfl) (fun _ _ _=>id) (by rfl) ?_ ?_ ?_;rotate_left;(simp only [aP,i64_w,i32_w];rfl))
                            (refine pN 35 139 (ms 38 36) rfl rfl (by kernel_rfl) (fun _ _ _=>id) (by rfl) ?_ ?_ ?_;rotate_left;(simp only [aP,i64_w,i32_w];rfl))
                            (refine pU 36 140 ?_ (ms 38 37) rfl rfl (by kernel_rfl) (fun _ _ _=>id) (by rfl) ?_ ?_ ?_ ?_;rotate_left;(intro w';go_simp;with_reducible rfl);rotate_left;(simp only [aP,i64_w,i32_w];rfl))
                            (refine pU 37 14 ?_ (ms 38 38) rfl rfl (by kernel_rfl) (fun _ _ _=>id) (by rfl) ?_ ?_ ?_ ?_;rotate_left;(intro w';go_simp;with_reducible rfl);rotate_left;(simp only [aP,i64_w,i32_w];rfl))
                            refine done_ (by kernel_rfl) ?_
                            go_wp2_with fail
                            go_roundg g2
                            case measure=>omega
                            case rel=>exact ⟨k + 1,by rw [HST.out,HV.out];rfl,by go_num,by omega,HKK,Lib.hid (Kd.C_below HR9.out hHeld),Lib.hid (Go.Proofs.YtdkjinmkallhnaaGreatDoor.below_then HW9.out hHeld)⟩
                        · have hp1:(c.path == e.1)=false:=by simpa using hp
                          have HNE:Hid ((decide (c.path=e.1) && decide (c.op≠2))=false):=Lib.hid (by simp [hp])
                          (refine pU 9 113 ?_ (ms 38 10) rfl rfl (by kernel_rfl) (fun _ _ _=>id) (by rfl) ?_ ?_ ?_ ?_;rotate_left;(intro w';go_simp;with_reducible rfl);rotate_left;(simp only [aP,i64_w,i32_w];rfl))
                          (refine pU 10 114 ?_ (ms 38 11) rfl rfl (by kernel_rfl) (fun _ _ _=>id) (by rfl) ?_ ?_ ?_ ?_;rotate_left;(intro w';go_simp;with_reducible rfl);rotate_left;(simp only [aP,i64_w,i32_w];rfl))
                          (refine pN 11 115 (ms 38 12) rfl rfl (by kernel_rfl) (fun _ _ _=>id) (by rfl) ?_ ?_ ?_;rotate_left;(simp only [aP,i64_w,i32_w];rfl))
                          (refine pN 12 116 (ms 38 13) rfl rfl (by kernel_rfl) (fun _ _ _=>id) (by rfl) ?_ ?_ ?_;rotate_left;(simp only [aP,i64_w,i32_w];rfl))
                          (refine pN 13 117 (ms 38 14) rfl rfl (by kernel_rfl) (fun _ _ _=>id) (by rfl) ?_ ?_ ?_;rotate_left;(simp only [aP,i64_w,i32_w];rfl))
                          (refine pU 14 118 ?_ (ms 38 15) rfl rfl (by kernel_rfl) (fun _ _ _=>id) (by rfl) ?_ ?_ ?_ ?_;rotate_left;(intro w';go_simp;with_reducible rfl);rotate_left;(simp only [aP,i64_w,i32_w];rfl))
                          (refine pU 15 119 ?_ (ms 38 16) rfl rfl (by kernel_rfl) (fun _ _ _=>id) (by rfl) ?_ ?_ ?_ ?_;rotate_left;(intro w';go_simp;with_reducible rfl);rotate_left;(simp only [aP,i64_w,i32_w];rfl))
                          (refine pU 16 120 ?_ (ms 38 17) rfl rfl (by kernel_rfl) (fun _ _ _=>id) (by rfl) ?_ ?_ ?_ ?_;rotate_left;(intro w';go_simp;with_reducible rfl);rotate_left;(simp only [aP,i64_w,i32_w];rfl))
                          (refine pU 17 121 ?_ (ms 38 18) rfl rfl (by kernel_rfl) (fun _ _ _=>id) (by rfl) ?_ ?_ ?_ ?_;rotate_left;(intro w';go_simp;with_reducible rfl);rotate_left;(simp only [aP,i64_w,i32_w];rfl))
                          (refine take_ (i:=18) (N:=some 122) (v:=?_) (a':=?_) (ms 38 19) rfl rfl (by kernel_rfl) (fun _ _ _ h=>h) (Or.inl ⟨by rfl,?_⟩) hHeld ?_ ?_;rotate_left;(intro w' hS';have hc0:=(HC9.out.below hS') 0 _ rfl;simp only [Addr.add_zero'] at hc0;go_simp;with_reducible rfl);rotate_left;(simp only [aP,i64_w,i32_w];rfl))
                          (refine pU 19 123 ?_ (ms 38 20) rfl rfl (by kernel_rfl) (fun _ _ _=>id) (by rfl) ?_ ?_ ?_ ?_;rotate_left;(intro w';go_simp;with_reducible rfl);rotate_left;(simp only [aP,i64_w,i32_w];rfl))
                          (refine pU 20 124 ?_ (ms 38 21) rfl rfl (by kernel_rfl) (fun _ _ _=>id) (by rfl) ?_ ?_ ?_ ?_;rotate_left;(intro w';go_simp;with_reducible rfl);rotate_left;(simp only [aP,i64_w,i32_w];rfl))
                          (refine pU 21 125 ?_ (ms 38 22) rfl rfl (by kernel_rfl) (fun _ _ _=>id) (by rfl) ?_ ?_ ?_ ?_;rotate_left;(intro w';go_simp;with_reducible rfl);rotate_left;(simp only [aP,i64_w,i32_w];rfl))
                          (refine pU 22 126 ?_ (ms 38 23) rfl rfl (by kernel_rfl) (fun _ _ _=>id) (by rfl) ?_ ?_ ?_ ?_;rotate_left;(intro w';go_simp;with_reducible rfl);rotate_left;(simp only [aP,i64_w,i32_w];rfl))
                          (refine take_ (i:=23) (N:=some 127) (v:=?_) (a':=?_) (ms 38 24) rfl rfl (by kernel_rfl) (fun _ _ _ h=>h) (Or.inl ⟨by rfl,?_⟩) hHeld ?_ ?_;rotate_left;(intro w' hS';have hc0:=(HE9.out.below hS') 0 _ rfl;simp only [Addr.add_zero'] at hc0;go_simp;with_reducible rfl);rotate_left;(simp only [aP,i64_w,i32_w];rfl))
                          refine one_ (i:=24) (N:=some 128) (ms 38 25) rfl rfl (by kernel_rfl) (by decide) (fun K hK=>?_)
                          refine goes_ Tryz.func25 (by kernel_rfl) rfl #[.string (B c.path),.string (B e.1)] (by rfl) rfl rfl (by simp only [List.map_toArray,List.map_cons,List.map_nil];rfl) ?_
                          refine (under_c _ c.path e.1 HCL.out).mono ?_
                          rintro x w10 ⟨rfl,hb10⟩
                          refine ⟨_,rfl,?_⟩
                          have HB10:=Lib.hid hb10
                          clear hb10
                          refine hK.out _ _ (Go.Proofs.YtdkjinmkallhnaaGreatDoor.below_then hHeld HB10.out) (fun hHeld=>?_)
                          clear hK K
                          refine norm_ (a':=?_) ?_ ?_
                          rotate_left
                          · show Act.put _ (some 128) _=_
                            (simp only [aP,i64_w,i32_w];rfl)
                          cases hu:underM c.path e.1 with
                          | false =>
                            have HV:Hid (touchB e.1 c=false):=Lib.hid (by unfold touchB;rw [HNE.out,hu];rfl)
                            (refine pU 25 129 ?_ (ms 38 26) rfl rfl (by kernel_rfl) (fun _ _ _=>id) (by rfl) ?_ ?_ ?_ ?_;rotate_left;(intro w';go_simp;with_reducible rfl);rotate_left;(simp only [aP,i64_w,i32_w];rfl))
                            (refine pN 26 130 (ms 38 27) rfl rfl (by kernel_rfl) (fun _ _ _=>id) (by rfl) ?_ ?_ ?_;rotate_left;(simp only [aP,i64_w,i32_w];rfl))
                            (refine pN 27 131 (ms 38 28) rfl rfl (by kernel_rfl) (fun _ _ _=>id) (by rfl) ?_ ?_ ?_;rotate_left;(simp only [aP,i64_w,i32_w];rfl))
                            (refine pN 28 132 (ms 38 29) rfl rfl (by kernel_rfl) (fun _ _ _=>id) (by rfl) ?_ ?_ ?_;rotate_left;(simp only [aP,i64_w,i32_w];rfl))
                            (refine pN 29 133 (ms 38 30) rfl rfl (by kernel_rfl) (fun _ _ _=>id) (by rfl) ?_ ?_ ?_;rotate_left;(simp only [aP,i64_w,i32_w];rfl))
                            (refine pN 30 134 (ms 38 31) rfl rfl (by kernel_rfl) (fun _ _ _=>id) (by rfl) ?_ ?_ ?_;rotate_left;(simp only [aP,i64_w,i32_w];rfl))
                            (refine pN 31 135 (ms 38 32) rfl rfl (by kernel_rfl) (fun _ _ _=>id) (by rfl) ?_ ?_ ?_;rotate_left;(simp only [aP,i64_w,i32_w];rfl))
                            (refine pN 32 136 (ms 38 33) rfl rfl (by kernel_rfl) (fun _ _ _=>id) (by rfl) ?_ ?_ ?_;rotate_left;(simp only [aP,i64_w,i32_w];rfl))
                            (refine pN 33 137 (ms 38 34) rfl rfl (by kernel_rfl) (fun _ _ _=>id) (by rfl) ?_ ?_ ?_;rotate_left;(simp only [aP,i64_w,i32_w];rfl))
                            (refine pN 34 138 (ms 38 35) rfl rfl (by kernel_rfl) (fun _ _ _=>id) (by rfl) ?_ ?_ ?_;rotate_left;(simp only [aP,i64_w,i32_w];rfl))
                            (refine pU 35 139 ?_ (ms 38 36) rfl rfl (by kernel_rfl) (fun _ _ _=>id) (by rfl) ?_ ?_ ?_ ?_;rotate_left;(intro w';go_simp;with_reducible rfl);rotate_left;(simp only [aP,i64_w,i32_w];rfl))
                            (refine pU 36 140 ?_ (ms 38 37) rfl rfl (by kernel_rfl) (fun _ _ _=>id) (by rfl) ?_ ?_ ?_ ?_;rotate_left;(intro w';go_simp;with_reducible rfl);rotate_left;(simp only [aP,i64_w,i32_w];rfl))
                            (refine pU 37 14 ?_ (ms 38 38) rfl rfl (by kernel_rfl) (fun _ _ _=>id) (by rfl) ?_ ?_ ?_ ?_;rotate_left;(intro w';go_simp;with_reducible rfl);rotate_left;(simp only [aP,i64_w,i32_w];rfl))
                            refine done_ (by kernel_rfl) ?_
                            go_wp2_with fail
                            go_roundg g2
                            case measure=>omega
                            case rel=>exact ⟨k + 1,by rw [HST.out,HV.out];rfl,by go_num,by omega,HKK,Lib.hid (Kd.C_below HR9.out hHeld),Lib.hid (Go.Proofs.YtdkjinmkallhnaaGreatDoor.below_then HW9.out hHeld)⟩
                          | true =>
                            (refine pU 25 129 ?_ (ms 38 26) rfl rfl (by kernel_rfl) (fun _ _ _=>id) (by rfl) ?_ ?_ ?_ ?_;rotate_left;(intro w';go_simp;with_reducible rfl);rotate_left;(simp only [aP,i64_w,i32_w];rfl))
                            (refine pU 26 130 ?_ (ms 38 27) rfl rfl (by kernel_rfl) (fun _ _ _=>id) (by rfl) ?_ ?_ ?_ ?_;rotate_left;(intro w';go_simp;with_reducible rfl);rotate_left;(simp only [aP,i64_w,i32_w];rfl))
                            (refine take_ (i:=27) (N:=some 131) (v:=?_) (a':=?_) (ms 38 28) rfl rfl (by kernel_rfl) (fun _ _ _ h=>h) (Or.inl ⟨by rfl,?_⟩) hHeld ?_ ?_;rotate_left;(intro w' hS';have hc0:w'.cell? ⟨g,1,none⟩=some (.int .i64 c.op):=(HC9.out.below hS') 1 _ rfl;go_simp;with_reducible rfl);rotate_left;(simp only [aP,i64_w,i32_w];rfl))
                            by_cases hop:c.op=0
                            · have hop1:(c.op != 0)=false:=by simpa using hop
                              have HV:Hid (touchB e.1 c=(c.node.kind != 1)):=Lib.hid (by unfold touchB;rw [HNE.out,hu,Bool.eq_iff_iff];simp [hop])
                              (refine pU 28 132 ?_ (ms 38 29) rfl rfl (by kernel_rfl) (fun _ _ _=>id) (by rfl) ?_ ?_ ?_ ?_;rotate_left;(intro w';go_simp;with_reducible rfl);rotate_left;(simp only [aP,i64_w,i32_w];rfl))
                              (refine pU 29 133 ?_ (ms 38 30) rfl rfl (by kernel_rfl) (fun _ _ _=>id) (by rfl) ?_ ?_ ?_ ?_;rotate_left;(intro w';go_simp;with_reducible rfl);rotate_left;(simp only [aP,i64_w,i32_w];rfl))
                              (refine pU 30 134 ?_ (ms 38 31) rfl rfl (by kernel_rfl) (fun _ _ _=>id) (by rfl) ?_ ?_ ?_ ?_;rotate_left;(intro w';go_simp;with_reducible rfl);rotate_left;(simp only [aP,i64_w,i32_w];rfl))
                              (refine pU 31 135 ?_ (ms 38 32) rfl rfl (by kernel_rfl) (fun _ _ _=>id) (by rfl) ?_ ?_ ?_ ?_;rotate_left;(intro w';go_simp;with_reducible rfl);rotate_left;(simp only [aP,i64_w,i32_w];rfl))
                              (refine take_ (i:=32) (N:=some 136) (v:=?_) (a':=?_) (ms 38 33) rfl rfl (by kernel_rfl) (fun _ _ _ h=>h) (Or.inl ⟨by rfl,?_⟩) hHeld ?_ ?_;rotate_left;(intro w' hS';have hc0:w'.cell? ⟨g,2,none⟩=some (.int .i64 c.node.kind):=(HC9.out.below hS') 2 _ rfl;go_simp;with_reducible rfl);rotate_left;(simp only [aP,i64_w,i32_w];rfl))
                              (refine pU 33 137 ?_ (ms 38 34) rfl rfl (by kernel_rfl) (fun _ _ _=>id) (by rfl) ?_ ?_ ?_ ?_;rotate_left;(intro w';go_simp;with_reducible rfl);rotate_left;(simp only [aP,i64_w,i32_w];rfl))
                              (refine pU 34 138 ?_ (ms 38 35) rfl rfl (by kernel_rfl) (fun _ _ _=>id) (by rfl) ?_ ?_ ?_ ?_;rotate_left;(intro w';go_simp;with_reducible rfl);rotate_left;(simp only [aP,i64_w,i32_w];rfl))
                              (refine pU 35 139 ?_ (ms 38 36) rfl rfl (by kernel_rfl) (fun _ _ _=>id) (by rfl) ?_ ?_ ?_ ?_;rotate_left;(intro w';go_simp;with_reducible rfl);rotate_left;(simp only [aP,i64_w,i32_w];rfl))
                              (refine pU 36 140 ?_ (ms 38 37) rfl rfl (by kernel_rfl) (fun _ _ _=>id) (by rfl) ?_ ?_ ?_ ?_;rotate_left;(intro w';go_simp;with_reducible rfl);rotate_left;(simp only [aP,i64_w,i32_w];rfl))
                              (refine pU 37 14 ?_ (ms 38 38) rfl rfl (by kernel_rfl) (fun _ _ _=>id) (by rfl) ?_ ?_ ?_ ?_;rotate_left;(intro w';go_simp;with_reducible rfl);rotate_left;(simp only [aP,i64_w,i32_w];rfl))
                              refine done_ (by kernel_rfl) ?_
                              go_wp2_with fail
                              go_roundg g2
                              case measure=>omega
                              case rel=>exact ⟨k + 1,by rw [HST.out,HV.out];rfl,by go_num,by omega,HKK,Lib.hid (Kd.C_below HR9.out hHeld),Lib.hid (Go.Proofs.YtdkjinmkallhnaaGreatDoor.below_then HW9.out hHeld)⟩
                            · have hop1:(c.op != 0)=true:=by simpa using hop
                              have HV:Hid (touchB e.1 c=true):=Lib.hid (by unfold touchB;rw [HNE.out,hu];simp [hop])
                              (refine pU 28 132 ?_ (ms 38 29) rfl rfl (by kernel_rfl) (fun _ _ _=>id) (by rfl) ?_ ?_ ?_ ?_;rotate_left;(intro w';go_simp;with_reducible rfl);rotate_left;(simp only [aP,i64_w,i32_w];rfl))
                              (refine pU 29 133 ?_ (ms 38 30) rfl rfl (by kernel_rfl) (fun _ _ _=>id) (by rfl) ?_ ?_ ?_ ?_;rotate_left;(intro w';go_simp;with_reducible rfl);rotate_left;(simp only [aP,i64_w,i32_w];rfl))
                              (refine pN 30 134 (ms 38 31) rfl rfl (by kernel_rfl) (fun _ _ _=>id) (by rfl) ?_ ?_ ?_;rotate_left;(simp only [aP,i64_w,i32_w];rfl))
                              (refine pN 31 135 (ms 38 32) rfl rfl (by kernel_rfl) (fun _ _ _=>id) (by rfl) ?_ ?_ ?_;rotate_left;(simp only [aP,i64_w,i32_w];rfl))
                              (refine pN 32 136 (ms 38 33) rfl rfl (by kernel_rfl) (fun _ _ _=>id) (by rfl) ?_ ?_ ?_;rotate_left;(simp only [aP,i64_w,i32_w];rfl))
                              (refine pN 33 137 (ms 38 34) rfl rfl (by kernel_rfl) (fun _ _ _=>id) (by rfl) ?_ ?_ ?_;rotate_left;(simp only [aP,i64_w,i32_w];rfl))
                              (refine pU 34 138 ?_ (ms 38 35) rfl rfl (by kernel_rfl) (fun _ _ _=>id) (by rfl) ?_ ?_ ?_ ?_;rotate_left;(intro w';go_simp;with_reducible rfl);rotate_left;(simp only [aP,i64_w,i32_w];rfl))
                              (refine pU 35 139 ?_ (ms 38 36) rfl rfl (by kernel_rfl) (fun _ _ _=>id) (by rfl) ?_ ?_ ?_ ?_;rotate_left;(intro w';go_simp;with_reducible rfl);rotate_left;(simp only [aP,i64_w,i32_w];rfl))
                              (refine pU 36 140 ?_ (ms 38 37) rfl rfl (by kernel_rfl) (fun _ _ _=>id) (by rfl) ?_ ?_ ?_ ?_;rotate_left;(intro w';go_simp;with_reducible rfl);rotate_left;(simp only [aP,i64_w,i32_w];rfl))
                              (refine pU 37 14 ?_ (ms 38 38) rfl rfl (by kernel_rfl) (fun _ _ _=>id) (by rfl) ?_ ?_ ?_ ?_;rotate_left;(intro w';go_simp;with_reducible rfl);rotate_left;(simp only [aP,i64_w,i32_w];rfl))
                              refine done_ (by kernel_rfl) ?_
                              go_wp2_with fail
                              go_roundg g2
                              case measure=>omega
                              case rel=>exact ⟨k + 1,by rw [HST.out,HV.out];rfl,by go_num,by omega,HKK,Lib.hid (Kd.C_below HR9.out hHeld),Lib.hid (Go.Proofs.YtdkjinmkallhnaaGreatDoor.below_then HW9.out hHeld)⟩
                · have he:k=l1.length:=by have:=HK.out;omega
                  subst he
                  obtain ⟨tv,htv⟩:∃ tv,tv=(l1.map chOf).any (touchB e.1):=⟨_,rfl⟩
                  have htk:((l1.map chOf).take l1.length).any (touchB e.1)=tv:=by rw [List.take_of_length_le (by simp),htv]
                  rw [htk]
                  have HTV:=Lib.hid htv.symm
                  clear htk htv HK hgk
                  have q0:=(HEW.out.below HB.out) 0 _ rfl
                  rw [Addr.add_zero'] at q0
                  go_wp2_with fail
                  refine (get_calls wr A2 c2 t HR.out HFT.out.2 e.1).mono ?_
                  rintro x w7 ⟨rfl,hb⟩
                  obtain ⟨m,is,hmi⟩:∃ m is,getN (t.map enOf) e.1=(m,is):=⟨_,_,rfl⟩
                  rw [hmi]
                  have HMI:=Lib.hid hmi
                  have HW7:=Lib.hid (Go.Proofs.YtdkjinmkallhnaaGreatDoor.below_then HB.out hb)
                  have HR7:=Lib.hid (Kd.C_below HR.out hb)
                  clear hb hmi HB HR
                  go_upto_region 27 with (first|((with_reducible refine gate_dst (N:=17) rfl ?_);refine box_event rfl (N:=17) rfl (cs:=ndZero) (t:=26) ?hr ?_;(case hr=>first|(go_simp;done)|(go_simp;rfl));intro g hg w8 hb2 hbl2;have HGE8:Hid (w7.heap.size≤g):=Lib.hid (by rw [hg];exact Nat.le_refl _);have HB2:=Lib.hid hb2;have HBL2:=Lib.hid hbl2;clear hg hb2 hbl2)|((with_reducible refine gate_store (t:=26) (p:=17) rfl ?_);refine wpList_store_agg rfl rfl 26 _ _ rfl g (ndCells m).toArray rfl rfl 26 ndZero HB2.out rfl rfl (ndCells_all _) ?_;intro w9 hb3 hg3;have HB9:=Lib.hid hb3;have HBL3:Hid (Below w7.heap.size w7 w9):=Lib.hid (HBL2.out.grown hg3 HBL2.out.size (fun j hj=>by cases hj;exact HGE8.out));clear hb3 hg3))
                  have HW9:=Lib.hid (Go.Proofs.YtdkjinmkallhnaaGreatDoor.below_then HW7.out HBL3.out)
                  have HR9:=Lib.hid (Kd.C_below HR7.out HBL3.out)
                  have HLM:=Lib.hid (lies_of HB9.out)
                  clear HB2 HBL2 HBL3 HGE8 HW7 HR7
                  have HE9:=Lib.hid (HEW.out.below HW9.out)
                  have HEN:=Lib.hid HE9.out.enode
                  go_cut [165] (fun v wc=>v=.bool false∧Hid (Below w9.heap.size w9 wc))
                  case first =>
                    cases tv with
                    | true =>
                      as_aux_lemma =>
                        refine start_ (n:=15) (S:=fun w'=>Below w9.heap.size w9 w') (ds:=[]) (ms 15 0) (by kernel_rfl) rfl rfl (Below.refl _ _).drew (fun hHeld=>?_)
                        (refine pU 0 151 ?_ (ms 15 1) rfl rfl (by kernel_rfl) (fun _ _ _=>id) (by rfl) ?_ ?_ ?_ ?_;rotate_left;(intro w';go_simp;with_reducible rfl);rotate_left;(simp only [aP,i64_w,i32_w];rfl))
                        (refine pU 1 152 ?_ (ms 15 2) rfl rfl (by kernel_rfl) (fun _ _ _=>id) (by rfl) ?_ ?_ ?_ ?_;rotate_left;(intro w';go_simp;with_reducible rfl);rotate_left;(simp only [aP,i64_w,i32_w];rfl))
                        (refine pU 2 153 ?_ (ms 15 3) rfl rfl (by kernel_rfl) (fun _ _ _=>id) (by rfl) ?_ ?_ ?_ ?_;rotate_left;(intro w';go_simp;with_reducible rfl);rotate_left;(simp only [aP,i64_w,i32_w];rfl))
                        (refine pN 3 154 (ms 15 4) rfl rfl (by kernel_rfl) (fun _ _ _=>id) (by rfl) ?_ ?_ ?_;rotate_left;(simp only [aP,i64_w,i32_w];rfl))
                        (refine pN 4 155 (ms 15 5) rfl rfl (by kernel_rfl) (fun _ _ _=>id) (by rfl) ?_ ?_ ?_;rotate_left;(simp only [aP,i64_w,i32_w];rfl))
                        (refine pN 5 156 (ms 15 6) rfl rfl (by kernel_rfl) (fun _ _ _=>id) (by rfl) ?_ ?_ ?_;rotate_left;(simp only [aP,i64_w,i32_w];rfl))
                        (refine pN 6 157 (ms 15 7) rfl rfl (by kernel_rfl) (fun _ _ _=>id) (by rfl) ?_ ?_ ?_;rotate_left;(simp only [aP,i64_w,i32_w];rfl))
                        (refine pN 7 158 (ms 15 8) rfl rfl (by kernel_rfl) (fun _ _ _=>id) (by rfl) ?_ ?_ ?_;rotate_left;(simp only [aP,i64_w,i32_w];rfl))
                        (refine pN 8 159 (ms 15 9) rfl rfl (by kernel_rfl) (fun _ _ _=>id) (by rfl) ?_ ?_ ?_;rotate_left;(simp only [aP,i64_w,i32_w];rfl))
                        (refine pN 9 160 (ms 15 10) rfl rfl (by kernel_rfl) (fun _ _ _=>id) (by rfl) ?_ ?_ ?_;rotate_left;(simp only [aP,i64_w,i32_w];rfl))
                        (refine pN 10 161 (ms 15 11) rfl rfl (by kernel_rfl) (fun _ _ _=>id) (by rfl) ?_ ?_ ?_;rotate_left;(simp only [aP,i64_w,i32_w];rfl))
                        (refine pN 11 162 (ms 15 12) rfl rfl (by kernel_rfl) (fun _ _ _=>id) (by rfl) ?_ ?_ ?_;rotate_left;(simp only [aP,i64_w,i32_w];rfl))
                        (refine pN 12 163 (ms 15 13) rfl rfl (by kernel_rfl) (fun _ _ _=>id) (by rfl) ?_ ?_ ?_;rotate_left;(simp only [aP,i64_w,i32_w];rfl))
                        (refine pN 13 164 (ms 15 14) rfl rfl (by kernel_rfl) (fun _ _ _=>id) (by rfl) ?_ ?_ ?_;rotate_left;(simp only [aP,i64_w,i32_w];rfl))
                        (refine pU 14 165 ?_ (ms 15 15) rfl rfl (by kernel_rfl) (fun _ _ _=>id) (by rfl) ?_ ?_ ?_ ?_;rotate_left;(intro w';go_simp;with_reducible rfl);rotate_left;(simp only [aP,i64_w,i32_w];rfl))
                        refine done_ (by kernel_rfl) ?_
                        go_wp2_with fail
                        go_meet
                        exact ⟨rfl,Lib.hid hHeld⟩
                    | false =>
                      as_aux_lemma =>
                        have hq:=HMI.out
                        rw [stay_in HAT.out HM.out HTV.out] at hq
                        obtain ⟨rfl,rfl⟩:=Prod.mk.inj hq
                        clear hq
                        refine start_ (n:=15) (S:=fun w'=>Below w9.heap.size w9 w') (ds:=[]) (ms 15 0) (by kernel_rfl) rfl rfl (Below.refl _ _).drew (fun hHeld=>?_)
                        (refine pU 0 151 ?_ (ms 15 1) rfl rfl (by kernel_rfl) (fun _ _ _=>id) (by rfl) ?_ ?_ ?_ ?_;rotate_left;(intro w';go_simp;with_reducible rfl);rotate_left;(simp only [aP,i64_w,i32_w];rfl))
                        (refine pU 1 152 ?_ (ms 15 2) rfl rfl (by kernel_rfl) (fun _ _ _=>id) (by rfl) ?_ ?_ ?_ ?_;rotate_left;(intro w';go_simp;with_reducible rfl);rotate_left;(simp only [aP,i64_w,i32_w];rfl))
                        (refine pU 2 153 ?_ (ms 15 3) rfl rfl (by kernel_rfl) (fun _ _ _=>id) (by rfl) ?_ ?_ ?_ ?_;rotate_left;(intro w';go_simp;with_reducible rfl);rotate_left;(simp only [aP,i64_w,i32_w];rfl))
                        (refine pU 3 154 ?_ (ms 15 4) rfl rfl (by kernel_rfl) (fun _ _ _=>id) (by rfl) ?_ ?_ ?_ ?_;rotate_left;(intro w';go_simp;with_reducible rfl);rotate_left;(simp only [aP,i64_w,i32_w];rfl))
                        (refine pU 4 155 ?_ (ms 15 5) rfl rfl (by kernel_rfl) (fun _ _ _=>id) (by rfl) ?_ ?_ ?_ ?_;rotate_left;(intro w';go_simp;with_reducible rfl);rotate_left;(simp only [aP,i64_w,i32_w];rfl))
                        (refine pU 5 156 ?_ (ms 15 6) rfl rfl (by kernel_rfl) (fun _ _ _=>id) (by rfl) ?_ ?_ ?_ ?_;rotate_left;(intro w';go_simp;with_reducible rfl);rotate_left;(simp only [aP,i64_w,i32_w];rfl))
                        refine take_ (i:=6) (N:=some 157) (v:=.agg (ndCells e.2).toArray) (a':=?_) (ms 15 7) rfl rfl (by kernel_rfl) (fun _ _ _ h=>h) (yi_agg (by rfl) 26 _ rfl _ rfl _ _ (fun w' hb=>HLM.out.below hb) HUN.out rfl rfl) hHeld ?_ ?_
                        rotate_left
                        · (simp only [aP,i64_w,i32_w];rfl)
                        (refine pU 7 158 ?_ (ms 15 8) rfl rfl (by kernel_rfl) (fun _ _ _=>id) (by rfl) ?_ ?_ ?_ ?_;rotate_left;(intro w';go_simp;with_reducible rfl);rotate_left;(simp only [aP,i64_w,i32_w];rfl))
                        (refine pU 8 159 ?_ (ms 15 9) rfl rfl (by kernel_rfl) (fun _ _ _=>id) (by rfl) ?_ ?_ ?_ ?_;rotate_left;(intro w';go_simp;with_reducible rfl);rotate_left;(simp only [aP,i64_w,i32_w];rfl))
                        (refine pU 9 160 ?_ (ms 15 10) rfl rfl (by kernel_rfl) (fun _ _ _=>id) (by rfl) ?_ ?_ ?_ ?_;rotate_left;(intro w';go_simp;with_reducible rfl);rotate_left;(simp only [aP,i64_w,i32_w];rfl))
                        (refine pU 10 161 ?_ (ms 15 11) rfl rfl (by kernel_rfl) (fun _ _ _=>id) (by rfl) ?_ ?_ ?_ ?_;rotate_left;(intro w';go_simp;with_reducible rfl);rotate_left;(simp only [aP,i64_w,i32_w];rfl))
                        refine take_ (i:=11) (N:=some 162) (v:=.agg (ndCells e.2).toArray) (a':=?_) (ms 15 12) rfl rfl (by kernel_rfl) (fun _ _ _ h=>h) (yi_agg (by rfl) 26 _ rfl _ rfl _ _ (fun w' hb=>HEN.out.below hb) HUN.out rfl rfl) hHeld ?_ ?_
                        rotate_left
                        · (simp only [aP,i64_w,i32_w];rfl)
                        (refine pU 12 163 ?_ (ms 15 13) rfl rfl (by kernel_rfl) (fun _ _ _=>id) (by rfl) ?_ ?_ ?_ ?_;rotate_left;(intro w';go_simp;with_reducible rfl);rotate_left;(simp only [aP,i64_w,i32_w];rfl))
                        (refine pU 13 164 ?_ (ms 15 14) rfl rfl (by kernel_rfl) (fun _ _ _=>id) (by rfl) ?_ ?_ ?_ ?_;rotate_left;(intro w';go_simp;with_reducible rfl);rotate_left;(simp only [aP,i64_w,i32_w];rfl))
                        (refine pU 14 165 ?_ (ms 15 15) rfl rfl (by kernel_rfl) (fun _ _ _=>id) (by rfl) ?_ ?_ ?_ ?_;rotate_left;(intro w';go_simp;with_reducible rfl);rotate_left;(simp only [aP,i64_w,i32_w];rfl))
                        refine done_ (by kernel_rfl) ?_
                        go_wp2_with fail
                        go_meet
                        exact ⟨rfl,Lib.hid hHeld⟩
                  case rest =>
                  obtain ⟨rfl,HBB⟩:=hcut
                  have HW10:=Lib.hid (Go.Proofs.YtdkjinmkallhnaaGreatDoor.below_then HW9.out HBB.out)
                  have HR10:=Lib.hid (Kd.C_below HR9.out HBB.out)
                  clear HBB HW9 HR9 HE9 HEN
                  go_wp2_with fail
                  go_roundg g1
                  case measure=>omega
                  case rel=>exact ⟨j + 1,by go_num,by omega,HJJ,HR10,HW10⟩
          · have he : j = l0.length:=by have:=HJ.out;omega
            subst he
            clear HJ hgj
            go_wp2
            go_loopg [19] (t.length + 1) (fun gq v wr=>∃ i:Nat,v=.int .i64 i∧t.length<gq + i∧Hid (i≤t.length)∧Hid (Kd.C k40 wr A2 t.length t)∧Hid (Below w.heap.size w wr))
            case atStart=>exact ⟨0,rfl,by omega,Lib.hid (by omega),HR,HB⟩
            case round =>
              clear HR HB
              obtain ⟨i,rfl,hgi,HI,HR,HB⟩:=hrel
              by_cases hi:i<t.length
              · cases gk with
                | zero=>omega
                | succ g1 =>
                  obtain ⟨ad2,rfl,hat2⟩:=e_at HR.out i hi
                  have hm:enOf t[i] ∈ t.map enOf:=List.mem_map_of_mem (f:=enOf) (List.getElem_mem hi)
                  obtain ⟨e,hee⟩:∃ e,e=enOf t[i]:=⟨_,rfl⟩
                  rw [← hee] at hat2 hm
                  have HEE:=Lib.hid hee
                  have HM:=Lib.hid hm
                  have HII:Hid (i + 1≤t.length):=Lib.hid hi
                  have hlt:=HFT.out.2
                  have hi0:(0:Int)≤(i:Int):=by omega
                  have hi1:(i:Int)<(t.length:Int):=by omega
                  have q0:=hat2 0 _ rfl
                  rw [Addr.add_zero'] at q0
                  clear hat2 hm hee
                  go_wp2_with fail
                  refine (get_calls wr A0 c0 l0 (Kd.C_below HR0.out HB.out) HF0.out.2 e.1).mono ?_
                  rintro x w7 ⟨rfl,hb⟩
                  obtain ⟨m,is,hmi⟩:∃ m is,getN (l0.map enOf) e.1=(m,is):=⟨_,_,rfl⟩
                  rw [hmi]
                  have HMI:=Lib.hid hmi
                  have HW7:=Lib.hid (Go.Proofs.YtdkjinmkallhnaaGreatDoor.below_then HB.out hb)
                  have HR7:=Lib.hid (Kd.C_below HR.out hb)
                  clear hb hmi HB HR
                  clear q0
                  go_upto_region 33 with (first|((with_reducible refine gate_dst (N:=20) rfl ?_);refine box_event rfl (N:=20) rfl (cs:=ndZero) (t:=26) ?hr ?_;(case hr=>first|(go_simp;done)|(go_simp;rfl));intro g hg w8 hb2 hbl2;have HGE8:Hid (w7.heap.size≤g):=Lib.hid (by rw [hg];exact Nat.le_refl _);have HB2:=Lib.hid hb2;have HBL2:=Lib.hid hbl2;clear hg hb2 hbl2)|((with_reducible refine gate_store (t:=26) (p:=20) rfl ?_);refine wpList_store_agg rfl rfl 26 _ _ rfl g (ndCells m).toArray rfl rfl 26 ndZero HB2.out rfl rfl (ndCells_all _) ?_;intro w9 hb3 hg3;have HB9:=Lib.hid hb3;have HBL3:Hid (Below w7.heap.size w7 w9):=Lib.hid (HBL2.out.grown hg3 HBL2.out.size (fun j hj=>by cases hj;exact HGE8.out));clear hb3 hg3))
                  have HW9:=Lib.hid (Go.Proofs.YtdkjinmkallhnaaGreatDoor.below_then HW7.out HBL3.out)
                  have HR9:=Lib.hid (Kd.C_below HR7.out HBL3.out)
                  have HLM:=Lib.hid (lies_of HB9.out)
                  clear HB2 HBL2 HBL3 HGE8 HW7 HR7
                  go_wp2
                  go_loopg [22,23] (l1.length + 1) (fun gq v u wr=>∃ k:Nat,v=.bool (((l1.map chOf).take k).any (putB e.1))∧u=.int .i64 k∧l1.length<gq + k∧Hid (k≤l1.length)∧Hid (Kd.C k40 wr (some ad2) t.length t)∧Hid (Below w.heap.size w wr)∧Hid (wr.heap[g]?=some (.cells (ndCells m).toArray 26 (0,0))))
                  case atStart=>exact ⟨0,rfl,rfl,by omega,Lib.hid (by omega),HR9,HW9,HB9⟩
                  case round =>
                    clear HR9 HW9 HB9
                    obtain ⟨k,rfl,rfl,hgk,HK,HR,HB,HZ⟩:=hrel
                    by_cases hk:k<l1.length
                    · cases gk with
                      | zero=>omega
                      | succ g2 =>
                        obtain ⟨ad1,rfl,hat1⟩:=c_at HR1.out k hk
                        have hcl:=(lyr_two HF1.out.1 (List.mem_map_of_mem (f:=chOf) (List.getElem_mem hk))).1
                        obtain ⟨c,hc⟩:∃ c,c=chOf l1[k]:=⟨_,rfl⟩
                        have hst:((l1.map chOf).take (k + 1)).any (putB e.1)=(((l1.map chOf).take k).any (putB e.1) || putB e.1 c):=by rw [List.take_succ_eq_append_getElem (by simpa using hk),List.any_append,List.getElem_map,← hc];simp
                        rw [← hc] at hat1 hcl
                        have HST:=Lib.hid hst
                        have HCL:=Lib.hid hcl
                        have HKK:Hid (k + 1≤l1.length):=Lib.hid hk
                        have HCT:=Lib.hid (hat1.below HB.out)
                        clear hst hc hat1 hcl
                        have hl1:=HF1.out.2
                        obtain ⟨w9,rfl⟩:∃ w9,w9=wr:=⟨_,rfl⟩
                        have HW9:=HB
                        have HR9:=HR
                        have HC9:=HCT
                        clear HB HR HCT
                        go_upto_region 37 with (fail)
                        obtain ⟨tb,htb⟩:∃ tb,tb=((l1.map chOf).take k).any (putB e.1):=⟨_,rfl⟩
                        rw [← htb] at HST ⊢
                        clear htb
                        have HE9:Hid (LiesAt w9 (ad2.add (i * 11)) (eCells e)):=Lib.hid (by rw [HEE.out];exact e_lies HR9.out i hi)
                        have hk0:(0:Int)≤(k:Int):=by omega
                        have hk1:(k:Int)<(l1.length:Int):=by omega
                        cases tb with
                        | true =>
                          as_aux_lemma =>
                            refine start_ (n:=23) (S:=fun w'=>Below w9.heap.size w9 w') (ds:=[]) (ms 23 0) (by kernel_rfl) rfl rfl (Below.refl _ _).drew (fun hHeld=>?_)
                            (refine pU 0 188 ?_ (ms 23 1) rfl rfl (by kernel_rfl) (fun _ _ _=>id) (by rfl) ?_ ?_ ?_ ?_;rotate_left;(intro w';go_simp;with_reducible rfl);rotate_left;(simp only [aP,i64_w,i32_w];rfl))
                            (refine pU 1 189 ?_ (ms 23 2) rfl rfl (by kernel_rfl) (fun _ _ _=>id) (by rfl) ?_ ?_ ?_ ?_;rotate_left;(intro w';go_simp;with_reducible rfl);rotate_left;(simp only [aP,i64_w,i32_w];rfl))
                            (refine pN 2 190 (ms 23 3) rfl rfl (by kernel_rfl) (fun _ _ _=>id) (by rfl) ?_ ?_ ?_;rotate_left;(simp only [aP,i64_w,i32_w];rfl))
                            (refine pN 3 191 (ms 23 4) rfl rfl (by kernel_rfl) (fun _ _ _=>id) (by rfl) ?_ ?_ ?_;rotate_left;(simp only [aP,i64_w,i32_w];rfl))
                            (refine pN 4 192 (ms 23 5) rfl rfl (by kernel_rfl) (fun _ _ _=>id) (by rfl) ?_ ?_ ?_;rotate_left;(simp only [aP,i64_w,i32_w];rfl))
                            (refine pN 5 193 (ms 23 6) rfl rfl (by kernel_rfl) (fun _ _ _=>id) (by rfl) ?_ ?_ ?_;rotate_left;(simp only [aP,i64_w,i32_w];rfl))
                            (refine pN 6 194 (ms 23 7) rfl rfl (by kernel_rfl) (fun _ _ _=>id) (by rfl) ?_ ?_ ?_;rotate_left;(simp only [aP,i64_w,i32_w];rfl))
                            (refine pN 7 195 (ms 23 8) rfl rfl (by kernel_rfl) (fun _ _ _=>id) (by rfl) ?_ ?_ ?_;rotate_left;(simp only [aP,i64_w,i32_w];rfl))
                            (refine pN 8 196 (ms 23 9) rfl rfl (by kernel_rfl) (fun _ _ _=>id) (by rfl) ?_ ?_ ?_;rotate_left;(simp only [aP,i64_w,i32_w];rfl))
                            (refine pN 9 197 (ms 23 10) rfl rfl (by kernel_rfl) (fun _ _ _=>id) (by rfl) ?_ ?_ ?_;rotate_left;(simp only [aP,i64_w,i32_w];rfl))
                            (refine pN 10 198 (ms 23 11) rfl rfl (by kernel_rfl) (fun _ _ _=>id) (by rfl) ?_ ?_ ?_;rotate_left;(simp only [aP,i64_w,i32_w];rfl))
                            (refine pN 11 199 (ms 23 12) rfl rfl (by kernel_rfl) (fun _ _ _=>id) (by rfl) ?_ ?_ ?_;rotate_left;(simp only [aP,i64_w,i32_w];rfl))
                            (refine pN 12 200 (ms 23 13) rfl rfl (by kernel_rfl) (fun _ _ _=>id) (by rfl) ?_ ?_ ?_;rotate_left;(simp only [aP,i64_w,i32_w];rfl))
                            (refine pN 13 201 (ms 23 14) rfl rfl (by kernel_rfl) (fun _ _ _=>id) (by rfl) ?_ ?_ ?_;rotate_left;(simp only [aP,i64_w,i32_w];rfl))
                            (refine pN 14 202 (ms 23 15) rfl rfl (by kernel_rfl) (fun _ _ _=>id) (by rfl) ?_ ?_ ?_;rotate_left;(simp only [aP,i64_w,i32_w];rfl))
                            (refine pN 15 203 (ms 23 16) rfl rfl (by kernel_rfl) (fun _ _ _=>id) (by rfl) ?_ ?_ ?_;rotate_left;(simp only [aP,i64_w,i32_w];rfl))
                            (refine pN 16 204 (ms 23 17) rfl rfl (by kernel_rfl) (fun _ _ _=>id) (by rfl) ?_ ?_ ?_;rotate_left;(simp only [aP,i64_w,i32_w];rfl))
                            (refine pN 17 205 (ms 23 18) rfl rfl (by kernel_rfl) (fun _ _ _=>id) (by rfl) ?_ ?_ ?_;rotate_left;(simp only [aP,i64_w,i32_w];rfl))
                            (refine pN 18 206 (ms 23 19) rfl rfl (by kernel_rfl) (fun _ _ _=>id) (by rfl) ?_ ?_ ?_;rotate_left;(simp only [aP,i64_w,i32_w];rfl))
                            (refine pN 19 207 (ms 23 20) rfl rfl (by kernel_rfl) (fun _ _ _=>id) (by rfl) ?_ ?_ ?_;rotate_left;(simp only [aP,i64_w,i32_w];rfl))
                            (refine pN 20 208 (ms 23 21) rfl rfl (by kernel_rfl) (fun _ _ _=>id) (by rfl) ?_ ?_ ?_;rotate_left;(simp only [aP,i64_w,i32_w];rfl))
                            (refine pU 21 209 ?_ (ms 23 22) rfl rfl (by kernel_rfl) (fun _ _ _=>id) (by rfl) ?_ ?_ ?_ ?_;rotate_left;(intro w';go_simp;with_reducible rfl);rotate_left;(simp only [aP,i64_w,i32_w];rfl))
                            (refine pU 22 22 ?_ (ms 23 23) rfl rfl (by kernel_rfl) (fun _ _ _=>id) (by rfl) ?_ ?_ ?_ ?_;rotate_left;(intro w';go_simp;with_reducible rfl);rotate_left;(simp only [aP,i64_w,i32_w];rfl))
                            refine done_ (by kernel_rfl) ?_
                            go_wp2_with fail
                            go_roundg g2
                            case measure=>omega
                            case rel=>exact ⟨k + 1,by rw [HST.out];rfl,by go_num,by omega,HKK,Lib.hid (Kd.C_below HR9.out hHeld),Lib.hid (Go.Proofs.YtdkjinmkallhnaaGreatDoor.below_then HW9.out hHeld),Lib.hid (blk_below HZ.out hHeld)⟩
                        | false =>
                          as_aux_lemma =>
                            refine start_ (n:=23) (S:=fun w'=>Below w9.heap.size w9 w') (ds:=[]) (ms 23 0) (by kernel_rfl) rfl rfl (Below.refl _ _).drew (fun hHeld=>?_)
                            (refine pU 0 188 ?_ (ms 23 1) rfl rfl (by kernel_rfl) (fun _ _ _=>id) (by rfl) ?_ ?_ ?_ ?_;rotate_left;(intro w';go_simp;with_reducible rfl);rotate_left;(simp only [aP,i64_w,i32_w];rfl))
                            (refine pU 1 189 ?_ (ms 23 2) rfl rfl (by kernel_rfl) (fun _ _ _=>id) (by rfl) ?_ ?_ ?_ ?_;rotate_left;(intro w';go_simp;with_reducible rfl);rotate_left;(simp only [aP,i64_w,i32_w];rfl))
                            (refine pU 2 190 ?_ (ms 23 3) rfl rfl (by kernel_rfl) (fun _ _ _=>id) (by rfl) ?_ ?_ ?_ ?_;rotate_left;(intro w';go_simp;with_reducible rfl);rotate_left;(simp only [aP,i64_w,i32_w];rfl))
                            (refine pU 3 191 ?_ (ms 23 4) rfl rfl (by kernel_rfl) (fun _ _ _=>id) (by rfl) ?_ ?_ ?_ ?_;rotate_left;(intro w';go_simp;with_reducible rfl);rotate_left;(simp only [aP,i64_w,i32_w];rfl))
                            (refine pU 4 192 ?_ (ms 23 5) rfl rfl (by kernel_rfl) (fun _ _ _=>id) (by rfl) ?_ ?_ ?_ ?_;rotate_left;(intro w';go_simp;with_reducible rfl);rotate_left;(simp only [aP,i64_w,i32_w];rfl))
                            (refine pU 5 193 ?_ (ms 23 6) rfl rfl (by kernel_rfl) (fun _ _ _=>id) (by rfl) ?_ ?_ ?_ ?_;rotate_left;(intro w';go_simp;with_reducible rfl);rotate_left;(simp only [aP,i64_w,i32_w];rfl))
                            (refine take_ (i:=6) (N:=some 194) (v:=?_) (a':=?_) (ms 23 7) rfl rfl (by kernel_rfl) (fun _ _ _ h=>h) (Or.inl ⟨by rfl,?_⟩) hHeld ?_ ?_;rotate_left;(intro w' hS';have hc0:w'.cell? ⟨(ad1.add (k * 12)).block,(ad1.add (k * 12)).off + 1,none⟩=some (.int .i64 c.op):=(HC9.out.below hS') 1 _ rfl;go_simp;with_reducible rfl);rotate_left;(simp only [aP,i64_w,i32_w];rfl))
                            by_cases hop:c.op=0
                            · have hop1:(c.op == 0)=true:=by simpa using hop
                              (refine pU 7 195 ?_ (ms 23 8) rfl rfl (by kernel_rfl) (fun _ _ _=>id) (by rfl) ?_ ?_ ?_ ?_;rotate_left;(intro w';go_simp;with_reducible rfl);rotate_left;(simp only [aP,i64_w,i32_w];rfl))
                              (refine pU 8 196 ?_ (ms 23 9) rfl rfl (by kernel_rfl) (fun _ _ _=>id) (by rfl) ?_ ?_ ?_ ?_;rotate_left;(intro w';go_simp;with_reducible rfl);rotate_left;(simp only [aP,i64_w,i32_w];rfl))
                              (refine pU 9 197 ?_ (ms 23 10) rfl rfl (by kernel_rfl) (fun _ _ _=>id) (by rfl) ?_ ?_ ?_ ?_;rotate_left;(intro w';go_simp;with_reducible rfl);rotate_left;(simp only [aP,i64_w,i32_w];rfl))
                              (refine pU 10 198 ?_ (ms 23 11) rfl rfl (by kernel_rfl) (fun _ _ _=>id) (by rfl) ?_ ?_ ?_ ?_;rotate_left;(intro w';go_simp;with_reducible rfl);rotate_left;(simp only [aP,i64_w,i32_w];rfl))
                              (refine pU 11 199 ?_ (ms 23 12) rfl rfl (by kernel_rfl) (fun _ _ _=>id) (by rfl) ?_ ?_ ?_ ?_;rotate_left;(intro w';go_simp;with_reducible rfl);rotate_left;(simp only [aP,i64_w,i32_w];rfl))
                              (refine pU 12 200 ?_ (ms 23 13) rfl rfl (by kernel_rfl) (fun _ _ _=>id) (by rfl) ?_ ?_ ?_ ?_;rotate_left;(intro w';go_simp;with_reducible rfl);rotate_left;(simp only [aP,i64_w,i32_w];rfl))
                              (refine take_ (i:=13) (N:=some 201) (v:=?_) (a':=?_) (ms 23 14) rfl rfl (by kernel_rfl) (fun _ _ _ h=>h) (Or.inl ⟨by rfl,?_⟩) hHeld ?_ ?_;rotate_left;(intro w' hS';have hc0:=(HC9.out.below hS') 0 _ rfl;simp only [Addr.add_zero'] at hc0;go_simp;with_reducible rfl);rotate_left;(simp only [aP,i64_w,i32_w];rfl))
                              (refine pU 14 202 ?_ (ms 23 15) rfl rfl (by kernel_rfl) (fun _ _ _=>id) (by rfl) ?_ ?_ ?_ ?_;rotate_left;(intro w';go_simp;with_reducible rfl);rotate_left;(simp only [aP,i64_w,i32_w];rfl))
                              (refine pU 15 203 ?_ (ms 23 16) rfl rfl (by kernel_rfl) (fun _ _ _=>id) (by rfl) ?_ ?_ ?_ ?_;rotate_left;(intro w';go_simp;with_reducible rfl);rotate_left;(simp only [aP,i64_w,i32_w];rfl))
                              (refine pU 16 204 ?_ (ms 23 17) rfl rfl (by kernel_rfl) (fun _ _ _=>id) (by rfl) ?_ ?_ ?_ ?_;rotate_left;(intro w';go_simp;with_reducible rfl);rotate_left;(simp only [aP,i64_w,i32_w];rfl))
                              (refine pU 17 205 ?_ (ms 23 18) rfl rfl (by kernel_rfl) (fun _ _ _=>id) (by rfl) ?_ ?_ ?_ ?_;rotate_left;(intro w';go_simp;with_reducible rfl);rotate_left;(simp only [aP,i64_w,i32_w];rfl))
                              (refine take_ (i:=18) (N:=some 206) (v:=?_) (a':=?_) (ms 23 19) rfl rfl (by kernel_rfl) (fun _ _ _ h=>h) (Or.inl ⟨by rfl,?_⟩) hHeld ?_ ?_;rotate_left;(intro w' hS';have hc0:=(HE9.out.below hS') 0 _ rfl;simp only [Addr.add_zero'] at hc0;go_simp;with_reducible rfl);rotate_left;(simp only [aP,i64_w,i32_w];rfl))
                              have HV:Hid (putB e.1 c=(c.path == e.1)):=Lib.hid (by unfold putB;rw [Bool.eq_iff_iff];simp [hop])
                              (refine pU 19 207 ?_ (ms 23 20) rfl rfl (by kernel_rfl) (fun _ _ _=>id) (by rfl) ?_ ?_ ?_ ?_;rotate_left;(intro w';go_simp;with_reducible rfl);rotate_left;(simp only [aP,i64_w,i32_w];rfl))
                              (refine pU 20 208 ?_ (ms 23 21) rfl rfl (by kernel_rfl) (fun _ _ _=>id) (by rfl) ?_ ?_ ?_ ?_;rotate_left;(intro w';go_simp;with_reducible rfl);rotate_left;(simp only [aP,i64_w,i32_w];rfl))
                              (refine pU 21 209 ?_ (ms 23 22) rfl rfl (by kernel_rfl) (fun _ _ _=>id) (by rfl) ?_ ?_ ?_ ?_;rotate_left;(intro w';go_simp;with_reducible rfl);rotate_left;(simp only [aP,i64_w,i32_w];rfl))
                              (refine pU 22 22 ?_ (ms 23 23) rfl rfl (by kernel_rfl) (fun _ _ _=>id) (by rfl) ?_ ?_ ?_ ?_;rotate_left;(intro w';go_simp;with_reducible rfl);rotate_left;(simp only [aP,i64_w,i32_w];rfl))
                              refine done_ (by kernel_rfl) ?_
                              go_wp2_with fail
                              go_roundg g2
                              case measure=>omega
                              case rel=>exact ⟨k + 1,by rw [HST.out,HV.out];rfl,by go_num,by omega,HKK,Lib.hid (Kd.C_below HR9.out hHeld),Lib.hid (Go.Proofs.YtdkjinmkallhnaaGreatDoor.below_then HW9.out hHeld),Lib.hid (blk_below HZ.out hHeld)⟩
                            · have hop1:(c.op == 0)=false:=by simpa using hop
                              have HV:Hid (putB e.1 c=false):=Lib.hid (by unfold putB;simp [hop])
                              (refine pU 7 195 ?_ (ms 23 8) rfl rfl (by kernel_rfl) (fun _ _ _=>id) (by rfl) ?_ ?_ ?_ ?_;rotate_left;(intro w';go_simp;with_reducible rfl);rotate_left;(simp only [aP,i64_w,i32_w];rfl))
                              (refine pU 8 196 ?_ (ms 23 9) rfl rfl (by kernel_rfl) (fun _ _ _=>id) (by rfl) ?_ ?_ ?_ ?_;rotate_left;(intro w';go_simp;with_reducible rfl);rotate_left;(simp only [aP,i64_w,i32_w];rfl))
                              (refine pN 9 197 (ms 23 10) rfl rfl (by kernel_rfl) (fun _ _ _=>id) (by rfl) ?_ ?_ ?_;rotate_left;(simp only [aP,i64_w,i32_w];rfl))
                              (refine pN 10 198 (ms 23 11) rfl rfl (by kernel_rfl) (fun _ _ _=>id) (by rfl) ?_ ?_ ?_;rotate_left;(simp only [aP,i64_w,i32_w];rfl))
                              (refine pN 11 199 (ms 23 12) rfl rfl (by kernel_rfl) (fun _ _ _=>id) (by rfl) ?_ ?_ ?_;rotate_left;(simp only [aP,i64_w,i32_w];rfl))
                              (refine pN 12 200 (ms 23 13) rfl rfl (by kernel_rfl) (fun _ _ _=>id) (by rfl) ?_ ?_ ?_;rotate_left;(simp only [aP,i64_w,i32_w];rfl))
                              (refine pN 13 201 (ms 23 14) rfl rfl (by kernel_rfl) (fun _ _ _=>id) (by rfl) ?_ ?_ ?_;rotate_left;(simp only [aP,i64_w,i32_w];rfl))
                              (refine pN 14 202 (ms 23 15) rfl rfl (by kernel_rfl) (fun _ _ _=>id) (by rfl) ?_ ?_ ?_;rotate_left;(simp only [aP,i64_w,i32_w];rfl))
                              (refine pN 15 203 (ms 23 16) rfl rfl (by kernel_rfl) (fun _ _ _=>id) (by rfl) ?_ ?_ ?_;rotate_left;(simp only [aP,i64_w,i32_w];rfl))
                              (refine pN 16 204 (ms 23 17) rfl rfl (by kernel_rfl) (fun _ _ _=>id) (by rfl) ?_ ?_ ?_;rotate_left;(simp only [aP,i64_w,i32_w];rfl))
                              (refine pN 17 205 (ms 23 18) rfl rfl (by kernel_rfl) (fun _ _ _=>id) (by rfl) ?_ ?_ ?_;rotate_left;(simp only [aP,i64_w,i32_w];rfl))
                              (refine pN 18 206 (ms 23 19) rfl rfl (by kernel_rfl) (fun _ _ _=>id) (by rfl) ?_ ?_ ?_;rotate_left;(simp only [aP,i64_w,i32_w];rfl))
                              (refine pN 19 207 (ms 23 20) rfl rfl (by kernel_rfl) (fun _ _ _=>id) (by rfl) ?_ ?_ ?_;rotate_left;(simp only [aP,i64_w,i32_w];rfl))
                              (refine pU 20 208 ?_ (ms 23 21) rfl rfl (by kernel_rfl) (fun _ _ _=>id) (by rfl) ?_ ?_ ?_ ?_;rotate_left;(intro w';go_simp;with_reducible rfl);rotate_left;(simp only [aP,i64_w,i32_w];rfl))
                              (refine pU 21 209 ?_ (ms 23 22) rfl rfl (by kernel_rfl) (fun _ _ _=>id) (by rfl) ?_ ?_ ?_ ?_;rotate_left;(intro w';go_simp;with_reducible rfl);rotate_left;(simp only [aP,i64_w,i32_w];rfl))
                              (refine pU 22 22 ?_ (ms 23 23) rfl rfl (by kernel_rfl) (fun _ _ _=>id) (by rfl) ?_ ?_ ?_ ?_;rotate_left;(intro w';go_simp;with_reducible rfl);rotate_left;(simp only [aP,i64_w,i32_w];rfl))
                              refine done_ (by kernel_rfl) ?_
                              go_wp2_with fail
                              go_roundg g2
                              case measure=>omega
                              case rel=>exact ⟨k + 1,by rw [HST.out,HV.out];rfl,by go_num,by omega,HKK,Lib.hid (Kd.C_below HR9.out hHeld),Lib.hid (Go.Proofs.YtdkjinmkallhnaaGreatDoor.below_then HW9.out hHeld),Lib.hid (blk_below HZ.out hHeld)⟩
                    · have he:k=l1.length:=by have:=HK.out;omega
                      subst he
                      obtain ⟨tv,htv⟩:∃ tv,tv=(l1.map chOf).any (putB e.1):=⟨_,rfl⟩
                      have htk:((l1.map chOf).take l1.length).any (putB e.1)=tv:=by rw [List.take_of_length_le (by simp),htv]
                      rw [htk]
                      have HTV:=Lib.hid htv.symm
                      clear htk htv HK hgk
                      obtain ⟨w9,rfl⟩:∃ w9,w9=wr:=⟨_,rfl⟩
                      have HW9:=HB
                      have HR9:=HR
                      have HLM':=Lib.hid (lies_of HZ.out)
                      clear HB HR HLM
                      have HLM:=HLM'
                      have HE9:Hid (LiesAt w9 (ad2.add (i * 11)) (eCells e)):=Lib.hid (by rw [HEE.out];exact e_lies HR9.out i hi)
                      have HEN:=Lib.hid HE9.out.enode
                      go_upto_region 38 with (fail)
                      go_cut [224] (fun v wc=>v=.bool false∧Hid (Below w9.heap.size w9 wc))
                      case first =>
                        cases tv with
                        | true =>
                          as_aux_lemma =>
                            refine start_ (n:=15) (S:=fun w'=>Below w9.heap.size w9 w') (ds:=[]) (ms 15 0) (by kernel_rfl) rfl rfl (Below.refl _ _).drew (fun hHeld=>?_)
                            (refine pU 0 210 ?_ (ms 15 1) rfl rfl (by kernel_rfl) (fun _ _ _=>id) (by rfl) ?_ ?_ ?_ ?_;rotate_left;(intro w';go_simp;with_reducible rfl);rotate_left;(simp only [aP,i64_w,i32_w];rfl))
                            (refine pU 1 211 ?_ (ms 15 2) rfl rfl (by kernel_rfl) (fun _ _ _=>id) (by rfl) ?_ ?_ ?_ ?_;rotate_left;(intro w';go_simp;with_reducible rfl);rotate_left;(simp only [aP,i64_w,i32_w];rfl))
                            (refine pU 2 212 ?_ (ms 15 3) rfl rfl (by kernel_rfl) (fun _ _ _=>id) (by rfl) ?_ ?_ ?_ ?_;rotate_left;(intro w';go_simp;with_reducible rfl);rotate_left;(simp only [aP,i64_w,i32_w];rfl))
                            (refine pN 3 213 (ms 15 4) rfl rfl (by kernel_rfl) (fun _ _ _=>id) (by rfl) ?_ ?_ ?_;rotate_left;(simp only [aP,i64_w,i32_w];rfl))
                            (refine pN 4 214 (ms 15 5) rfl rfl (by kernel_rfl) (fun _ _ _=>id) (by rfl) ?_ ?_ ?_;rotate_left;(simp only [aP,i64_w,i32_w];rfl))
                            (refine pN 5 215 (ms 15 6) rfl rfl (by kernel_rfl) (fun _ _ _=>id) (by rfl) ?_ ?_ ?_;rotate_left;(simp only [aP,i64_w,i32_w];rfl))
                            (refine pN 6 216 (ms 15 7) rfl rfl (by kernel_rfl) (fun _ _ _=>id) (by rfl) ?_ ?_ ?_;rotate_left;(simp only [aP,i64_w,i32_w];rfl))
                            (refine pN 7 217 (ms 15 8) rfl rfl (by kernel_rfl) (fun _ _ _=>id) (by rfl) ?_ ?_ ?_;rotate_left;(simp only [aP,i64_w,i32_w];rfl))
                            (refine pN 8 218 (ms 15 9) rfl rfl (by kernel_rfl) (fun _ _ _=>id) (by rfl) ?_ ?_ ?_;rotate_left;(simp only [aP,i64_w,i32_w];rfl))
                            (refine pN 9 219 (ms 15 10) rfl rfl (by kernel_rfl) (fun _ _ _=>id) (by rfl) ?_ ?_ ?_;rotate_left;(simp only [aP,i64_w,i32_w];rfl))
                            (refine pN 10 220 (ms 15 11) rfl rfl (by kernel_rfl) (fun _ _ _=>id) (by rfl) ?_ ?_ ?_;rotate_left;(simp only [aP,i64_w,i32_w];rfl))
                            (refine pN 11 221 (ms 15 12) rfl rfl (by kernel_rfl) (fun _ _ _=>id) (by rfl) ?_ ?_ ?_;rotate_left;(simp only [aP,i64_w,i32_w];rfl))
                            (refine pN 12 222 (ms 15 13) rfl rfl (by kernel_rfl) (fun _ _ _=>id) (by rfl) ?_ ?_ ?_;rotate_left;(simp only [aP,i64_w,i32_w];rfl))
                            (refine pN 13 223 (ms 15 14) rfl rfl (by kernel_rfl) (fun _ _ _=>id) (by rfl) ?_ ?_ ?_;rotate_left;(simp only [aP,i64_w,i32_w];rfl))
                            (refine pU 14 224 ?_ (ms 15 15) rfl rfl (by kernel_rfl) (fun _ _ _=>id) (by rfl) ?_ ?_ ?_ ?_;rotate_left;(intro w';go_simp;with_reducible rfl);rotate_left;(simp only [aP,i64_w,i32_w];rfl))
                            refine done_ (by kernel_rfl) ?_
                            go_wp2_with fail
                            go_meet
                            exact ⟨rfl,Lib.hid hHeld⟩
                        | false =>
                          as_aux_lemma =>
                            have hq:=HMI.out
                            rw [had_in HAT.out HM.out HTV.out] at hq
                            obtain ⟨rfl,rfl⟩:=Prod.mk.inj hq
                            clear hq
                            refine start_ (n:=15) (S:=fun w'=>Below w9.heap.size w9 w') (ds:=[]) (ms 15 0) (by kernel_rfl) rfl rfl (Below.refl _ _).drew (fun hHeld=>?_)
                            (refine pU 0 210 ?_ (ms 15 1) rfl rfl (by kernel_rfl) (fun _ _ _=>id) (by rfl) ?_ ?_ ?_ ?_;rotate_left;(intro w';go_simp;with_reducible rfl);rotate_left;(simp only [aP,i64_w,i32_w];rfl))
                            (refine pU 1 211 ?_ (ms 15 2) rfl rfl (by kernel_rfl) (fun _ _ _=>id) (by rfl) ?_ ?_ ?_ ?_;rotate_left;(intro w';go_simp;with_reducible rfl);rotate_left;(simp only [aP,i64_w,i32_w];rfl))
                            (refine pU 2 212 ?_ (ms 15 3) rfl rfl (by kernel_rfl) (fun _ _ _=>id) (by rfl) ?_ ?_ ?_ ?_;rotate_left;(intro w';go_simp;with_reducible rfl);rotate_left;(simp only [aP,i64_w,i32_w];rfl))
                            (refine pU 3 213 ?_ (ms 15 4) rfl rfl (by kernel_rfl) (fun _ _ _=>id) (by rfl) ?_ ?_ ?_ ?_;rotate_left;(intro w';go_simp;with_reducible rfl);rotate_left;(simp only [aP,i64_w,i32_w];rfl))
                            (refine pU 4 214 ?_ (ms 15 5) rfl rfl (by kernel_rfl) (fun _ _ _=>id) (by rfl) ?_ ?_ ?_ ?_;rotate_left;(intro w';go_simp;with_reducible rfl);rotate_left;(simp only [aP,i64_w,i32_w];rfl))
                            (refine pU 5 215 ?_ (ms 15 6) rfl rfl (by kernel_rfl) (fun _ _ _=>id) (by rfl) ?_ ?_ ?_ ?_;rotate_left;(intro w';go_simp;with_reducible rfl);rotate_left;(simp only [aP,i64_w,i32_w];rfl))
                            refine take_ (i:=6) (N:=some 216) (v:=.agg (ndCells e.2).toArray) (a':=?_) (ms 15 7) rfl rfl (by kernel_rfl) (fun _ _ _ h=>h) (yi_agg (by rfl) 26 _ rfl _ rfl _ _ (fun w' hb=>HLM.out.below hb) HUN.out rfl rfl) hHeld ?_ ?_
                            rotate_left
                            · (simp only [aP,i64_w,i32_w];rfl)
                            (refine pU 7 217 ?_ (ms 15 8) rfl rfl (by kernel_rfl) (fun _ _ _=>id) (by rfl) ?_ ?_ ?_ ?_;rotate_left;(intro w';go_simp;with_reducible rfl);rotate_left;(simp only [aP,i64_w,i32_w];rfl))
                            (refine pU 8 218 ?_ (ms 15 9) rfl rfl (by kernel_rfl) (fun _ _ _=>id) (by rfl) ?_ ?_ ?_ ?_;rotate_left;(intro w';go_simp;with_reducible rfl);rotate_left;(simp only [aP,i64_w,i32_w];rfl))
                            (refine pU 9 219 ?_ (ms 15 10) rfl rfl (by kernel_rfl) (fun _ _ _=>id) (by rfl) ?_ ?_ ?_ ?_;rotate_left;(intro w';go_simp;with_reducible rfl);rotate_left;(simp only [aP,i64_w,i32_w];rfl))
                            (refine pU 10 220 ?_ (ms 15 11) rfl rfl (by kernel_rfl) (fun _ _ _=>id) (by rfl) ?_ ?_ ?_ ?_;rotate_left;(intro w';go_simp;with_reducible rfl);rotate_left;(simp only [aP,i64_w,i32_w];rfl))
                            refine take_ (i:=11) (N:=some 221) (v:=.agg (ndCells e.2).toArray) (a':=?_) (ms 15 12) rfl rfl (by kernel_rfl) (fun _ _ _ h=>h) (yi_agg (by rfl) 26 _ rfl _ rfl _ _ (fun w' hb=>HEN.out.below hb) HUN.out rfl rfl) hHeld ?_ ?_
                            rotate_left
                            · (simp only [aP,i64_w,i32_w];rfl)
                            (refine pU 12 222 ?_ (ms 15 13) rfl rfl (by kernel_rfl) (fun _ _ _=>id) (by rfl) ?_ ?_ ?_ ?_;rotate_left;(intro w';go_simp;with_reducible rfl);rotate_left;(simp only [aP,i64_w,i32_w];rfl))
                            (refine pU 13 223 ?_ (ms 15 14) rfl rfl (by kernel_rfl) (fun _ _ _=>id) (by rfl) ?_ ?_ ?_ ?_;rotate_left;(intro w';go_simp;with_reducible rfl);rotate_left;(simp only [aP,i64_w,i32_w];rfl))
                            (refine pU 14 224 ?_ (ms 15 15) rfl rfl (by kernel_rfl) (fun _ _ _=>id) (by rfl) ?_ ?_ ?_ ?_;rotate_left;(intro w';go_simp;with_reducible rfl);rotate_left;(simp only [aP,i64_w,i32_w];rfl))
                            refine done_ (by kernel_rfl) ?_
                            go_wp2_with fail
                            go_meet
                            exact ⟨rfl,Lib.hid hHeld⟩
                      case rest =>
                      obtain ⟨rfl,HBB⟩:=hcut
                      have HW10:=Lib.hid (Go.Proofs.YtdkjinmkallhnaaGreatDoor.below_then HW9.out HBB.out)
                      have HR10:=Lib.hid (Kd.C_below HR9.out HBB.out)
                      clear HBB HW9 HR9 HE9 HEN
                      go_wp2_with fail
                      go_roundg g1
                      case measure=>omega
                      case rel=>exact ⟨i + 1,by go_num,by omega,HII,HR10,HW10⟩
              · have he:i=t.length:=by have:=HI.out;omega
                subst he
                go_wp2_with fail
                go_ret
                exact ⟨rfl,HB.out⟩
  · have hnil:a=[]:=YtdkjinmkallhnaaGreatDoorT.applyM_err Y HA.out he
    subst hnil
    have he1:(e != 0)=true:=by simpa using he
    go_wp2_with fail
    go_ret
    exact ⟨rfl,HB5.out⟩
end Go.Proofs.YtdkjinmkallhnaaGreatDoorQ
end
