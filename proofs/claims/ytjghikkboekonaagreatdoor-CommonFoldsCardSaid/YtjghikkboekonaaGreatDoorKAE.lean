/- A part of a proof of statements of this seat: what its walks and its laws lean on; joined by a program of this repo (wip/pack.py) out of the texts PaxC, PaxD, Buf, PaxE, Row, XRowSet, XBoxA, Sym, Stb, Stb2, XAttrM, QUntarAttrs1, QSlicesIndexFuncPairAtUntarAttrs1, XDelP, QUntarAttrs2. -/
import Derived.ChangeAlike
import Derived.Deep.MidRow
import Derived.Laws.Externs
import Derived.Laws.IdiomCopy
import Derived.Laws.OwnMore
import Derived.Lib.AppendStr
import Derived.Lib.AtoiAllCases
import Derived.Lib.Builder
import Derived.Lib.MakeNoZero
import Derived.Lib.SliceRun
import Derived.Lib.UnsafeStr
import Derived.RegionTactic
import Derived.Test.YtjghikkboekonaaGreatDoorKAB
import Derived.Test.YtjghikkboekonaaGreatDoorKAC
import Derived.Test.YtjghikkboekonaaGreatDoorKAD
set_option linter.unusedSimpArgs false
set_option linter.unusedVariables false
section
namespace Go.Proofs.YtjghikkboekonaaGreatDoor
open Go.RowKit
def CutPost (s:Str) (w:World) (e:Ending) (w':World):Prop :=
 ∃ (p:Str×Str) (rest:Str) (ok:Bool),e=.returned (.tuple #[.agg #[S p.1,S p.2],S rest,.bool ok])∧cutM s=(if ok then some (p,rest) else none)∧Below w.heap.size w w'
theorem CutPost.done {s:Str} {w w':World} {e:Ending} {key value rest:Str} (ok:Bool) (h1:cutM s=(if ok then some ((key,value),rest) else none)) (h2:e=.returned (.tuple #[.agg #[S key,S value],S rest,.bool ok])) (h3:Below w.heap.size w w'):CutPost s w e w' :=
 ⟨(key,value),rest,ok,h2,h1,h3⟩
theorem CutPost.fail {s:Str} {w w':World} {e:Ending} (h1:cutM s=none) (h2:e=.returned (.tuple #[.agg #[S [],S []],S [],.bool false])) (h3:Below w.heap.size w w'):CutPost s w e w' :=
 ⟨([],[]),[],false,h2,by simpa using h1,h3⟩
theorem len_no {n t:Nat} {v:Int} (hv:v=n) (h5:(((lenM (n - t):Nat):Int) != v)=true) (h:lenM (v.toNat - t)=v.toNat):False:=by
 subst hv
 simp only [Int.toNat_natCast] at h
 rw [h] at h5
 simp at h5
theorem len_yes {n t:Nat} {v:Int} (hv:v=n) (h5:(((lenM (n - t):Nat):Int) != v)=false):lenM (v.toNat - t)=v.toNat:=by
 subst hv
 simp only [Int.toNat_natCast]
 simp only [bne_eq_false_iff_eq] at h5
 omega
set_option maxHeartbeats 1000000 in
set_option maxRecDepth 100000 in
theorem cut_calls (w:World) (hg:GL w) (s:Str) (hs:s.length≤1000000000) :
  Calls Tryz.prog 169 #[S s] w (CutPost s w):=by
 have HS:=Lib.hid hs
 clear hs
 go_enter Tryz.func169,Tryz.ntmps169
 go_wp2_with fail
 have HP:=Lib.hid (blk_new w (.cells #[S [],S []] 169))
 have HB:Hid (Below w.heap.size w (w.alloc (.cells #[S [],S []] 169))):=pbn w _
 refine (cut1_calls _ (hg.ext HB.out) _ _ HS.out).mono ?_
 rintro e wc ⟨rfl,hbc⟩
 replace HP:=Lib.hid (blk_ext HP.out hbc)
 replace HB:Hid (Below w.heap.size w wc):=pbt HB.out hbc
 clear hbc
 have HC:Hid (cutM s=cutAt s (cut1 32 s).1 (cut1 32 s).2.2):=rfl
 have HTL:Hid ((cut1 32 s).1.length≤s.length):=cut1_len 32 s
 generalize cut1 32 s=q at HC HTL
 obtain ⟨text,rest0,is⟩:=q
 dsimp only at HC HTL
 have htl:text.length≤1000000000:=Nat.le_trans HTL.out HS.out
 rcases hat:Lib.atoiAll text with v|_|_
 ·
  have hv:=Lib.atoiAll_bounds hat
  have HAT:=Lib.hid hat
  clear hat
  go_wp2_with fail
  refine (atoi_ok_calls _ text htl v HAT.out).mono ?_
  rintro e wc ⟨rfl,hbc⟩
  replace HP:=Lib.hid (blk_ext HP.out hbc)
  replace HB:Hid (Below w.heap.size w wc):=pbt HB.out hbc
  clear hbc
  cases is with
  | false =>
   have HN:Hid (cutM s=none):=Lib.hid (by rw [HC.out];simp [cutAt])
   have c0:=pbc HP.out 0
   have c1:=pbc HP.out 1
   have f0:=pbf HP.out 0
   have f1:=pbf HP.out 1
   dsimp at c0 c1
   go_wp2_with fail
   obtain ⟨w3,hw3⟩:∃ w3,w3=(wc.setCell ⟨w.heap.size,0,none⟩ (S [])).setCell ⟨w.heap.size,1,none⟩ (S []):=⟨_,rfl⟩
   obtain ⟨h3,hb3⟩:=set_two HP.out (S []) (S []) (Nat.le_refl _) HB.out
   rw [← hw3] at h3 hb3 ⊢
   have d0:=pbc h3 0
   have d1:=pbc h3 1
   dsimp at d0 d1
   exact bodyPost_ret (v:=.tuple #[.agg #[S [],S []],S [],.bool false]) (by simp [results,Tryz.results169,go_sem,d0,d1]) rfl (CutPost.fail HN.out rfl hb3)
  | true =>
   have HC2:Hid (cutM s=(numM s text).bind fun n=>(bodyM ((s.drop (text.length + 1)).take (n - (text.length + 1)))).map fun p=>(p,s.drop n)):=Lib.hid (by rw [HC.out];simp [cutAt])
   clear HC
   have HNUM:Hid (numM s text=if Lib.itoa v=text∧text.length≤9∧v≤(s.length:Int)∧(text.length:Int) + 1<v∧lenM (v.toNat - text.length)=v.toNat then some v.toNat else none):=Lib.hid (by rw [numM,HAT.out])
   clear HAT
   go_wp2_with fail
   refine (itoaZ_calls _ (hg.ext HB.out) v hv.1 hv.2).mono ?_
   rintro e wc ⟨rfl,hbc⟩
   replace HP:=Lib.hid (blk_ext HP.out hbc)
   replace HB:Hid (Below w.heap.size w wc):=pbt HB.out hbc
   clear hbc
   by_cases h1:Lib.itoa v=text
   ·cases h2 : decide ((9:Int)<(text.length:Int)) with
    | true =>
     have HN:Hid (cutM s=none):=Lib.hid (by rw [HC2.out,HNUM.out,if_neg (fun h=>by have:=of_decide_eq_true h2;have:=h.2.1;omega)];rfl)
     have c0:=pbc HP.out 0
     have c1:=pbc HP.out 1
     have f0:=pbf HP.out 0
     have f1:=pbf HP.out 1
     dsimp at c0 c1
     go_wp2_with fail
     obtain ⟨w3,hw3⟩:∃ w3,w3=(wc.setCell ⟨w.heap.size,0,none⟩ (S [])).setCell ⟨w.heap.size,1,none⟩ (S []):=⟨_,rfl⟩
     obtain ⟨h3,hb3⟩:=set_two HP.out (S []) (S []) (Nat.le_refl _) HB.out
     rw [← hw3] at h3 hb3 ⊢
     have d0:=pbc h3 0
     have d1:=pbc h3 1
     dsimp at d0 d1
     exact bodyPost_ret (v:=.tuple #[.agg #[S [],S []],S [],.bool false]) (by simp [results,Tryz.results169,go_sem,d0,d1]) rfl (CutPost.fail HN.out rfl hb3)
    | false =>
     cases h3:decide ((s.length:Int)<v) with
     | true =>
      have HN:Hid (cutM s=none):=Lib.hid (by rw [HC2.out,HNUM.out,if_neg (fun h=>by have:=of_decide_eq_true h3;have:=h.2.2.1;omega)];rfl)
      have c0:=pbc HP.out 0
      have c1:=pbc HP.out 1
      have f0:=pbf HP.out 0
      have f1:=pbf HP.out 1
      dsimp at c0 c1
      go_wp2_with fail
      obtain ⟨w3,hw3⟩:∃ w3,w3=(wc.setCell ⟨w.heap.size,0,none⟩ (S [])).setCell ⟨w.heap.size,1,none⟩ (S []):=⟨_,rfl⟩
      obtain ⟨h3,hb3⟩:=set_two HP.out (S []) (S []) (Nat.le_refl _) HB.out
      rw [← hw3] at h3 hb3 ⊢
      have d0:=pbc h3 0
      have d1:=pbc h3 1
      dsimp at d0 d1
      exact bodyPost_ret (v:=.tuple #[.agg #[S [],S []],S [],.bool false]) (by simp [results,Tryz.results169,go_sem,d0,d1]) rfl (CutPost.fail HN.out rfl hb3)
     | false =>
      cases h4:decide (v≤(text.length:Int) + 1) with
      | true =>
       have HN:Hid (cutM s=none):=Lib.hid (by rw [HC2.out,HNUM.out,if_neg (fun h=>by have:=of_decide_eq_true h4;have:=h.2.2.2.1;omega)];rfl)
       have c0:=pbc HP.out 0
       have c1:=pbc HP.out 1
       have f0:=pbf HP.out 0
       have f1:=pbf HP.out 1
       dsimp at c0 c1
       go_wp2_with fail
       obtain ⟨w3,hw3⟩:∃ w3,w3=(wc.setCell ⟨w.heap.size,0,none⟩ (S [])).setCell ⟨w.heap.size,1,none⟩ (S []):=⟨_,rfl⟩
       obtain ⟨h3,hb3⟩:=set_two HP.out (S []) (S []) (Nat.le_refl _) HB.out
       rw [← hw3] at h3 hb3 ⊢
       have d0:=pbc h3 0
       have d1:=pbc h3 1
       dsimp at d0 d1
       exact bodyPost_ret (v:=.tuple #[.agg #[S [],S []],S [],.bool false]) (by simp [results,Tryz.results169,go_sem,d0,d1]) rfl (CutPost.fail HN.out rfl hb3)
      | false =>
       have i2:text.length≤9:=by have:=of_decide_eq_false h2;omega
       have i3:v≤(s.length:Int):=by have:=of_decide_eq_false h3;omega
       have i4:(text.length:Int) + 1<v:=by have:=of_decide_eq_false h4;omega
       go_wp2_with fail
       obtain ⟨n,hn⟩:∃ n:Nat,v=n:=⟨v.toNat,by omega⟩
       rw [show (v - (text.length:Int))=((n - text.length:Nat):Int) from by omega]
       have HNV:=Lib.hid hn
       refine (length_calls _ (hg.ext HB.out) (n - text.length) (by have:=HS.out;omega)).mono ?_
       clear hn
       rintro e wc ⟨rfl,hbc⟩
       replace HP:=Lib.hid (blk_ext HP.out hbc)
       replace HB:Hid (Below w.heap.size w wc):=pbt HB.out hbc
       clear hbc
       cases h5:(((lenM (n - text.length):Nat):Int) != v) with
       | true =>
        have HN:Hid (cutM s=none):=Lib.hid (by rw [HC2.out,HNUM.out,if_neg (fun h=>len_no HNV.out h5 h.2.2.2.2)];rfl)
        have c0:=pbc HP.out 0
        have c1:=pbc HP.out 1
        have f0:=pbf HP.out 0
        have f1:=pbf HP.out 1
        dsimp at c0 c1
        go_wp2_with fail
        obtain ⟨w3,hw3⟩:∃ w3,w3=(wc.setCell ⟨w.heap.size,0,none⟩ (S [])).setCell ⟨w.heap.size,1,none⟩ (S []):=⟨_,rfl⟩
        obtain ⟨h3,hb3⟩:=set_two HP.out (S []) (S []) (Nat.le_refl _) HB.out
        rw [← hw3] at h3 hb3 ⊢
        have d0:=pbc h3 0
        have d1:=pbc h3 1
        dsimp at d0 d1
        exact bodyPost_ret (v:=.tuple #[.agg #[S [],S []],S [],.bool false]) (by simp [results,Tryz.results169,go_sem,d0,d1]) rfl (CutPost.fail HN.out rfl hb3)
       | false =>
        go_wp2_with fail
        rw [extract_S]
        refine (cutSuffix_calls _ _ [10] (by have:=HS.out;simp;omega)).mono ?_
        rintro e wc ⟨rfl,hbc⟩
        replace HP:=Lib.hid (blk_ext HP.out hbc)
        replace HB:Hid (Below w.heap.size w wc):=pbt HB.out hbc
        clear hbc
        have HBODY:Hid (cutM s=(bodyM ((s.drop (text.length + 1)).take (v.toNat - (text.length + 1)))).map fun p=>(p,s.drop v.toNat)):=Lib.hid (by rw [HC2.out,HNUM.out,if_pos ⟨h1,i2,i3,i4,len_yes HNV.out h5⟩];rfl)
        have hbl:((s.drop (text.length + 1)).take (v.toNat - (text.length + 1))).length≤1000000000:=by have:=HS.out;simp;omega
        generalize (s.drop (text.length + 1)).take (v.toNat - (text.length + 1))=body at HBODY hbl
        have htr:(Lib.trimSuffix body [10]).length≤1000000000:=by exact Nat.le_trans (trimSuffix_le _ _) hbl
        have HBM:Hid (bodyM body=if Lib.hasSuffix body [10] && (cut1 61 (Lib.trimSuffix body [10])).2.2 && !((cut1 61 (Lib.trimSuffix body [10])).1 == []) then some ((cut1 61 (Lib.trimSuffix body [10])).1,(cut1 61 (Lib.trimSuffix body [10])).2.1) else none):=rfl
        generalize Lib.trimSuffix body [10]=trim at HBM htr
        generalize Lib.hasSuffix body [10]=ended at HBM
        go_wp2_with fail
        refine (cut1_calls _ (hg.ext HB.out) _ _ htr).mono ?_
        rintro e wc ⟨rfl,hbc⟩
        replace HP:=Lib.hid (blk_ext HP.out hbc)
        replace HB:Hid (Below w.heap.size w wc):=pbt HB.out hbc
        clear hbc
        generalize cut1 61 trim=q at HBM
        obtain ⟨key,value,is⟩:=q
        dsimp only at HBM
        have c0:=pbc HP.out 0
        have c1:=pbc HP.out 1
        have f0:=pbf HP.out 0
        have f1:=pbf HP.out 1
        dsimp at c0 c1
        go_wp2_with fail
        obtain ⟨w4,hw4⟩:∃ w4,w4=(wc.setCell ⟨w.heap.size,0,none⟩ (S key)).setCell ⟨w.heap.size,1,none⟩ (S value):=⟨_,rfl⟩
        obtain ⟨h4',hb4⟩:=set_two HP.out (S key) (S value) (Nat.le_refl _) HB.out
        rw [← hw4] at h4' hb4 ⊢
        have HP4:=Lib.hid h4'
        have HB4:=Lib.hid hb4
        clear hw4 h4' hb4 c0 c1 f0 f1 h1 h2 h3 h4 h5
        have c0:=pbc HP4.out 0
        have c1:=pbc HP4.out 1
        have f0:=pbf HP4.out 0
        have f1:=pbf HP4.out 1
        dsimp at c0 c1
        cases ended
        ·
         go_region
         all_goals
          obtain ⟨w5,hw5⟩:∃ w5,w5=((w4.setCell ⟨w.heap.size,0,none⟩ (S key)).setCell ⟨w.heap.size,1,none⟩ (S value)).drew:=⟨_,rfl⟩
          obtain ⟨h5',hb5⟩:=set_two HP4.out (S key) (S value) (Nat.le_refl _) HB4.out
          have h5d:w5.heap[w.heap.size]?=some (.cells #[S key,S value] 169 (0,0)):=by rw [hw5];exact h5'
          have hb5d:Below w.heap.size w w5:=by rw [hw5];exact hb5.drew
          rw [← hw5]
          clear hw5 h5' hb5
          go_wp2_with fail
          have d0:=pbc h5d 0
          have d1:=pbc h5d 1
          dsimp at d0 d1
          refine bodyPost_ret (v:=.tuple #[.agg #[S key,S value],.string ((⟨s.toArray⟩:ByteArray).extract v.toNat s.length),.bool false]) (by simp [results,Tryz.results169,go_sem,d0,d1]) rfl ?_
          rw [extract_end]
          exact CutPost.done false (by rw [HBODY.out,HBM.out];simp) rfl hb5d
        ·cases is
         ·
          go_region
          all_goals
           obtain ⟨w5,hw5⟩:∃ w5,w5=((w4.setCell ⟨w.heap.size,0,none⟩ (S key)).setCell ⟨w.heap.size,1,none⟩ (S value)).drew:=⟨_,rfl⟩
           obtain ⟨h5',hb5⟩:=set_two HP4.out (S key) (S value) (Nat.le_refl _) HB4.out
           have h5d:w5.heap[w.heap.size]?=some (.cells #[S key,S value] 169 (0,0)):=by rw [hw5];exact h5'
           have hb5d:Below w.heap.size w w5:=by rw [hw5];exact hb5.drew
           rw [← hw5]
           clear hw5 h5' hb5
           go_wp2_with fail
           have d0:=pbc h5d 0
           have d1:=pbc h5d 1
           dsimp at d0 d1
           refine bodyPost_ret (v:=.tuple #[.agg #[S key,S value],.string ((⟨s.toArray⟩:ByteArray).extract v.toNat s.length),.bool false]) (by simp [results,Tryz.results169,go_sem,d0,d1]) rfl ?_
           rw [extract_end]
           exact CutPost.done false (by rw [HBODY.out,HBM.out];simp) rfl hb5d
         ·cases key with
          | nil =>
           go_region
           all_goals
            obtain ⟨w5,hw5⟩:∃ w5,w5=((w4.setCell ⟨w.heap.size,0,none⟩ (S [])).setCell ⟨w.heap.size,1,none⟩ (S value)).drew:=⟨_,rfl⟩
            obtain ⟨h5',hb5⟩:=set_two HP4.out (S []) (S value) (Nat.le_refl _) HB4.out
            have h5d:w5.heap[w.heap.size]?=some (.cells #[S [],S value] 169 (0,0)):=by rw [hw5];exact h5'
            have hb5d:Below w.heap.size w w5:=by rw [hw5];exact hb5.drew
            rw [← hw5]
            clear hw5 h5' hb5
            go_wp2_with fail
            have d0:=pbc h5d 0
            have d1:=pbc h5d 1
            dsimp at d0 d1
            refine bodyPost_ret (v:=.tuple #[.agg #[S [],S value],.string ((⟨s.toArray⟩:ByteArray).extract v.toNat s.length),.bool false]) (by simp [results,Tryz.results169,go_sem,d0,d1]) rfl ?_
            rw [extract_end]
            exact CutPost.done false (by rw [HBODY.out,HBM.out];simp) rfl hb5d
          | cons kc kr =>
           go_region
           all_goals
            obtain ⟨w5,hw5⟩:∃ w5,w5=((w4.setCell ⟨w.heap.size,0,none⟩ (S (kc::kr))).setCell ⟨w.heap.size,1,none⟩ (S value)).drew:=⟨_,rfl⟩
            obtain ⟨h5',hb5⟩:=set_two HP4.out (S (kc::kr)) (S value) (Nat.le_refl _) HB4.out
            have h5d:w5.heap[w.heap.size]?=some (.cells #[S (kc::kr),S value] 169 (0,0)):=by rw [hw5];exact h5'
            have hb5d:Below w.heap.size w w5:=by rw [hw5];exact hb5.drew
            rw [← hw5]
            clear hw5 h5' hb5
            go_wp2_with fail
            have d0:=pbc h5d 0
            have d1:=pbc h5d 1
            dsimp at d0 d1
            refine bodyPost_ret (v:=.tuple #[.agg #[S (kc::kr),S value],.string ((⟨s.toArray⟩:ByteArray).extract v.toNat s.length),.bool true]) (by simp [results,Tryz.results169,go_sem,d0,d1]) rfl ?_
            rw [extract_end]
            exact CutPost.done true (by rw [HBODY.out,HBM.out];simp) rfl hb5d
   ·have HN:Hid (cutM s=none):=Lib.hid (by rw [HC2.out,HNUM.out,if_neg (fun h=>h1 h.1)];rfl)
    have c0:=pbc HP.out 0
    have c1:=pbc HP.out 1
    have f0:=pbf HP.out 0
    have f1:=pbf HP.out 1
    dsimp at c0 c1
    go_wp2_with fail
    obtain ⟨w3,hw3⟩:∃ w3,w3=(wc.setCell ⟨w.heap.size,0,none⟩ (S [])).setCell ⟨w.heap.size,1,none⟩ (S []):=⟨_,rfl⟩
    obtain ⟨h3,hb3⟩:=set_two HP.out (S []) (S []) (Nat.le_refl _) HB.out
    rw [← hw3] at h3 hb3 ⊢
    have d0:=pbc h3 0
    have d1:=pbc h3 1
    dsimp at d0 d1
    exact bodyPost_ret (v:=.tuple #[.agg #[S [],S []],S [],.bool false]) (by simp [results,Tryz.results169,go_sem,d0,d1]) rfl (CutPost.fail HN.out rfl hb3)
 ·
  have HN:Hid (cutM s=none):=Lib.hid (by rw [HC.out];cases is <;> simp [cutAt,numM,hat])
  have hbad:∀ v,Lib.atoiAll text≠.ok v:=by rw [hat];intro v;simp
  have HBAD:=Lib.hid hbad
  clear hat hbad
  go_wp2_with fail
  refine (atoi_bad_calls _ (hg.ext HB.out) text htl HBAD.out).mono ?_
  rintro e wc ⟨nb,xb,rfl,hbc⟩
  replace HP:=Lib.hid (blk_ext HP.out hbc)
  replace HB:Hid (Below w.heap.size w wc):=pbt HB.out hbc
  clear hbc
  cases is
  ·
   have c0:=pbc HP.out 0
   have c1:=pbc HP.out 1
   have f0:=pbf HP.out 0
   have f1:=pbf HP.out 1
   dsimp at c0 c1
   go_wp2_with fail
   obtain ⟨w3,hw3⟩:∃ w3,w3=(wc.setCell ⟨w.heap.size,0,none⟩ (S [])).setCell ⟨w.heap.size,1,none⟩ (S []):=⟨_,rfl⟩
   obtain ⟨h3,hb3⟩:=set_two HP.out (S []) (S []) (Nat.le_refl _) HB.out
   rw [← hw3] at h3 hb3 ⊢
   have d0:=pbc h3 0
   have d1:=pbc h3 1
   dsimp at d0 d1
   exact bodyPost_ret (v:=.tuple #[.agg #[S [],S []],S [],.bool false]) (by simp [results,Tryz.results169,go_sem,d0,d1]) rfl (CutPost.fail HN.out rfl hb3)
  ·
   have c0:=pbc HP.out 0
   have c1:=pbc HP.out 1
   have f0:=pbf HP.out 0
   have f1:=pbf HP.out 1
   dsimp at c0 c1
   go_wp2_with fail
   obtain ⟨w3,hw3⟩:∃ w3,w3=(wc.setCell ⟨w.heap.size,0,none⟩ (S [])).setCell ⟨w.heap.size,1,none⟩ (S []):=⟨_,rfl⟩
   obtain ⟨h3,hb3⟩:=set_two HP.out (S []) (S []) (Nat.le_refl _) HB.out
   rw [← hw3] at h3 hb3 ⊢
   have d0:=pbc h3 0
   have d1:=pbc h3 1
   dsimp at d0 d1
   exact bodyPost_ret (v:=.tuple #[.agg #[S [],S []],S [],.bool false]) (by simp [results,Tryz.results169,go_sem,d0,d1]) rfl (CutPost.fail HN.out rfl hb3)
 ·
  have HN:Hid (cutM s=none):=Lib.hid (by rw [HC.out];cases is <;> simp [cutAt,numM,hat])
  have hbad:∀ v,Lib.atoiAll text≠.ok v:=by rw [hat];intro v;simp
  have HBAD:=Lib.hid hbad
  clear hat hbad
  go_wp2_with fail
  refine (atoi_bad_calls _ (hg.ext HB.out) text htl HBAD.out).mono ?_
  rintro e wc ⟨nb,xb,rfl,hbc⟩
  replace HP:=Lib.hid (blk_ext HP.out hbc)
  replace HB:Hid (Below w.heap.size w wc):=pbt HB.out hbc
  clear hbc
  cases is
  ·
   have c0:=pbc HP.out 0
   have c1:=pbc HP.out 1
   have f0:=pbf HP.out 0
   have f1:=pbf HP.out 1
   dsimp at c0 c1
   go_wp2_with fail
   obtain ⟨w3,hw3⟩:∃ w3,w3=(wc.setCell ⟨w.heap.size,0,none⟩ (S [])).setCell ⟨w.heap.size,1,none⟩ (S []):=⟨_,rfl⟩
   obtain ⟨h3,hb3⟩:=set_two HP.out (S []) (S []) (Nat.le_refl _) HB.out
   rw [← hw3] at h3 hb3 ⊢
   have d0:=pbc h3 0
   have d1:=pbc h3 1
   dsimp at d0 d1
   exact bodyPost_ret (v:=.tuple #[.agg #[S [],S []],S [],.bool false]) (by simp [results,Tryz.results169,go_sem,d0,d1]) rfl (CutPost.fail HN.out rfl hb3)
  ·
   have c0:=pbc HP.out 0
   have c1:=pbc HP.out 1
   have f0:=pbf HP.out 0
   have f1:=pbf HP.out 1
   dsimp at c0 c1
   go_wp2_with fail
   obtain ⟨w3,hw3⟩:∃ w3,w3=(wc.setCell ⟨w.heap.size,0,none⟩ (S [])).setCell ⟨w.heap.size,1,none⟩ (S []):=⟨_,rfl⟩
   obtain ⟨h3,hb3⟩:=set_two HP.out (S []) (S []) (Nat.le_refl _) HB.out
   rw [← hw3] at h3 hb3 ⊢
   have d0:=pbc h3 0
   have d1:=pbc h3 1
   dsimp at d0 d1
   exact bodyPost_ret (v:=.tuple #[.agg #[S [],S []],S [],.bool false]) (by simp [results,Tryz.results169,go_sem,d0,d1]) rfl (CutPost.fail HN.out rfl hb3)
theorem info_pair:(Tryz.prog.info? 169).map (fun i=>(i.zero,i.size,i.bytes))=some (some (.agg #[S [],S []]),2,32):=by kernel_rfl
def ParsePost (s:Str) (w:World) (e:Ending) (w':World):Prop :=
 ∃ v,e=.returned (.tuple #[v,.int .i64 (parseM s).2])∧Owr prC 169 2 w.heap.size w' v (parseM s).1∧Below w.heap.size w w'
set_option maxHeartbeats 1000000 in
set_option maxRecDepth 100000 in
theorem parse_calls (w:World) (hg:GL w) (a:Option Addr) (cap:Nat) (s:Str) (hr:RowAt byC 1 w a s) (hn:a=none→s=[]) (hs:s.length≤100000000) :
  Calls Tryz.prog 139 #[.slice a s.length cap] w (ParsePost s w):=by
 have hconv:=bytes_text hr cap hn
 obtain ⟨i0,hi,hz0,hz1,hz2⟩:=info_parts info_pair
 have HI:=Lib.hid hi
 have HZ0:=Lib.hid hz0
 have HZ1:=Lib.hid hz1
 have HZ2:=Lib.hid hz2
 clear hi hz0 hz1 hz2 hr hn
 have HS:=Lib.hid hs
 clear hs
 go_enter Tryz.func139,Tryz.ntmps139
 go_wp2
 clear hconv
 go_loopg [4,5] s.length (fun g v4 v5 wr=>∃ (ps:List (Str×Str)) (rest:Str),v5=S rest∧Hid (Owr prC 169 2 w.heap.size wr v4 ps)∧rest.length≤g∧ps.length + rest.length≤s.length ∧
  Hid (∀ p ∈ ps,p.1.length≤s.length)∧Hid (parseF s.length s=(parseF g rest).map (ps ++ ·))∧Hid (Below w.heap.size w wr))
 case atStart=>exact ⟨[],s,rfl,Owr.nil _ _ _ _ _,Nat.le_refl _,by simp,fun p hp=>(by cases hp),by simp [Hid],Below.refl _ _⟩
 case round =>
  obtain ⟨ps,rest,rfl,HO,hrg,hps,HK,HF,HB⟩:=hrel
  cases rest with
  | nil =>
   obtain ⟨ao,co,rfl,hz,_⟩:=HO.out.val
   have HFE:Hid (parseF s.length s=some ps):=Lib.hid (by rw [HF.out,parseF_nil];simp)
   clear hz
   go_wp2_with fail
   refine (keys_calls _ _ _ ps (HO.out.row prC_len) (by have:=HS.out;omega) (fun p hp=>by have:=HK.out p hp;have:=HS.out;omega)).mono ?_
   rintro e w1 ⟨rfl,hb1⟩
   have HO1:=Lib.hid (HO.out.ext hb1)
   have HB1:Hid (Below w.heap.size w w1):=pbt HB.out hb1
   clear hb1
   cases ho:onceM ps with
   | true =>
    have HP:Hid (parseM s=(ps,0)):=Lib.hid (by simp [parseM,HFE.out,ho])
    go_wp2_with fail
    go_ret2
    exact ⟨_,by rw [HP.out];rfl,by rw [HP.out];exact HO1.out,HB1.out⟩
   | false =>
    have HP:Hid (parseM s=([],7)):=Lib.hid (by simp [parseM,HFE.out,ho])
    go_wp2_with fail
    go_ret2
    exact ⟨_,by rw [HP.out];rfl,by rw [HP.out];exact Owr.nil _ _ _ _ _,HB1.out⟩
  | cons c r =>
   cases gk with
   | zero=>simp at hrg
   | succ g1 =>
    go_wp2_with fail
    refine (cut_calls _ (hg.ext HB.out) (c :: r) (by have:=HS.out;omega)).mono ?_
    rintro e w1 ⟨p,rest',ok,rfl,hcut,hb1⟩
    have HO1:=Lib.hid (HO.out.ext hb1)
    have HB1:Hid (Below w.heap.size w w1):=pbt HB.out hb1
    clear hb1
    cases ok with
    | false =>
     have HFE:Hid (parseF s.length s=none):=Lib.hid (by rw [HF.out,parseF_no (by simpa using hcut)];rfl)
     clear hcut
     have HP:Hid (parseM s=([],3)):=Lib.hid (by simp [parseM,HFE.out])
     go_wp2_with fail
     go_ret2
     exact ⟨_,by rw [HP.out];rfl,by rw [HP.out];exact Owr.nil _ _ _ _ _,HB1.out.alloc HB1.out.size _⟩
    | true =>
     have hc:cutM (c :: r)=some (p,rest'):=by simpa using hcut
     have hlen:=cutM_some hc
     have HFE:Hid (parseF s.length s=(parseF g1 rest').map ((ps ++ [p]) ++ ·)):=Lib.hid (by rw [HF.out,parseF_yes hc];cases parseF g1 rest' <;> simp)
     have i1:rest'.length≤g1:=by omega
     have i2:(ps ++ [p]).length + rest'.length≤s.length:=by simp only [List.length_append,List.length_cons,List.length_nil];omega
     have HK2:Hid (∀ q ∈ ps ++ [p],q.1.length≤s.length):=by
      intro q hq
      rcases List.mem_append.1 hq with hq|hq
      ·exact HK.out q hq
      ·simp only [List.mem_cons,List.not_mem_nil,or_false] at hq;subst hq;omega
     have hpl:ps.length≤100000000:=by have:=HS.out;omega
     have hsz:=HB1.out.size
     clear hcut hc hlen HK HF HO HB
     go_wp2_with (at_builtin;refine pz33 rfl _ _ 145 rfl w.heap.size 169 2 32 i0 (.agg #[S [],S []]) Tryz.underlying145 HI.out HZ0.out HZ1.out HZ2.out rfl (by decide) prC_len prC_one _ ps rfl ((HO1.out.alloc _).alloc _) p _ 1 rfl ?c1 ?c2 ?c3 ?c4 ?_)
     case c1=>intro j u hu;exact cell_new_at (cs:=[S p.1,S p.2]) (by simp) hu
     case c2=>unfold maxLen;omega
     case c3=>omega
     case c4=>simp;omega
     intro v' w' ho' hg'
     have HO2:=Lib.hid ho'
     have HB2:Hid (Below w.heap.size w w'):=((HB1.out.alloc hsz _).alloc (by simp;omega) _).grown hg' (by simp;omega) (fun j hj=>(World.ownsRow.lt HO1.out j hj).1)
     clear ho' hg' HO1 HB1
     go_wp2
     go_roundg g1
     case measure=>omega
     case rel=>exact ⟨ps ++ [p],rest',rfl,HO2,i1,i2,HK2,HFE,HB2⟩
theorem infoByte:(Tryz.prog.info? 5).map (fun i=>(i.zero,i.size,i.bytes))=some (some (.int .u8 0),1,1):=by kernel_rfl
theorem sizeBuilder:(Tryz.prog.info? 203).map (·.size)=some 2:=by kernel_rfl
theorem liesBuilder:liesAt Tryz.prog Tryz.prog.depth 203 (2 / Tryz.prog.cellsOf 203) 0 203 1=true:=by kernel_rfl
set_option maxHeartbeats 1000000 in
set_option maxRecDepth 100000 in
theorem copyCheck_used (b:Nat) (w:World) (h0:w.cell? ⟨b,0,none⟩=some (.pointer (some ⟨b,0,none⟩))) :
  Calls Tryz.prog 208 #[.pointer (some ⟨b,0,none⟩)] w fun e w'=>e=.returned (.tuple #[])∧w=w':=by
 obtain ⟨j,hj,_⟩:=Option.map_eq_some_iff.1 sizeBuilder
 go_enter Tryz.func208,Tryz.ntmps208
 go_wp2
 rw [Lib.run_neq_ptr_same w _ Tryz.underlying201 hj]
 go_wp2
 go_end0
 exact ⟨rfl,rfl⟩
set_option maxHeartbeats 1000000 in
set_option maxRecDepth 100000 in
theorem copyCheck_fresh (b:Nat) (w:World) (h0:w.cell? ⟨b,0,none⟩=some (.pointer none)) (hsh:w.shape? b=some (203,2)) (hfz:w.frozen? ⟨b,0,none⟩=false) :
  Calls Tryz.prog 208 #[.pointer (some ⟨b,0,none⟩)] w fun e w'=>e=.returned (.tuple #[])∧w'=w.setCell ⟨b,0,none⟩ (.pointer (some ⟨b,0,none⟩)):=by
 obtain ⟨j,hj,hjs⟩:=Option.map_eq_some_iff.1 sizeBuilder
 go_enter Tryz.func208,Tryz.ntmps208
 go_wp2
 rw [Lib.run_to_unsafe w ⟨b,0,none⟩ Tryz.underlying201 Tryz.underlying220 hj (by rw [hjs];decide) hsh (Nat.zero_lt_succ 1)]
 simp only [Result.andThen]
 rw [Oper.upon_value]
 go_wp2
 rw [run_callFunc_extern Tryz.func218 (by kernel_rfl) (by kernel_rfl) (by kernel_rfl) (e:=Extern.AbiNoEscape.same) (by kernel_rfl)]
 rw [Lib.run_noEscape]
 simp only [Result.andThen]
 rw [Oper.upon_value]
 go_wp2
 rw [Lib.run_from_unsafe w ⟨b,0,none⟩ Tryz.underlying220 Tryz.underlying201 hj hsh liesBuilder]
 simp only [Result.andThen]
 rw [Oper.upon_value]
 go_wp2
 go_end0
 exact ⟨rfl,rfl⟩
theorem copyCheck_calls (B b:Nat) (bs:List Value) (w:World) (h:Lib.IsBuilder 203 5 B b bs w) :
  Calls Tryz.prog 208 #[.pointer (some ⟨b,0,none⟩)] w fun e w'=>e=.returned (.tuple #[])∧(Lib.BuilderAt 203 5 B b (.pointer (some ⟨b,0,none⟩)) bs w'∧Below B w w'):=by
 rcases h with h|h
 ·refine (copyCheck_fresh b w h.cell0 h.shape h.frozen0).mono ?_
  rintro e w' ⟨rfl,rfl⟩
  exact ⟨rfl,h.used _,(Below.refl B w).setCell (p:=⟨b,0,none⟩) h.1 _⟩
 ·refine (copyCheck_used b w h.cell0).mono ?_
  rintro e w' ⟨rfl,rfl⟩
  exact ⟨rfl,h,Below.refl B _⟩
set_option maxHeartbeats 2000000 in
set_option maxRecDepth 100000 in
theorem writeString_any (B b:Nat) (bs:List Value) (s:ByteArray) (w:World) (h:Lib.IsBuilder 203 5 B b bs w) (hlen:bs.length + s.size≤140737488355328) (hBw:B≤w.heap.size) :
  Calls Tryz.prog 196 #[.pointer (some ⟨b,0,none⟩),.string s] w fun e w'=>e=.returned (.tuple #[.int .i64 s.size,.nilIface])∧(Lib.BuilderAt 203 5 B b (.pointer (some ⟨b,0,none⟩)) (bs ++ Lib.strCells s) w'∧Below B w w'):=by
 obtain ⟨i0,hi,hz0,hz1,hz2⟩:=info_parts infoByte
 go_enter Tryz.func196,Tryz.ntmps196
 go_wp2_with (go_at_call 208;refine (copyCheck_calls B b bs _ h).mono ?_)
 rintro e w1 ⟨rfl,h1,hb1⟩
 obtain ⟨hB,v,hbk,hown,hne⟩:=h1
 have c0:w1.cell? ⟨b,0,none⟩=some (.pointer (some ⟨b,0,none⟩)):=by rw [Lib.cell_of_heap hbk];rfl
 have c1:w1.cell? ⟨b,1,none⟩=some v:=by rw [Lib.cell_of_heap hbk];rfl
 go_wp2_with (at_builtin;refine Lib.wpList_append_own_string _ rfl _ _ 148 9 rfl B 5 i0 Tryz.underlying148 Tryz.underlying9 hi hz0 hz1 hz2 _ _ _ rfl hown s rfl ?c3 ?c4 ?c5 ?_)
 case c3=>unfold maxLen;omega
 case c4=>omega
 case c5=>have:=hb1.size;omega
 intro v' w2 hown' hgrow _
 have hlt:b<w1.heap.size:=blk_lt hbk
 have hb2:w2.heap[b]?=some (.cells #[.pointer (some ⟨b,0,none⟩),v] 203 (0,0)):=by
  rw [hgrow.block b hlt (fun e=>hne e.symm)]
  exact hbk
 have d0:w2.cell? ⟨b,0,none⟩=some (.pointer (some ⟨b,0,none⟩)):=by rw [Lib.cell_of_heap hb2];rfl
 have d1:w2.cell? ⟨b,1,none⟩=some v:=by rw [Lib.cell_of_heap hb2];rfl
 have f1:w2.frozen? ⟨b,1,none⟩=false:=Lib.frozen_of_heap hb2 1
 obtain ⟨ao,n',cap,rfl⟩:∃ ao n' cap,v'=.slice ao n' cap:=by
  rcases hown'.2 with ⟨hv,_⟩|⟨g,cap,cur,hv,_⟩
  ·exact ⟨_,_,_,hv⟩
  ·exact ⟨_,_,_,hv⟩
 go_wp2
 go_ret2
 refine ⟨rfl,?_,?_⟩
 ·exact Lib.BuilderAt.put (T:=203) (e:=5) hB hb2 (bs':=bs ++ Lib.strCells s) (by simpa [Lib.strCells_length] using hown') (by decide)
 ·exact (hb1.grown hgrow (by have:=hb1.size;omega) (fun k hk=>(hown.lt k hk).1)).setCell (p:=⟨b,1,none⟩) hB _
def Bld (B b:Nat) (l:Str) (w:World):Prop:=Lib.IsBuilder 203 5 B b (Lib.byteCells l) w
theorem Bld.fresh (w:World):Bld w.heap.size w.heap.size [] (w.alloc (.cells #[.pointer none,.slice none 0 0] 203)):=Lib.fresh_isBuilder _ _ _
theorem bldAt_ext {T e:TypeId} {B b:Nat} {p:Value} {bs:List Value} {w w':World} (h:Lib.BuilderAt T e B b p bs w) (hb:Below w.heap.size w w'):Lib.BuilderAt T e B b p bs w':=by
 obtain ⟨h1,v,h2,h3,h4⟩:=h
 refine ⟨h1,v,blk_ext h2 hb,World.ownsRow.kept h3 (row:=none) ⟨hb.os,hb.tape,hb.output,hb.size,fun i hi _=>hb.block i hi⟩ ?_,h4⟩
 cases v.ownBlock <;> simp
theorem Bld.ext {B b:Nat} {l:Str} {w w':World} (h:Bld B b l w) (hb:Below w.heap.size w w'):Bld B b l w':=by
 rcases h with h|h
 ·exact .inl (bldAt_ext h hb)
 ·exact .inr (bldAt_ext h hb)
theorem writeString_calls (B b:Nat) (l s:Str) (w:World) (h:Bld B b l w) (hlen:l.length + s.length≤140737488355328) (hBw:B≤w.heap.size) :
  Calls Tryz.prog 196 #[.pointer (some ⟨b,0,none⟩),S s] w fun e w'=>(∃ n,e=.returned (.tuple #[.int .i64 n,.nilIface]))∧Bld B b (l ++ s) w'∧Below B w w' :=
 (writeString_any B b _ ⟨s.toArray⟩ w h (by rw [Lib.byteCells_length,Lib.size_eq];exact hlen) hBw).mono fun e w' ⟨he,h1,h2⟩=>by
  refine ⟨⟨_,he⟩,.inr ?_,h2⟩
  have:Lib.byteCells l ++ Lib.strCells ⟨s.toArray⟩=Lib.byteCells (l ++ s):=by simp [Lib.byteCells,Lib.strCells]
  rw [this] at h1
  exact h1
theorem builderString_calls (B b:Nat) (l:Str) (w:World) (h:Bld B b l w) (hBw:B≤w.heap.size) :
  Calls Tryz.prog 197 #[.pointer (some ⟨b,0,none⟩)] w fun e w'=>e=.returned (S l)∧Below B w w' :=
 Tryz.Builder_String_any B b l w h hBw
def Sl {α:Type} (enc:α→List Value) (k:Nat) (w:World) (v:Value) (l:List α):Prop :=
 ∃ a cap,v=.slice a l.length cap∧RowAt enc k w a l∧(a=none→l=[])∧l.length≤cap
theorem Sl.nil {α:Type} (enc:α→List Value) (k:Nat) (w:World):Sl enc k w (.slice none 0 0) []:=⟨none,0,rfl,RowAt.nil _ _ _ _,fun _=>rfl,Nat.le_refl _⟩
theorem Sl.ext {α:Type} {enc:α→List Value} {k:Nat} {w w':World} {v:Value} {l:List α} (h:Sl enc k w v l) (hb:Below w.heap.size w w'):Sl enc k w' v l :=
 let ⟨a,cap,h1,h2,h3,h4⟩:=h;⟨a,cap,h1,h2.ext hb,h3,h4⟩
theorem text_bytes (w:World) (s:Str) :
  ∃ cap,(convert 9 148 (S s)).run Tryz.prog w=.ok (.slice (some ⟨w.heap.size,0,none⟩) s.length cap) (Lib.bytesWorld w 5 ⟨s.toArray⟩) ∧
   Sl byC 1 (Lib.bytesWorld w 5 ⟨s.toArray⟩) (.slice (some ⟨w.heap.size,0,none⟩) s.length cap) s:=by
 refine ⟨_,Lib.run_convert_string_bytes w _ _ _ ⟨s.toArray⟩ Tryz.underlying9 Tryz.underlying148 Tryz.underlying5,⟨_,_,rfl,?_,(fun h=>by cases h),?_⟩⟩
 ·intro i x hx
  refine ⟨_,_,rfl,fun j u hu=>?_⟩
  have hi:i<s.length:=(List.getElem?_eq_some_iff.1 hx).1
  cases j with
  | zero =>
   simp only [byC,List.getElem?_cons_zero,Option.some.injEq] at hu
   subst hu
   have:=Lib.bytesWorld_cell w 5 ⟨s.toArray⟩ i (by rw [Lib.size_eq];exact hi)
   simp only [Nat.zero_add,Nat.mul_one,Nat.add_zero]
   rw [this]
   simp [List.getD,hx]
  | succ j=>simp [byC] at hu
 ·have:=grownCap_ge w (ByteArray.size ⟨s.toArray⟩) 0 5
  rw [Lib.size_eq] at this ⊢
  exact this
def PrintPost (l:List (Str×Str)) (w:World) (e:Ending) (w':World):Prop :=
 ∃ v,e=.returned (.tuple #[v,.bool (printOk l)])∧Sl byC 1 w' v (if printOk l then printM l else [])∧Below w.heap.size w w'
set_option maxHeartbeats 1000000 in
set_option maxRecDepth 100000 in
theorem print_calls (w:World) (hg:GL w) (a:Option Addr) (cap:Nat) (l:List (Str×Str)) (hr:RowAt prC 2 w a l) (hl:bulk l≤100000000) :
  Calls Tryz.prog 176 #[.slice a l.length cap] w (PrintPost l w):=by
 have HR:=Lib.hid hr
 have HL:=Lib.hid hl
 have hll:l.length≤100000000:=Nat.le_trans (bulk_len l) hl
 have hpl:∀ p ∈ l,p.1.length + p.2.length≤100000000:=fun p hp=>Nat.le_trans (bulk_mem l p hp) hl
 have HPL:=Lib.hid hpl
 clear hr hl hpl
 go_enter Tryz.func176,Tryz.ntmps176
 go_wp2_with fail
 refine (keys_calls _ _ _ l HR.out (by omega) (fun p hp=>by have:=HPL.out p hp;omega)).mono ?_
 rintro e w1 ⟨rfl,hb1⟩
 have HB1:Hid (Below w.heap.size w w1):=hb1
 clear hb1
 cases hrt:rightM l with
 | false =>
  have HP:Hid (printOk l=false):=Lib.hid (by simp [printOk,hrt])
  go_wp2_with fail
  go_ret2
  exact ⟨_,by rw [HP.out];rfl,by rw [HP.out];exact Sl.nil _ _ _,HB1.out⟩
 | true =>
  cases hon:onceM l with
  | false =>
   have HP:Hid (printOk l=false):=Lib.hid (by simp [printOk,hon])
   go_wp2_with fail
   go_ret2
   exact ⟨_,by rw [HP.out];rfl,by rw [HP.out];exact Sl.nil _ _ _,HB1.out⟩
  | true =>
   have HP:Hid (printOk l=true):=Lib.hid (by simp [printOk,hon,hrt])
   clear hrt hon
   go_wp2_with fail
   go_loopg [23] l.length (fun g v23 wr=>∃ k:Nat,g + k=l.length∧v23=.int .i64 k∧Hid (Bld w1.heap.size w1.heap.size (printM (l.take k)) wr)∧Hid (Below w.heap.size w wr)∧w1.heap.size≤wr.heap.size)
   case atStart=>exact ⟨0,by simp,rfl,Bld.fresh _,HB1.out.alloc HB1.out.size _,by simp⟩
   case round =>
    obtain ⟨k,hk,rfl,HBL,HB,hsz⟩:=hrel
    cases gk with
    | zero =>
     have hge:l.length≤k:=by omega
     clear hk
     have HBL2:Hid (Bld w1.heap.size w1.heap.size (printM l) wr):=by have:=HBL.out;rw [List.take_of_length_le hge] at this;exact this
     go_wp2_with fail
     refine (builderString_calls _ _ _ _ HBL2.out hsz).mono ?_
     rintro e w2 ⟨rfl,hb2⟩
     have HB2:Hid (Below w.heap.size w w2):=HB.out.trans (hb2.mono HB1.out.size)
     clear hb2
     obtain ⟨cap',hconv,hsl⟩:=text_bytes w2 (printM l)
     have HSL:=Lib.hid hsl
     clear hsl
     go_wp2_with fail
     go_ret2
     exact ⟨_,by rw [HP.out];rfl,by rw [HP.out];exact HSL.out,pbt HB2.out (below_bytesWorld _ _ _)⟩
    | succ g1 =>
     have hlt:k<l.length:=by omega
     have HG:Hid (g1 + 1 + k=l.length):=hk
     clear hk
     obtain ⟨b,o,rfl,c1,c2⟩:=(HR.out.ext HB.out).pr hlt
     have HD:Hid (printM (l.take (k + 1))=printM (l.take k) ++ recM l[k]):=Lib.hid (printM_take l hlt)
     have hxl:=HPL.out _ (List.getElem_mem hlt)
     generalize l[k]=x at c1 c2 HD hxl
     have hpk:(printM (l.take k)).length≤100000000:=by
      have h1:=bulk_take l k
      have h2:=HL.out
      exact Nat.le_trans (printM_len (l.take k) (by omega)) (by omega)
     have HRL:Hid ((restM x).length=1 + x.1.length + 1 + x.2.length + 1):=Lib.hid (by simp [restM];omega)
     have hrl:(restM x).length≤100000003:=by rw [HRL.out];omega
     go_wp2_with fail
     rw [show (1 + (x.1.length:Int) + 1 + (x.2.length:Int) + 1)=(((restM x).length:Nat):Int) from by rw [HRL.out];omega]
     have HB2:Hid (Below w.heap.size w (wr.alloc (.cells #[S x.1,S x.2] 169))):=HB.out.alloc HB.out.size _
     refine (length_calls _ (hg.ext HB2.out) (restM x).length (by omega)).mono ?_
     rintro e w2 ⟨rfl,hb2⟩
     have HB3:Hid (Below w.heap.size w w2):=pbt HB2.out hb2
     have HBL2:=Lib.hid ((HBL.out.ext (pbn wr _)).ext hb2)
     have hsz2:w1.heap.size≤w2.heap.size:=by have:=hb2.size;simp at this;omega
     have hlm:=lenM_le (restM x).length
     clear hb2
     go_wp2_with fail
     refine (itoa_calls _ (hg.ext HB3.out) (lenM (restM x).length) (by omega)).mono ?_
     rintro e w3 ⟨rfl,hb3⟩
     have HB4:Hid (Below w.heap.size w w3):=pbt HB3.out hb3
     have HBL3:=Lib.hid (HBL2.out.ext hb3)
     have hsz3:w1.heap.size≤w3.heap.size:=by have:=hb3.size;omega
     have hdl:=dec_len (lenM (restM x).length) (by omega)
     clear hb3
     go_wp2_with fail
     refine (writeString_calls _ _ _ (dec (lenM (restM x).length)) _ HBL3.out (by omega) hsz3).mono ?_
     rintro e w4 ⟨⟨n4,rfl⟩,hbl4,hb4⟩
     have HB5:Hid (Below w.heap.size w w4):=HB4.out.trans (hb4.mono HB1.out.size)
     have HBL4:=Lib.hid hbl4
     have hsz4:w1.heap.size≤w4.heap.size:=by have:=hb4.size;omega
     clear hbl4 hb4
     go_wp2_with fail
     simp only [append_S]
     refine (writeString_calls _ _ _ _ _ HBL4.out (by simp only [List.length_append,List.length_cons,List.length_nil];omega) hsz4).mono ?_
     rintro e w5 ⟨⟨n5,rfl⟩,hbl5,hb5⟩
     have HB6:Hid (Below w.heap.size w w5):=HB5.out.trans (hb5.mono HB1.out.size)
     have HBL5:Hid (Bld w1.heap.size w1.heap.size (printM (l.take (k + 1))) w5):=Lib.hid (by rw [HD.out,recM,← List.append_assoc];exact hbl5)
     have hsz5:w1.heap.size≤w5.heap.size:=by have:=hb5.size;omega
     clear hbl5 hb5
     go_wp2_with fail
     go_roundg g1
     case measure=>omega
     case rel=>exact ⟨k + 1,by have:=HG.out;omega,by go_num,HBL5,HB6,hsz5⟩
theorem flat_get {α:Type} {enc:α→List Value} {k:Nat} (hk:∀ x,(enc x).length=k):∀ (l:List α) (j:Nat) (u:Value),(flat enc l)[j]?=some u→∃ i jj x,l[i]?=some x∧(enc x)[jj]?=some u∧j=i * k + jj
 | [],j,u,h=>by simp [flat] at h
 | y :: r,j,u,h=>by
  have e:flat enc (y :: r)=enc y ++ flat enc r:=rfl
  rw [e] at h
  by_cases hj:j<k
  ·rw [List.getElem?_append_left (by rw [hk];exact hj)] at h
   exact ⟨0,j,y,rfl,h,by omega⟩
  ·rw [List.getElem?_append_right (by rw [hk];omega),hk] at h
   obtain ⟨i,jj,x,h1,h2,h3⟩:=flat_get hk r (j - k) u h
   exact ⟨i + 1,jj,x,h1,h2,by rw [Nat.succ_mul];omega⟩
theorem run_append_row {α:Type} {P:Program} {enc:α→List Value} {w:World} (t ty:TypeId)
  (base T k bytes:Nat) (i:TypeInfo) (z:Value) (ht:P.underlying t=some (.slice T)) (hi:P.info? T=some i) (hz:i.zero=some z)
  (hsize:i.size=k) (hby:i.bytes=bytes) (hzs:z.cells.size=k) (hsz:0<k) (hk:∀ x,(enc x).length=k) (h1:∀ x,∀ u ∈ enc x,u.oneCell'=true)
  (v:Value) (l:List α) (hown:Owr enc T k base w v l) (A:Option Addr) (c:Nat) (m:List α) (hr:RowAt enc k w A m) (hn:A=none→m=[])
  (h63:l.length + m.length≤maxLen) (hbytes:(l.length + m.length) * bytes≤140737488355328) (hbase:base≤w.heap.size) :
  ∃ v' w',(Builtin.append_ #[t,t] ty #[v,.slice A m.length c]).run P w=.ok v' w'∧Owr enc T k base w' v' (l ++ m)∧w.grownBy w' v.ownBlock:=by
 cases A with
 | none =>
  obtain rfl:=hn rfl
  refine ⟨v,w,?_,by rw [List.append_nil];exact hown,World.grownBy.refl w _⟩
  rcases hown.2 with ⟨hv,h0⟩|⟨g,cap,cur,hv,_,_,hnc,_⟩
  ·subst hv
   simp [Builtin.append_,run_underlying ht,sizeOf,typeInfo,hi,Builtin.lenOf,Builtin.firstCells]
  ·subst hv
   simp [Builtin.append_,run_underlying ht,sizeOf,typeInfo,hi,Builtin.lenOf,Builtin.firstCells,hnc,storeCells]
 | some ad =>
  obtain ⟨v',w',hrun,h2,h3,_⟩:=run_append_own (P:=P) w base t ty T i z k bytes ht hi hz hsize hby hzs hsz v l.length (flat enc l) hown ad m.length c (flat enc m) (flat_length hk m) (fun j u hu=>by
   obtain ⟨i,jj,x,hx,hv,rfl⟩:=flat_get hk m j u hu
   obtain ⟨b,o,ha,hc⟩:=hr i x hx
   obtain rfl:=Option.some.inj ha
   rw [add_at,← Nat.add_assoc]
   exact hc jj u hv) (fun u hu=>by
   obtain ⟨x,_,hx⟩:=List.mem_flatMap.1 hu
   exact h1 x u hx) h63 hbytes hbase
  refine ⟨v',w',hrun,?_,h3⟩
  unfold Owr
  rw [flat_append,List.length_append]
  exact h2
theorem wpList_append_row {α:Type} {P:Program} {enc:α→List Value} {w:World} {ops:Array Oper} {rest:List Oper} {o:Oper} {a:Act} {Q:Exit→Act→World→Prop} (hw:Region.wanted o (yielded ops a.tmps)=true) (s x:Operand) (t:TypeId)
  (ho:o.op=.call { callee:=.builtin .append,args:=#[s,x],argTypes:=#[t,t] })
  (base T k bytes:Nat) (i:TypeInfo) (z:Value) (ht:P.underlying t=some (.slice T)) (hi:P.info? T=some i) (hz:i.zero=some z)
  (hsize:i.size=k) (hby:i.bytes=bytes) (hzs:z.cells.size=k) (hsz:0<k) (hk:∀ x,(enc x).length=k) (h1:∀ x,∀ u ∈ enc x,u.oneCell'=true)
  (v:Value) (l:List α) (hs:a.eval s=v) (hown:Owr enc T k base w v l) (A:Option Addr) (n c:Nat) (m:List α) (hx:a.eval x=.slice A n c) (hnm:n=m.length) (hr:RowAt enc k w A m) (hn:A=none→m=[])
  (h63:l.length + m.length≤maxLen) (hbytes:(l.length + m.length) * bytes≤140737488355328) (hbase:base≤w.heap.size)
  (h:∀ v' w',Owr enc T k base w' v' (l ++ m)→w.grownBy w' v.ownBlock→wpList P ops Q rest (a.put o.dst v') w'):wpList P ops Q (o :: rest) a w:=by
 subst hnm
 obtain ⟨v',w',hrun,h2,h3⟩:=run_append_row (P:=P) (enc:=enc) (w:=w) t o.type base T k bytes i z ht hi hz hsize hby hzs hsz hk h1 v l hown A c m hr hn h63 hbytes hbase
 unfold wpList
 rw [if_pos hw]
 refine Or.inl ?_
 unfold Oper.wp execOp
 simp only [ho,resolve,invoke,builtin,Sem.run_bind,Sem.run_pure,Result.andThen_ok,List.map_toArray,List.map_cons,List.map_nil,hs,hx,hrun]
 exact h v' w' h2 h3
theorem own_empty {α:Type} (enc:α→List Value) {T:TypeId} (k base:Nat) (w:World) (hb:base≤w.heap.size):Owr enc T k base (w.alloc (.cells #[] T)) (.slice (some ⟨w.heap.size,0,none⟩) 0 0) []:=by
 refine ⟨by simp [flat],.inr ⟨w.heap.size,0,#[],rfl,hb,blk_new w _,Nat.le_refl _,Nat.zero_le _,by simp,by simp [flat]⟩⟩
end Go.Proofs.YtjghikkboekonaaGreatDoor
end
section
namespace Go.Proofs.Zq
open Go.RowKit Go.Proofs.YtjghikkboekonaaGreatDoor Go.Proofs.Zw.PrintWords
section
variable {α:Type} {enc:α→List Value} {k:Nat}
theorem flat_take (hk:∀ x,(enc x).length=k):∀ (l:List α) (i:Nat),(flat enc l).take (i * k)=flat enc (l.take i)
 | [],i=>by simp [flat]
 | x :: r,0=>by simp [flat]
 | x :: r,i + 1=>by
  have e:flat enc (x :: r)=enc x ++ flat enc r:=rfl
  have e2:flat enc ((x :: r).take (i + 1))=enc x ++ flat enc (r.take i):=rfl
  rw [e,e2,List.take_append,hk,List.take_of_length_le (by rw [hk,Nat.succ_mul];omega),show (i + 1) * k - k=i * k from by rw [Nat.succ_mul];omega,flat_take hk r i]
theorem flat_drop (hk:∀ x,(enc x).length=k):∀ (l:List α) (i:Nat),(flat enc l).drop (i * k)=flat enc (l.drop i)
 | [],i=>by simp [flat]
 | x :: r,0=>by simp [flat]
 | x :: r,i + 1=>by
  have e:flat enc (x :: r)=enc x ++ flat enc r:=rfl
  rw [e,List.drop_append,hk,List.drop_eq_nil_of_le (by rw [hk,Nat.succ_mul];omega),show (i + 1) * k - k=i * k from by rw [Nat.succ_mul];omega,flat_drop hk r i]
  rfl
theorem flat_set (hk:∀ x,(enc x).length=k) (l:List α) (i:Nat) (hi:i<l.length) (x:α):flat enc (l.set i x)=(flat enc l).take (i * k) ++ enc x ++ (flat enc l).drop (i * k + k):=by
 rw [flat_take hk,show i * k + k=(i + 1) * k from by rw [Nat.succ_mul],flat_drop hk,List.set_eq_take_append_cons_drop,if_pos hi,flat_append,List.append_assoc]
 rfl
variable {T base g cap:Nat} {w:World}
theorem own_blk {xs:List α} (h:Owr enc T k base w (.slice (some ⟨g,0,none⟩) xs.length cap) xs) :
  ∃ cur:Array Value,base≤g∧w.heap[g]?=some (.cells cur T (0,0))∧xs.length≤cap∧cap≤maxLen∧cur.size=cap * k∧cur.toList.take (xs.length * k)=flat enc xs:=by
 rcases h.2 with ⟨hv,_⟩|⟨g',cap',cur,hv,hb,hg,h1,h2,h3,h4⟩
 ·cases hv
 ·cases hv
  exact ⟨cur,hb,hg,h1,h2,h3,h4⟩
theorem own_mk (hk:∀ x,(enc x).length=k) {xs:List α} {cur:Array Value} (hb:base≤g) (hg:w.heap[g]?=some (.cells cur T (0,0))) (h1:xs.length≤cap) (h2:cap≤maxLen) (h3:cur.size=cap * k) (h4:cur.toList.take (xs.length * k)=flat enc xs) :
  Owr enc T k base w (.slice (some ⟨g,0,none⟩) xs.length cap) xs:=⟨flat_length hk xs,.inr ⟨g,cap,cur,rfl,hb,hg,h1,h2,h3,h4⟩⟩
theorem own_there {xs:List α} (h:Owr enc T k base w (.slice (some ⟨g,0,none⟩) xs.length cap) xs) (o n:Nat) (hn:o + n≤cap * k):w.there g o n:=by
 obtain ⟨cur,_,hg,_,_,h3,_⟩:=own_blk h
 intro j hj
 refine ⟨?_,pbf hg _⟩
 rw [pbc hg]
 simp;omega
theorem own_lies (hk:∀ x,(enc x).length=k) {xs:List α} (h:Owr enc T k base w (.slice (some ⟨g,0,none⟩) xs.length cap) xs) {i:Nat} (hi:i<xs.length):w.rangeAt g (i * k) (enc xs[i]):=by
 intro j v hv
 obtain ⟨b,o,ha,hc⟩:=h.row hk i _ (List.getElem?_eq_getElem hi)
 cases ha
 have:=hc j v hv
 rwa [Nat.zero_add] at this
theorem own_put (hk:∀ x,(enc x).length=k) {xs:List α} (h:Owr enc T k base w (.slice (some ⟨g,0,none⟩) xs.length cap) xs) {i:Nat} (hi:i<xs.length) (x:α) :
  Owr enc T k base (w.setCells g (i * k) (enc x)) (.slice (some ⟨g,0,none⟩) (xs.set i x).length cap) (xs.set i x):=by
 obtain ⟨cur,hb,hg,h1,h2,h3,h4⟩:=own_blk h
 have hik:i * k + k≤xs.length * k:=by rw [← Nat.succ_mul];exact Nat.mul_le_mul_right k hi
 have hck:xs.length * k≤cap * k:=Nat.mul_le_mul_right k h1
 obtain ⟨cur',q1,q2,q3⟩:=setCells_row (enc x) (i * k) w cur hg (by rw [hk];omega)
 refine own_mk hk hb q1 (by rw [List.length_set];exact h1) h2 (q2.trans h3) ?_
 rw [flat_set hk xs i hi x,q3,List.length_set,← h4,hk]
 apply List.ext_getElem?
 intro j
 have hcl:cur.toList.length=cap * k:=by rw [Array.length_toList];exact h3
 simp only [List.getElem?_append,List.getElem?_take,List.getElem?_drop,List.length_append,List.length_take,hk,hcl]
 repeat' split
 all_goals first|rfl|(exfalso;omega)|(congr 1;omega)|(rw [List.getElem?_eq_none (by omega)])
theorem own_cut (hk:∀ x,(enc x).length=k) {xs:List α} (h:Owr enc T k base w (.slice (some ⟨g,0,none⟩) xs.length cap) xs) {i:Nat} (hi:i≤xs.length) (vs:List Value) (hv:i * k + vs.length≤cap * k) :
  Owr enc T k base (w.setCells g (i * k) vs) (.slice (some ⟨g,0,none⟩) (xs.take i).length cap) (xs.take i):=by
 obtain ⟨cur,hb,hg,h1,h2,h3,h4⟩:=own_blk h
 have hik:i * k≤xs.length * k:=Nat.mul_le_mul_right k hi
 obtain ⟨cur',q1,q2,q3⟩:=setCells_row vs (i * k) w cur hg (by omega)
 refine own_mk hk hb q1 (by rw [List.length_take];omega) h2 (q2.trans h3) ?_
 have hcl:cur.toList.length=cap * k:=by rw [Array.length_toList];exact h3
 rw [List.length_take,Nat.min_eq_left hi,← flat_take hk,← h4,q3,List.take_take,Nat.min_eq_left hik,List.append_assoc,List.take_append_of_le_length (by rw [List.length_take];have:=Nat.mul_le_mul_right k h1;omega),List.take_take,Nat.min_eq_left (Nat.le_refl _)]
theorem setCells_grown (w:World) (g o:Nat) (vs:List Value):w.grownBy (w.setCells g o vs) (some g):=by
 obtain ⟨h1,h2,h3,h4⟩:=setCells_same g vs o w
 exact ⟨h1,h2,h3,by rw [h4];exact Nat.le_refl _,fun j _ hj=>setCells_far vs o j (fun e=>hj (by rw [e]))⟩
end
theorem grown_trans' {a b c:World} {row:Option Nat} (h:a.grownBy b row) (h2:b.grownBy c row):a.grownBy c row :=
 ⟨h2.os.trans h.os,h2.tape.trans h.tape,h2.output.trans h.output,Nat.le_trans h.size h2.size,fun i hi hn=>(h2.block i (Nat.lt_of_lt_of_le hi h.size) hn).trans (h.block i hi hn)⟩
theorem grown_below {a b c:World} {row:Option Nat} (h:a.grownBy b row) (h2:Below b.heap.size b c):a.grownBy c row:=grown_trans' h ⟨h2.os,h2.tape,h2.output,h2.size,fun k hk _=>h2.block k hk⟩
theorem zero_cells (z:Array Value) (n:Nat):(Builtin.zeroCells z n).toList.length=n * z.size:=by simp [Builtin.zeroCells]
theorem run_clear_row {P:Program} (w:World) (t e ty:TypeId) (z:Value) (ht:P.underlying t=some (.slice e)) (hv:∀ w,(zeroValue e).run P w=.ok z w) (h1:∀ v ∈ z.cells.toList,v.oneCell'=true) (b o n c:Nat) (hn:0<n) (hh:w.there b o (n * z.cells.size)) :
  (Builtin.clear_ #[t] ty #[.slice (some ⟨b,o,none⟩) n c]).run P w=.ok (.tuple #[]) (w.setCells b o (Builtin.zeroCells z.cells n).toList):=by
 have hst:=run_storeCells_cells (P:=P) b o (Builtin.zeroCells z.cells n).toList 0 w (fun j hj=>by rw [zero_cells] at hj;exact (hh j hj).1) (fun j hj=>by rw [zero_cells] at hj;exact (hh j hj).2) (by
  intro v hv'
  simp only [Builtin.zeroCells,Array.toList_map,List.mem_map] at hv'
  obtain ⟨i,hi,rfl⟩:=hv'
  have hi2:i<n * z.cells.size:=by simpa using hi
  have hz:0<z.cells.size:=by
   rcases Nat.eq_zero_or_pos z.cells.size with h|h
   ·rw [h] at hi2;omega
   ·exact h
  have hm:i % z.cells.size<z.cells.size:=Nat.mod_lt _ hz
  rw [getElem!_pos z.cells _ hm]
  exact h1 _ (Array.getElem_mem_toList hm))
 simp only [Nat.add_zero] at hst
 obtain ⟨m,rfl⟩:∃ m,n=m + 1:=⟨n - 1,by omega⟩
 simp [Builtin.clear_,run_underlying ht,hv,hst]
end Go.Proofs.Zq
end
section
namespace Go.Proofs.Zq
open Go.RowKit Go.WideMaps Go.Maps Go.Proofs.YtjghikkboekonaaGreatDoor Go.Proofs.Zw.PrintWords Go.Proofs.Zw.PrintLast Go.Proofs.Zw.PrintMore
section
variable {P:Program} {ops:Array Oper} {rest:List Oper} {o:Oper} {a:Act} {Q:Exit→Act→World→Prop} {W:World}
def LiesAt (w:World) (a:Addr) (cs:List Value):Prop:=∀ j v,cs[j]?=some v→w.cell? (a.add j)=some v
theorem LiesAt.below {w w1:World} {a:Addr} {cs:List Value} (h:LiesAt w a cs) (hb:Below w.heap.size w w1):LiesAt w1 a cs:=fun j v hv=>by
 have:=h j v hv
 exact (hb.cell (World.block_lt_of_cell? w _ this)).trans this
theorem pz12 (hw:Region.wanted o (yielded ops a.tmps)=true) (ty:TypeId) (x:Operand) (ho:o.op=.load ty x)
  (ad:Addr) (hx:a.eval x=.pointer (some ad)) (cs:List Value) (d:TypeDesc) (hc:LiesAt W ad cs)
  (hu:P.underlying ty=some d) (hd:d.isRow=true) (hi:(P.info? ty).map (·.size)=some cs.length)
  (h:wpList P ops Q rest (a.put o.dst (.agg cs.toArray)) W):wpList P ops Q (o :: rest) a W:=by
 unfold wpList
 rw [if_pos hw]
 refine Or.inl ?_
 unfold Oper.wp execOp
 have hl:(loadCells ad cs.length).run P W=.ok cs.toArray W:=run_loadCells_list (P:=P) W ad cs hc
 have hv:(loadVar ty ad).run P W=.ok (.agg cs.toArray) W:=by
  cases hq:P.info? ty with
  | none=>simp [hq] at hi
  | some i =>
   have hs:i.size=cs.length:=by simpa [hq] using hi
   have hagg:(isAgg ty).run P W=.ok true W:=by
    unfold isAgg
    rw [Sem.run_bind,run_underlying hu W]
    cases d <;> simp_all
   simp [loadVar,Sem.run_bind,hagg,sizeOf,typeInfo,hq,hs,hl]
 simp only [ho,hx,Instr.loadAt,Instr.sureAddr,Sem.run_bind,Sem.run_pure,Result.andThen_ok,hv]
 exact h
theorem pz22 (hgd:o.guard=none) (hN:o.dst=none) (ty:TypeId) (x y:Operand) (ho:o.op=.store ty x y)
  (g:Nat) (cells:Array Value) (hx:a.eval x=.pointer (some ⟨g,0,none⟩)) (hy:a.eval y=.agg cells)
  (t:TypeId) (old:Array Value) (hg:W.heap[g]?=some (.cells old t (0,0))) (hi:(P.info? ty).map (·.size)=some cells.size)
  (hold:old.size=cells.size) (h1:cells.all (·.oneCell')=true)
  (h:∀ w1,w1.heap[g]?=some (.cells cells t (0,0))→W.grownBy w1 (some g)→wpList P ops Q rest a w1):wpList P ops Q (o :: rest) a W:=by
 refine wpList_plain hgd fun K hK=>?_
 refine wp_store_row ty x y ho g cells hx hy t old hg hi hold h1 ?_
 rw [hN]
 exact hK _ _ (h _ (setRow_heap W g old cells t (0,0) hg) ⟨rfl,rfl,rfl,by simp,fun k _ hne=>setRow_other W g k cells (fun e=>hne (by rw [e]))⟩)
end
theorem pz26 {w:World} {g:Nat} {t:TypeId} {cs:List Value} (h:w.heap[g]?=some (.cells cs.toArray t (0,0))):LiesAt w ⟨g,0,none⟩ cs:=fun j v hv=>by
 rw [Addr.add_mid,Nat.zero_add,pbc h j]
 simpa using hv
theorem below_none {w w':World} (h:Below w.heap.size w w'):w.grownBy w' none:=⟨h.os,h.tape,h.output,h.size,fun k hk _=>h.block k hk⟩
end Go.Proofs.Zq
end
section
namespace Go.Proofs.Zt
variable {α:Type}
def InOrd (less:α→α→Bool) (f:Nat→α) (a m:Nat):Prop:=∀ i j,a≤i→i<j→j<m→less (f j) (f i)=false
structure Weak (less:α→α→Bool):Prop where
 trans:∀ a b c,less b a=false→less c b=false→less c a=false
 asymm:∀ a b,less a b=true→less b a=false
theorem Weak.refl {less:α→α→Bool} (h:Weak less) (a:α):less a a=false:=by
 cases e:less a a with
 | false=>rfl
 | true=>exact e.symm.trans (h.asymm a a e)
theorem InOrd.sub {less:α→α→Bool} {f:Nat→α} {a m b n:Nat} (h:InOrd less f a m) (h1:a≤b) (h2:n≤m):InOrd less f b n:=fun i j hi hij hj=>h i j (by omega) hij (by omega)
theorem InOrd.le {less:α→α→Bool} (hw:Weak less) {f:Nat→α} {a m:Nat} (h:InOrd less f a m) {i j:Nat} (hi:a≤i) (hij:i≤j) (hj:j<m):less (f j) (f i)=false:=by
 rcases Nat.lt_or_ge i j with h'|h'
 ·exact h i j hi h' hj
 ·have:i=j:=by omega
  subst this;exact hw.refl _
theorem InOrd.empty {less:α→α→Bool} {f:Nat→α} {a m:Nat} (h:m≤a + 1):InOrd less f a m:=fun i j _ _ _=>by omega
theorem InOrd.congr {less:α→α→Bool} {f g:Nat→α} {a m:Nat} (h:InOrd less f a m) (e:∀ i,a≤i→i<m→g i=f i):InOrd less g a m:=fun i j hi hij hj=>by rw [e i hi (by omega),e j (by omega) hj];exact h i j hi hij hj
theorem InOrd.join {less:α→α→Bool} {f:Nat→α} {a m b:Nat} (h1:InOrd less f a m) (h2:InOrd less f m b) (h:∀ i j,a≤i→i<m→m≤j→j<b→less (f j) (f i)=false):InOrd less f a b:=by
 intro i j hi hij hj
 by_cases c1:j<m
 ·exact h1 i j hi hij c1
 ·by_cases c2:i<m
  ·exact h i j hi c2 (by omega) hj
  ·exact h2 i j (by omega) hij hj
def rot (f:Nat→α) (a m e:Nat) (i:Nat):α:=if a≤i∧i<e then (if i<a + (e - m) then f (m + (i - a)) else f (i - (e - m))) else f i
theorem sym_mid {less:α→α→Bool} (hw:Weak less) {f:Nat→α} {a m b mid n s r0 s0:Nat} (ham:a<m) (hmb:m<b) (hmid:mid=(a + b) / 2) (hn:n=mid + m)
  (hs0:s0=if mid<m then n - b else a) (hr0:r0=if mid<m then mid else m) (h1:InOrd less f a m) (h2:InOrd less f m b) (hs:s0≤s) (hsr:s≤r0)
  (hlo:s0<s→less (f (n - 1 - (s - 1))) (f (s - 1))=false) (hhi:s<r0→less (f (n - 1 - s)) (f s)=true) :
  s≤m∧m≤n - s∧n - s≤b∧a≤s∧s≤mid∧mid≤n - s∧InOrd less (rot f s m (n - s)) a s∧InOrd less (rot f s m (n - s)) s mid∧InOrd less (rot f s m (n - s)) mid (n - s)∧InOrd less (rot f s m (n - s)) (n - s) b ∧
  ∀ i j,a≤i→i<mid→mid≤j→j<b→less (rot f s m (n - s) j) (rot f s m (n - s) i)=false:=by
 have b1:s≤m∧m≤n - s∧n - s≤b∧a≤s∧s≤mid∧mid≤n - s:=by
  subst hmid;subst hn
  split at hs0 <;> rename_i hc <;> (first|rw [if_pos hc] at hr0|rw [if_neg hc] at hr0)
  all_goals omega
 obtain ⟨c1,c2,c3,c4,c5,c6⟩:=b1
 have e1:∀ i,i<s→rot f s m (n - s) i=f i:=fun i hi=>by unfold rot;rw [if_neg (by omega)]
 have e2:∀ i,s≤i→i<mid→rot f s m (n - s) i=f (m + (i - s)):=fun i h1 h2=>by unfold rot;rw [if_pos (by omega),if_pos (by omega)]
 have e3:∀ i,mid≤i→i<n - s→rot f s m (n - s) i=f (i - (n - s - m)):=fun i h1 h2=>by unfold rot;rw [if_pos (by omega),if_neg (by omega)]
 have e4:∀ i,n - s≤i→rot f s m (n - s) i=f i:=fun i hi=>by unfold rot;rw [if_neg (by omega)]
 refine ⟨c1,c2,c3,c4,c5,c6,?_,?_,?_,?_,?_⟩
 ·exact (h1.sub (Nat.le_refl _) c1).congr fun i _ hi=>e1 i hi
 ·intro i j hi hij hj
  rw [e2 i hi (by omega),e2 j (by omega) hj]
  exact h2 _ _ (by omega) (by omega) (by omega)
 ·intro i j hi hij hj
  rw [e3 i hi (by omega),e3 j (by omega) hj]
  exact h1 _ _ (by omega) (by omega) (by omega)
 ·exact (h2.sub (by omega) (Nat.le_refl _)).congr fun i hi _=>e4 i hi
 ·
  have hA:∀ i j,a≤i→i<s→n - s≤j→j<b→less (f j) (f i)=false:=by
   intro i j hi hi2 hj hj2
   have hlt:s0<s:=by
    rcases Nat.lt_or_ge s0 s with h|h
    ·exact h
    ·exfalso
     have:s=s0:=by omega
     subst hmid;subst hn
     split at hs0 <;> omega
   have hp:=hlo hlt
   have:n - 1 - (s - 1)=n - s:=by omega
   rw [this] at hp
   have q1:=h1.le hw hi (show i≤s - 1 by omega) (by omega)
   have q2:=h2.le hw (show m≤n - s by omega) hj hj2
   exact hw.trans _ _ _ (hw.trans _ _ _ q1 hp) q2
  have hB:∀ i j,m≤i→i<n - s→s≤j→j<m→less (f j) (f i)=false:=by
   intro i j hi hi2 hj hj2
   have hlt:s<r0:=by
    rcases Nat.lt_or_ge s r0 with h|h
    ·exact h
    ·exfalso
     have:s=r0:=by omega
     subst hmid;subst hn
     split at hr0 <;> omega
   have hp:=hw.asymm _ _ (hhi hlt)
   have q1:=h2.le hw hi (show i≤n - 1 - s by omega) (by omega)
   have q2:=h1.le hw (show a≤s by omega) hj hj2
   exact hw.trans _ _ _ (hw.trans _ _ _ q1 hp) q2
  intro i j hi hi2 hj hj2
  by_cases u:i<s
  ·rw [e1 i u]
   by_cases v:j<n - s
   ·rw [e3 j hj v]
    exact h1.le hw hi (by omega) (by omega)
   ·rw [e4 j (by omega)]
    exact hA i j hi u (by omega) hj2
  ·rw [e2 i (by omega) hi2]
   by_cases v:j<n - s
   ·rw [e3 j hj v]
    exact hB _ _ (by omega) (by omega) (by omega) (by omega)
   ·rw [e4 j (by omega)]
    exact h2.le hw (by omega) (by omega) hj2
theorem sym_first {less:α→α→Bool} (hw:Weak less) {f g:Nat→α} {a b i:Nat} (h2:InOrd less f (a + 1) b) (hi:a + 1≤i) (hib:i≤b) (hlo:a + 1<i→less (f (i - 1)) (f a)=true) (hhi:i<b→less (f i) (f a)=false)
  (g1:∀ k,a≤k→k<i - 1→g k=f (k + 1)) (g2:g (i - 1)=f a) (g3:∀ k,i≤k→k<b→g k=f k):InOrd less g a b:=by
 have key1:∀ k,a + 1≤k→k<i→less (f a) (f k)=false:=fun k h1 h3=>by
  have hp:=hw.asymm _ _ (hlo (by omega))
  exact hw.trans _ _ _ (h2.le hw h1 (show k≤i - 1 by omega) (by omega)) hp
 have key2:∀ k,i≤k→k<b→less (f k) (f a)=false:=fun k h1 h3=>by
  exact hw.trans _ _ _ (hhi (by omega)) (h2.le hw hi h1 h3)
 intro x y hx hxy hy
 by_cases u:x<i - 1
 ·rw [g1 x hx u]
  by_cases v:y<i - 1
  ·rw [g1 y (by omega) v];exact h2 _ _ (by omega) (by omega) (by omega)
  ·by_cases w:y=i - 1
   ·subst w;rw [g2];exact key1 _ (by omega) (by omega)
   ·rw [g3 y (by omega) hy];exact h2.le hw (by omega) (by omega) hy
 ·by_cases w:x=i - 1
  ·subst w;rw [g2,g3 y (by omega) hy];exact key2 _ (by omega) hy
  ·rw [g3 x (by omega) (by omega),g3 y (by omega) hy];exact h2 _ _ (by omega) (by omega) hy
theorem sym_last {less:α→α→Bool} (hw:Weak less) {f g:Nat→α} {a m i:Nat} (h1:InOrd less f a m) (hi:a≤i) (him:i≤m) (hlo:a<i→less (f m) (f (i - 1))=false) (hhi:i<m→less (f m) (f i)=true)
  (g1:∀ k,a≤k→k<i→g k=f k) (g2:g i=f m) (g3:∀ k,i<k→k≤m→g k=f (k - 1)):InOrd less g a (m + 1):=by
 have key1:∀ k,a≤k→k<i→less (f m) (f k)=false:=fun k h2 h3=>hw.trans _ _ _ (h1.le hw h2 (show k≤i - 1 by omega) (by omega)) (hlo (by omega))
 have key2:∀ k,i≤k→k<m→less (f k) (f m)=false:=fun k h2 h3=>hw.trans _ _ _ (hw.asymm _ _ (hhi (by omega))) (h1.le hw hi h2 h3)
 intro x y hx hxy hy
 by_cases u:x<i
 ·rw [g1 x hx u]
  by_cases v:y<i
  ·rw [g1 y (by omega) v];exact h1 _ _ hx hxy (by omega)
  ·by_cases w:y=i
   ·subst w;rw [g2];exact key1 _ hx u
   ·rw [g3 y (by omega) (by omega)];exact h1.le hw hx (by omega) (by omega)
 ·by_cases w:x=i
  ·subst w;rw [g2,g3 y (by omega) (by omega)];exact key2 _ (by omega) (by omega)
  ·rw [g3 x (by omega) (by omega),g3 y (by omega) (by omega)];exact h1 _ _ (by omega) (by omega) (by omega)
end Go.Proofs.Zt
end
section
namespace Go.Proofs.Zt
abbrev Dp:=(Str×Str)×Nat
def lsD (x y:Dp):Bool:=decide (cmpS x.1.1 y.1.1<0) || (decide (x.1.1=y.1.1) && decide (x.2<y.2))
theorem cmpS_total {a b:Str} (h:¬ cmpS a b<0) (h2:a≠b):cmpS b a<0:=by
 have h3:=cmpS_anti a b
 have h4:cmpS a b≠0:=fun e=>h2 (cmpS_eq e)
 omega
theorem lsD_iff {x y:Dp}:lsD x y=true↔cmpS x.1.1 y.1.1<0∨(x.1.1=y.1.1∧x.2<y.2):=by simp [lsD]
theorem lsD_trans {x y z:Dp} (h1:lsD x y=true) (h2:lsD y z=true):lsD x z=true:=by
 rw [lsD_iff] at *
 rcases h1 with h1|⟨h1,g1⟩
 ·rcases h2 with h2|⟨h2,g2⟩
  ·exact .inl (cmpS_trans h1 h2)
  ·rw [← h2];exact .inl h1
 ·rcases h2 with h2|⟨h2,g2⟩
  ·rw [h1];exact .inl h2
  ·exact .inr ⟨h1.trans h2,by omega⟩
theorem lsD_irrefl (x:Dp):lsD x x=false:=by
 cases h:lsD x x with
 | false=>rfl
 | true =>
  rw [lsD_iff] at h
  rcases h with h|⟨_,h⟩
  ·rw [cmpS_refl] at h;omega
  ·omega
theorem lsD_tri (x y:Dp):lsD x y=true∨lsD y x=true∨(x.1.1=y.1.1∧x.2=y.2):=by
 rw [lsD_iff,lsD_iff]
 by_cases h:cmpS x.1.1 y.1.1<0
 ·exact .inl (.inl h)
 ·by_cases e:x.1.1=y.1.1
  ·rcases Nat.lt_trichotomy x.2 y.2 with g|g|g
   ·exact .inl (.inr ⟨e,g⟩)
   ·exact .inr (.inr ⟨e,g⟩)
   ·exact .inr (.inl (.inr ⟨e.symm,g⟩))
  ·exact .inr (.inl (.inl (cmpS_total h e)))
theorem lsD_alike {x y z:Dp} (h:x.1.1=y.1.1∧x.2=y.2):lsD x z=lsD y z∧lsD z x=lsD z y:=by unfold lsD;rw [h.1,h.2];exact ⟨rfl,rfl⟩
theorem lsD_weak:Weak lsD:=by
 refine ⟨fun a b c h1 h2=>?_,fun a b h=>?_⟩
 ·cases h:lsD c a with
  | false=>rfl
  | true =>
   rcases lsD_tri b a with q|q|q
   ·rw [q] at h1;cases h1
   ·rw [lsD_trans h q] at h2;cases h2
   ·rw [(lsD_alike q).2,h] at h2;cases h2
 ·cases h':lsD b a with
  | false=>rfl
  | true =>
   have:=lsD_trans h h'
   rw [lsD_irrefl] at this;cases this
theorem lsD_later {x y:Dp} (h:x.2<y.2):lsD y x=decide (cmpS y.1.1 x.1.1<0):=by
 unfold lsD
 have:decide (y.2<x.2)=false:=decide_eq_false (by omega)
 rw [this,Bool.and_false,Bool.or_false]
section
variable {α:Type}
def swp (f:Nat→α) (i j k:Nat):α:=if k=i then f j else if k=j then f i else f k
structure Mixed (f g:Nat→α) (a b:Nat):Prop where
 out:∀ i,i<a∨b≤i→g i=f i
 perm:((List.range' a (b - a)).map g).Perm ((List.range' a (b - a)).map f)
theorem Mixed.refl (f:Nat→α) (a b:Nat):Mixed f f a b:=⟨fun _ _=>rfl,List.Perm.refl _⟩
theorem Mixed.trans {f g h:Nat→α} {a b:Nat} (h1:Mixed f g a b) (h2:Mixed g h a b):Mixed f h a b:=⟨fun i hi=>(h2.out i hi).trans (h1.out i hi),h2.perm.trans h1.perm⟩
theorem Mixed.mem {f g:Nat→α} {a b:Nat} (h:Mixed f g a b) {i:Nat} (h1:a≤i) (h2:i<b):∃ j,a≤j∧j<b∧g i=f j:=by
 have:g i ∈ (List.range' a (b - a)).map f:=h.perm.mem_iff.1 (List.mem_map.2 ⟨i,by rw [List.mem_range'_1];omega,rfl⟩)
 obtain ⟨j,hj,e⟩:=List.mem_map.1 this
 rw [List.mem_range'_1] at hj
 exact ⟨j,by omega,by omega,e.symm⟩
theorem Mixed.wider {f g:Nat→α} {a b c d:Nat} (h:Mixed f g a b) (h1:c≤a) (h2:b≤d) (h3:a≤b):Mixed f g c d:=by
 refine ⟨fun i hi=>h.out i (by omega),?_⟩
 have e:List.range' c (d - c)=List.range' c (a - c) ++ (List.range' a (b - a) ++ List.range' b (d - b)):=by
  rw [show d - c=(a - c) + ((b - a) + (d - b)) from by omega,← List.range'_append_1,show c + (a - c)=a from by omega,← List.range'_append_1,show a + (b - a)=b from by omega]
 rw [e]
 simp only [List.map_append]
 have e1:(List.range' c (a - c)).map g=(List.range' c (a - c)).map f:=List.map_congr_left fun i hi=>h.out i (by rw [List.mem_range'_1] at hi;omega)
 have e2:(List.range' b (d - b)).map g=(List.range' b (d - b)).map f:=List.map_congr_left fun i hi=>h.out i (by rw [List.mem_range'_1] at hi;omega)
 rw [e1,e2]
 exact List.Perm.append_left _ (List.Perm.append_right _ h.perm)
theorem split_at {a b i:Nat} (h1:a≤i) (h2:i<b):List.range' a (b - a)=List.range' a (i - a) ++ i :: List.range' (i + 1) (b - (i + 1)):=by
 rw [show b - a=(i - a) + ((b - (i + 1)) + 1) from by omega,← List.range'_append_1,show a + (i - a)=i from by omega,List.range'_succ]
theorem swp_mixed (f:Nat→α) {a b i j:Nat} (h1:a≤i) (h2:i<b) (h3:a≤j) (h4:j<b):Mixed f (swp f i j) a b:=by
 refine ⟨fun k hk=>by unfold swp;rw [if_neg (by omega),if_neg (by omega)],?_⟩
 have key:∀ i j,a≤i→i<j→j<b→((List.range' a (b - a)).map (swp f i j)).Perm ((List.range' a (b - a)).map f):=by
  intro i j h1 h2 h4
  rw [split_at h1 (show i<b by omega),split_at (show i + 1≤j by omega) h4]
  simp only [List.map_append,List.map_cons]
  have e1:(List.range' a (i - a)).map (swp f i j)=(List.range' a (i - a)).map f:=List.map_congr_left fun k hk=>by rw [List.mem_range'_1] at hk;unfold swp;rw [if_neg (by omega),if_neg (by omega)]
  have e2:(List.range' (i + 1) (j - (i + 1))).map (swp f i j)=(List.range' (i + 1) (j - (i + 1))).map f:=List.map_congr_left fun k hk=>by rw [List.mem_range'_1] at hk;unfold swp;rw [if_neg (by omega),if_neg (by omega)]
  have e3:(List.range' (j + 1) (b - (j + 1))).map (swp f i j)=(List.range' (j + 1) (b - (j + 1))).map f:=List.map_congr_left fun k hk=>by rw [List.mem_range'_1] at hk;unfold swp;rw [if_neg (by omega),if_neg (by omega)]
  have e4:swp f i j i=f j:=by unfold swp;rw [if_pos rfl]
  have e5:swp f i j j=f i:=by unfold swp;rw [if_neg (by omega),if_pos rfl]
  rw [e1,e2,e3,e4,e5]
  refine List.Perm.append_left _ ?_
  refine (List.Perm.cons _ List.perm_middle).trans ?_
  refine (List.Perm.swap _ _ _).trans ?_
  exact List.Perm.cons _ List.perm_middle.symm
 rcases Nat.lt_trichotomy i j with h|h|h
 ·exact key i j h1 h h4
 ·subst h
  have:swp f i i=f:=by funext k;unfold swp;split <;> simp_all
  rw [this]
 ·have:swp f i j=swp f j i:=by
   funext k;unfold swp
   repeat' split
   all_goals first|rfl|(exfalso;omega)
  rw [this]
  exact key j i h3 h h2
def swR (f:Nat→α) (a b n k:Nat):α:=if a≤k∧k<a + n then f (b + (k - a)) else if b≤k∧k<b + n then f (a + (k - b)) else f k
theorem swR_zero (f:Nat→α) (a b:Nat):swR f a b 0=f:=by funext k;unfold swR;rw [if_neg (by omega),if_neg (by omega)]
theorem swR_step (f:Nat→α) {a b i:Nat} (h:a + (i + 1)≤b):swp (swR f a b i) (a + i) (b + i)=swR f a b (i + 1):=by
 funext k
 unfold swp swR
 repeat' split
 all_goals first|rfl|(exfalso;omega)|(congr 1;omega)
theorem rot_more (f:Nat→α) {m i j:Nat} (hi:i≤m) (h:j<i):rot (swR f (m - i) m j) (m - (i - j)) m (m + j)=rot f (m - i) m (m + j):=by
 funext k
 unfold rot swR
 by_cases h1:m - i≤k∧k<m + j
 ·rw [if_pos h1]
  by_cases h2:k<m - i + (m + j - m)
  ·rw [if_pos h2,if_neg (by omega),if_pos (by omega)]
  ·rw [if_neg h2,if_pos (by omega)]
   by_cases h3:k<m - (i - j) + (m + j - m)
   ·rw [if_pos h3,if_neg (by omega),if_pos (by omega)]
    congr 1;omega
   ·rw [if_neg h3,if_neg (by omega),if_neg (by omega)]
 ·rw [if_neg h1,if_neg (by omega),if_neg (by omega),if_neg (by omega)]
theorem rot_less (f:Nat→α) {m i j:Nat} (hi:i≤m) (h:i<j):rot (swR f (m - i) (m + j - i) i) (m - i) m (m + (j - i))=rot f (m - i) m (m + j):=by
 funext k
 unfold rot swR
 by_cases h1:m - i≤k∧k<m + j
 ·rw [if_pos h1]
  by_cases h2:k<m - i + (m + j - m)
  ·rw [if_pos h2]
   by_cases h3:k<m + (j - i)
   ·rw [if_pos (by omega)]
    by_cases h4:k<m - i + (m + (j - i) - m)
    ·rw [if_pos h4,if_neg (by omega),if_neg (by omega)]
    ·rw [if_neg h4,if_pos (by omega)]
     congr 1;omega
   ·exfalso;omega
  ·rw [if_neg h2,if_neg (by omega),if_neg (by omega),if_pos (by omega)]
   congr 1;omega
 ·rw [if_neg h1,if_neg (by omega),if_neg (by omega),if_neg (by omega)]
theorem rot_even (f:Nat→α) {m i:Nat} (hi:i≤m):swR f (m - i) m i=rot f (m - i) m (m + i):=by
 funext k
 unfold rot swR
 by_cases h1:m - i≤k∧k<m + i
 ·rw [if_pos h1]
  by_cases h2:k<m - i + (m + i - m)
  ·rw [if_pos h2,if_pos (by omega)]
  ·rw [if_neg h2,if_neg (by omega),if_pos (by omega)]
   congr 1;omega
 ·rw [if_neg h1,if_neg (by omega),if_neg (by omega)]
def mvd (f:Nat→α) (m i k:Nat):α:=if k<i∨m<k then f k else if k=i then f m else f (k - 1)
theorem mvd_same (f : Nat → α) (m : Nat) : mvd f m m = f := by funext k;unfold mvd;split;· rfl
                                                               · rename_i h;have:k=m:=by omega
                                                                 subst this;rw [if_pos rfl]
theorem mvd_step (f:Nat→α) {m i:Nat} (h1:0<i) (h2:i≤m):swp (mvd f m i) i (i - 1)=mvd f m (i - 1):=by
 funext k
 unfold swp mvd
 by_cases e1:k=i
 ·subst e1
  rw [if_pos rfl,if_pos (by omega),if_neg (by omega),if_neg (by omega)]
 ·rw [if_neg e1]
  by_cases e2:k=i - 1
  ·subst e2
   rw [if_pos rfl,if_neg (by omega),if_pos rfl,if_neg (by omega),if_pos rfl]
  ·rw [if_neg e2]
   by_cases e3:k<i∨m<k
   ·rw [if_pos e3,if_pos (by omega)]
   ·rw [if_neg e3,if_neg e1,if_neg (by omega),if_neg e2]
def mvu (f:Nat→α) (a i k:Nat):α:=if k<a∨i<k then f k else if k=i then f a else f (k + 1)
theorem mvu_same (f : Nat → α) (a : Nat) : mvu f a a = f := by funext k;unfold mvu;split;· rfl
                                                               · rename_i h;have:k=a:=by omega
                                                                 subst this;rw [if_pos rfl]
theorem mvu_step (f:Nat→α) {a i:Nat} (h:a≤i):swp (mvu f a i) i (i + 1)=mvu f a (i + 1):=by
 funext k
 unfold swp mvu
 by_cases e1:k=i
 ·subst e1
  rw [if_pos rfl,if_pos (by omega),if_neg (by omega),if_neg (by omega)]
 ·rw [if_neg e1]
  by_cases e2:k=i + 1
  ·subst e2
   rw [if_pos rfl,if_neg (by omega),if_pos rfl,if_neg (by omega),if_pos rfl]
  ·rw [if_neg e2]
   by_cases e3:k<a∨i<k
   ·rw [if_pos e3,if_pos (by omega)]
   ·rw [if_neg e3,if_neg e1,if_neg (by omega),if_neg e2]
end
structure Parts (f:Nat→Dp) (a m b:Nat):Prop where
 one:InOrd lsD f a m
 two:InOrd lsD f m b
 apart:∀ i j,a≤i→i<m→m≤j→j<b→(f i).2<(f j).2
structure Merged (f g:Nat→Dp) (a b:Nat):Prop where
 mixed:Mixed f g a b
 ord:InOrd lsD g a b
theorem Parts.congr {f g:Nat→Dp} {a m b:Nat} (h:Parts f a m b) (e:∀ i,a≤i→i<b→g i=f i) (h1:a≤m) (h2:m≤b):Parts g a m b :=
 ⟨h.one.congr fun i hi hm=>e i hi (by omega),h.two.congr fun i hi hm=>e i (by omega) hm,fun i j hi hm hj hb=>by rw [e i hi (by omega),e j (by omega) hb];exact h.apart i j hi hm hj hb⟩
theorem merge_join {f r g1 g2:Nat→Dp} {a m b mid n s r0 s0:Nat} (hp:Parts f a m b) (ham:a<m) (hmb:m<b) (hmid:mid=(a + b) / 2) (hn:n=mid + m)
  (hs0:s0=if mid<m then n - b else a) (hr0:r0=if mid<m then mid else m) (hs:s0≤s) (hsr:s≤r0)
  (hlo:s0<s→lsD (f (n - 1 - (s - 1))) (f (s - 1))=false) (hhi:s<r0→lsD (f (n - 1 - s)) (f s)=true)
  (hr:r=rot f s m (n - s)) (hrm:Mixed f r a b) :
  s≤m∧m≤n - s∧n - s≤b∧a≤s∧s≤mid∧mid≤n - s∧Parts r a s mid∧Parts r mid (n - s) b ∧
  ∀ g1 g2,Merged r g1 a mid→Merged g1 g2 mid b→Merged f g2 a b:=by
 subst hr
 obtain ⟨c1,c2,c3,c4,c5,c6,o1,o2,o3,o4,o5⟩:=sym_mid lsD_weak ham hmb hmid hn hs0 hr0 hp.one hp.two hs hsr hlo hhi
 have e1:∀ i,i<s→rot f s m (n - s) i=f i:=fun i hi=>by unfold rot;rw [if_neg (by omega)]
 have e2:∀ i,s≤i→i<mid→rot f s m (n - s) i=f (m + (i - s)):=fun i h1 h2=>by unfold rot;rw [if_pos (by omega),if_pos (by omega)]
 have e3:∀ i,mid≤i→i<n - s→rot f s m (n - s) i=f (i - (n - s - m)):=fun i h1 h2=>by unfold rot;rw [if_pos (by omega),if_neg (by omega)]
 have e4:∀ i,n - s≤i→rot f s m (n - s) i=f i:=fun i hi=>by unfold rot;rw [if_neg (by omega)]
 refine ⟨c1,c2,c3,c4,c5,c6,⟨o1,o2,?_⟩,⟨o3,o4,?_⟩,?_⟩
 ·intro i j hi hm hj hb
  rw [e1 i hm,e2 j hj hb]
  exact hp.apart _ _ hi (by omega) (by omega) (by omega)
 ·intro i j hi hm hj hb
  rw [e3 i hi hm,e4 j hj]
  exact hp.apart _ _ (by omega) (by omega) (by omega) hb
 ·intro g1 g2 m1 m2
  refine ⟨hrm.trans ((m1.mixed.wider (Nat.le_refl _) (by omega) (by omega)).trans (m2.mixed.wider (by omega) (Nat.le_refl _) (by omega))),?_⟩
  have q1:∀ i,i<mid→g2 i=g1 i:=fun i hi=>m2.mixed.out i (.inl hi)
  refine (m1.ord.congr fun i _ hi=>q1 i hi).join m2.ord fun i j hi hm hj hb=>?_
  rw [q1 i hm]
  obtain ⟨i',hi1,hi2,ei⟩:=m1.mixed.mem hi hm
  obtain ⟨j',hj1,hj2,ej⟩:=m2.mixed.mem hj hb
  rw [ei,ej,m1.mixed.out j' (.inr hj1)]
  exact o5 i' j' hi1 hi2 hj1 hj2
theorem merged_left {f:Nat→Dp} {a s b:Nat} (hp:Parts f a s b) (h:s=a∨s=b):Merged f f a b:=by
 refine ⟨Mixed.refl _ _ _,?_⟩
 rcases h with h|h
 ·subst h;exact hp.two
 ·subst h;exact hp.one
theorem merge_first {f:Nat→Dp} {a b i:Nat} (hp:Parts f a (a + 1) b) (hi:a + 1≤i) (hib:i≤b) (hlo:a + 1<i→lsD (f (i - 1)) (f a)=true) (hhi:i<b→lsD (f i) (f a)=false) (hm:Mixed f (mvu f a (i - 1)) a b):Merged f (mvu f a (i - 1)) a b:=by
 refine ⟨hm,sym_first lsD_weak hp.two hi hib hlo hhi (fun k h1 h2=>?_) ?_ (fun k h1 h2=>?_)⟩
 ·unfold mvu;rw [if_neg (by omega),if_neg (by omega)]
 ·unfold mvu;rw [if_neg (by omega),if_pos rfl]
 ·unfold mvu;rw [if_pos (by omega)]
theorem merge_last {f:Nat→Dp} {a m i:Nat} (h1:InOrd lsD f a m) (hi:a≤i) (him:i≤m) (hlo:a<i→lsD (f m) (f (i - 1))=false) (hhi:i<m→lsD (f m) (f i)=true):InOrd lsD (mvd f m i) a (m + 1):=by
 refine sym_last lsD_weak h1 hi him hlo hhi (fun k h1 h2=>?_) ?_ (fun k h1 h2=>?_)
 ·unfold mvd;rw [if_pos (by omega)]
 ·unfold mvd;rw [if_neg (by omega),if_pos rfl]
 ·unfold mvd;rw [if_neg (by omega),if_neg (by omega)]
def Fresh (f:Nat→Dp) (a b:Nat):Prop:=∀ i j,a≤i→i<j→j<b→(f i).2<(f j).2
def BlkOrd (f:Nat→Dp) (s lo hi:Nat):Prop:=∀ i j,lo≤i→i<j→j<hi→i / s=j / s→lsD (f j) (f i)=false
def BlkApart (f:Nat→Dp) (s lo n:Nat):Prop:=∀ i j,lo≤i→j<n→i / s<j / s→(f i).2<(f j).2
end Go.Proofs.Zt
end
section
namespace Go.Proofs.Zt
theorem div_at {s t i:Nat} (h1:s * t≤i) (h2:i<s * t + s):i / s=t:=by
 refine Nat.div_eq_of_lt_le ?_ ?_
 ·rw [Nat.mul_comm];exact h1
 ·rw [Nat.succ_mul,Nat.mul_comm];exact h2
theorem div_below {s t i:Nat} (hs:0<s) (h:i<s * t):i / s<t:=by rw [Nat.div_lt_iff_lt_mul hs,Nat.mul_comm];exact h
theorem div_above {s t i:Nat} (hs:0<s) (h:s * t≤i):t≤i / s:=by rw [Nat.le_div_iff_mul_le hs,Nat.mul_comm];exact h
structure StA (f g:Nat→Dp) (s a n:Nat):Prop where
 mixed:Mixed f g 0 n
 ord:BlkOrd g s 0 a
 apart:BlkApart g s 0 n
 rest:∀ i,a≤i→g i=f i
theorem StA.start {f:Nat→Dp} {s n:Nat} (h:Fresh f 0 n):StA f f s 0 n :=
 ⟨Mixed.refl _ _ _,fun i j _ _ hj _=>by omega,fun i j _ hj hd=>h i j (Nat.zero_le _) (by
  rcases Nat.lt_or_ge i j with q|q
  ·exact q
  ·have:=Nat.div_le_div_right (c:=s) q;omega) hj,fun _ _=>rfl⟩
theorem StA.fresh {f g:Nat→Dp} {s a n b:Nat} (h:StA f g s a n) (hf:Fresh f 0 n) (hb:b≤n):Fresh g a b:=fun i j hi hij hj=>by
 rw [h.rest i hi,h.rest j (by omega)];exact hf i j (Nat.zero_le _) hij (by omega)
theorem StA.step {f g g':Nat→Dp} {s t n b:Nat} (hs:0<s) (h:StA f g s (s * t) n) (hb:b≤s * t + s) (hab:s * t≤b) (hbn:b≤n) (hm:Merged g g' (s * t) b):StA f g' s b n:=by
 refine ⟨h.mixed.trans (hm.mixed.wider (Nat.zero_le _) hbn hab),fun i j hi hij hj hd=>?_,fun i j hi hj hd=>?_,fun i hi=>(hm.mixed.out i (.inr hi)).trans (h.rest i (by omega))⟩
 ·by_cases h1:j<s * t
  ·rw [hm.mixed.out i (.inl (by omega)),hm.mixed.out j (.inl h1)]
   exact h.ord i j hi hij h1 hd
  ·have h2:s * t≤i:=by
    rcases Nat.lt_or_ge i (s * t) with q|q
    ·have:=div_below hs q
     have:=div_above hs (show s * t≤j by omega)
     omega
    ·exact q
   exact hm.ord i j h2 hij hj
 ·have key:∀ k,∃ k',g' k=g k'∧k' / s=k / s∧(k<n→k' < n):=by
   intro k
   by_cases q:s * t≤k∧k<b
   ·obtain ⟨k',q1,q2,q3⟩:=hm.mixed.mem q.1 q.2
    exact ⟨k',q3,by rw [div_at q1 (by omega),div_at q.1 (by omega)],fun _=>by omega⟩
   ·exact ⟨k,hm.mixed.out k (by omega),rfl,id⟩
  obtain ⟨i',a1,a2,_⟩:=key i
  obtain ⟨j',b1,b2,b3⟩:=key j
  rw [a1,b1]
  exact h.apart i' j' (Nat.zero_le _) (b3 hj) (by omega)
structure StB (f g:Nat→Dp) (s a n:Nat):Prop where
 mixed:Mixed f g 0 n
 done:BlkOrd g (2 * s) 0 a
 ord:BlkOrd g s a n
 apart2:BlkApart g (2 * s) 0 n
 apart:BlkApart g s a n
theorem half_div {s i j:Nat} (hs:0<s) (h:i / (2 * s)<j / (2 * s)):i / s<j / s:=by
 rw [Nat.mul_comm,← Nat.div_div_eq_div_mul,← Nat.div_div_eq_div_mul] at h
 rcases Nat.lt_or_ge (i / s) (j / s) with q|q
 ·exact q
 ·have:=Nat.div_le_div_right (c:=2) q;omega
theorem StB.start {f g:Nat→Dp} {s n:Nat} (hs:0<s) (h1:Mixed f g 0 n) (h2:BlkOrd g s 0 n) (h3:BlkApart g s 0 n):StB f g s 0 n :=
 ⟨h1,fun i j _ _ hj _=>by omega,h2,fun i j hi hj hd=>h3 i j hi hj (half_div hs hd),h3⟩
theorem StB.parts {f g:Nat→Dp} {s t n b:Nat} (hs:0<s) (h:StB f g s (2 * s * t) n) (hb:b≤2 * s * t + 2 * s) (hab:2 * s * t + s<b) (hbn:b≤n):Parts g (2 * s * t) (2 * s * t + s) b:=by
 have e1:2 * s * t=s * (2 * t):=by rw [Nat.mul_comm 2 s,Nat.mul_assoc]
 have e2:s * (2 * t) + s=s * (2 * t + 1):=by rw [Nat.mul_succ]
 refine ⟨fun i j hi hij hj=>h.ord i j hi hij (by omega) ?_,fun i j hi hij hj=>h.ord i j (by omega) hij (by omega) ?_,fun i j hi hm hj hb'=>h.apart i j hi (by omega) ?_⟩
 ·rw [e1] at hi hj;rw [div_at hi (by omega),div_at (t:=2 * t) (by omega) hj]
 ·rw [e1,e2] at hi;rw [div_at hi (by rw [← e2];omega),div_at (t:=2 * t + 1) (by omega) (by rw [← e2];omega)]
 ·rw [e1] at hi hm;rw [e1,e2] at hj
  rw [div_at hi (by omega),div_at hj (by rw [← e2];omega)];omega
theorem StB.step {f g g':Nat→Dp} {s t n b:Nat} (hs:0<s) (h:StB f g s (2 * s * t) n) (hb:b≤2 * s * t + 2 * s) (hab:2 * s * t≤b) (hbn:b≤n) (hm:Merged g g' (2 * s * t) b):StB f g' s b n:=by
 have hs2:0<2 * s:=by omega
 refine ⟨h.mixed.trans (hm.mixed.wider (Nat.zero_le _) hbn hab),fun i j hi hij hj hd=>?_,fun i j hi hij hj hd=>?_,fun i j hi hj hd=>?_,fun i j hi hj hd=>?_⟩
 ·by_cases h1:j<2 * s * t
  ·rw [hm.mixed.out i (.inl (by omega)),hm.mixed.out j (.inl h1)]
   exact h.done i j hi hij h1 hd
  ·have h2:2 * s * t≤i:=by
    rcases Nat.lt_or_ge i (2 * s * t) with q|q
    ·have:=div_below hs2 q
     have:=div_above hs2 (show 2 * s * t≤j by omega)
     omega
    ·exact q
   exact hm.ord i j h2 hij hj
 ·rw [hm.mixed.out i (.inr hi),hm.mixed.out j (.inr (by omega))]
  exact h.ord i j (by omega) hij hj hd
 ·have key:∀ k,∃ k',g' k=g k'∧k' / (2 * s)=k / (2 * s)∧(k<n→k' < n):=by
   intro k
   by_cases q:2 * s * t≤k∧k<b
   ·obtain ⟨k',q1,q2,q3⟩:=hm.mixed.mem q.1 q.2
    exact ⟨k',q3,by rw [div_at q1 (by omega),div_at q.1 (by omega)],fun _=>by omega⟩
   ·exact ⟨k,hm.mixed.out k (by omega),rfl,id⟩
  obtain ⟨i',a1,a2,_⟩:=key i
  obtain ⟨j',b1,b2,b3⟩:=key j
  rw [a1,b1]
  exact h.apart2 i' j' (Nat.zero_le _) (b3 hj) (by omega)
 ·have hij:i<j:=by
   rcases Nat.lt_or_ge i j with q|q
   ·exact q
   ·have:=Nat.div_le_div_right (c:=s) q;omega
  rw [hm.mixed.out i (.inr hi),hm.mixed.out j (.inr (by omega))]
  exact h.apart i j (by omega) hj hd
theorem StB.last {f g:Nat→Dp} {s t n:Nat} (hs:0<s) (h:StB f g s (2 * s * t) n) (hn:n≤2 * s * t + s):BlkOrd g (2 * s) 0 n:=by
 have e1:2 * s * t=s * (2 * t):=by rw [Nat.mul_comm 2 s,Nat.mul_assoc]
 intro i j hi hij hj hd
 by_cases h1:j<2 * s * t
 ·exact h.done i j hi hij h1 hd
 ·have h2:2 * s * t≤i:=by
   rcases Nat.lt_or_ge i (2 * s * t) with q|q
   ·have:=div_below (show 0<2 * s by omega) q
    have:=div_above (show 0<2 * s by omega) (show 2 * s * t≤j by omega)
    omega
   ·exact q
  refine h.ord i j h2 hij hj ?_
  rw [e1] at h2 hn
  rw [div_at h2 (by omega),div_at (t:=2 * t) (by omega) (by omega)]
theorem blk_whole {g:Nat→Dp} {s n:Nat} (h:BlkOrd g s 0 n) (hn:n≤s):InOrd lsD g 0 n:=fun i j hi hij hj=>h i j hi hij hj (by rw [Nat.div_eq_of_lt (by omega),Nat.div_eq_of_lt (by omega)])
def insP (p:Str×Str):List (Str×Str)→List (Str×Str)
 | []=>[p]
 | x :: r=>if cmpS p.1 x.1<0 then p :: x :: r else x :: insP p r
def sortP (l:List (Str×Str)):List (Str×Str):=l.foldl (fun o p=>insP p o) []
def insD (p:Dp):List Dp→List Dp
 | []=>[p]
 | x :: r=>if lsD p x=true then p :: x :: r else x :: insD p r
theorem insD_perm (p:Dp):∀ l,(insD p l).Perm (p :: l)
 | []=>List.Perm.refl _
 | x :: r=>by
  unfold insD
  split
  ·exact List.Perm.refl _
  ·exact (List.Perm.cons _ (insD_perm p r)).trans (List.Perm.swap _ _ _)
theorem insD_sorted (p:Dp):∀ l,l.Pairwise (fun a b=>lsD b a=false)→(insD p l).Pairwise (fun a b=>lsD b a=false)
 | [],_=>by simp [insD]
 | x :: r,h=>by
  unfold insD
  rw [List.pairwise_cons] at h
  split
  ·rename_i hp
   refine List.pairwise_cons.2 ⟨fun y hy=>?_,List.pairwise_cons.2 h⟩
   rcases List.mem_cons.1 hy with e|e
   ·rw [e];exact lsD_weak.asymm _ _ hp
   ·exact lsD_weak.trans _ _ _ (lsD_weak.asymm _ _ hp) (h.1 y e)
  ·rename_i hp
   refine List.pairwise_cons.2 ⟨fun y hy=>?_,insD_sorted p r h.2⟩
   rcases List.mem_cons.1 ((insD_perm p r).mem_iff.1 hy) with e|e
   ·rw [e];simpa using hp
   ·exact h.1 y e
theorem insD_fst (p:Dp):∀ l,(∀ x ∈ l,x.2<p.2)→(insD p l).map (·.1)=insP p.1 (l.map (·.1))
 | [],_=>rfl
 | x :: r,h=>by
  unfold insD
  simp only [List.map_cons,insP]
  have e:=lsD_later (h x List.mem_cons_self)
  by_cases c:cmpS p.1.1 x.1.1<0
  ·rw [if_pos c,if_pos (by rw [e];exact decide_eq_true c)];rfl
  ·rw [if_neg c,if_neg (by rw [e,decide_eq_false c];decide)]
   rw [List.map_cons,insD_fst p r fun y hy=>h y (List.mem_cons_of_mem _ hy)]
theorem sortP_snoc (l:List (Str×Str)) (p:Str×Str):sortP (l ++ [p])=insP p (sortP l):=by simp [sortP]
theorem sorted_is {l:List (Str×Str)}:∀ (d:List Dp),d.Perm l.zipIdx→d.Pairwise (fun a b=>lsD b a=false)→d.map (·.1)=sortP l:=by
 suffices h:∃ d:List Dp,d.Perm l.zipIdx∧d.Pairwise (fun a b=>lsD b a=false)∧d.map (·.1)=sortP l by
  obtain ⟨d0,h1,h2,h3⟩:=h
  intro d hd hs
  have hp:d.Perm d0:=hd.trans h1.symm
  have:d=d0:=by
   refine List.Perm.eq_of_pairwise (le:=fun a b=>lsD b a=false) (fun a b ha hb h1' h2'=>?_) hs h2 hp
   rcases lsD_tri a b with q|q|q
   ·rw [q] at h2';cases h2'
   ·rw [q] at h1';cases h1'
   ·obtain ⟨x,i⟩:=a
    obtain ⟨y,j⟩:=b
    have m1:=hd.mem_iff.1 ha
    have m2:=h1.mem_iff.1 hb
    rw [List.mem_zipIdx_iff_getElem?] at m1 m2
    have:i=j:=q.2
    subst this
    rw [m1] at m2
    cases m2;rfl
  rw [this];exact h3
 generalize hn:l.length=n
 induction n generalizing l with
 | zero=>rw [List.eq_nil_of_length_eq_zero hn];exact ⟨[],List.Perm.refl _,List.Pairwise.nil,rfl⟩
 | succ n ih =>
  obtain ⟨l',p,rfl⟩:∃ l' p,l=l' ++ [p]:=⟨l.dropLast,l.getLast (by intro h;rw [h] at hn;simp at hn),by rw [List.dropLast_concat_getLast]⟩
  obtain ⟨d,h1,h2,h3⟩:=ih (l:=l') (by simpa using hn)
  refine ⟨insD (p,l'.length) d,(insD_perm _ _).trans ?_,insD_sorted _ _ h2,?_⟩
  ·rw [List.zipIdx_append]
   refine (List.Perm.cons _ h1).trans ?_
   simp only [List.zipIdx_cons,List.zipIdx_nil,Nat.zero_add]
   exact (List.perm_append_comm (l₁:=[(p,l'.length)]) (l₂:=l'.zipIdx))
  ·rw [insD_fst,h3,sortP_snoc]
   intro x hx
   have:=h1.mem_iff.1 hx
   obtain ⟨y,i⟩:=x
   rw [List.mem_zipIdx_iff_getElem?] at this
   exact (List.getElem?_eq_some_iff.1 this).1
def zipF (l:List (Str×Str)) (i:Nat):Dp:=(l.getD i ([],[]),i)
theorem zipF_list (l:List (Str×Str)):(List.range' 0 (l.length - 0)).map (zipF l)=l.zipIdx:=by
 rw [List.zipIdx_eq_zip_range',Nat.sub_zero]
 apply List.ext_getElem
 ·simp
 ·intro i h1 h2
  have h3:i<l.length:=by simpa using h1
  simp [zipF,List.getD_eq_getElem?_getD,h3]
theorem zipF_fresh (l:List (Str×Str)) (a b:Nat):Fresh (zipF l) a b:=fun _ _ _ h _=>h
theorem sort_end {l:List (Str×Str)} {g:Nat→Dp} (hm:Mixed (zipF l) g 0 l.length) (ho:InOrd lsD g 0 l.length):(List.range l.length).map (fun i=>(g i).1)=sortP l:=by
 have hp:=hm.perm
 rw [zipF_list] at hp
 have hs:((List.range' 0 (l.length - 0)).map g).Pairwise fun a b=>lsD b a=false:=by
  rw [List.pairwise_map,Nat.sub_zero]
  refine List.pairwise_iff_getElem.2 fun i j h1 h2 hij=>?_
  simp only [List.getElem_range',Nat.zero_add,Nat.one_mul]
  exact ho i j (Nat.zero_le _) hij (by simpa using h2)
 rw [← sorted_is _ hp hs,List.map_map,Nat.sub_zero,← List.range_eq_range']
 rfl
end Go.Proofs.Zt
end
section
namespace Go.Proofs.Zq
open Go.RowKit Go.Proofs.YtjghikkboekonaaGreatDoor Go.Proofs.Zw.PrintWords Go.Proofs.Zw.PrintLast
open Go.Proofs.Zt (sortP)
def isAttr (p:Str×Str):Bool:=([83,67,72,73,76,89,46,120,97,116,116,114,46]:Str).isPrefixOf p.1
def attrsM (l:List (Str×Str)):Str:=if printOk (sortP (l.filter isAttr))=true then printM (sortP (l.filter isAttr)) else []
end Go.Proofs.Zq
end
section
namespace Go.Proofs.Zq
open Go.RowKit Go.Proofs.Zw.PrintWords Go.Proofs.Zw.PrintLast Go.Proofs.Zw.PrintMore
open Go.Proofs.YtjghikkboekonaaGreatDoor (GL)
attribute [local go_sem] max2_int min2_int max_two min_two pz35 pz36 max_four min_four
def pq11.f (a0_0:ByteArray) (a0_1:ByteArray):Option (Bool):=(pq10.f a0_0 (⟨#[83,67,72,73,76,89,46,120,97,116,116,114,46]⟩:ByteArray)).bind fun t194=>(some (!t194))
set_option maxHeartbeats 8000000 in
set_option maxRecDepth 100000 in
theorem pq11.calls (a0_0:ByteArray) (a0_1:ByteArray) (r:Bool) (w:World) (h:pq11.f a0_0 a0_1=some r) :
  Calls Tryz.prog 173 #[.agg #[.string a0_0,.string a0_1]] w fun e w'=>e=.returned (.bool r)∧Below w.heap.size w w':=by
 have hu169:=Tryz.underlying169
 have HB:=pz4.mk (Below.refl w.heap.size w)
 have H:((pq10.f a0_0 (⟨#[83,67,72,73,76,89,46,120,97,116,116,114,46]⟩:ByteArray)).bind fun t194=>(some (!t194)))=some r:=h
 clear h
 replace H:=Option.bind_eq_some_iff.mp H
 obtain ⟨t194,A20,H⟩:=H
 replace H:(some (!t194))=some r:=H
 have A2:=pz4.mk A20
 clear A20
 obtain rfl:=Option.some.inj H
 go_enter Tryz.func173,Tryz.ntmps173
 go_wp2_with (first|((with_reducible refine pz10 (N:=1) rfl ?_);refine pz24 ?hg (N:=1) ?hd (cs:=#[.string a0_0,.string a0_1]) (t:=169) ?hr ?_;(case hd=>rfl);(case hg=>rfl);(case hr=>first|(go_simp;done)|(go_simp;rfl));intro gb193 hg w3 hbox hb;have n0_:=pz4.mk (pz9 (by repeat (first|(with_reducible first|exact HB.out|apply pz3|apply pz1|apply pz2)|exact HB.out)) hb);have n1_:=pz4.mk (hbox);have n2_:=pz4.mk ((by rw [hg];exact (pz20 (by repeat (first|(with_reducible first|exact HB.out|apply pz3|apply pz1|apply pz2)|exact HB.out))):w.heap.size≤gb193));have n3_:=pz4.mk ((by rw [hg];exact (pz20 (by repeat (first|(with_reducible first|exact HB.out|apply pz3|apply pz1|apply pz2)|exact HB.out))):w.heap.size≤gb193));clear HB;have HB:=n0_;have BK193:=n1_;have GW193:=n2_;have GE193:=n3_;clear n0_ n1_ n2_ n3_;clear hb hbox hg;have hcz4_0:w3.cell? ⟨gb193,0,none⟩=some (.string a0_0):=(blk_cell BK193.out 0).trans rfl;have hcz4_1:w3.cell? ⟨gb193,1,none⟩=some (.string a0_1):=(blk_cell BK193.out 1).trans rfl;have hfz4_0:=pz7 BK193.out 0;have hfz4_1:=pz7 BK193.out 1)|((with_reducible refine pz8 (f:=102) rfl ?_);refine pz21 (some 5) rfl rfl Tryz.func102 (by kernel_rfl) rfl #[.string a0_0,.string (⟨#[83,67,72,73,76,89,46,120,97,116,116,114,46]⟩:ByteArray)] rfl (by (try simp only [pM]);first|done|rfl|(simp only [pL];rfl)) ?_;(with_reducible refine (pq10.calls a0_0 (⟨#[83,67,72,73,76,89,46,120,97,116,116,114,46]⟩:ByteArray) t194 _ A2.out).mono ?_);rintro e w' ⟨rfl,⟨nd,rfl⟩⟩;refine ⟨_,rfl,?_⟩))
 go_ret
 exact ⟨by first|rfl|(simp [pz6,pz5] <;> rfl)|(simp [*,pz6,pz5] <;> rfl),by repeat (first|(with_reducible first|exact HB.out|apply pz3|apply pz1|apply pz2|refine pz14 ?_ GE193.out)|exact HB.out)⟩
def pq9.l0:Nat→List (S169)→Int→Int→Option (Int)
 | 0,_,_,_=>none
 | k + 1,x0,x7,x8=>if x8<x7 then (if 0≤x8 then (if x8<(x0.length:Int) then ((pq11.f ((rd_T169 x0 x8).f0) ((rd_T169 x0 x8).f1)).bind fun t196=>(if t196=true then (some x8) else (pq9.l0 k x0 x7 (wrap64 (x8 + 1))))) else (none)) else (none)) else (some (-1))
def pq9.f (k:Nat) (l0:List (S169)) (a1:Unit):Option (Int):=pq9.l0 k l0 (l0.length:Int) 0
set_option maxHeartbeats 8000000 in
set_option maxRecDepth 100000 in
theorem pq9.calls (k:Nat) (A0:Option Addr) (c0:Nat) (l0:List (S169)) (a1:Unit) (r:Int) (w:World) (hr0:Kd.C k169 w A0 l0.length l0) (hc0:l0.length≤c0) (h:pq9.f k l0 a1=some r) :
  Calls Tryz.prog 194 #[.slice A0 l0.length c0,.func (.func 173) #[] #[]] w fun e w'=>e=.returned (.int .i64 r)∧Below w.heap.size w w':=by
 have hu169:=Tryz.underlying169
 have HR0:=pz4.mk hr0
 have HC0:=pz4.mk hc0
 clear hr0 hc0
 have HB:=pz4.mk (Below.refl w.heap.size w)
 have H:(pq9.l0 k l0 (l0.length:Int) 0)=some r:=h
 clear h
 have H':=pz4.mk H
 clear H
 go_enter Tryz.func194,Tryz.ntmps194
 go_wp2
 go_loopg [8] k (fun kq v8 w'=>∃ (x8_1:Int),v8=.int .i64 x8_1∧pz4 (pq9.l0 kq l0 (l0.length:Int) x8_1=some r)∧pz4 (kq≤k)∧pz4 (Below w.heap.size w w'))
 case atStart=>exact ⟨(0),(by first|rfl|(simp;done)|(simp [*];done)),H',⟨Nat.le_refl _⟩,⟨by repeat (first|(with_reducible first|exact HB.out|apply pz3|apply pz1|apply pz2)|exact HB.out)⟩⟩
 case round =>
  clear H'
  obtain ⟨x8_1,rfl,HA,HK1,HB⟩:=hrel
  cases gk with
  | zero=>exact absurd HA.out (by simp [pq9.l0])
  | succ k1 =>
   have H:=HA.out
   clear HA
   simp only [pq9.l0] at H
   by_cases c3:x8_1<(l0.length:Int)
   ·rw [if_pos c3] at H
    have c3b0:decide (x8_1<(l0.length:Int))=true:=decide_eq_true c3
    clear c3
    by_cases c4:0≤x8_1
    ·rw [if_pos c4] at H
     have c4b0:decide (0≤x8_1)=true:=decide_eq_true c4
     clear c4
     by_cases c5:x8_1<(l0.length:Int)
     ·rw [if_pos c5] at H
      have c5b0:decide (x8_1<(l0.length:Int))=true:=decide_eq_true c5
      clear c5
      replace H:=Option.bind_eq_some_iff.mp H
      obtain ⟨t196,A60,H⟩:=H
      replace H:(if t196=true then (some x8_1) else (pq9.l0 k1 l0 (l0.length:Int) (wrap64 (x8_1 + 1))))=some r:=H
      have A6:=pz4.mk A60
      clear A60
      by_cases c7:t196=true
      ·subst c7
       have H1:(some x8_1)=some r:=by rw [if_pos rfl] at H;exact H
       clear H
       have H:=H1
       clear H1
       obtain rfl:=Option.some.inj H
       have p195:0≤(x8_1:Int):=of_decide_eq_true (by first|(with_reducible assumption)|assumption)
       have q195:x8_1<(l0.length:Int):=of_decide_eq_true (by first|(with_reducible assumption)|assumption)
       obtain ⟨ad195,e195,hx195_0,hx195_1⟩:=at_T169 HR0.out x8_1 p195 q195
       cases e195
       replace hx195_0:=(HB.out.cell (World.block_lt_of_cell? w _ hx195_0)).trans hx195_0
       replace hx195_1:=(HB.out.cell (World.block_lt_of_cell? w _ hx195_1)).trans hx195_1
       replace p195:=eq_true p195
       replace q195:=eq_true q195
       go_wp2_with (first|(go_at_call 173;(with_reducible refine (pq11.calls ((rd_T169 l0 x8_1).f0) ((rd_T169 l0 x8_1).f1) true _ A6.out).mono ?_);rintro e w8 ⟨rfl,hb⟩;have n0_:=pz4.mk (pz9 (by repeat (first|(with_reducible first|exact HB.out|apply pz3|apply pz1|apply pz2)|exact HB.out)) hb);clear HB;have HB:=n0_;clear n0_;(try clear hb);(try clear hb2);(try clear hk);(try clear hi)))
       go_ret
       exact ⟨by first|rfl|(simp [pz6,pz5] <;> rfl)|(simp [*,pz6,pz5] <;> rfl),by repeat (first|(with_reducible first|exact HB.out|apply pz3|apply pz1|apply pz2)|exact HB.out)⟩
      ·replace c7:=Bool.eq_false_iff.mpr c7
       subst c7
       have H1:(pq9.l0 k1 l0 (l0.length:Int) (wrap64 (x8_1 + 1)))=some r:=by rw [if_neg (show ¬ (false=true) by decide)] at H;exact H
       clear H
       have H:=H1
       clear H1
       have H':=pz4.mk H
       clear H
       have p195:0≤(x8_1:Int):=of_decide_eq_true (by first|(with_reducible assumption)|assumption)
       have q195:x8_1<(l0.length:Int):=of_decide_eq_true (by first|(with_reducible assumption)|assumption)
       obtain ⟨ad195,e195,hx195_0,hx195_1⟩:=at_T169 HR0.out x8_1 p195 q195
       cases e195
       replace hx195_0:=(HB.out.cell (World.block_lt_of_cell? w _ hx195_0)).trans hx195_0
       replace hx195_1:=(HB.out.cell (World.block_lt_of_cell? w _ hx195_1)).trans hx195_1
       replace p195:=eq_true p195
       replace q195:=eq_true q195
       go_wp2_with (first|(go_at_call 173;(with_reducible refine (pq11.calls ((rd_T169 l0 x8_1).f0) ((rd_T169 l0 x8_1).f1) false _ A6.out).mono ?_);rintro e w9 ⟨rfl,hb⟩;have n0_:=pz4.mk (pz9 (by repeat (first|(with_reducible first|exact HB.out|apply pz3|apply pz1|apply pz2)|exact HB.out)) hb);clear HB;have HB:=n0_;clear n0_;(try clear hb);(try clear hb2);(try clear hk);(try clear hi)))
       go_roundg k1
       case measure=>have:=HK1.out;omega
       case rel=>exact ⟨(wrap64 (x8_1 + 1)),(by first|rfl|(simp;done)|(simp [*];done)),H',⟨by have:=HK1.out;omega⟩,⟨by repeat (first|(with_reducible first|exact HB.out|apply pz3|apply pz1|apply pz2)|exact HB.out)⟩⟩
     ·rw [if_neg c5] at H
      exact absurd H (by simp)
    ·rw [if_neg c4] at H
     exact absurd H (by simp)
   ·rw [if_neg c3] at H
    have c3b0:decide (x8_1<(l0.length:Int))=false:=decide_eq_false c3
    clear c3
    obtain rfl:=Option.some.inj H
    go_wp2
    go_ret
    exact ⟨by first|rfl|(simp [pz6,pz5] <;> rfl)|(simp [*,pz6,pz5] <;> rfl),by repeat (first|(with_reducible first|exact HB.out|apply pz3|apply pz1|apply pz2)|exact HB.out)⟩
end Go.Proofs.Zq
end
section
namespace Go.Proofs.Zq
open Go.RowKit Go.Proofs.YtjghikkboekonaaGreatDoor Go.Proofs.Zw.PrintWords Go.Proofs.Zw.PrintLast Go.Proofs.Zw.PrintMore
theorem del_f (p:Str×Str):pq11.f (B p.1) (B p.2)=some (!isAttr p):=by
 unfold pq11.f
 rw [show (⟨#[83,67,72,73,76,89,46,120,97,116,116,114,46]⟩:ByteArray)=B [83,67,72,73,76,89,46,120,97,116,116,114,46] from rfl,hp_f]
 rfl
theorem idx_l (l:List (Str×Str)) (hl:l.length≤1000000000):∀ d i,i + d=l.length→(∀ x ∈ l.take i,isAttr x=true) →
  ∃ r:Int,Ev (fun k=>pq9.l0 k (l.map ofPr) l.length i) r∧((r = -1∧∀ x ∈ l,isAttr x=true)∨∃ j,∃ h:j<l.length,r=(j:Nat)∧(∀ x ∈ l.take j,isAttr x=true)∧isAttr l[j]=false):=by
 intro d
 induction d with
 | zero =>
  intro i hi h
  refine ⟨-1,Ev.step (f:=fun _=>some (-1)) (fun k=>?_) (Ev.now _),.inl ⟨rfl,?_⟩⟩
  ·simp only [pq9.l0];rw [if_neg (by omega)]
  ·rwa [List.take_of_length_le (by omega)] at h
 | succ d ih =>
  intro i hi h
  have hlt:i<l.length:=by omega
  have hrd:rd_T169 (l.map ofPr) (i:Int)=ofPr l[i]:=by
   unfold rd_T169
   rw [show ((i:Nat):Int).toNat=i from rfl,List.getD_eq_getElem?_getD]
   simp [hlt]
  have hd:pq11.f (ofPr l[i]).f0 (ofPr l[i]).f1=some (!isAttr l[i]):=del_f l[i]
  cases ha:isAttr l[i] with
  | true =>
   obtain ⟨r,e,q⟩:=ih (i + 1) (by omega) (by
    intro x hx
    rw [List.take_succ_eq_append_getElem hlt] at hx
    rcases List.mem_append.1 hx with h1|h1
    ·exact h x h1
    ·rw [List.mem_singleton.1 h1];exact ha)
   refine ⟨r,Ev.step (fun k=>?_) e,q⟩
   simp only [pq9.l0,List.length_map]
   rw [if_pos (by omega),if_pos (by omega),if_pos (by omega),hrd,hd,ha]
   simp only [Option.bind_some]
   rw [if_neg (by decide),wrap_in (by omega) (by omega)]
   rfl
  | false =>
   refine ⟨(i:Nat),Ev.step (f:=fun _=>some ((i:Nat):Int)) (fun k=>?_) (Ev.now _),.inr ⟨i,hlt,rfl,h,ha⟩⟩
   simp only [pq9.l0,List.length_map]
   rw [if_pos (by omega),if_pos (by omega),if_pos (by omega),hrd,hd,ha]
   simp only [Option.bind_some]
   rw [if_pos (by decide)]
theorem idx_f (l:List (Str×Str)) (hl:l.length≤1000000000):∃ (k:Nat) (r:Int),pq9.f k (l.map ofPr) ()=some r∧((r = -1∧l.filter isAttr=l)∨∃ j,∃ h:j<l.length,r=(j:Nat)∧(l.take (j + 1)).filter isAttr=l.take j):=by
 obtain ⟨r,e,q⟩:=idx_l l hl l.length 0 (by omega) (fun x h=>by simp at h)
 obtain ⟨k,hk⟩:=e.rounds
 refine ⟨k,r,?_,?_⟩
 ·unfold pq9.f
  rw [List.length_map];exact hk
 ·rcases q with ⟨h1,h2⟩|⟨j,h,h1,h2,h3⟩
  ·exact .inl ⟨h1,List.filter_eq_self.2 h2⟩
  ·refine .inr ⟨j,h,h1,?_⟩
   rw [List.take_succ_eq_append_getElem h,List.filter_append,List.filter_eq_self.2 h2]
   simp [h3]
theorem del_call (w:World) (p:Str×Str):Calls Tryz.prog 173 #[.agg #[S p.1,S p.2]] w fun e w'=>e=.returned (.bool (!isAttr p))∧Below w.heap.size w w':=pq11.calls (B p.1) (B p.2) _ w (del_f p)
theorem del_call' (w:World) (p:Str×Str) (b:Bool) (h:isAttr p=b):Calls Tryz.prog 173 #[.agg #[S p.1,S p.2]] w fun e w'=>e=.returned (.bool (!b))∧Below w.heap.size w w':=by subst h;exact del_call w p
def prZero:Array Value:=#[S [],S []]
theorem prC_all (p:Str×Str):(prC p).toArray.all (·.oneCell')=true:=by simp [prC,Value.oneCell']
set_option maxRecDepth 100000 in
set_option maxHeartbeats 1000000 in
theorem delp_calls (w:World) (base g cap:Nat) (l:List (Str×Str)) (ho:Owr prC 169 2 base w (.slice (some ⟨g,0,none⟩) l.length cap) l) (hl:l.length≤100000000) :
  Calls Tryz.prog 171 #[.slice (some ⟨g,0,none⟩) l.length cap,.func (.func 173) #[] #[]] w fun e w' =>
   e=.returned (.slice (some ⟨g,0,none⟩) (l.filter isAttr).length cap)∧Owr prC 169 2 base w' (.slice (some ⟨g,0,none⟩) (l.filter isAttr).length cap) (l.filter isAttr)∧w.grownBy w' (some g):=by
 obtain ⟨k,r,hf,hr⟩:=idx_f l (by omega)
 have HO:=pH ho
 have HL:=pH hl
 have HF:=pH hf
 have HR:=pH hr
 obtain ⟨cur,hbg,_,hlc,hcm,_,_⟩:=own_blk ho
 have HCM:=pH hcm
 have HLC:=pH hlc
 have HC:Hid (Kd.C k169 w (some ⟨g,0,none⟩) (l.map ofPr).length (l.map ofPr)):=pH (pr_C (by rw [prs_back];exact ho.row prC_len) (by rw [List.length_map];omega))
 clear ho hl hf hr hcm hlc hbg
 have h110:=Tryz.underlying169
 go_enter Tryz.func171,Tryz.ntmps171
 go_wp2_with fail
 have hcall:=pq9.calls k (some ⟨g,0,none⟩) cap (l.map ofPr) () r w HC.out (by rw [List.length_map];exact HLC.out) HF.out
 rw [List.length_map] at hcall
 refine hcall.mono ?_
 rintro e w1 ⟨rfl,hb1⟩
 have HB1:=pH hb1
 clear hb1 hcall HC HF
 rcases HR.out with ⟨hr1,hall⟩|⟨i0,hi0,hr1,hi1⟩
 ·subst hr1
  have HALL:=pH hall
  clear hall HR
  have hne:((-1:Int) == -1)=true:=by decide
  go_wp2_with fail
  go_ret
  refine ⟨by rw [HALL.out];rfl,by rw [HALL.out];exact HO.out.ext HB1.out,?_⟩
  have hb:=HB1.out
  exact ⟨hb.os,hb.tape,hb.output,hb.size,fun k hk _=>hb.block k hk⟩
 ·subst hr1
  have HI1:=pH hi1
  have HI0:=pH hi0
  have hne:((i0:Int) == -1)=false:=by simp
  clear HR hi1
  have hlm:=HL.out
  go_wp2_with fail
  clear hne
  have HO1:=pH (HO.out.ext HB1.out)
  have HG1:Hid (w.grownBy w1 (some g)):=pH (by
   have hb:=HB1.out
   exact ⟨hb.os,hb.tape,hb.output,hb.size,fun k hk _=>hb.block k hk⟩)
  go_loopg [5,6] (l.length + 1) (fun gg v5 v6 wr=>∃ (i j:Nat) (xs:List (Str×Str)),v5=.int .i64 i∧v6=.int .i64 j∧l.length<gg + j∧j≤l.length∧i<j∧Hid (xs.length=l.length)∧Hid (xs.take i=(l.take j).filter isAttr)∧Hid (xs.drop j=l.drop j) ∧
   Hid (Owr prC 169 2 base wr (.slice (some ⟨g,0,none⟩) xs.length cap) xs)∧Hid (w.grownBy wr (some g)))
  case atStart=>exact ⟨i0,i0 + 1,l,rfl,by go_num,by omega,by omega,by omega,pH rfl,pH HI1.out.symm,pH rfl,HO1,HG1⟩
  case round =>
   obtain ⟨i,j,xs,rfl,rfl,hgj,hjl,hij,HX,HT,HD,HOW,HG⟩:=hrel
   by_cases hj:j<l.length
   ·cases gk with
    | zero=>omega
    | succ g1 =>
     have hjx:j<xs.length:=by rw [HX.out];exact hj
     have hlies:=own_lies prC_len HOW.out hjx
     have hxl:xs[j]=l[j]:=by
      have:(xs.drop j)[0]?=(l.drop j)[0]?:=by rw [HD.out]
      rw [List.getElem?_drop,List.getElem?_drop,Nat.add_zero,List.getElem?_eq_getElem hjx,List.getElem?_eq_getElem hj] at this
      exact Option.some.inj this
     rw [hxl] at hlies
     have HFI:Hid ((l.take (j + 1)).filter isAttr=(l.take j).filter isAttr ++ if isAttr l[j]=true then [l[j]] else []):=pH (by
      rw [List.take_succ_eq_append_getElem hj,List.filter_append]
      cases h:isAttr l[j] <;> simp [h])
     generalize hp:l[j]=p at hlies HFI
     have HLI:=pH hlies
     have HPX:Hid (xs[j]'hjx=p):=pH (hxl.trans hp)
     clear hlies hxl hp
     go_wp2_with (first|((with_reducible refine pz10 (N:=25) rfl ?_);refine wpList_load_mid rfl 169 _ rfl g (j * 2) rfl (prC p) _ HLI.out h110 rfl rfl ?_;go_frame)|((with_reducible refine pz10 (N:=7) rfl ?_);refine pz24 rfl (N:=7) rfl (cs:=prZero) (t:=169) ?hr ?_;(case hr=>first|(go_simp;done)|(go_simp;rfl));intro g7 hg w7 hb2 hbl2;have HB7:=pH hb2;have HBL7:=pH hbl2;have HGE7:Hid (wr.heap.size≤g7):=pH (by rw [hg];exact Nat.le_refl _);clear hg hb2 hbl2;go_frame)|((with_reducible refine pz28 (t:=169) (p:=7) rfl ?_);refine pz22 rfl rfl 169 _ _ rfl g7 (prC p).toArray rfl rfl 169 prZero HB7.out rfl rfl (prC_all _) ?_;intro w8 hb3 hg3;have HB8:=pH hb3;have HBL8:Hid (Below wr.heap.size wr w8):=pH (HBL7.out.grown hg3 HBL7.out.size (fun j hj=>by cases hj;exact HGE7.out));clear hb3 hg3)|((with_reducible refine pz10 (N:=27) rfl ?_);refine pz12 rfl 169 _ rfl _ rfl (prC p) _ (pz26 HB8.out) h110 rfl rfl ?_;go_frame))
     cases hia:isAttr p with
     | false =>
      rw [hia] at HFI
      refine (del_call' _ p false hia).mono ?_
      rintro e w9 ⟨rfl,hb9⟩
      have HB9:Hid (Below wr.heap.size wr w9):=pH (pbt HBL8.out hb9)
      clear hb9 hia
      have HTN:Hid (xs.take i=(l.take (j + 1)).filter isAttr):=pH (by rw [HFI.out,HT.out];simp)
      have HDN:Hid (xs.drop (j + 1)=l.drop (j + 1)):=pH (by rw [← List.drop_drop,HD.out,List.drop_drop])
      have HOWN:=pH (HOW.out.ext HB9.out)
      have HGN:=pH (grown_below HG.out HB9.out)
      go_wp2_with fail
      go_roundg g1
      case measure=>omega
      case rel=>exact ⟨i,j + 1,xs,rfl,by go_num,by omega,by omega,by omega,HX,HTN,HDN,HOWN,HGN⟩
     | true =>
      rw [hia] at HFI
      refine (del_call' _ p true hia).mono ?_
      rintro e w9 ⟨rfl,hb9⟩
      have HB9:Hid (Below wr.heap.size wr w9):=pH (pbt HBL8.out hb9)
      have HB89:=pH (pz11 HB8.out hb9)
      clear hb9 hia
      have hix:i<xs.length:=by rw [HX.out];omega
      have HTN:Hid ((xs.set i p).take (i + 1)=(l.take (j + 1)).filter isAttr):=pH (by
       rw [HFI.out,← HT.out,List.take_succ_eq_append_getElem (by rw [List.length_set];exact hix),List.getElem_set_self,List.take_set_of_le (Nat.le_refl _)];rfl)
      have HDN:Hid ((xs.set i p).drop (j + 1)=l.drop (j + 1)):=pH (by rw [List.drop_set_of_lt (by omega),← List.drop_drop,HD.out,List.drop_drop])
      have HXN:Hid ((xs.set i p).length=l.length):=pH (by rw [List.length_set];exact HX.out)
      have HOW9:=pH (HOW.out.ext HB9.out)
      have hth:=own_there HOW9.out (i * 2) 2 (by have:=HLC.out;have:=HX.out;omega)
      have HOWN:=pH (own_put prC_len HOW9.out hix p)
      have HTH:=pH hth
      clear hth hix
      have hil:i<l.length:=by omega
      go_wp2_with (first|((with_reducible refine pz10 (N:=32) rfl ?_);refine pz12 rfl 169 _ rfl _ rfl (prC p) _ (pz26 HB89.out) h110 rfl rfl ?_;go_frame)|((with_reducible refine pz28 (t:=169) (p:=33) rfl ?_);refine wpList_store_mid rfl 169 _ _ rfl g (i * 2) (prC p).toArray rfl rfl HTH.out rfl (prC_all _) ?_;have HG10:Hid (w.grownBy (w9.setCells g (i * 2) (prC p)) (some g)):=pH (grown_trans' (grown_below HG.out HB9.out) (setCells_grown _ _ _ _));change wpList _ _ _ _ _ (w9.setCells g (i * 2) (prC p));generalize w9.setCells g (i * 2) (prC p)=w10 at HG10 HOWN ⊢))
      go_roundg g1
      case measure=>omega
      case rel=>exact ⟨i + 1,j + 1,xs.set i p,by go_num,by go_num,by omega,by omega,by omega,HXN,HTN,HDN,HOWN,HG10⟩
   ·have he:j=l.length:=by omega
    subst he
    have HTE:Hid (xs.take i=l.filter isAttr):=pH (by have:=HT.out;rwa [List.take_of_length_le (Nat.le_refl _)] at this)
    have hcap:l.length≤cap:=HLC.out
    have hcm:=HCM.out
    unfold maxLen at hcm
    have hci:¬ cap=i:=by omega
    have hmax:HL.out=HL.out:=rfl
    clear hmax
    have HIX:Hid (i≤xs.length):=pH (by rw [HX.out];omega)
    have HFL:Hid ((l.filter isAttr).length=i):=pH (by rw [← HTE.out,List.length_take];have:=HIX.out;omega)
    have hth:=own_there HOW.out (i * 2) ((l.length - i) * 2) (by omega)
    have hcl:=fun ty=>run_clear_row (P:=Tryz.prog) wr 145 169 ty (.agg #[S [],S []]) Tryz.underlying145 (fun _=>by kernel_rfl) (by intro v hv;simp [Value.cells] at hv;rcases hv with rfl|rfl <;> rfl) g (i * 2) (l.length - i) (cap - i) (by omega) (by simpa [Value.cells] using hth)
    have HOWC:=pH (own_cut prC_len HOW.out HIX.out (Builtin.zeroCells (Value.agg #[S [],S []]).cells (l.length - i)).toList (by rw [zero_cells];show i * 2 + (l.length - i) * 2≤cap * 2;omega))
    have HGC:Hid (w.grownBy (wr.setCells g (i * 2) (Builtin.zeroCells (Value.agg #[S [],S []]).cells (l.length - i)).toList) (some g)):=pH (grown_trans' HG.out (setCells_grown _ _ _ _))
    generalize (Builtin.zeroCells (Value.agg #[S [],S []]).cells (l.length - i)).toList=zs at hcl HOWC HGC
    clear hth
    go_wp2_with fail
    go_ret
    have hown:=HOWC.out
    rw [HTE.out] at hown
    exact ⟨by rw [HFL.out];rfl,hown,HGC.out⟩
end Go.Proofs.Zq
end
section
namespace Go.Proofs.Zq
open Go.RowKit Go.Proofs.Zw.PrintWords Go.Proofs.Zw.PrintLast Go.Proofs.Zw.PrintMore
open Go.Proofs.YtjghikkboekonaaGreatDoor (GL)
attribute [local go_sem] max2_int min2_int max_two min_two pz35 pz36 max_four min_four
def pq12.f (a0_0:ByteArray) (a0_1:ByteArray) (a1_0:ByteArray) (a1_1:ByteArray):Option (Int):=(strings_Compare.f a0_0 a1_0).bind fun t208=>(some t208)
set_option maxHeartbeats 8000000 in
set_option maxRecDepth 100000 in
theorem pq12.calls (a0_0:ByteArray) (a0_1:ByteArray) (a1_0:ByteArray) (a1_1:ByteArray) (r:Int) (w:World) (h:pq12.f a0_0 a0_1 a1_0 a1_1=some r) :
  Calls Tryz.prog 175 #[.agg #[.string a0_0,.string a0_1],.agg #[.string a1_0,.string a1_1]] w fun e w'=>e=.returned (.int .i64 r)∧Below w.heap.size w w':=by
 have hu169:=Tryz.underlying169
 have HB:=pz4.mk (Below.refl w.heap.size w)
 have H:((strings_Compare.f a0_0 a1_0).bind fun t208=>(some t208))=some r:=h
 clear h
 replace H:=Option.bind_eq_some_iff.mp H
 obtain ⟨t208,A30,H⟩:=H
 replace H:(some t208)=some r:=H
 have A3:=pz4.mk A30
 clear A30
 obtain rfl:=Option.some.inj H
 go_enter Tryz.func175,Tryz.ntmps175
 go_wp2_with (first|((with_reducible refine pz10 (N:=2) rfl ?_);refine pz24 ?hg (N:=2) ?hd (cs:=#[.string a0_0,.string a0_1]) (t:=169) ?hr ?_;(case hd=>rfl);(case hg=>rfl);(case hr=>first|(go_simp;done)|(go_simp;rfl));intro gb206 hg w4 hbox hb;have n0_:=pz4.mk (pz9 (by repeat (first|(with_reducible first|exact HB.out|apply pz3|apply pz1|apply pz2)|exact HB.out)) hb);have n1_:=pz4.mk (hbox);have n2_:=pz4.mk ((by rw [hg];exact (pz20 (by repeat (first|(with_reducible first|exact HB.out|apply pz3|apply pz1|apply pz2)|exact HB.out))):w.heap.size≤gb206));have n3_:=pz4.mk ((by rw [hg];exact (pz20 (by repeat (first|(with_reducible first|exact HB.out|apply pz3|apply pz1|apply pz2)|exact HB.out))):w.heap.size≤gb206));clear HB;have HB:=n0_;have BK206:=n1_;have GW206:=n2_;have GE206:=n3_;clear n0_ n1_ n2_ n3_;clear hb hbox hg)|((with_reducible refine pz10 (N:=3) rfl ?_);refine pz24 ?hg (N:=3) ?hd (cs:=#[.string a1_0,.string a1_1]) (t:=169) ?hr ?_;(case hd=>rfl);(case hg=>rfl);(case hr=>first|(go_simp;done)|(go_simp;rfl));intro gb207 hg w5 hbox hb;have n0_:=pz4.mk (pz11 (g:=gb206) (o:=.cells #[.string a0_0,.string a0_1] 169 (0,0)) (by (with_reducible repeat (first|refine pz29 ?_ _|refine pz32 ?_|refine pz30 ?_ _));exact BK206.out) hb);have n1_:=pz4.mk (pz9 (by repeat (first|(with_reducible first|exact HB.out|apply pz3|apply pz1|apply pz2|refine pz14 ?_ GE206.out)|exact HB.out)) hb);have n2_:=pz4.mk (hbox);have n3_:=pz4.mk ((by rw [hg];exact (pz20 (by repeat (first|(with_reducible first|exact HB.out|apply pz3|apply pz1|apply pz2|refine pz14 ?_ GE206.out)|exact HB.out))):w.heap.size≤gb207));have n4_:=pz4.mk ((by rw [hg];exact (pz20 (by repeat (first|(with_reducible first|exact HB.out|apply pz3|apply pz1|apply pz2|refine pz14 ?_ GE206.out)|exact HB.out))):w.heap.size≤gb207));have n5_:=pz4.mk ((by rw [hg];exact Nat.ne_of_lt (blk_lt (g:=gb206) (o:=.cells #[.string a0_0,.string a0_1] 169 (0,0)) (by (with_reducible repeat (first|refine pz29 ?_ _|refine pz32 ?_|refine pz30 ?_ _));exact BK206.out)):gb206≠gb207));have n6_:=pz4.mk ((by rw [hg];exact Nat.ne_of_gt (blk_lt (g:=gb206) (o:=.cells #[.string a0_0,.string a0_1] 169 (0,0)) (by (with_reducible repeat (first|refine pz29 ?_ _|refine pz32 ?_|refine pz30 ?_ _));exact BK206.out)):gb207≠gb206));clear BK206;clear HB;have BK206:=n0_;have HB:=n1_;have BK207:=n2_;have GW207:=n3_;have GE207:=n4_;have NB206_207:=n5_;have NB207_206:=n6_;clear n0_ n1_ n2_ n3_ n4_ n5_ n6_;clear hb hbox hg;have hnb6:=NB206_207.out;have hnc6:=NB207_206.out;have hcz7_0:w5.cell? ⟨gb206,0,none⟩=some (.string a0_0):=(blk_cell BK206.out 0).trans rfl;have hcz7_1:w5.cell? ⟨gb206,1,none⟩=some (.string a0_1):=(blk_cell BK206.out 1).trans rfl;have hfz7_0:=pz7 BK206.out 0;have hfz7_1:=pz7 BK206.out 1;have hcz8_0:w5.cell? ⟨gb207,0,none⟩=some (.string a1_0):=(blk_cell BK207.out 0).trans rfl;have hcz8_1:w5.cell? ⟨gb207,1,none⟩=some (.string a1_1):=(blk_cell BK207.out 1).trans rfl;have hfz8_0:=pz7 BK207.out 0;have hfz8_1:=pz7 BK207.out 1)|((with_reducible refine pz8 (f:=69) rfl ?_);refine pz21 (some 9) rfl rfl Tryz.func69 (by kernel_rfl) rfl #[.string a0_0,.string a1_0] rfl (by (try simp only [pM]);first|done|rfl|(simp only [pL];rfl)) ?_;(with_reducible refine (strings_Compare.calls a0_0 a1_0 t208 _ A3.out).mono ?_);rintro e w' ⟨rfl,⟨nd,rfl⟩⟩;refine ⟨_,rfl,?_⟩))
 go_ret
 exact ⟨by first|rfl|(simp [pz6,pz5] <;> rfl)|(simp [*,pz6,pz5] <;> rfl),by repeat (first|(with_reducible first|exact HB.out|apply pz3|apply pz1|apply pz2|refine pz14 ?_ GE206.out|refine pz14 ?_ GE207.out)|exact HB.out)⟩
end Go.Proofs.Zq
end
