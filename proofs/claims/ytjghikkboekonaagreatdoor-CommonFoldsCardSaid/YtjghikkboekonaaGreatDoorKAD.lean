/- A part of a proof of statements of this seat: what its walks and its laws lean on; joined by a program of this repo (wip/pack.py) out of the texts QPathsMark, QPathsUnmark, QPathsParent, QPathsUnder, XEv1, QChangeTar, QChangeCompare, QChangeLess, XEv2, Cnt, PaxB, PaxA. -/
import Derived.Lib.Strings
import Derived.Maps.Ext
import Derived.Maps.OwnOps
import Derived.Maps.Views
import Derived.WalkArith
import Derived.Test.YtjghikkboekonaaGreatDoorKAA
import Derived.Test.YtjghikkboekonaaGreatDoorKAB
import Derived.Test.YtjghikkboekonaaGreatDoorKAC
set_option linter.unusedSimpArgs false
set_option linter.unusedVariables false
section
namespace Go.Proofs.Zq
open Go.RowKit Go.Proofs.Zw.PrintWords Go.Proofs.Zw.PrintLast Go.Proofs.Zw.PrintMore
open Go.Proofs.YtjghikkboekonaaGreatDoor (GL)
attribute [local go_sem] max2_int min2_int max_two min_two pz35 pz36 max_four min_four
def paths_Mark.f (k:Nat) (a0:ByteArray):Option (Int×ByteArray×Bool):=(paths_split.f a0).bind fun bt274=>((strings_CutPrefix.f bt274.2 (⟨#[46,119,104,46]⟩:ByteArray)).bind fun bt276=>((paths_is.f k a0).bind fun t278=>(if t278=true then (if bt276.2=true then (if bt274.2.toList=([46,119,104,46,46,119,104,46,46,111,112,113]:List UInt8) then (some (2,bt274.1,true)) else ((pq14.f bt276.1).bind fun t279=>(if t279=true then (some (0,(⟨#[]⟩:ByteArray),false)) else ((pq10.f bt276.1 (⟨#[46,119,104,46]⟩:ByteArray)).bind fun t280=>(if t280=true then (some (0,(⟨#[]⟩:ByteArray),false)) else ((paths_below.f bt274.1 bt276.1).bind fun t281=>(some (1,t281,true)))))))) else (some (0,a0,true))) else (some (0,(⟨#[]⟩:ByteArray),false)))))
set_option maxHeartbeats 8000000 in
set_option maxRecDepth 100000 in
theorem paths_Mark.calls (k:Nat) (a0:ByteArray) (r1:Int) (r2:ByteArray) (r3:Bool) (w:World) (hG:GL w) (h:paths_Mark.f k a0=some (r1,r2,r3)) :
  Calls Tryz.prog 67 #[.string a0] w fun e w'=>e=.returned (.tuple #[.int .i64 r1,.string r2,.bool r3])∧Below w.heap.size w w':=by
 have HB:=pz4.mk (Below.refl w.heap.size w)
 have H:((paths_split.f a0).bind fun bt274=>((strings_CutPrefix.f bt274.2 (⟨#[46,119,104,46]⟩:ByteArray)).bind fun bt276=>((paths_is.f k a0).bind fun t278=>(if t278=true then (if bt276.2=true then (if bt274.2.toList=([46,119,104,46,46,119,104,46,46,111,112,113]:List UInt8) then (some (2,bt274.1,true)) else ((pq14.f bt276.1).bind fun t279=>(if t279=true then (some (0,(⟨#[]⟩:ByteArray),false)) else ((pq10.f bt276.1 (⟨#[46,119,104,46]⟩:ByteArray)).bind fun t280=>(if t280=true then (some (0,(⟨#[]⟩:ByteArray),false)) else ((paths_below.f bt274.1 bt276.1).bind fun t281=>(some (1,t281,true)))))))) else (some (0,a0,true))) else (some (0,(⟨#[]⟩:ByteArray),false))))))=some (r1,r2,r3):=h
 clear h
 replace H:=Option.bind_eq_some_iff.mp H
 obtain ⟨⟨t274,t275⟩,A20,H⟩:=H
 replace H:((strings_CutPrefix.f t275 (⟨#[46,119,104,46]⟩:ByteArray)).bind fun bt276=>((paths_is.f k a0).bind fun t278=>(if t278=true then (if bt276.2=true then (if t275.toList=([46,119,104,46,46,119,104,46,46,111,112,113]:List UInt8) then (some (2,t274,true)) else ((pq14.f bt276.1).bind fun t279=>(if t279=true then (some (0,(⟨#[]⟩:ByteArray),false)) else ((pq10.f bt276.1 (⟨#[46,119,104,46]⟩:ByteArray)).bind fun t280=>(if t280=true then (some (0,(⟨#[]⟩:ByteArray),false)) else ((paths_below.f t274 bt276.1).bind fun t281=>(some (1,t281,true)))))))) else (some (0,a0,true))) else (some (0,(⟨#[]⟩:ByteArray),false)))))=some (r1,r2,r3):=H
 have A2:=pz4.mk A20
 clear A20
 replace H:=Option.bind_eq_some_iff.mp H
 obtain ⟨⟨t276,t277⟩,A30,H⟩:=H
 replace H:((paths_is.f k a0).bind fun t278=>(if t278=true then (if t277=true then (if t275.toList=([46,119,104,46,46,119,104,46,46,111,112,113]:List UInt8) then (some (2,t274,true)) else ((pq14.f t276).bind fun t279=>(if t279=true then (some (0,(⟨#[]⟩:ByteArray),false)) else ((pq10.f t276 (⟨#[46,119,104,46]⟩:ByteArray)).bind fun t280=>(if t280=true then (some (0,(⟨#[]⟩:ByteArray),false)) else ((paths_below.f t274 t276).bind fun t281=>(some (1,t281,true)))))))) else (some (0,a0,true))) else (some (0,(⟨#[]⟩:ByteArray),false))))=some (r1,r2,r3):=H
 have A3:=pz4.mk A30
 clear A30
 replace H:=Option.bind_eq_some_iff.mp H
 obtain ⟨t278,A40,H⟩:=H
 replace H:(if t278=true then (if t277=true then (if t275.toList=([46,119,104,46,46,119,104,46,46,111,112,113]:List UInt8) then (some (2,t274,true)) else ((pq14.f t276).bind fun t279=>(if t279=true then (some (0,(⟨#[]⟩:ByteArray),false)) else ((pq10.f t276 (⟨#[46,119,104,46]⟩:ByteArray)).bind fun t280=>(if t280=true then (some (0,(⟨#[]⟩:ByteArray),false)) else ((paths_below.f t274 t276).bind fun t281=>(some (1,t281,true)))))))) else (some (0,a0,true))) else (some (0,(⟨#[]⟩:ByteArray),false)))=some (r1,r2,r3):=H
 have A4:=pz4.mk A40
 clear A40
 by_cases c5:t278=true
 ·subst c5
  have H1:(if t277=true then (if t275.toList=([46,119,104,46,46,119,104,46,46,111,112,113]:List UInt8) then (some (2,t274,true)) else ((pq14.f t276).bind fun t279=>(if t279=true then (some (0,(⟨#[]⟩:ByteArray),false)) else ((pq10.f t276 (⟨#[46,119,104,46]⟩:ByteArray)).bind fun t280=>(if t280=true then (some (0,(⟨#[]⟩:ByteArray),false)) else ((paths_below.f t274 t276).bind fun t281=>(some (1,t281,true)))))))) else (some (0,a0,true)))=some (r1,r2,r3):=by rw [if_pos rfl] at H;exact H
  clear H
  have H:=H1
  clear H1
  by_cases c6:t277=true
  ·subst c6
   have H1:(if t275.toList=([46,119,104,46,46,119,104,46,46,111,112,113]:List UInt8) then (some (2,t274,true)) else ((pq14.f t276).bind fun t279=>(if t279=true then (some (0,(⟨#[]⟩:ByteArray),false)) else ((pq10.f t276 (⟨#[46,119,104,46]⟩:ByteArray)).bind fun t280=>(if t280=true then (some (0,(⟨#[]⟩:ByteArray),false)) else ((paths_below.f t274 t276).bind fun t281=>(some (1,t281,true))))))))=some (r1,r2,r3):=by rw [if_pos rfl] at H;exact H
   clear H
   have H:=H1
   clear H1
   by_cases c7:t275.toList=([46,119,104,46,46,119,104,46,46,111,112,113]:List UInt8)
   ·rw [if_pos c7] at H
    have c7b0:(t275.toList == ([46,119,104,46,46,119,104,46,46,111,112,113]:List UInt8))=true:=beq_iff_eq.mpr c7
    have c7b1:(t275.toList != ([46,119,104,46,46,119,104,46,46,111,112,113]:List UInt8))=false:=bne_eq_false_iff_eq.mpr c7
    clear c7
    simp only [Option.some.injEq,Prod.mk.injEq] at H
    obtain ⟨rfl,rfl,rfl⟩:=H
    go_enter Tryz.func67,Tryz.ntmps67
    go_wp2_with (first|((with_reducible refine pz8 (f:=41) rfl ?_);refine pz21 (some 11) rfl rfl Tryz.func41 (by kernel_rfl) rfl #[.string a0] rfl (by (try simp only [pM]);first|done|rfl|(simp only [pL];rfl)) ?_;(with_reducible refine (paths_split.calls a0 t274 t275 _ A2.out).mono ?_);rintro e w8 ⟨rfl,hb⟩;refine ⟨_,rfl,?_⟩;have n0_:=pz4.mk (pz9 (by repeat (first|(with_reducible first|exact HB.out|apply pz3|apply pz1|apply pz2)|exact HB.out)) hb);clear HB;have HB:=n0_;clear n0_;(try clear hb);(try clear hb2);(try clear hk);(try clear hi))|((with_reducible refine pz8 (f:=99) rfl ?_);refine pz21 (some 16) rfl rfl Tryz.func99 (by kernel_rfl) rfl #[.string t275,.string (⟨#[46,119,104,46]⟩:ByteArray)] rfl (by (try simp only [pM]);first|done|rfl|(simp only [pL];rfl)) ?_;(with_reducible refine (strings_CutPrefix.calls t275 (⟨#[46,119,104,46]⟩:ByteArray) t276 true _ A3.out).mono ?_);rintro e w' ⟨rfl,⟨nd,rfl⟩⟩;refine ⟨_,rfl,?_⟩)|((with_reducible refine pz8 (f:=100) rfl ?_);refine pz21 (some 21) rfl rfl Tryz.func100 (by kernel_rfl) rfl #[.string a0] rfl (by (try simp only [pM]);first|done|rfl|(simp only [pL];rfl)) ?_;(with_reducible refine (paths_is.calls k a0 true _ (hG.ext (by repeat (first|(with_reducible first|exact HB.out|apply pz3|apply pz1|apply pz2)|exact HB.out))) A4.out).mono ?_);rintro e w9 ⟨rfl,hb⟩;refine ⟨_,rfl,?_⟩;have n0_:=pz4.mk (pz9 (by repeat (first|(with_reducible first|exact HB.out|apply pz3|apply pz1|apply pz2)|exact HB.out)) hb);clear HB;have HB:=n0_;clear n0_;(try clear hb);(try clear hb2);(try clear hk);(try clear hi)))
    go_ret3
    exact ⟨by first|rfl|(simp [pz6,pz5] <;> rfl)|(simp [*,pz6,pz5] <;> rfl),by repeat (first|(with_reducible first|exact HB.out|apply pz3|apply pz1|apply pz2)|exact HB.out)⟩
   ·rw [if_neg c7] at H
    have c7b0:(t275.toList == ([46,119,104,46,46,119,104,46,46,111,112,113]:List UInt8))=false:=beq_eq_false_iff_ne.mpr c7
    have c7b1:(t275.toList != ([46,119,104,46,46,119,104,46,46,111,112,113]:List UInt8))=true:=bne_iff_ne.mpr c7
    replace H:=Option.bind_eq_some_iff.mp H
    obtain ⟨t279,A100,H⟩:=H
    replace H:(if t279=true then (some (0,(⟨#[]⟩:ByteArray),false)) else ((pq10.f t276 (⟨#[46,119,104,46]⟩:ByteArray)).bind fun t280=>(if t280=true then (some (0,(⟨#[]⟩:ByteArray),false)) else ((paths_below.f t274 t276).bind fun t281=>(some (1,t281,true))))))=some (r1,r2,r3):=H
    have A10:=pz4.mk A100
    clear A100
    by_cases c11:t279=true
    ·subst c11
     have H1:(some (0,(⟨#[]⟩:ByteArray),false))=some (r1,r2,r3):=by rw [if_pos rfl] at H;exact H
     clear H
     have H:=H1
     clear H1
     simp only [Option.some.injEq,Prod.mk.injEq] at H
     obtain ⟨rfl,rfl,rfl⟩:=H
     go_enter Tryz.func67,Tryz.ntmps67
     go_wp2_with (first|((with_reducible refine pz8 (f:=41) rfl ?_);refine pz21 (some 11) rfl rfl Tryz.func41 (by kernel_rfl) rfl #[.string a0] rfl (by (try simp only [pM]);first|done|rfl|(simp only [pL];rfl)) ?_;(with_reducible refine (paths_split.calls a0 t274 t275 _ A2.out).mono ?_);rintro e w12 ⟨rfl,hb⟩;refine ⟨_,rfl,?_⟩;have n0_:=pz4.mk (pz9 (by repeat (first|(with_reducible first|exact HB.out|apply pz3|apply pz1|apply pz2)|exact HB.out)) hb);clear HB;have HB:=n0_;clear n0_;(try clear hb);(try clear hb2);(try clear hk);(try clear hi))|((with_reducible refine pz8 (f:=99) rfl ?_);refine pz21 (some 16) rfl rfl Tryz.func99 (by kernel_rfl) rfl #[.string t275,.string (⟨#[46,119,104,46]⟩:ByteArray)] rfl (by (try simp only [pM]);first|done|rfl|(simp only [pL];rfl)) ?_;(with_reducible refine (strings_CutPrefix.calls t275 (⟨#[46,119,104,46]⟩:ByteArray) t276 true _ A3.out).mono ?_);rintro e w' ⟨rfl,⟨nd,rfl⟩⟩;refine ⟨_,rfl,?_⟩)|((with_reducible refine pz8 (f:=100) rfl ?_);refine pz21 (some 21) rfl rfl Tryz.func100 (by kernel_rfl) rfl #[.string a0] rfl (by (try simp only [pM]);first|done|rfl|(simp only [pL];rfl)) ?_;(with_reducible refine (paths_is.calls k a0 true _ (hG.ext (by repeat (first|(with_reducible first|exact HB.out|apply pz3|apply pz1|apply pz2)|exact HB.out))) A4.out).mono ?_);rintro e w13 ⟨rfl,hb⟩;refine ⟨_,rfl,?_⟩;have n0_:=pz4.mk (pz9 (by repeat (first|(with_reducible first|exact HB.out|apply pz3|apply pz1|apply pz2)|exact HB.out)) hb);clear HB;have HB:=n0_;clear n0_;(try clear hb);(try clear hb2);(try clear hk);(try clear hi))|((with_reducible refine pz8 (f:=101) rfl ?_);refine pz21 (some 33) rfl rfl Tryz.func101 (by kernel_rfl) rfl #[.string t276] rfl (by (try simp only [pM]);first|done|rfl|(simp only [pL];rfl)) ?_;(with_reducible refine (pq14.calls t276 true _ A10.out).mono ?_);rintro e w' ⟨rfl,⟨nd,rfl⟩⟩;refine ⟨_,rfl,?_⟩))
     go_ret3
     exact ⟨by first|rfl|(simp [pz6,pz5] <;> rfl)|(simp [*,pz6,pz5] <;> rfl),by repeat (first|(with_reducible first|exact HB.out|apply pz3|apply pz1|apply pz2)|exact HB.out)⟩
    ·replace c11:=Bool.eq_false_iff.mpr c11
     subst c11
     have H1:((pq10.f t276 (⟨#[46,119,104,46]⟩:ByteArray)).bind fun t280=>(if t280=true then (some (0,(⟨#[]⟩:ByteArray),false)) else ((paths_below.f t274 t276).bind fun t281=>(some (1,t281,true)))))=some (r1,r2,r3):=by rw [if_neg (show ¬ (false=true) by decide)] at H;exact H
     clear H
     have H:=H1
     clear H1
     replace H:=Option.bind_eq_some_iff.mp H
     obtain ⟨t280,A140,H⟩:=H
     replace H:(if t280=true then (some (0,(⟨#[]⟩:ByteArray),false)) else ((paths_below.f t274 t276).bind fun t281=>(some (1,t281,true))))=some (r1,r2,r3):=H
     have A14:=pz4.mk A140
     clear A140
     by_cases c15:t280=true
     ·subst c15
      have H1:(some (0,(⟨#[]⟩:ByteArray),false))=some (r1,r2,r3):=by rw [if_pos rfl] at H;exact H
      clear H
      have H:=H1
      clear H1
      simp only [Option.some.injEq,Prod.mk.injEq] at H
      obtain ⟨rfl,rfl,rfl⟩:=H
      go_enter Tryz.func67,Tryz.ntmps67
      go_wp2_with (first|((with_reducible refine pz8 (f:=41) rfl ?_);refine pz21 (some 11) rfl rfl Tryz.func41 (by kernel_rfl) rfl #[.string a0] rfl (by (try simp only [pM]);first|done|rfl|(simp only [pL];rfl)) ?_;(with_reducible refine (paths_split.calls a0 t274 t275 _ A2.out).mono ?_);rintro e w16 ⟨rfl,hb⟩;refine ⟨_,rfl,?_⟩;have n0_:=pz4.mk (pz9 (by repeat (first|(with_reducible first|exact HB.out|apply pz3|apply pz1|apply pz2)|exact HB.out)) hb);clear HB;have HB:=n0_;clear n0_;(try clear hb);(try clear hb2);(try clear hk);(try clear hi))|((with_reducible refine pz8 (f:=99) rfl ?_);refine pz21 (some 16) rfl rfl Tryz.func99 (by kernel_rfl) rfl #[.string t275,.string (⟨#[46,119,104,46]⟩:ByteArray)] rfl (by (try simp only [pM]);first|done|rfl|(simp only [pL];rfl)) ?_;(with_reducible refine (strings_CutPrefix.calls t275 (⟨#[46,119,104,46]⟩:ByteArray) t276 true _ A3.out).mono ?_);rintro e w' ⟨rfl,⟨nd,rfl⟩⟩;refine ⟨_,rfl,?_⟩)|((with_reducible refine pz8 (f:=100) rfl ?_);refine pz21 (some 21) rfl rfl Tryz.func100 (by kernel_rfl) rfl #[.string a0] rfl (by (try simp only [pM]);first|done|rfl|(simp only [pL];rfl)) ?_;(with_reducible refine (paths_is.calls k a0 true _ (hG.ext (by repeat (first|(with_reducible first|exact HB.out|apply pz3|apply pz1|apply pz2)|exact HB.out))) A4.out).mono ?_);rintro e w17 ⟨rfl,hb⟩;refine ⟨_,rfl,?_⟩;have n0_:=pz4.mk (pz9 (by repeat (first|(with_reducible first|exact HB.out|apply pz3|apply pz1|apply pz2)|exact HB.out)) hb);clear HB;have HB:=n0_;clear n0_;(try clear hb);(try clear hb2);(try clear hk);(try clear hi))|((with_reducible refine pz8 (f:=101) rfl ?_);refine pz21 (some 33) rfl rfl Tryz.func101 (by kernel_rfl) rfl #[.string t276] rfl (by (try simp only [pM]);first|done|rfl|(simp only [pL];rfl)) ?_;(with_reducible refine (pq14.calls t276 false _ A10.out).mono ?_);rintro e w' ⟨rfl,⟨nd,rfl⟩⟩;refine ⟨_,rfl,?_⟩)|(go_at_call 102;(with_reducible refine (pq10.calls t276 (⟨#[46,119,104,46]⟩:ByteArray) true _ A14.out).mono ?_);rintro e w' ⟨rfl,⟨nd,rfl⟩⟩))
      go_ret3
      exact ⟨by first|rfl|(simp [pz6,pz5] <;> rfl)|(simp [*,pz6,pz5] <;> rfl),by repeat (first|(with_reducible first|exact HB.out|apply pz3|apply pz1|apply pz2)|exact HB.out)⟩
     ·replace c15:=Bool.eq_false_iff.mpr c15
      subst c15
      have H1:((paths_below.f t274 t276).bind fun t281=>(some (1,t281,true)))=some (r1,r2,r3):=by rw [if_neg (show ¬ (false=true) by decide)] at H;exact H
      clear H
      have H:=H1
      clear H1
      replace H:=Option.bind_eq_some_iff.mp H
      obtain ⟨t281,A180,H⟩:=H
      replace H:(some (1,t281,true))=some (r1,r2,r3):=H
      have A18:=pz4.mk A180
      clear A180
      simp only [Option.some.injEq,Prod.mk.injEq] at H
      obtain ⟨rfl,rfl,rfl⟩:=H
      go_enter Tryz.func67,Tryz.ntmps67
      go_wp2_with (first|((with_reducible refine pz8 (f:=41) rfl ?_);refine pz21 (some 11) rfl rfl Tryz.func41 (by kernel_rfl) rfl #[.string a0] rfl (by (try simp only [pM]);first|done|rfl|(simp only [pL];rfl)) ?_;(with_reducible refine (paths_split.calls a0 t274 t275 _ A2.out).mono ?_);rintro e w19 ⟨rfl,hb⟩;refine ⟨_,rfl,?_⟩;have n0_:=pz4.mk (pz9 (by repeat (first|(with_reducible first|exact HB.out|apply pz3|apply pz1|apply pz2)|exact HB.out)) hb);clear HB;have HB:=n0_;clear n0_;(try clear hb);(try clear hb2);(try clear hk);(try clear hi))|((with_reducible refine pz8 (f:=99) rfl ?_);refine pz21 (some 16) rfl rfl Tryz.func99 (by kernel_rfl) rfl #[.string t275,.string (⟨#[46,119,104,46]⟩:ByteArray)] rfl (by (try simp only [pM]);first|done|rfl|(simp only [pL];rfl)) ?_;(with_reducible refine (strings_CutPrefix.calls t275 (⟨#[46,119,104,46]⟩:ByteArray) t276 true _ A3.out).mono ?_);rintro e w' ⟨rfl,⟨nd,rfl⟩⟩;refine ⟨_,rfl,?_⟩)|((with_reducible refine pz8 (f:=100) rfl ?_);refine pz21 (some 21) rfl rfl Tryz.func100 (by kernel_rfl) rfl #[.string a0] rfl (by (try simp only [pM]);first|done|rfl|(simp only [pL];rfl)) ?_;(with_reducible refine (paths_is.calls k a0 true _ (hG.ext (by repeat (first|(with_reducible first|exact HB.out|apply pz3|apply pz1|apply pz2)|exact HB.out))) A4.out).mono ?_);rintro e w20 ⟨rfl,hb⟩;refine ⟨_,rfl,?_⟩;have n0_:=pz4.mk (pz9 (by repeat (first|(with_reducible first|exact HB.out|apply pz3|apply pz1|apply pz2)|exact HB.out)) hb);clear HB;have HB:=n0_;clear n0_;(try clear hb);(try clear hb2);(try clear hk);(try clear hi))|((with_reducible refine pz8 (f:=101) rfl ?_);refine pz21 (some 33) rfl rfl Tryz.func101 (by kernel_rfl) rfl #[.string t276] rfl (by (try simp only [pM]);first|done|rfl|(simp only [pL];rfl)) ?_;(with_reducible refine (pq14.calls t276 false _ A10.out).mono ?_);rintro e w' ⟨rfl,⟨nd,rfl⟩⟩;refine ⟨_,rfl,?_⟩)|(go_at_call 102;(with_reducible refine (pq10.calls t276 (⟨#[46,119,104,46]⟩:ByteArray) false _ A14.out).mono ?_);rintro e w' ⟨rfl,⟨nd,rfl⟩⟩)|((with_reducible refine pz8 (f:=94) rfl ?_);refine pz21 (some 40) rfl rfl Tryz.func94 (by kernel_rfl) rfl #[.string t274,.string t276] rfl (by (try simp only [pM]);first|done|rfl|(simp only [pL];rfl)) ?_;(with_reducible refine (paths_below.calls t274 t276 t281 _ A18.out).mono ?_);rintro e w' ⟨rfl,⟨nd,rfl⟩⟩;refine ⟨_,rfl,?_⟩))
      go_ret3
      exact ⟨by first|rfl|(simp [pz6,pz5] <;> rfl)|(simp [*,pz6,pz5] <;> rfl),by repeat (first|(with_reducible first|exact HB.out|apply pz3|apply pz1|apply pz2)|exact HB.out)⟩
  ·replace c6:=Bool.eq_false_iff.mpr c6
   subst c6
   have H1:(some (0,a0,true))=some (r1,r2,r3):=by rw [if_neg (show ¬ (false=true) by decide)] at H;exact H
   clear H
   have H:=H1
   clear H1
   simp only [Option.some.injEq,Prod.mk.injEq] at H
   obtain ⟨rfl,rfl,rfl⟩:=H
   go_enter Tryz.func67,Tryz.ntmps67
   go_wp2_with (first|((with_reducible refine pz8 (f:=41) rfl ?_);refine pz21 (some 11) rfl rfl Tryz.func41 (by kernel_rfl) rfl #[.string a0] rfl (by (try simp only [pM]);first|done|rfl|(simp only [pL];rfl)) ?_;(with_reducible refine (paths_split.calls a0 t274 t275 _ A2.out).mono ?_);rintro e w21 ⟨rfl,hb⟩;refine ⟨_,rfl,?_⟩;have n0_:=pz4.mk (pz9 (by repeat (first|(with_reducible first|exact HB.out|apply pz3|apply pz1|apply pz2)|exact HB.out)) hb);clear HB;have HB:=n0_;clear n0_;(try clear hb);(try clear hb2);(try clear hk);(try clear hi))|((with_reducible refine pz8 (f:=99) rfl ?_);refine pz21 (some 16) rfl rfl Tryz.func99 (by kernel_rfl) rfl #[.string t275,.string (⟨#[46,119,104,46]⟩:ByteArray)] rfl (by (try simp only [pM]);first|done|rfl|(simp only [pL];rfl)) ?_;(with_reducible refine (strings_CutPrefix.calls t275 (⟨#[46,119,104,46]⟩:ByteArray) t276 false _ A3.out).mono ?_);rintro e w' ⟨rfl,⟨nd,rfl⟩⟩;refine ⟨_,rfl,?_⟩)|((with_reducible refine pz8 (f:=100) rfl ?_);refine pz21 (some 21) rfl rfl Tryz.func100 (by kernel_rfl) rfl #[.string a0] rfl (by (try simp only [pM]);first|done|rfl|(simp only [pL];rfl)) ?_;(with_reducible refine (paths_is.calls k a0 true _ (hG.ext (by repeat (first|(with_reducible first|exact HB.out|apply pz3|apply pz1|apply pz2)|exact HB.out))) A4.out).mono ?_);rintro e w22 ⟨rfl,hb⟩;refine ⟨_,rfl,?_⟩;have n0_:=pz4.mk (pz9 (by repeat (first|(with_reducible first|exact HB.out|apply pz3|apply pz1|apply pz2)|exact HB.out)) hb);clear HB;have HB:=n0_;clear n0_;(try clear hb);(try clear hb2);(try clear hk);(try clear hi)))
   go_ret3
   exact ⟨by first|rfl|(simp [pz6,pz5] <;> rfl)|(simp [*,pz6,pz5] <;> rfl),by repeat (first|(with_reducible first|exact HB.out|apply pz3|apply pz1|apply pz2)|exact HB.out)⟩
 ·replace c5:=Bool.eq_false_iff.mpr c5
  subst c5
  have H1:(some (0,(⟨#[]⟩:ByteArray),false))=some (r1,r2,r3):=by rw [if_neg (show ¬ (false=true) by decide)] at H;exact H
  clear H
  have H:=H1
  clear H1
  simp only [Option.some.injEq,Prod.mk.injEq] at H
  obtain ⟨rfl,rfl,rfl⟩:=H
  go_enter Tryz.func67,Tryz.ntmps67
  go_wp2_with (first|((with_reducible refine pz8 (f:=41) rfl ?_);refine pz21 (some 11) rfl rfl Tryz.func41 (by kernel_rfl) rfl #[.string a0] rfl (by (try simp only [pM]);first|done|rfl|(simp only [pL];rfl)) ?_;(with_reducible refine (paths_split.calls a0 t274 t275 _ A2.out).mono ?_);rintro e w23 ⟨rfl,hb⟩;refine ⟨_,rfl,?_⟩;have n0_:=pz4.mk (pz9 (by repeat (first|(with_reducible first|exact HB.out|apply pz3|apply pz1|apply pz2)|exact HB.out)) hb);clear HB;have HB:=n0_;clear n0_;(try clear hb);(try clear hb2);(try clear hk);(try clear hi))|((with_reducible refine pz8 (f:=99) rfl ?_);refine pz21 (some 16) rfl rfl Tryz.func99 (by kernel_rfl) rfl #[.string t275,.string (⟨#[46,119,104,46]⟩:ByteArray)] rfl (by (try simp only [pM]);first|done|rfl|(simp only [pL];rfl)) ?_;(with_reducible refine (strings_CutPrefix.calls t275 (⟨#[46,119,104,46]⟩:ByteArray) t276 t277 _ A3.out).mono ?_);rintro e w' ⟨rfl,⟨nd,rfl⟩⟩;refine ⟨_,rfl,?_⟩)|((with_reducible refine pz8 (f:=100) rfl ?_);refine pz21 (some 21) rfl rfl Tryz.func100 (by kernel_rfl) rfl #[.string a0] rfl (by (try simp only [pM]);first|done|rfl|(simp only [pL];rfl)) ?_;(with_reducible refine (paths_is.calls k a0 false _ (hG.ext (by repeat (first|(with_reducible first|exact HB.out|apply pz3|apply pz1|apply pz2)|exact HB.out))) A4.out).mono ?_);rintro e w24 ⟨rfl,hb⟩;refine ⟨_,rfl,?_⟩;have n0_:=pz4.mk (pz9 (by repeat (first|(with_reducible first|exact HB.out|apply pz3|apply pz1|apply pz2)|exact HB.out)) hb);clear HB;have HB:=n0_;clear n0_;(try clear hb);(try clear hb2);(try clear hk);(try clear hi)))
  go_ret3
  exact ⟨by first|rfl|(simp [pz6,pz5] <;> rfl)|(simp [*,pz6,pz5] <;> rfl),by repeat (first|(with_reducible first|exact HB.out|apply pz3|apply pz1|apply pz2)|exact HB.out)⟩
def paths_Unmark.f (k:Nat) (a0:Int) (a1:ByteArray):Option (ByteArray×Bool):=if a0=1 then ((paths_split.f a1).bind fun bt295=>(if 4 + bt295.2.size≤9223372036854775807 then ((paths_below.f bt295.1 ((⟨#[46,119,104,46]⟩:ByteArray) ++ bt295.2)).bind fun t297=>((paths_Mark.f k t297).bind fun bt298=>(if bt298.2.2=true then (if bt298.1=a0 then (if bt298.2.1.toList=a1.toList then (some (t297,true)) else (some ((⟨#[]⟩:ByteArray),false))) else (some ((⟨#[]⟩:ByteArray),false))) else (some ((⟨#[]⟩:ByteArray),false))))) else (none))) else (if a0=2 then ((paths_below.f a1 (⟨#[46,119,104,46,46,119,104,46,46,111,112,113]⟩:ByteArray)).bind fun t301=>((paths_Mark.f k t301).bind fun bt302=>(if bt302.2.2=true then (if bt302.1=a0 then (if bt302.2.1.toList=a1.toList then (some (t301,true)) else (some ((⟨#[]⟩:ByteArray),false))) else (some ((⟨#[]⟩:ByteArray),false))) else (some ((⟨#[]⟩:ByteArray),false))))) else ((paths_Mark.f k a1).bind fun bt305=>(if bt305.2.2=true then (if bt305.1=a0 then (if bt305.2.1.toList=a1.toList then (some (a1,true)) else (some ((⟨#[]⟩:ByteArray),false))) else (some ((⟨#[]⟩:ByteArray),false))) else (some ((⟨#[]⟩:ByteArray),false)))))
set_option maxHeartbeats 8000000 in
set_option maxRecDepth 100000 in
theorem paths_Unmark.calls (k:Nat) (a0:Int) (a1:ByteArray) (r1:ByteArray) (r2:Bool) (w:World) (hG:GL w) (h:paths_Unmark.f k a0 a1=some (r1,r2)) :
  Calls Tryz.prog 64 #[.int .i64 a0,.string a1] w fun e w'=>e=.returned (.tuple #[.string r1,.bool r2])∧Below w.heap.size w w':=by
 have HB:=pz4.mk (Below.refl w.heap.size w)
 have H:(if a0=1 then ((paths_split.f a1).bind fun bt295=>(if 4 + bt295.2.size≤9223372036854775807 then ((paths_below.f bt295.1 ((⟨#[46,119,104,46]⟩:ByteArray) ++ bt295.2)).bind fun t297=>((paths_Mark.f k t297).bind fun bt298=>(if bt298.2.2=true then (if bt298.1=a0 then (if bt298.2.1.toList=a1.toList then (some (t297,true)) else (some ((⟨#[]⟩:ByteArray),false))) else (some ((⟨#[]⟩:ByteArray),false))) else (some ((⟨#[]⟩:ByteArray),false))))) else (none))) else (if a0=2 then ((paths_below.f a1 (⟨#[46,119,104,46,46,119,104,46,46,111,112,113]⟩:ByteArray)).bind fun t301=>((paths_Mark.f k t301).bind fun bt302=>(if bt302.2.2=true then (if bt302.1=a0 then (if bt302.2.1.toList=a1.toList then (some (t301,true)) else (some ((⟨#[]⟩:ByteArray),false))) else (some ((⟨#[]⟩:ByteArray),false))) else (some ((⟨#[]⟩:ByteArray),false))))) else ((paths_Mark.f k a1).bind fun bt305=>(if bt305.2.2=true then (if bt305.1=a0 then (if bt305.2.1.toList=a1.toList then (some (a1,true)) else (some ((⟨#[]⟩:ByteArray),false))) else (some ((⟨#[]⟩:ByteArray),false))) else (some ((⟨#[]⟩:ByteArray),false))))))=some (r1,r2):=h
 clear h
 by_cases c3:a0=1
 ·rw [if_pos c3] at H
  have c3b0:(a0 == 1)=true:=beq_iff_eq.mpr c3
  have c3b1:(a0 != 1)=false:=bne_eq_false_iff_eq.mpr c3
  clear c3
  replace H:=Option.bind_eq_some_iff.mp H
  obtain ⟨⟨t295,t296⟩,A40,H⟩:=H
  replace H:(if 4 + t296.size≤9223372036854775807 then ((paths_below.f t295 ((⟨#[46,119,104,46]⟩:ByteArray) ++ t296)).bind fun t297=>((paths_Mark.f k t297).bind fun bt298=>(if bt298.2.2=true then (if bt298.1=a0 then (if bt298.2.1.toList=a1.toList then (some (t297,true)) else (some ((⟨#[]⟩:ByteArray),false))) else (some ((⟨#[]⟩:ByteArray),false))) else (some ((⟨#[]⟩:ByteArray),false))))) else (none))=some (r1,r2):=H
  have A4:=pz4.mk A40
  clear A40
  by_cases c5:4 + t296.size≤9223372036854775807
  ·rw [if_pos c5] at H
   have c5b0:=eq_true c5
   have c5b1:decide (4 + t296.size≤9223372036854775807)=true:=decide_eq_true c5
   try have c5b2:(9223372036854775807<4 + t296.size)=False:=eq_false (Nat.not_lt.2 c5)
   replace H:=Option.bind_eq_some_iff.mp H
   obtain ⟨t297,A60,H⟩:=H
   replace H:((paths_Mark.f k t297).bind fun bt298=>(if bt298.2.2=true then (if bt298.1=a0 then (if bt298.2.1.toList=a1.toList then (some (t297,true)) else (some ((⟨#[]⟩:ByteArray),false))) else (some ((⟨#[]⟩:ByteArray),false))) else (some ((⟨#[]⟩:ByteArray),false))))=some (r1,r2):=H
   have A6:=pz4.mk A60
   clear A60
   replace H:=Option.bind_eq_some_iff.mp H
   obtain ⟨⟨t298,t299,t300⟩,A70,H⟩:=H
   replace H:(if t300=true then (if t298=a0 then (if t299.toList=a1.toList then (some (t297,true)) else (some ((⟨#[]⟩:ByteArray),false))) else (some ((⟨#[]⟩:ByteArray),false))) else (some ((⟨#[]⟩:ByteArray),false)))=some (r1,r2):=H
   have A7:=pz4.mk A70
   clear A70
   by_cases c8:t300=true
   ·subst c8
    have H1:(if t298=a0 then (if t299.toList=a1.toList then (some (t297,true)) else (some ((⟨#[]⟩:ByteArray),false))) else (some ((⟨#[]⟩:ByteArray),false)))=some (r1,r2):=by rw [if_pos rfl] at H;exact H
    clear H
    have H:=H1
    clear H1
    by_cases c9:t298=a0
    ·rw [if_pos c9] at H
     have c9b0:(t298 == a0)=true:=beq_iff_eq.mpr c9
     have c9b1:(t298 != a0)=false:=bne_eq_false_iff_eq.mpr c9
     clear c9
     by_cases c10:t299.toList=a1.toList
     ·rw [if_pos c10] at H
      have c10b0:(t299.toList == a1.toList)=true:=beq_iff_eq.mpr c10
      have c10b1:(t299.toList != a1.toList)=false:=bne_eq_false_iff_eq.mpr c10
      clear c10
      simp only [Option.some.injEq,Prod.mk.injEq] at H
      obtain ⟨rfl,rfl⟩:=H
      go_enter Tryz.func64,Tryz.ntmps64
      go_wp2_with (first|((with_reducible refine pz8 (f:=41) rfl ?_);refine pz21 (some 18) rfl rfl Tryz.func41 (by kernel_rfl) rfl #[.string a1] rfl (by (try simp only [pM]);first|done|rfl|(simp only [pL];rfl)) ?_;(with_reducible refine (paths_split.calls a1 t295 t296 _ A4.out).mono ?_);rintro e w11 ⟨rfl,hb⟩;refine ⟨_,rfl,?_⟩;have n0_:=pz4.mk (pz9 (by repeat (first|(with_reducible first|exact HB.out|apply pz3|apply pz1|apply pz2)|exact HB.out)) hb);clear HB;have HB:=n0_;clear n0_;(try clear hb);(try clear hb2);(try clear hk);(try clear hi))|((with_reducible refine pz8 (f:=94) rfl ?_);refine pz21 (some 24) rfl rfl Tryz.func94 (by kernel_rfl) rfl #[.string t295,.string ((⟨#[46,119,104,46]⟩:ByteArray) ++ t296)] rfl (by (try simp only [pM]);first|done|rfl|(simp only [pL];rfl)) ?_;(with_reducible refine (paths_below.calls t295 ((⟨#[46,119,104,46]⟩:ByteArray) ++ t296) t297 _ A6.out).mono ?_);rintro e w' ⟨rfl,⟨nd,rfl⟩⟩;refine ⟨_,rfl,?_⟩)|((with_reducible refine pz8 (f:=67) rfl ?_);refine pz21 (some 31) rfl rfl Tryz.func67 (by kernel_rfl) rfl #[.string t297] rfl (by (try simp only [pM]);first|done|rfl|(simp only [pL];rfl)) ?_;(with_reducible refine (paths_Mark.calls k t297 t298 t299 true _ (hG.ext (by repeat (first|(with_reducible first|exact HB.out|apply pz3|apply pz1|apply pz2)|exact HB.out))) A7.out).mono ?_);rintro e w12 ⟨rfl,hb⟩;refine ⟨_,rfl,?_⟩;have n0_:=pz4.mk (pz9 (by repeat (first|(with_reducible first|exact HB.out|apply pz3|apply pz1|apply pz2)|exact HB.out)) hb);clear HB;have HB:=n0_;clear n0_;(try clear hb);(try clear hb2);(try clear hk);(try clear hi)))
      go_ret2
      exact ⟨by first|rfl|(simp [pz6,pz5] <;> rfl)|(simp [*,pz6,pz5] <;> rfl),by repeat (first|(with_reducible first|exact HB.out|apply pz3|apply pz1|apply pz2)|exact HB.out)⟩
     ·rw [if_neg c10] at H
      have c10b0:(t299.toList == a1.toList)=false:=beq_eq_false_iff_ne.mpr c10
      have c10b1:(t299.toList != a1.toList)=true:=bne_iff_ne.mpr c10
      simp only [Option.some.injEq,Prod.mk.injEq] at H
      obtain ⟨rfl,rfl⟩:=H
      go_enter Tryz.func64,Tryz.ntmps64
      go_wp2_with (first|((with_reducible refine pz8 (f:=41) rfl ?_);refine pz21 (some 18) rfl rfl Tryz.func41 (by kernel_rfl) rfl #[.string a1] rfl (by (try simp only [pM]);first|done|rfl|(simp only [pL];rfl)) ?_;(with_reducible refine (paths_split.calls a1 t295 t296 _ A4.out).mono ?_);rintro e w13 ⟨rfl,hb⟩;refine ⟨_,rfl,?_⟩;have n0_:=pz4.mk (pz9 (by repeat (first|(with_reducible first|exact HB.out|apply pz3|apply pz1|apply pz2)|exact HB.out)) hb);clear HB;have HB:=n0_;clear n0_;(try clear hb);(try clear hb2);(try clear hk);(try clear hi))|((with_reducible refine pz8 (f:=94) rfl ?_);refine pz21 (some 24) rfl rfl Tryz.func94 (by kernel_rfl) rfl #[.string t295,.string ((⟨#[46,119,104,46]⟩:ByteArray) ++ t296)] rfl (by (try simp only [pM]);first|done|rfl|(simp only [pL];rfl)) ?_;(with_reducible refine (paths_below.calls t295 ((⟨#[46,119,104,46]⟩:ByteArray) ++ t296) t297 _ A6.out).mono ?_);rintro e w' ⟨rfl,⟨nd,rfl⟩⟩;refine ⟨_,rfl,?_⟩)|((with_reducible refine pz8 (f:=67) rfl ?_);refine pz21 (some 31) rfl rfl Tryz.func67 (by kernel_rfl) rfl #[.string t297] rfl (by (try simp only [pM]);first|done|rfl|(simp only [pL];rfl)) ?_;(with_reducible refine (paths_Mark.calls k t297 t298 t299 true _ (hG.ext (by repeat (first|(with_reducible first|exact HB.out|apply pz3|apply pz1|apply pz2)|exact HB.out))) A7.out).mono ?_);rintro e w14 ⟨rfl,hb⟩;refine ⟨_,rfl,?_⟩;have n0_:=pz4.mk (pz9 (by repeat (first|(with_reducible first|exact HB.out|apply pz3|apply pz1|apply pz2)|exact HB.out)) hb);clear HB;have HB:=n0_;clear n0_;(try clear hb);(try clear hb2);(try clear hk);(try clear hi)))
      go_ret2
      exact ⟨by first|rfl|(simp [pz6,pz5] <;> rfl)|(simp [*,pz6,pz5] <;> rfl),by repeat (first|(with_reducible first|exact HB.out|apply pz3|apply pz1|apply pz2)|exact HB.out)⟩
    ·rw [if_neg c9] at H
     have c9b0:(t298 == a0)=false:=beq_eq_false_iff_ne.mpr c9
     have c9b1:(t298 != a0)=true:=bne_iff_ne.mpr c9
     simp only [Option.some.injEq,Prod.mk.injEq] at H
     obtain ⟨rfl,rfl⟩:=H
     go_enter Tryz.func64,Tryz.ntmps64
     go_wp2_with (first|((with_reducible refine pz8 (f:=41) rfl ?_);refine pz21 (some 18) rfl rfl Tryz.func41 (by kernel_rfl) rfl #[.string a1] rfl (by (try simp only [pM]);first|done|rfl|(simp only [pL];rfl)) ?_;(with_reducible refine (paths_split.calls a1 t295 t296 _ A4.out).mono ?_);rintro e w15 ⟨rfl,hb⟩;refine ⟨_,rfl,?_⟩;have n0_:=pz4.mk (pz9 (by repeat (first|(with_reducible first|exact HB.out|apply pz3|apply pz1|apply pz2)|exact HB.out)) hb);clear HB;have HB:=n0_;clear n0_;(try clear hb);(try clear hb2);(try clear hk);(try clear hi))|((with_reducible refine pz8 (f:=94) rfl ?_);refine pz21 (some 24) rfl rfl Tryz.func94 (by kernel_rfl) rfl #[.string t295,.string ((⟨#[46,119,104,46]⟩:ByteArray) ++ t296)] rfl (by (try simp only [pM]);first|done|rfl|(simp only [pL];rfl)) ?_;(with_reducible refine (paths_below.calls t295 ((⟨#[46,119,104,46]⟩:ByteArray) ++ t296) t297 _ A6.out).mono ?_);rintro e w' ⟨rfl,⟨nd,rfl⟩⟩;refine ⟨_,rfl,?_⟩)|((with_reducible refine pz8 (f:=67) rfl ?_);refine pz21 (some 31) rfl rfl Tryz.func67 (by kernel_rfl) rfl #[.string t297] rfl (by (try simp only [pM]);first|done|rfl|(simp only [pL];rfl)) ?_;(with_reducible refine (paths_Mark.calls k t297 t298 t299 true _ (hG.ext (by repeat (first|(with_reducible first|exact HB.out|apply pz3|apply pz1|apply pz2)|exact HB.out))) A7.out).mono ?_);rintro e w16 ⟨rfl,hb⟩;refine ⟨_,rfl,?_⟩;have n0_:=pz4.mk (pz9 (by repeat (first|(with_reducible first|exact HB.out|apply pz3|apply pz1|apply pz2)|exact HB.out)) hb);clear HB;have HB:=n0_;clear n0_;(try clear hb);(try clear hb2);(try clear hk);(try clear hi)))
     go_ret2
     exact ⟨by first|rfl|(simp [pz6,pz5] <;> rfl)|(simp [*,pz6,pz5] <;> rfl),by repeat (first|(with_reducible first|exact HB.out|apply pz3|apply pz1|apply pz2)|exact HB.out)⟩
   ·replace c8:=Bool.eq_false_iff.mpr c8
    subst c8
    have H1:(some ((⟨#[]⟩:ByteArray),false))=some (r1,r2):=by rw [if_neg (show ¬ (false=true) by decide)] at H;exact H
    clear H
    have H:=H1
    clear H1
    simp only [Option.some.injEq,Prod.mk.injEq] at H
    obtain ⟨rfl,rfl⟩:=H
    go_enter Tryz.func64,Tryz.ntmps64
    go_wp2_with (first|((with_reducible refine pz8 (f:=41) rfl ?_);refine pz21 (some 18) rfl rfl Tryz.func41 (by kernel_rfl) rfl #[.string a1] rfl (by (try simp only [pM]);first|done|rfl|(simp only [pL];rfl)) ?_;(with_reducible refine (paths_split.calls a1 t295 t296 _ A4.out).mono ?_);rintro e w17 ⟨rfl,hb⟩;refine ⟨_,rfl,?_⟩;have n0_:=pz4.mk (pz9 (by repeat (first|(with_reducible first|exact HB.out|apply pz3|apply pz1|apply pz2)|exact HB.out)) hb);clear HB;have HB:=n0_;clear n0_;(try clear hb);(try clear hb2);(try clear hk);(try clear hi))|((with_reducible refine pz8 (f:=94) rfl ?_);refine pz21 (some 24) rfl rfl Tryz.func94 (by kernel_rfl) rfl #[.string t295,.string ((⟨#[46,119,104,46]⟩:ByteArray) ++ t296)] rfl (by (try simp only [pM]);first|done|rfl|(simp only [pL];rfl)) ?_;(with_reducible refine (paths_below.calls t295 ((⟨#[46,119,104,46]⟩:ByteArray) ++ t296) t297 _ A6.out).mono ?_);rintro e w' ⟨rfl,⟨nd,rfl⟩⟩;refine ⟨_,rfl,?_⟩)|((with_reducible refine pz8 (f:=67) rfl ?_);refine pz21 (some 31) rfl rfl Tryz.func67 (by kernel_rfl) rfl #[.string t297] rfl (by (try simp only [pM]);first|done|rfl|(simp only [pL];rfl)) ?_;(with_reducible refine (paths_Mark.calls k t297 t298 t299 false _ (hG.ext (by repeat (first|(with_reducible first|exact HB.out|apply pz3|apply pz1|apply pz2)|exact HB.out))) A7.out).mono ?_);rintro e w18 ⟨rfl,hb⟩;refine ⟨_,rfl,?_⟩;have n0_:=pz4.mk (pz9 (by repeat (first|(with_reducible first|exact HB.out|apply pz3|apply pz1|apply pz2)|exact HB.out)) hb);clear HB;have HB:=n0_;clear n0_;(try clear hb);(try clear hb2);(try clear hk);(try clear hi)))
    go_ret2
    exact ⟨by first|rfl|(simp [pz6,pz5] <;> rfl)|(simp [*,pz6,pz5] <;> rfl),by repeat (first|(with_reducible first|exact HB.out|apply pz3|apply pz1|apply pz2)|exact HB.out)⟩
  ·rw [if_neg c5] at H
   exact absurd H (by simp)
 ·rw [if_neg c3] at H
  have c3b0:(a0 == 1)=false:=beq_eq_false_iff_ne.mpr c3
  have c3b1:(a0 != 1)=true:=bne_iff_ne.mpr c3
  by_cases c19:a0=2
  ·rw [if_pos c19] at H
   have c19b0:(a0 == 2)=true:=beq_iff_eq.mpr c19
   have c19b1:(a0 != 2)=false:=bne_eq_false_iff_eq.mpr c19
   clear c19
   replace H:=Option.bind_eq_some_iff.mp H
   obtain ⟨t301,A200,H⟩:=H
   replace H:((paths_Mark.f k t301).bind fun bt302=>(if bt302.2.2=true then (if bt302.1=a0 then (if bt302.2.1.toList=a1.toList then (some (t301,true)) else (some ((⟨#[]⟩:ByteArray),false))) else (some ((⟨#[]⟩:ByteArray),false))) else (some ((⟨#[]⟩:ByteArray),false))))=some (r1,r2):=H
   have A20:=pz4.mk A200
   clear A200
   replace H:=Option.bind_eq_some_iff.mp H
   obtain ⟨⟨t302,t303,t304⟩,A210,H⟩:=H
   replace H:(if t304=true then (if t302=a0 then (if t303.toList=a1.toList then (some (t301,true)) else (some ((⟨#[]⟩:ByteArray),false))) else (some ((⟨#[]⟩:ByteArray),false))) else (some ((⟨#[]⟩:ByteArray),false)))=some (r1,r2):=H
   have A21:=pz4.mk A210
   clear A210
   by_cases c22:t304=true
   ·subst c22
    have H1:(if t302=a0 then (if t303.toList=a1.toList then (some (t301,true)) else (some ((⟨#[]⟩:ByteArray),false))) else (some ((⟨#[]⟩:ByteArray),false)))=some (r1,r2):=by rw [if_pos rfl] at H;exact H
    clear H
    have H:=H1
    clear H1
    by_cases c23:t302=a0
    ·rw [if_pos c23] at H
     have c23b0:(t302 == a0)=true:=beq_iff_eq.mpr c23
     have c23b1:(t302 != a0)=false:=bne_eq_false_iff_eq.mpr c23
     clear c23
     by_cases c24:t303.toList=a1.toList
     ·rw [if_pos c24] at H
      have c24b0:(t303.toList == a1.toList)=true:=beq_iff_eq.mpr c24
      have c24b1:(t303.toList != a1.toList)=false:=bne_eq_false_iff_eq.mpr c24
      clear c24
      simp only [Option.some.injEq,Prod.mk.injEq] at H
      obtain ⟨rfl,rfl⟩:=H
      go_enter Tryz.func64,Tryz.ntmps64
      go_wp2_with (first|((with_reducible refine pz8 (f:=94) rfl ?_);refine pz21 (some 28) rfl rfl Tryz.func94 (by kernel_rfl) rfl #[.string a1,.string (⟨#[46,119,104,46,46,119,104,46,46,111,112,113]⟩:ByteArray)] rfl (by (try simp only [pM]);first|done|rfl|(simp only [pL];rfl)) ?_;(with_reducible refine (paths_below.calls a1 (⟨#[46,119,104,46,46,119,104,46,46,111,112,113]⟩:ByteArray) t301 _ A20.out).mono ?_);rintro e w' ⟨rfl,⟨nd,rfl⟩⟩;refine ⟨_,rfl,?_⟩)|((with_reducible refine pz8 (f:=67) rfl ?_);refine pz21 (some 31) rfl rfl Tryz.func67 (by kernel_rfl) rfl #[.string t301] rfl (by (try simp only [pM]);first|done|rfl|(simp only [pL];rfl)) ?_;(with_reducible refine (paths_Mark.calls k t301 t302 t303 true _ (hG.ext (by repeat (first|(with_reducible first|exact HB.out|apply pz3|apply pz1|apply pz2)|exact HB.out))) A21.out).mono ?_);rintro e w25 ⟨rfl,hb⟩;refine ⟨_,rfl,?_⟩;have n0_:=pz4.mk (pz9 (by repeat (first|(with_reducible first|exact HB.out|apply pz3|apply pz1|apply pz2)|exact HB.out)) hb);clear HB;have HB:=n0_;clear n0_;(try clear hb);(try clear hb2);(try clear hk);(try clear hi)))
      go_ret2
      exact ⟨by first|rfl|(simp [pz6,pz5] <;> rfl)|(simp [*,pz6,pz5] <;> rfl),by repeat (first|(with_reducible first|exact HB.out|apply pz3|apply pz1|apply pz2)|exact HB.out)⟩
     ·rw [if_neg c24] at H
      have c24b0:(t303.toList == a1.toList)=false:=beq_eq_false_iff_ne.mpr c24
      have c24b1:(t303.toList != a1.toList)=true:=bne_iff_ne.mpr c24
      simp only [Option.some.injEq,Prod.mk.injEq] at H
      obtain ⟨rfl,rfl⟩:=H
      go_enter Tryz.func64,Tryz.ntmps64
      go_wp2_with (first|((with_reducible refine pz8 (f:=94) rfl ?_);refine pz21 (some 28) rfl rfl Tryz.func94 (by kernel_rfl) rfl #[.string a1,.string (⟨#[46,119,104,46,46,119,104,46,46,111,112,113]⟩:ByteArray)] rfl (by (try simp only [pM]);first|done|rfl|(simp only [pL];rfl)) ?_;(with_reducible refine (paths_below.calls a1 (⟨#[46,119,104,46,46,119,104,46,46,111,112,113]⟩:ByteArray) t301 _ A20.out).mono ?_);rintro e w' ⟨rfl,⟨nd,rfl⟩⟩;refine ⟨_,rfl,?_⟩)|((with_reducible refine pz8 (f:=67) rfl ?_);refine pz21 (some 31) rfl rfl Tryz.func67 (by kernel_rfl) rfl #[.string t301] rfl (by (try simp only [pM]);first|done|rfl|(simp only [pL];rfl)) ?_;(with_reducible refine (paths_Mark.calls k t301 t302 t303 true _ (hG.ext (by repeat (first|(with_reducible first|exact HB.out|apply pz3|apply pz1|apply pz2)|exact HB.out))) A21.out).mono ?_);rintro e w26 ⟨rfl,hb⟩;refine ⟨_,rfl,?_⟩;have n0_:=pz4.mk (pz9 (by repeat (first|(with_reducible first|exact HB.out|apply pz3|apply pz1|apply pz2)|exact HB.out)) hb);clear HB;have HB:=n0_;clear n0_;(try clear hb);(try clear hb2);(try clear hk);(try clear hi)))
      go_ret2
      exact ⟨by first|rfl|(simp [pz6,pz5] <;> rfl)|(simp [*,pz6,pz5] <;> rfl),by repeat (first|(with_reducible first|exact HB.out|apply pz3|apply pz1|apply pz2)|exact HB.out)⟩
    ·rw [if_neg c23] at H
     have c23b0:(t302 == a0)=false:=beq_eq_false_iff_ne.mpr c23
     have c23b1:(t302 != a0)=true:=bne_iff_ne.mpr c23
     simp only [Option.some.injEq,Prod.mk.injEq] at H
     obtain ⟨rfl,rfl⟩:=H
     go_enter Tryz.func64,Tryz.ntmps64
     go_wp2_with (first|((with_reducible refine pz8 (f:=94) rfl ?_);refine pz21 (some 28) rfl rfl Tryz.func94 (by kernel_rfl) rfl #[.string a1,.string (⟨#[46,119,104,46,46,119,104,46,46,111,112,113]⟩:ByteArray)] rfl (by (try simp only [pM]);first|done|rfl|(simp only [pL];rfl)) ?_;(with_reducible refine (paths_below.calls a1 (⟨#[46,119,104,46,46,119,104,46,46,111,112,113]⟩:ByteArray) t301 _ A20.out).mono ?_);rintro e w' ⟨rfl,⟨nd,rfl⟩⟩;refine ⟨_,rfl,?_⟩)|((with_reducible refine pz8 (f:=67) rfl ?_);refine pz21 (some 31) rfl rfl Tryz.func67 (by kernel_rfl) rfl #[.string t301] rfl (by (try simp only [pM]);first|done|rfl|(simp only [pL];rfl)) ?_;(with_reducible refine (paths_Mark.calls k t301 t302 t303 true _ (hG.ext (by repeat (first|(with_reducible first|exact HB.out|apply pz3|apply pz1|apply pz2)|exact HB.out))) A21.out).mono ?_);rintro e w27 ⟨rfl,hb⟩;refine ⟨_,rfl,?_⟩;have n0_:=pz4.mk (pz9 (by repeat (first|(with_reducible first|exact HB.out|apply pz3|apply pz1|apply pz2)|exact HB.out)) hb);clear HB;have HB:=n0_;clear n0_;(try clear hb);(try clear hb2);(try clear hk);(try clear hi)))
     go_ret2
     exact ⟨by first|rfl|(simp [pz6,pz5] <;> rfl)|(simp [*,pz6,pz5] <;> rfl),by repeat (first|(with_reducible first|exact HB.out|apply pz3|apply pz1|apply pz2)|exact HB.out)⟩
   ·replace c22:=Bool.eq_false_iff.mpr c22
    subst c22
    have H1:(some ((⟨#[]⟩:ByteArray),false))=some (r1,r2):=by rw [if_neg (show ¬ (false=true) by decide)] at H;exact H
    clear H
    have H:=H1
    clear H1
    simp only [Option.some.injEq,Prod.mk.injEq] at H
    obtain ⟨rfl,rfl⟩:=H
    go_enter Tryz.func64,Tryz.ntmps64
    go_wp2_with (first|((with_reducible refine pz8 (f:=94) rfl ?_);refine pz21 (some 28) rfl rfl Tryz.func94 (by kernel_rfl) rfl #[.string a1,.string (⟨#[46,119,104,46,46,119,104,46,46,111,112,113]⟩:ByteArray)] rfl (by (try simp only [pM]);first|done|rfl|(simp only [pL];rfl)) ?_;(with_reducible refine (paths_below.calls a1 (⟨#[46,119,104,46,46,119,104,46,46,111,112,113]⟩:ByteArray) t301 _ A20.out).mono ?_);rintro e w' ⟨rfl,⟨nd,rfl⟩⟩;refine ⟨_,rfl,?_⟩)|((with_reducible refine pz8 (f:=67) rfl ?_);refine pz21 (some 31) rfl rfl Tryz.func67 (by kernel_rfl) rfl #[.string t301] rfl (by (try simp only [pM]);first|done|rfl|(simp only [pL];rfl)) ?_;(with_reducible refine (paths_Mark.calls k t301 t302 t303 false _ (hG.ext (by repeat (first|(with_reducible first|exact HB.out|apply pz3|apply pz1|apply pz2)|exact HB.out))) A21.out).mono ?_);rintro e w28 ⟨rfl,hb⟩;refine ⟨_,rfl,?_⟩;have n0_:=pz4.mk (pz9 (by repeat (first|(with_reducible first|exact HB.out|apply pz3|apply pz1|apply pz2)|exact HB.out)) hb);clear HB;have HB:=n0_;clear n0_;(try clear hb);(try clear hb2);(try clear hk);(try clear hi)))
    go_ret2
    exact ⟨by first|rfl|(simp [pz6,pz5] <;> rfl)|(simp [*,pz6,pz5] <;> rfl),by repeat (first|(with_reducible first|exact HB.out|apply pz3|apply pz1|apply pz2)|exact HB.out)⟩
  ·rw [if_neg c19] at H
   have c19b0:(a0 == 2)=false:=beq_eq_false_iff_ne.mpr c19
   have c19b1:(a0 != 2)=true:=bne_iff_ne.mpr c19
   replace H:=Option.bind_eq_some_iff.mp H
   obtain ⟨⟨t305,t306,t307⟩,A290,H⟩:=H
   replace H:(if t307=true then (if t305=a0 then (if t306.toList=a1.toList then (some (a1,true)) else (some ((⟨#[]⟩:ByteArray),false))) else (some ((⟨#[]⟩:ByteArray),false))) else (some ((⟨#[]⟩:ByteArray),false)))=some (r1,r2):=H
   have A29:=pz4.mk A290
   clear A290
   by_cases c30:t307=true
   ·subst c30
    have H1:(if t305=a0 then (if t306.toList=a1.toList then (some (a1,true)) else (some ((⟨#[]⟩:ByteArray),false))) else (some ((⟨#[]⟩:ByteArray),false)))=some (r1,r2):=by rw [if_pos rfl] at H;exact H
    clear H
    have H:=H1
    clear H1
    by_cases c31:t305=a0
    ·rw [if_pos c31] at H
     have c31b0:(t305 == a0)=true:=beq_iff_eq.mpr c31
     have c31b1:(t305 != a0)=false:=bne_eq_false_iff_eq.mpr c31
     clear c31
     by_cases c32:t306.toList=a1.toList
     ·rw [if_pos c32] at H
      have c32b0:(t306.toList == a1.toList)=true:=beq_iff_eq.mpr c32
      have c32b1:(t306.toList != a1.toList)=false:=bne_eq_false_iff_eq.mpr c32
      clear c32
      simp only [Option.some.injEq,Prod.mk.injEq] at H
      obtain ⟨rfl,rfl⟩:=H
      go_enter Tryz.func64,Tryz.ntmps64
      go_wp2_with (first|((with_reducible refine pz8 (f:=67) rfl ?_);refine pz21 (some 31) rfl rfl Tryz.func67 (by kernel_rfl) rfl #[.string a1] rfl (by (try simp only [pM]);first|done|rfl|(simp only [pL];rfl)) ?_;(with_reducible refine (paths_Mark.calls k a1 t305 t306 true _ (hG.ext (by repeat (first|(with_reducible first|exact HB.out|apply pz3|apply pz1|apply pz2)|exact HB.out))) A29.out).mono ?_);rintro e w33 ⟨rfl,hb⟩;refine ⟨_,rfl,?_⟩;have n0_:=pz4.mk (pz9 (by repeat (first|(with_reducible first|exact HB.out|apply pz3|apply pz1|apply pz2)|exact HB.out)) hb);clear HB;have HB:=n0_;clear n0_;(try clear hb);(try clear hb2);(try clear hk);(try clear hi)))
      go_ret2
      exact ⟨by first|rfl|(simp [pz6,pz5] <;> rfl)|(simp [*,pz6,pz5] <;> rfl),by repeat (first|(with_reducible first|exact HB.out|apply pz3|apply pz1|apply pz2)|exact HB.out)⟩
     ·rw [if_neg c32] at H
      have c32b0:(t306.toList == a1.toList)=false:=beq_eq_false_iff_ne.mpr c32
      have c32b1:(t306.toList != a1.toList)=true:=bne_iff_ne.mpr c32
      simp only [Option.some.injEq,Prod.mk.injEq] at H
      obtain ⟨rfl,rfl⟩:=H
      go_enter Tryz.func64,Tryz.ntmps64
      go_wp2_with (first|((with_reducible refine pz8 (f:=67) rfl ?_);refine pz21 (some 31) rfl rfl Tryz.func67 (by kernel_rfl) rfl #[.string a1] rfl (by (try simp only [pM]);first|done|rfl|(simp only [pL];rfl)) ?_;(with_reducible refine (paths_Mark.calls k a1 t305 t306 true _ (hG.ext (by repeat (first|(with_reducible first|exact HB.out|apply pz3|apply pz1|apply pz2)|exact HB.out))) A29.out).mono ?_);rintro e w34 ⟨rfl,hb⟩;refine ⟨_,rfl,?_⟩;have n0_:=pz4.mk (pz9 (by repeat (first|(with_reducible first|exact HB.out|apply pz3|apply pz1|apply pz2)|exact HB.out)) hb);clear HB;have HB:=n0_;clear n0_;(try clear hb);(try clear hb2);(try clear hk);(try clear hi)))
      go_ret2
      exact ⟨by first|rfl|(simp [pz6,pz5] <;> rfl)|(simp [*,pz6,pz5] <;> rfl),by repeat (first|(with_reducible first|exact HB.out|apply pz3|apply pz1|apply pz2)|exact HB.out)⟩
    ·rw [if_neg c31] at H
     have c31b0:(t305 == a0)=false:=beq_eq_false_iff_ne.mpr c31
     have c31b1:(t305 != a0)=true:=bne_iff_ne.mpr c31
     simp only [Option.some.injEq,Prod.mk.injEq] at H
     obtain ⟨rfl,rfl⟩:=H
     go_enter Tryz.func64,Tryz.ntmps64
     go_wp2_with (first|((with_reducible refine pz8 (f:=67) rfl ?_);refine pz21 (some 31) rfl rfl Tryz.func67 (by kernel_rfl) rfl #[.string a1] rfl (by (try simp only [pM]);first|done|rfl|(simp only [pL];rfl)) ?_;(with_reducible refine (paths_Mark.calls k a1 t305 t306 true _ (hG.ext (by repeat (first|(with_reducible first|exact HB.out|apply pz3|apply pz1|apply pz2)|exact HB.out))) A29.out).mono ?_);rintro e w35 ⟨rfl,hb⟩;refine ⟨_,rfl,?_⟩;have n0_:=pz4.mk (pz9 (by repeat (first|(with_reducible first|exact HB.out|apply pz3|apply pz1|apply pz2)|exact HB.out)) hb);clear HB;have HB:=n0_;clear n0_;(try clear hb);(try clear hb2);(try clear hk);(try clear hi)))
     go_ret2
     exact ⟨by first|rfl|(simp [pz6,pz5] <;> rfl)|(simp [*,pz6,pz5] <;> rfl),by repeat (first|(with_reducible first|exact HB.out|apply pz3|apply pz1|apply pz2)|exact HB.out)⟩
   ·replace c30:=Bool.eq_false_iff.mpr c30
    subst c30
    have H1:(some ((⟨#[]⟩:ByteArray),false))=some (r1,r2):=by rw [if_neg (show ¬ (false=true) by decide)] at H;exact H
    clear H
    have H:=H1
    clear H1
    simp only [Option.some.injEq,Prod.mk.injEq] at H
    obtain ⟨rfl,rfl⟩:=H
    go_enter Tryz.func64,Tryz.ntmps64
    go_wp2_with (first|((with_reducible refine pz8 (f:=67) rfl ?_);refine pz21 (some 31) rfl rfl Tryz.func67 (by kernel_rfl) rfl #[.string a1] rfl (by (try simp only [pM]);first|done|rfl|(simp only [pL];rfl)) ?_;(with_reducible refine (paths_Mark.calls k a1 t305 t306 false _ (hG.ext (by repeat (first|(with_reducible first|exact HB.out|apply pz3|apply pz1|apply pz2)|exact HB.out))) A29.out).mono ?_);rintro e w36 ⟨rfl,hb⟩;refine ⟨_,rfl,?_⟩;have n0_:=pz4.mk (pz9 (by repeat (first|(with_reducible first|exact HB.out|apply pz3|apply pz1|apply pz2)|exact HB.out)) hb);clear HB;have HB:=n0_;clear n0_;(try clear hb);(try clear hb2);(try clear hk);(try clear hi)))
    go_ret2
    exact ⟨by first|rfl|(simp [pz6,pz5] <;> rfl)|(simp [*,pz6,pz5] <;> rfl),by repeat (first|(with_reducible first|exact HB.out|apply pz3|apply pz1|apply pz2)|exact HB.out)⟩
def paths_Parent.f (a0:ByteArray):Option (ByteArray):=(paths_split.f a0).bind fun bt104=>(some bt104.1)
set_option maxHeartbeats 8000000 in
set_option maxRecDepth 100000 in
theorem paths_Parent.calls (a0:ByteArray) (r:ByteArray) (w:World) (h:paths_Parent.f a0=some r) :
  Calls Tryz.prog 19 #[.string a0] w fun e w'=>e=.returned (.string r)∧Below w.heap.size w w':=by
 have HB:=pz4.mk (Below.refl w.heap.size w)
 have H:((paths_split.f a0).bind fun bt104=>(some bt104.1))=some r:=h
 clear h
 replace H:=Option.bind_eq_some_iff.mp H
 obtain ⟨⟨t104,t105⟩,A20,H⟩:=H
 replace H:(some t104)=some r:=H
 have A2:=pz4.mk A20
 clear A20
 obtain rfl:=Option.some.inj H
 go_enter Tryz.func19,Tryz.ntmps19
 go_wp2_with (first|((with_reducible refine pz8 (f:=41) rfl ?_);refine pz21 (some 7) rfl rfl Tryz.func41 (by kernel_rfl) rfl #[.string a0] rfl (by (try simp only [pM]);first|done|rfl|(simp only [pL];rfl)) ?_;(with_reducible refine (paths_split.calls a0 t104 t105 _ A2.out).mono ?_);rintro e w3 ⟨rfl,hb⟩;refine ⟨_,rfl,?_⟩;have n0_:=pz4.mk (pz9 (by repeat (first|(with_reducible first|exact HB.out|apply pz3|apply pz1|apply pz2)|exact HB.out)) hb);clear HB;have HB:=n0_;clear n0_;(try clear hb);(try clear hb2);(try clear hk);(try clear hi)))
 go_ret
 exact ⟨by first|rfl|(simp [pz6,pz5] <;> rfl)|(simp [*,pz6,pz5] <;> rfl),by repeat (first|(with_reducible first|exact HB.out|apply pz3|apply pz1|apply pz2)|exact HB.out)⟩
def paths_Under.f (a0:ByteArray) (a1:ByteArray):Option (Bool):=if a0.toList=([]:List UInt8) then (if a1.toList=([]:List UInt8) then (some false) else (some true)) else (if a0.size + 1≤9223372036854775807 then ((pq10.f a1 (a0 ++ (⟨#[47]⟩:ByteArray))).bind fun t1234=>(some t1234)) else (none))
set_option maxHeartbeats 8000000 in
set_option maxRecDepth 100000 in
theorem paths_Under.calls (a0:ByteArray) (a1:ByteArray) (r:Bool) (w:World) (h:paths_Under.f a0 a1=some r) :
  Calls Tryz.prog 124 #[.string a0,.string a1] w fun e w'=>e=.returned (.bool r)∧pz17 w w':=by
 have H:(if a0.toList=([]:List UInt8) then (if a1.toList=([]:List UInt8) then (some false) else (some true)) else (if a0.size + 1≤9223372036854775807 then ((pq10.f a1 (a0 ++ (⟨#[47]⟩:ByteArray))).bind fun t1234=>(some t1234)) else (none)))=some r:=h
 clear h
 by_cases c3:a0.toList=([]:List UInt8)
 ·rw [if_pos c3] at H
  have c3b0:(a0.toList == ([]:List UInt8))=true:=beq_iff_eq.mpr c3
  have c3b1:(a0.toList != ([]:List UInt8))=false:=bne_eq_false_iff_eq.mpr c3
  clear c3
  by_cases c4:a1.toList=([]:List UInt8)
  ·rw [if_pos c4] at H
   have c4b0:(a1.toList == ([]:List UInt8))=true:=beq_iff_eq.mpr c4
   have c4b1:(a1.toList != ([]:List UInt8))=false:=bne_eq_false_iff_eq.mpr c4
   clear c4
   obtain rfl:=Option.some.inj H
   go_enter Tryz.func124,Tryz.ntmps124
   go_wp2
   go_ret
   exact ⟨by first|rfl|(simp;done)|(simp [*];done),by repeat (first|exact pz17.refl _|apply pz17.step)⟩
  ·rw [if_neg c4] at H
   have c4b0:(a1.toList == ([]:List UInt8))=false:=beq_eq_false_iff_ne.mpr c4
   have c4b1:(a1.toList != ([]:List UInt8))=true:=bne_iff_ne.mpr c4
   obtain rfl:=Option.some.inj H
   go_enter Tryz.func124,Tryz.ntmps124
   go_wp2
   go_ret
   exact ⟨by first|rfl|(simp;done)|(simp [*];done),by repeat (first|exact pz17.refl _|apply pz17.step)⟩
 ·rw [if_neg c3] at H
  have c3b0:(a0.toList == ([]:List UInt8))=false:=beq_eq_false_iff_ne.mpr c3
  have c3b1:(a0.toList != ([]:List UInt8))=true:=bne_iff_ne.mpr c3
  by_cases c5:a0.size + 1≤9223372036854775807
  ·rw [if_pos c5] at H
   have c5b0:=eq_true c5
   have c5b1:decide (a0.size + 1≤9223372036854775807)=true:=decide_eq_true c5
   try have c5b2:(9223372036854775807<a0.size + 1)=False:=eq_false (Nat.not_lt.2 c5)
   replace H:=Option.bind_eq_some_iff.mp H
   obtain ⟨t1234,A60,H⟩:=H
   replace H:(some t1234)=some r:=H
   have A6:=pz4.mk A60
   clear A60
   obtain rfl:=Option.some.inj H
   go_enter Tryz.func124,Tryz.ntmps124
   go_wp2_with (first|(go_at_call 102;(with_reducible refine (pq10.calls a1 (a0 ++ (⟨#[47]⟩:ByteArray)) t1234 _ A6.out).mono ?_);rintro e w' ⟨rfl,⟨nd,rfl⟩⟩))
   go_ret
   exact ⟨by first|rfl|(simp;done)|(simp [*];done),by repeat (first|exact pz17.refl _|apply pz17.step)⟩
  ·rw [if_neg c5] at H
   exact absurd H (by simp)
end Go.Proofs.Zq
end
section
namespace Go.Proofs.Zq
open Go.RowKit Go.Proofs.YtjghikkboekonaaGreatDoor Go.Proofs.Zw.PrintWords Go.Proofs.Zw.PrintLast
open Go.Proofs.Zt (partM markedM markM opqM isM parM lastM underM markF unmarkF wouldM tarM belowM)
theorem toList_B (l:Str):(B l).toList=l:=by rw [ByteArray.toList_eq]
theorem B_append (a b:Str):B a ++ B b=B (a ++ b):=append_S a b
theorem B_extract (l:Str) (a b:Nat):(B l).extract a b=B ((l.drop a).take (b - a)):=extract_S l a b
theorem wrap_in {x:Int} (h0 : -9223372036854775808≤x) (h1:x≤9223372036854775807):wrap64 x=x:=by unfold wrap64;omega
theorem hp_f (a p:Str):pq10.f (B a) (B p)=some (p.isPrefixOf a):=by
 unfold pq10.f stringslite_HasPrefix.f
 rw [B_size,B_size]
 by_cases h:p.length≤a.length
 ·rw [if_pos (by omega),if_pos (by omega),if_pos (by omega),B_extract,toList_B,toList_B]
  simp only [Option.bind_some,Option.some.injEq]
  rw [List.drop_zero,show ((p.length:Nat):Int).toNat - 0=p.length from by omega,Bool.eq_iff_iff,beq_iff_eq,List.isPrefixOf_iff_prefix,List.prefix_iff_eq_take]
  exact ⟨fun h=>h.symm,fun h=>h.symm⟩
 ·rw [if_neg (by omega)]
  simp only [Option.bind_some,Option.some.injEq]
  cases e:p.isPrefixOf a with
  | false=>rfl
  | true =>
   have:=(List.isPrefixOf_iff_prefix.1 e).length_le
   omega
theorem ib_f (s:Str) (c:UInt8):strings_IndexByte.f (B s) (c.toNat:Int)=some (Lib.indexByte s c):=by
 unfold strings_IndexByte.f
 rw [show ((c.toNat:Int)).toNat.toUInt8=c from by simp]
theorem ib_neg (s:Str) (c:UInt8):decide (Lib.indexByte s c ≥ 0)=s.contains c:=by
 induction s with
 | nil=>simp [Lib.indexByte]
 | cons b r ih =>
  have hg:=Lib.indexByte_ge r c
  unfold Lib.indexByte
  by_cases h:b == c
  ·rw [if_pos h]
   have:c=b:=(beq_iff_eq.1 h).symm
   subst this
   simp
  ·rw [if_neg h]
   have hbc:¬ c=b:=fun e=>h (by rw [e];simp)
   have e2:(b :: r).contains c=r.contains c:=by simp [hbc]
   rw [e2,← ih]
   by_cases h1:Lib.indexByte r c == -1
   ·rw [if_pos h1]
    have:=beq_iff_eq.1 h1
    simp [this]
   ·rw [if_neg h1]
    have h2:Lib.indexByte r c ≠ -1:=fun e=>h1 (by rw [e];rfl)
    simp only [ge_iff_le,decide_eq_decide]
    omega
theorem bad_f (s:Str):pq14.f (B s)=some (!partM s):=by
 unfold pq14.f
 rw [toList_B]
 have h0:=ib_f s 0
 rw [show ((0:UInt8).toNat:Int)=0 from rfl] at h0
 unfold partM
 by_cases h1:s=[]
 ·rw [if_pos h1,h1];rfl
 ·rw [if_neg h1]
  by_cases h2:s=[46]
  ·rw [if_pos h2,h2];rfl
  ·rw [if_neg h2]
   by_cases h3:s=[46,46]
   ·rw [if_pos h3,h3];rfl
   ·rw [if_neg h3,h0]
    simp only [Option.bind_some,Option.some.injEq]
    rw [ib_neg]
    have e1:s.isEmpty=false:=by cases s with|nil=>exact absurd rfl h1|cons _ _=>rfl
    have e2:(s == [46])=false:=by simpa using h2
    have e3:(s == [46,46])=false:=by simpa using h3
    rw [e1,e2,e3]
    simp
theorem long_f (s:Str):pq13.f (B s)=some (!decide (s.length≤251)):=by
 unfold pq13.f
 rw [B_size]
 congr 1
 by_cases h:s.length≤251
 ·simp [h];omega
 ·simp [h];omega
theorem lastOcc_none {x:Str} (h:(47:UInt8) ∉ x):∀ k,Lib.lastOcc x [47] k = -1:=by
 intro k
 induction k with
 | zero=>rfl
 | succ k ih =>
  unfold Lib.lastOcc
  rw [if_neg,ih]
  unfold Lib.occAt
  rw [List.isPrefixOf_iff_prefix]
  rintro ⟨r,hr⟩
  exact h (List.mem_of_mem_drop (i:=k) (by rw [← hr];simp))
theorem lastOcc_hit {u x:Str} (h:(47:UInt8) ∉ x):∀ k,u.length<k→Lib.lastOcc (u ++ 47 :: x) [47] k=(u.length:Int):=by
 intro k
 induction k with
 | zero=>intro h;omega
 | succ k ih =>
  intro hk
  unfold Lib.lastOcc
  by_cases e:k=u.length
  ·subst e
   rw [if_pos]
   unfold Lib.occAt
   simp
  ·rw [if_neg,ih (by omega)]
   unfold Lib.occAt
   rw [List.isPrefixOf_iff_prefix]
   rintro ⟨r,hr⟩
   have:(u ++ 47 :: x).drop k=x.drop (k - u.length - 1):=by
    rw [List.drop_append,List.drop_eq_nil_of_le (by omega),List.nil_append,show k - u.length=(k - u.length - 1) + 1 from by omega,List.drop_succ_cons]
    congr 1
   rw [this] at hr
   exact h (List.mem_of_mem_drop (i:=k - u.length - 1) (by rw [← hr];simp))
theorem split_f (s:Str) (hs:s.length≤4000000000):paths_split.f (B s)=some (B (parM s),B (lastM s)):=by
 unfold paths_split.f strings_LastIndex.f
 rw [if_pos (by rw [B_size];omega)]
 simp only [Option.bind_some,L_B]
 rcases Zt.split_cases s with ⟨_,e,hp⟩|⟨_,e⟩
 ·have hns:(47:UInt8) ∉ s:=by have:=Zt.lastM_slash s;rwa [← e] at this
  have hl:Lib.lastIndex s [47] = -1:=by
   unfold Lib.lastIndex
   split
   ·exact lastOcc_none hns _
   ·rfl
  have hm:mx (-1) 0=0:=by unfold mx;omega
  rw [hl,hm,B_size,wrap_in (by omega) (by omega)]
  rw [if_pos (by omega),if_pos (by omega),if_pos (by omega),if_pos (by omega),hp,B_extract,B_extract]
  congr 2
  rw [← e]
  simp
 ·have hx:=Zt.lastM_slash s
  generalize parM s=u at e ⊢
  generalize lastM s=x at e hx ⊢
  subst e
  have hl:Lib.lastIndex (u ++ 47 :: x) [47]=(u.length:Int):=by
   unfold Lib.lastIndex
   rw [if_pos (by simp;omega)]
   exact lastOcc_hit hx _ (by simp;omega)
  have hm:mx (u.length:Int) 0=(u.length:Int):=by unfold mx;omega
  have hlen:(u ++ 47 :: x).length=u.length + (x.length + 1):=by simp
  rw [hl,hm,B_size,wrap_in (by omega) (by omega)]
  rw [if_pos (by omega),if_pos (by omega),if_pos (by omega),if_pos (by omega),B_extract,B_extract]
  have h1:List.take ((u.length:Int).toNat - 0) (List.drop 0 (u ++ 47 :: x))=u:=by
   rw [List.drop_zero,show (u.length:Int).toNat - 0=u.length from by omega]
   simp
  have h2:List.take ((u ++ 47 :: x).length - (u.length + 1:Int).toNat) (List.drop (u.length + 1:Int).toNat (u ++ 47 :: x))=x:=by
   rw [show (u.length + 1:Int).toNat=u.length + 1 from by omega]
   rw [List.drop_append,List.drop_eq_nil_of_le (by omega),List.nil_append,show u.length + 1 - u.length=0 + 1 from by omega,List.drop_succ_cons,List.drop_zero]
   exact List.take_of_length_le (by omega)
  rw [h1,h2]
theorem parent_f (s:Str) (hs:s.length≤4000000000):paths_Parent.f (B s)=some (B (parM s)):=by
 unfold paths_Parent.f;rw [split_f s hs];rfl
theorem below_f (p x:Str) (h:p.length + x.length≤8000000000):paths_below.f (B p) (B x)=some (B (belowM p x)):=by
 unfold paths_below.f belowM
 rw [toList_B]
 by_cases h1:p=[]
 ·rw [if_pos h1,if_pos h1]
 ·rw [if_neg h1,if_neg h1,B_append,B_size,B_size,B_size,B_append]
  rw [if_pos (by omega),if_pos (by simp;omega)]
  simp
theorem under_f (p q:Str) (h:p.length≤8000000000):paths_Under.f (B p) (B q)=some (underM p q):=by
 unfold paths_Under.f underM
 rw [toList_B,toList_B]
 by_cases h1:p=[]
 ·rw [if_pos h1,if_pos h1]
  cases q <;> simp
 ·rw [if_neg h1,if_neg h1,B_size,if_pos (by omega),B_append,hp_f];rfl
theorem index_hit (c:UInt8):∀ (p r:Str),c ∉ p→Lib.index (p ++ c :: r) [c]=(p.length:Int)
 | [],r,_=>by simp [Lib.index]
 | x :: p,r,h=>by
  have hx:(x == c)=false:=by
   rw [beq_eq_false_iff_ne];rintro rfl;exact h List.mem_cons_self
  have ih:=index_hit c p r (fun hm=>h (List.mem_cons_of_mem _ hm))
  rw [List.cons_append,index_cons_ne _ hx,ih]
  rw [if_neg (by simp)]
  simp
theorem splitB_cut:∀ (k:Nat) (s:Str),s.count 47=k→Lib.splitB (B [47]) 0 k (B s)=(Zt.cutM s).map B:=by
 intro k
 induction k with
 | zero =>
  intro s hk
  have:(47:UInt8) ∉ s:=List.count_eq_zero.1 hk
  rw [Lib.splitB_zero,Zt.cut_one this];rfl
 | succ k ih =>
  intro s hk
  rcases cut1_parts s with ⟨h1,h2⟩|⟨_,h2,h3⟩
  ·obtain ⟨e,hp⟩:=cut1_found 47 s h1
   generalize hq:(cut1 47 s).1=p at e hp h2
   generalize hr:(cut1 47 s).2.1=r at e h2
   have hi:Lib.indexB (B s) (B [47])=(p.length:Int):=by
    show Lib.index s [47]=_
    rw [e];exact index_hit 47 p r hp
   have hcr:r.count 47=k:=by
    rw [e,List.count_append,List.count_cons_self,List.count_eq_zero.2 hp] at hk
    omega
   rw [h2,List.map_cons,← ih r hcr]
   conv=>lhs;unfold Lib.splitB
   rw [hi,if_neg (by simp)]
   rw [B_extract,B_extract,B_size]
   congr 1
   ·congr 1
    rw [e];simp
   ·congr 1
    rw [show ((p.length:Int)).toNat + (B [47]).size=p.length + 1 from by rw [B_size];simp]
    rw [e,List.drop_append,List.drop_eq_nil_of_le (by omega),List.nil_append,show p.length + 1 - p.length=0 + 1 from by omega,List.drop_succ_cons,List.drop_zero]
    rw [List.take_of_length_le (by simp;omega)]
  ·exfalso
   have:=count_parts s
   rw [h2] at this
   simp at this
   omega
theorem cut_len (s:Str):(Zt.cutM s).length≤s.length + 1:=by
 rw [← count_parts]
 have:=List.count_le_length (a:=(47:UInt8)) (l:=s)
 omega
theorem splits_f (s:Str) (hs:s.length≤4000000000):strings_Split.f (B s) (B [47])=some ((Zt.cutM s).map B):=by
 have hc:Lib.countB (B s) (B [47])=s.count 47:=Lib.count_one 47 s
 have hl:=count_parts s
 have:=cut_len s
 unfold strings_Split.f
 rw [hc,splitB_cut _ s rfl]
 rw [if_pos]
 rw [B_size,B_size,List.length_map]
 exact ⟨by omega,by simp,by omega,by omega⟩
end Go.Proofs.Zq
end
section
namespace Go.Proofs.Zq
open Go.RowKit Go.Proofs.Zw.PrintWords Go.Proofs.Zw.PrintLast Go.Proofs.Zw.PrintMore
open Go.Proofs.YtjghikkboekonaaGreatDoor (GL)
attribute [local go_sem] max2_int min2_int max_two min_two pz35 pz36 max_four min_four
def change_tar.f (k:Nat) (a0_0:ByteArray) (a0_1:Int) (a0_2:Int) (a0_3:Int) (a0_4:Int) (a0_5:Int) (a0_6:Int) (a0_7:ByteArray) (a0_8:ByteArray) (a0_9:Int) (a0_10:Int) (a0_11:ByteArray):Option (ByteArray):=(paths_Unmark.f k a0_1 a0_0).bind fun bt309=>(some bt309.1)
set_option maxHeartbeats 8000000 in
set_option maxRecDepth 100000 in
theorem change_tar.calls (k:Nat) (a0_0:ByteArray) (a0_1:Int) (a0_2:Int) (a0_3:Int) (a0_4:Int) (a0_5:Int) (a0_6:Int) (a0_7:ByteArray) (a0_8:ByteArray) (a0_9:Int) (a0_10:Int) (a0_11:ByteArray) (r:ByteArray) (w:World) (hG:GL w) (h:change_tar.f k a0_0 a0_1 a0_2 a0_3 a0_4 a0_5 a0_6 a0_7 a0_8 a0_9 a0_10 a0_11=some r) :
  Calls Tryz.prog 121 #[.agg #[.string a0_0,.int .i64 a0_1,.int .i64 a0_2,.int .i64 a0_3,.int .i64 a0_4,.int .i64 a0_5,.int .i64 a0_6,.string a0_7,.string a0_8,.int .i64 a0_9,.int .i64 a0_10,.string a0_11]] w fun e w'=>e=.returned (.string r)∧Below w.heap.size w w':=by
 have hu57:=Tryz.underlying57
 have HB:=pz4.mk (Below.refl w.heap.size w)
 have H:((paths_Unmark.f k a0_1 a0_0).bind fun bt309=>(some bt309.1))=some r:=h
 clear h
 replace H:=Option.bind_eq_some_iff.mp H
 obtain ⟨⟨t309,t310⟩,A20,H⟩:=H
 replace H:(some t309)=some r:=H
 have A2:=pz4.mk A20
 clear A20
 obtain rfl:=Option.some.inj H
 go_enter Tryz.func121,Tryz.ntmps121
 go_wp2_with (first|((with_reducible refine pz10 (N:=1) rfl ?_);refine pz24 ?hg (N:=1) ?hd (cs:=#[.string a0_0,.int .i64 a0_1,.int .i64 a0_2,.int .i64 a0_3,.int .i64 a0_4,.int .i64 a0_5,.int .i64 a0_6,.string a0_7,.string a0_8,.int .i64 a0_9,.int .i64 a0_10,.string a0_11]) (t:=57) ?hr ?_;(case hd=>rfl);(case hg=>rfl);(case hr=>first|(go_simp;done)|(go_simp;rfl));intro gb308 hg w3 hbox hb;have n0_:=pz4.mk (pz9 (by repeat (first|(with_reducible first|exact HB.out|apply pz3|apply pz1|apply pz2)|exact HB.out)) hb);have n1_:=pz4.mk (hbox);have n2_:=pz4.mk ((by rw [hg];exact (pz20 (by repeat (first|(with_reducible first|exact HB.out|apply pz3|apply pz1|apply pz2)|exact HB.out))):w.heap.size≤gb308));have n3_:=pz4.mk ((by rw [hg];exact (pz20 (by repeat (first|(with_reducible first|exact HB.out|apply pz3|apply pz1|apply pz2)|exact HB.out))):w.heap.size≤gb308));clear HB;have HB:=n0_;have BK308:=n1_;have GW308:=n2_;have GE308:=n3_;clear n0_ n1_ n2_ n3_;clear hb hbox hg;have hcz4_0:w3.cell? ⟨gb308,0,none⟩=some (.string a0_0):=(blk_cell BK308.out 0).trans rfl;have hcz4_1:w3.cell? ⟨gb308,1,none⟩=some (.int .i64 a0_1):=(blk_cell BK308.out 1).trans rfl;have hcz4_2:w3.cell? ⟨gb308,2,none⟩=some (.int .i64 a0_2):=(blk_cell BK308.out 2).trans rfl;have hcz4_3:w3.cell? ⟨gb308,3,none⟩=some (.int .i64 a0_3):=(blk_cell BK308.out 3).trans rfl;have hcz4_4:w3.cell? ⟨gb308,4,none⟩=some (.int .i64 a0_4):=(blk_cell BK308.out 4).trans rfl;have hcz4_5:w3.cell? ⟨gb308,5,none⟩=some (.int .i64 a0_5):=(blk_cell BK308.out 5).trans rfl;have hcz4_6:w3.cell? ⟨gb308,6,none⟩=some (.int .i64 a0_6):=(blk_cell BK308.out 6).trans rfl;have hcz4_7:w3.cell? ⟨gb308,7,none⟩=some (.string a0_7):=(blk_cell BK308.out 7).trans rfl;have hcz4_8:w3.cell? ⟨gb308,8,none⟩=some (.string a0_8):=(blk_cell BK308.out 8).trans rfl;have hcz4_9:w3.cell? ⟨gb308,9,none⟩=some (.int .i64 a0_9):=(blk_cell BK308.out 9).trans rfl;have hcz4_10:w3.cell? ⟨gb308,10,none⟩=some (.int .i64 a0_10):=(blk_cell BK308.out 10).trans rfl;have hcz4_11:w3.cell? ⟨gb308,11,none⟩=some (.string a0_11):=(blk_cell BK308.out 11).trans rfl;have hfz4_0:=pz7 BK308.out 0;have hfz4_1:=pz7 BK308.out 1;have hfz4_2:=pz7 BK308.out 2;have hfz4_3:=pz7 BK308.out 3;have hfz4_4:=pz7 BK308.out 4;have hfz4_5:=pz7 BK308.out 5;have hfz4_6:=pz7 BK308.out 6;have hfz4_7:=pz7 BK308.out 7;have hfz4_8:=pz7 BK308.out 8;have hfz4_9:=pz7 BK308.out 9;have hfz4_10:=pz7 BK308.out 10;have hfz4_11:=pz7 BK308.out 11)|((with_reducible refine pz8 (f:=64) rfl ?_);refine pz21 (some 10) rfl rfl Tryz.func64 (by kernel_rfl) rfl #[.int .i64 a0_1,.string a0_0] rfl (by (try simp only [pM]);first|done|rfl|(simp only [pL];rfl)) ?_;(with_reducible refine (paths_Unmark.calls k a0_1 a0_0 t309 t310 _ (hG.ext (by repeat (first|(with_reducible first|exact HB.out|apply pz3|apply pz1|apply pz2|refine pz14 ?_ GE308.out)|exact HB.out))) A2.out).mono ?_);rintro e w5 ⟨rfl,hb⟩;refine ⟨_,rfl,?_⟩;have n0_:=pz4.mk (pz11 (g:=gb308) (o:=.cells #[.string a0_0,.int .i64 a0_1,.int .i64 a0_2,.int .i64 a0_3,.int .i64 a0_4,.int .i64 a0_5,.int .i64 a0_6,.string a0_7,.string a0_8,.int .i64 a0_9,.int .i64 a0_10,.string a0_11] 57 (0,0)) (by (with_reducible repeat (first|refine pz29 ?_ _|refine pz32 ?_|refine pz30 ?_ _));exact BK308.out) hb);have n1_:=pz4.mk (pz9 (by repeat (first|(with_reducible first|exact HB.out|apply pz3|apply pz1|apply pz2|refine pz14 ?_ GE308.out)|exact HB.out)) hb);clear BK308;clear HB;have BK308:=n0_;have HB:=n1_;clear n0_ n1_;(try clear hb);(try clear hb2);(try clear hk);(try clear hi)))
 go_ret
 exact ⟨by first|rfl|(simp [pz6,pz5] <;> rfl)|(simp [*,pz6,pz5] <;> rfl),by repeat (first|(with_reducible first|exact HB.out|apply pz3|apply pz1|apply pz2|refine pz14 ?_ GE308.out)|exact HB.out)⟩
def change_compare.f (k:Nat) (a0_0:ByteArray) (a0_1:Int) (a0_2:Int) (a0_3:Int) (a0_4:Int) (a0_5:Int) (a0_6:Int) (a0_7:ByteArray) (a0_8:ByteArray) (a0_9:Int) (a0_10:Int) (a0_11:ByteArray) (a1_0:ByteArray) (a1_1:Int) (a1_2:Int) (a1_3:Int) (a1_4:Int) (a1_5:Int) (a1_6:Int) (a1_7:ByteArray) (a1_8:ByteArray) (a1_9:Int) (a1_10:Int) (a1_11:ByteArray):Option (Int):=(change_tar.f k a0_0 a0_1 a0_2 a0_3 a0_4 a0_5 a0_6 a0_7 a0_8 a0_9 a0_10 a0_11).bind fun t313=>((change_tar.f k a1_0 a1_1 a1_2 a1_3 a1_4 a1_5 a1_6 a1_7 a1_8 a1_9 a1_10 a1_11).bind fun t314=>((paths_Compare.f t313 t314).bind fun t315=>(some t315)))
set_option maxHeartbeats 8000000 in
set_option maxRecDepth 100000 in
theorem change_compare.calls (k:Nat) (a0_0:ByteArray) (a0_1:Int) (a0_2:Int) (a0_3:Int) (a0_4:Int) (a0_5:Int) (a0_6:Int) (a0_7:ByteArray) (a0_8:ByteArray) (a0_9:Int) (a0_10:Int) (a0_11:ByteArray) (a1_0:ByteArray) (a1_1:Int) (a1_2:Int) (a1_3:Int) (a1_4:Int) (a1_5:Int) (a1_6:Int) (a1_7:ByteArray) (a1_8:ByteArray) (a1_9:Int) (a1_10:Int) (a1_11:ByteArray) (r:Int) (w:World) (hG:GL w) (h:change_compare.f k a0_0 a0_1 a0_2 a0_3 a0_4 a0_5 a0_6 a0_7 a0_8 a0_9 a0_10 a0_11 a1_0 a1_1 a1_2 a1_3 a1_4 a1_5 a1_6 a1_7 a1_8 a1_9 a1_10 a1_11=some r) :
  Calls Tryz.prog 77 #[.agg #[.string a0_0,.int .i64 a0_1,.int .i64 a0_2,.int .i64 a0_3,.int .i64 a0_4,.int .i64 a0_5,.int .i64 a0_6,.string a0_7,.string a0_8,.int .i64 a0_9,.int .i64 a0_10,.string a0_11],.agg #[.string a1_0,.int .i64 a1_1,.int .i64 a1_2,.int .i64 a1_3,.int .i64 a1_4,.int .i64 a1_5,.int .i64 a1_6,.string a1_7,.string a1_8,.int .i64 a1_9,.int .i64 a1_10,.string a1_11]] w fun e w'=>e=.returned (.int .i64 r)∧Below w.heap.size w w':=by
 have hu57:=Tryz.underlying57
 have HB:=pz4.mk (Below.refl w.heap.size w)
 have H:((change_tar.f k a0_0 a0_1 a0_2 a0_3 a0_4 a0_5 a0_6 a0_7 a0_8 a0_9 a0_10 a0_11).bind fun t313=>((change_tar.f k a1_0 a1_1 a1_2 a1_3 a1_4 a1_5 a1_6 a1_7 a1_8 a1_9 a1_10 a1_11).bind fun t314=>((paths_Compare.f t313 t314).bind fun t315=>(some t315))))=some r:=h
 clear h
 replace H:=Option.bind_eq_some_iff.mp H
 obtain ⟨t313,A30,H⟩:=H
 replace H:((change_tar.f k a1_0 a1_1 a1_2 a1_3 a1_4 a1_5 a1_6 a1_7 a1_8 a1_9 a1_10 a1_11).bind fun t314=>((paths_Compare.f t313 t314).bind fun t315=>(some t315)))=some r:=H
 have A3:=pz4.mk A30
 clear A30
 replace H:=Option.bind_eq_some_iff.mp H
 obtain ⟨t314,A40,H⟩:=H
 replace H:((paths_Compare.f t313 t314).bind fun t315=>(some t315))=some r:=H
 have A4:=pz4.mk A40
 clear A40
 replace H:=Option.bind_eq_some_iff.mp H
 obtain ⟨t315,A50,H⟩:=H
 replace H:(some t315)=some r:=H
 have A5:=pz4.mk A50
 clear A50
 obtain rfl:=Option.some.inj H
 go_enter Tryz.func77,Tryz.ntmps77
 try go_wp2_with (first|((with_reducible refine pz10 (N:=2) rfl ?_);refine pz24 ?hg (N:=2) ?hd (cs:=#[.string a0_0,.int .i64 a0_1,.int .i64 a0_2,.int .i64 a0_3,.int .i64 a0_4,.int .i64 a0_5,.int .i64 a0_6,.string a0_7,.string a0_8,.int .i64 a0_9,.int .i64 a0_10,.string a0_11]) (t:=57) ?hr ?_;(case hd=>rfl);(case hg=>rfl);(case hr=>first|(go_simp;done)|(go_simp;rfl));intro gb311 hg w6 hbox hb;have n0_:=pz4.mk (pz9 (by repeat (first|(with_reducible first|exact HB.out|apply pz3|apply pz1|apply pz2)|exact HB.out)) hb);have n1_:=pz4.mk (hbox);have n2_:=pz4.mk ((by rw [hg];exact (pz20 (by repeat (first|(with_reducible first|exact HB.out|apply pz3|apply pz1|apply pz2)|exact HB.out))):w.heap.size≤gb311));have n3_:=pz4.mk ((by rw [hg];exact (pz20 (by repeat (first|(with_reducible first|exact HB.out|apply pz3|apply pz1|apply pz2)|exact HB.out))):w.heap.size≤gb311));clear HB;have HB:=n0_;have BK311:=n1_;have GW311:=n2_;have GE311:=n3_;clear n0_ n1_ n2_ n3_;clear hb hbox hg)|((with_reducible refine pz10 (N:=3) rfl ?_);refine pz24 ?hg (N:=3) ?hd (cs:=#[.string a1_0,.int .i64 a1_1,.int .i64 a1_2,.int .i64 a1_3,.int .i64 a1_4,.int .i64 a1_5,.int .i64 a1_6,.string a1_7,.string a1_8,.int .i64 a1_9,.int .i64 a1_10,.string a1_11]) (t:=57) ?hr ?_;(case hd=>rfl);(case hg=>rfl);(case hr=>first|(go_simp;done)|(go_simp;rfl));intro gb312 hg w7 hbox hb;have n0_:=pz4.mk (pz11 (g:=gb311) (o:=.cells #[.string a0_0,.int .i64 a0_1,.int .i64 a0_2,.int .i64 a0_3,.int .i64 a0_4,.int .i64 a0_5,.int .i64 a0_6,.string a0_7,.string a0_8,.int .i64 a0_9,.int .i64 a0_10,.string a0_11] 57 (0,0)) (by (with_reducible repeat (first|refine pz29 ?_ _|refine pz32 ?_|refine pz30 ?_ _));exact BK311.out) hb);have n1_:=pz4.mk (pz9 (by repeat (first|(with_reducible first|exact HB.out|apply pz3|apply pz1|apply pz2|refine pz14 ?_ GE311.out)|exact HB.out)) hb);have n2_:=pz4.mk (hbox);have n3_:=pz4.mk ((by rw [hg];exact (pz20 (by repeat (first|(with_reducible first|exact HB.out|apply pz3|apply pz1|apply pz2|refine pz14 ?_ GE311.out)|exact HB.out))):w.heap.size≤gb312));have n4_:=pz4.mk ((by rw [hg];exact (pz20 (by repeat (first|(with_reducible first|exact HB.out|apply pz3|apply pz1|apply pz2|refine pz14 ?_ GE311.out)|exact HB.out))):w.heap.size≤gb312));have n5_:=pz4.mk ((by rw [hg];exact Nat.ne_of_lt (blk_lt (g:=gb311) (o:=.cells #[.string a0_0,.int .i64 a0_1,.int .i64 a0_2,.int .i64 a0_3,.int .i64 a0_4,.int .i64 a0_5,.int .i64 a0_6,.string a0_7,.string a0_8,.int .i64 a0_9,.int .i64 a0_10,.string a0_11] 57 (0,0)) (by (with_reducible repeat (first|refine pz29 ?_ _|refine pz32 ?_|refine pz30 ?_ _));exact BK311.out)):gb311≠gb312));have n6_:=pz4.mk ((by rw [hg];exact Nat.ne_of_gt (blk_lt (g:=gb311) (o:=.cells #[.string a0_0,.int .i64 a0_1,.int .i64 a0_2,.int .i64 a0_3,.int .i64 a0_4,.int .i64 a0_5,.int .i64 a0_6,.string a0_7,.string a0_8,.int .i64 a0_9,.int .i64 a0_10,.string a0_11] 57 (0,0)) (by (with_reducible repeat (first|refine pz29 ?_ _|refine pz32 ?_|refine pz30 ?_ _));exact BK311.out)):gb312≠gb311));clear BK311;clear HB;have BK311:=n0_;have HB:=n1_;have BK312:=n2_;have GW312:=n3_;have GE312:=n4_;have NB311_312:=n5_;have NB312_311:=n6_;clear n0_ n1_ n2_ n3_ n4_ n5_ n6_;clear hb hbox hg))
 have n0_:=pz4.mk (pz32 BK311.out)
 have n1_:=pz4.mk (pz32 BK312.out)
 have n2_:=pz4.mk (pz2 HB.out)
 clear BK311
 clear BK312
 clear HB
 have BK311:=n0_
 have BK312:=n1_
 have HB:=n2_
 clear n0_ n1_ n2_
 refine start_ (n:=6) (S:=fun w'=>w'.cell? ⟨gb311,0,none⟩=some (.string a0_0)∧w'.cell? ⟨gb311,1,none⟩=some (.int .i64 a0_1)∧w'.cell? ⟨gb311,2,none⟩=some (.int .i64 a0_2)∧w'.cell? ⟨gb311,3,none⟩=some (.int .i64 a0_3)∧w'.cell? ⟨gb311,4,none⟩=some (.int .i64 a0_4)∧w'.cell? ⟨gb311,5,none⟩=some (.int .i64 a0_5)∧w'.cell? ⟨gb311,6,none⟩=some (.int .i64 a0_6)∧w'.cell? ⟨gb311,7,none⟩=some (.string a0_7)∧w'.cell? ⟨gb311,8,none⟩=some (.string a0_8)∧w'.cell? ⟨gb311,9,none⟩=some (.int .i64 a0_9)∧w'.cell? ⟨gb311,10,none⟩=some (.int .i64 a0_10)∧w'.cell? ⟨gb311,11,none⟩=some (.string a0_11)∧w'.cell? ⟨gb312,0,none⟩=some (.string a1_0)∧w'.cell? ⟨gb312,1,none⟩=some (.int .i64 a1_1)∧w'.cell? ⟨gb312,2,none⟩=some (.int .i64 a1_2)∧w'.cell? ⟨gb312,3,none⟩=some (.int .i64 a1_3)∧w'.cell? ⟨gb312,4,none⟩=some (.int .i64 a1_4)∧w'.cell? ⟨gb312,5,none⟩=some (.int .i64 a1_5)∧w'.cell? ⟨gb312,6,none⟩=some (.int .i64 a1_6)∧w'.cell? ⟨gb312,7,none⟩=some (.string a1_7)∧w'.cell? ⟨gb312,8,none⟩=some (.string a1_8)∧w'.cell? ⟨gb312,9,none⟩=some (.int .i64 a1_9)∧w'.cell? ⟨gb312,10,none⟩=some (.int .i64 a1_10)∧w'.cell? ⟨gb312,11,none⟩=some (.string a1_11)) (ds:=[]) (ms 6 0) (by kernel_rfl) rfl rfl ⟨(blk_cell BK311.out 0).trans rfl,(blk_cell BK311.out 1).trans rfl,(blk_cell BK311.out 2).trans rfl,(blk_cell BK311.out 3).trans rfl,(blk_cell BK311.out 4).trans rfl,(blk_cell BK311.out 5).trans rfl,(blk_cell BK311.out 6).trans rfl,(blk_cell BK311.out 7).trans rfl,(blk_cell BK311.out 8).trans rfl,(blk_cell BK311.out 9).trans rfl,(blk_cell BK311.out 10).trans rfl,(blk_cell BK311.out 11).trans rfl,(blk_cell BK312.out 0).trans rfl,(blk_cell BK312.out 1).trans rfl,(blk_cell BK312.out 2).trans rfl,(blk_cell BK312.out 3).trans rfl,(blk_cell BK312.out 4).trans rfl,(blk_cell BK312.out 5).trans rfl,(blk_cell BK312.out 6).trans rfl,(blk_cell BK312.out 7).trans rfl,(blk_cell BK312.out 8).trans rfl,(blk_cell BK312.out 9).trans rfl,(blk_cell BK312.out 10).trans rfl,(blk_cell BK312.out 11).trans rfl⟩ (fun hHeld=>?_)
 generalize w7.drew=w8 at BK311 BK312 HB hHeld ⊢
 refine take_ (i:=0) (N:=some 5) (v:=?_) (a':=?_) (ms 6 1) rfl rfl (by kernel_rfl) (fun _ _ _ h=>h) (Or.inl ⟨by rfl,?_⟩) hHeld ?_ ?_;rotate_left;(rintro w' ⟨s0,s1,s2,s3,s4,s5,s6,s7,s8,s9,s10,s11,s12,s13,s14,s15,s16,s17,s18,s19,s20,s21,s22,s23⟩;go_simp;with_reducible rfl);rotate_left;(simp only [aP,i64_w,i32_w];rfl)
 refine take_ (i:=2) (N:=some 7) (v:=?_) (a':=?_) (bm 6 5) rfl rfl (by kernel_rfl) (fun _ _ _ h=>h) (Or.inl ⟨by rfl,?_⟩) hHeld ?_ ?_;rotate_left;(rintro w' ⟨s0,s1,s2,s3,s4,s5,s6,s7,s8,s9,s10,s11,s12,s13,s14,s15,s16,s17,s18,s19,s20,s21,s22,s23⟩;go_simp;with_reducible rfl);rotate_left;(simp only [aP,i64_w,i32_w];rfl)
 refine one_ (i:=1) (N:=some 6) (ms 6 3) rfl rfl (by kernel_rfl) (by decide) (fun K hK=>?_)
 refine goes_ Tryz.func121 (by kernel_rfl) rfl #[.agg #[.string a0_0,.int .i64 a0_1,.int .i64 a0_2,.int .i64 a0_3,.int .i64 a0_4,.int .i64 a0_5,.int .i64 a0_6,.string a0_7,.string a0_8,.int .i64 a0_9,.int .i64 a0_10,.string a0_11]] (by rfl) rfl rfl (by (try simp only [pM]);first|done|rfl|(simp only [pL];rfl)) ?_
 with_reducible refine (change_tar.calls k a0_0 a0_1 a0_2 a0_3 a0_4 a0_5 a0_6 a0_7 a0_8 a0_9 a0_10 a0_11 t313 _ (hG.ext (by repeat (first|(with_reducible first|exact HB.out|apply pz3|apply pz1|apply pz2|refine pz14 ?_ GE311.out|refine pz14 ?_ GE312.out)|exact HB.out))) A3.out).mono ?_
 rintro e w9 ⟨rfl,hb⟩
 refine ⟨_,rfl,?_⟩
 have n0_:=pz4.mk (pz11 (g:=gb311) (o:=.cells #[.string a0_0,.int .i64 a0_1,.int .i64 a0_2,.int .i64 a0_3,.int .i64 a0_4,.int .i64 a0_5,.int .i64 a0_6,.string a0_7,.string a0_8,.int .i64 a0_9,.int .i64 a0_10,.string a0_11] 57 (0,0)) (by (with_reducible repeat (first|refine pz29 ?_ _|refine pz32 ?_|refine pz30 ?_ _));exact BK311.out) hb)
 have n1_:=pz4.mk (pz11 (g:=gb312) (o:=.cells #[.string a1_0,.int .i64 a1_1,.int .i64 a1_2,.int .i64 a1_3,.int .i64 a1_4,.int .i64 a1_5,.int .i64 a1_6,.string a1_7,.string a1_8,.int .i64 a1_9,.int .i64 a1_10,.string a1_11] 57 (0,0)) (by (with_reducible repeat (first|refine pz29 ?_ _|refine pz32 ?_|refine pz30 ?_ _));exact BK312.out) hb)
 have n2_:=pz4.mk (pz9 (by repeat (first|(with_reducible first|exact HB.out|apply pz3|apply pz1|apply pz2|refine pz14 ?_ GE311.out|refine pz14 ?_ GE312.out)|exact HB.out)) hb)
 clear BK311
 clear BK312
 clear HB
 have BK311:=n0_
 have BK312:=n1_
 have HB:=n2_
 clear n0_ n1_ n2_
 (try clear hb)
 refine hK.out _ _ ⟨(blk_cell BK311.out 0).trans rfl,(blk_cell BK311.out 1).trans rfl,(blk_cell BK311.out 2).trans rfl,(blk_cell BK311.out 3).trans rfl,(blk_cell BK311.out 4).trans rfl,(blk_cell BK311.out 5).trans rfl,(blk_cell BK311.out 6).trans rfl,(blk_cell BK311.out 7).trans rfl,(blk_cell BK311.out 8).trans rfl,(blk_cell BK311.out 9).trans rfl,(blk_cell BK311.out 10).trans rfl,(blk_cell BK311.out 11).trans rfl,(blk_cell BK312.out 0).trans rfl,(blk_cell BK312.out 1).trans rfl,(blk_cell BK312.out 2).trans rfl,(blk_cell BK312.out 3).trans rfl,(blk_cell BK312.out 4).trans rfl,(blk_cell BK312.out 5).trans rfl,(blk_cell BK312.out 6).trans rfl,(blk_cell BK312.out 7).trans rfl,(blk_cell BK312.out 8).trans rfl,(blk_cell BK312.out 9).trans rfl,(blk_cell BK312.out 10).trans rfl,(blk_cell BK312.out 11).trans rfl⟩ (fun hHeld=>?_)
 clear hK K
 refine norm_ (a':=?_) ?_ ?_
 rotate_left
 ·show Act.put _ (some 6) _=_
  simp only [aP,i64_w,i32_w]
  rfl
 refine one_ (i:=3) (N:=some 8) (ms 6 4) rfl rfl (by kernel_rfl) (by decide) (fun K hK=>?_)
 refine goes_ Tryz.func121 (by kernel_rfl) rfl #[.agg #[.string a1_0,.int .i64 a1_1,.int .i64 a1_2,.int .i64 a1_3,.int .i64 a1_4,.int .i64 a1_5,.int .i64 a1_6,.string a1_7,.string a1_8,.int .i64 a1_9,.int .i64 a1_10,.string a1_11]] (by rfl) rfl rfl (by (try simp only [pM]);first|done|rfl|(simp only [pL];rfl)) ?_
 with_reducible refine (change_tar.calls k a1_0 a1_1 a1_2 a1_3 a1_4 a1_5 a1_6 a1_7 a1_8 a1_9 a1_10 a1_11 t314 _ (hG.ext (by repeat (first|(with_reducible first|exact HB.out|apply pz3|apply pz1|apply pz2|refine pz14 ?_ GE311.out|refine pz14 ?_ GE312.out)|exact HB.out))) A4.out).mono ?_
 rintro e w10 ⟨rfl,hb⟩
 refine ⟨_,rfl,?_⟩
 have n0_:=pz4.mk (pz11 (g:=gb311) (o:=.cells #[.string a0_0,.int .i64 a0_1,.int .i64 a0_2,.int .i64 a0_3,.int .i64 a0_4,.int .i64 a0_5,.int .i64 a0_6,.string a0_7,.string a0_8,.int .i64 a0_9,.int .i64 a0_10,.string a0_11] 57 (0,0)) (by (with_reducible repeat (first|refine pz29 ?_ _|refine pz32 ?_|refine pz30 ?_ _));exact BK311.out) hb)
 have n1_:=pz4.mk (pz11 (g:=gb312) (o:=.cells #[.string a1_0,.int .i64 a1_1,.int .i64 a1_2,.int .i64 a1_3,.int .i64 a1_4,.int .i64 a1_5,.int .i64 a1_6,.string a1_7,.string a1_8,.int .i64 a1_9,.int .i64 a1_10,.string a1_11] 57 (0,0)) (by (with_reducible repeat (first|refine pz29 ?_ _|refine pz32 ?_|refine pz30 ?_ _));exact BK312.out) hb)
 have n2_:=pz4.mk (pz9 (by repeat (first|(with_reducible first|exact HB.out|apply pz3|apply pz1|apply pz2|refine pz14 ?_ GE311.out|refine pz14 ?_ GE312.out)|exact HB.out)) hb)
 clear BK311
 clear BK312
 clear HB
 have BK311:=n0_
 have BK312:=n1_
 have HB:=n2_
 clear n0_ n1_ n2_
 (try clear hb)
 refine hK.out _ _ ⟨(blk_cell BK311.out 0).trans rfl,(blk_cell BK311.out 1).trans rfl,(blk_cell BK311.out 2).trans rfl,(blk_cell BK311.out 3).trans rfl,(blk_cell BK311.out 4).trans rfl,(blk_cell BK311.out 5).trans rfl,(blk_cell BK311.out 6).trans rfl,(blk_cell BK311.out 7).trans rfl,(blk_cell BK311.out 8).trans rfl,(blk_cell BK311.out 9).trans rfl,(blk_cell BK311.out 10).trans rfl,(blk_cell BK311.out 11).trans rfl,(blk_cell BK312.out 0).trans rfl,(blk_cell BK312.out 1).trans rfl,(blk_cell BK312.out 2).trans rfl,(blk_cell BK312.out 3).trans rfl,(blk_cell BK312.out 4).trans rfl,(blk_cell BK312.out 5).trans rfl,(blk_cell BK312.out 6).trans rfl,(blk_cell BK312.out 7).trans rfl,(blk_cell BK312.out 8).trans rfl,(blk_cell BK312.out 9).trans rfl,(blk_cell BK312.out 10).trans rfl,(blk_cell BK312.out 11).trans rfl⟩ (fun hHeld=>?_)
 clear hK K
 refine norm_ (a':=?_) ?_ ?_
 rotate_left
 ·show Act.put _ (some 8) _=_
  simp only [aP,i64_w,i32_w]
  rfl
 refine one_ (i:=4) (N:=some 9) (ms 6 5) rfl rfl (by kernel_rfl) (by decide) (fun K hK=>?_)
 refine goes_ Tryz.func37 (by kernel_rfl) rfl #[.string t313,.string t314] (by rfl) rfl rfl (by (try simp only [pM]);first|done|rfl|(simp only [pL];rfl)) ?_
 with_reducible refine (paths_Compare.calls t313 t314 t315 _ (hG.ext (by repeat (first|(with_reducible first|exact HB.out|apply pz3|apply pz1|apply pz2|refine pz14 ?_ GE311.out|refine pz14 ?_ GE312.out)|exact HB.out))) A5.out).mono ?_
 rintro e w11 ⟨rfl,hb⟩
 refine ⟨_,rfl,?_⟩
 have n0_:=pz4.mk (pz11 (g:=gb311) (o:=.cells #[.string a0_0,.int .i64 a0_1,.int .i64 a0_2,.int .i64 a0_3,.int .i64 a0_4,.int .i64 a0_5,.int .i64 a0_6,.string a0_7,.string a0_8,.int .i64 a0_9,.int .i64 a0_10,.string a0_11] 57 (0,0)) (by (with_reducible repeat (first|refine pz29 ?_ _|refine pz32 ?_|refine pz30 ?_ _));exact BK311.out) hb)
 have n1_:=pz4.mk (pz11 (g:=gb312) (o:=.cells #[.string a1_0,.int .i64 a1_1,.int .i64 a1_2,.int .i64 a1_3,.int .i64 a1_4,.int .i64 a1_5,.int .i64 a1_6,.string a1_7,.string a1_8,.int .i64 a1_9,.int .i64 a1_10,.string a1_11] 57 (0,0)) (by (with_reducible repeat (first|refine pz29 ?_ _|refine pz32 ?_|refine pz30 ?_ _));exact BK312.out) hb)
 have n2_:=pz4.mk (pz9 (by repeat (first|(with_reducible first|exact HB.out|apply pz3|apply pz1|apply pz2|refine pz14 ?_ GE311.out|refine pz14 ?_ GE312.out)|exact HB.out)) hb)
 clear BK311
 clear BK312
 clear HB
 have BK311:=n0_
 have BK312:=n1_
 have HB:=n2_
 clear n0_ n1_ n2_
 (try clear hb)
 refine hK.out _ _ ⟨(blk_cell BK311.out 0).trans rfl,(blk_cell BK311.out 1).trans rfl,(blk_cell BK311.out 2).trans rfl,(blk_cell BK311.out 3).trans rfl,(blk_cell BK311.out 4).trans rfl,(blk_cell BK311.out 5).trans rfl,(blk_cell BK311.out 6).trans rfl,(blk_cell BK311.out 7).trans rfl,(blk_cell BK311.out 8).trans rfl,(blk_cell BK311.out 9).trans rfl,(blk_cell BK311.out 10).trans rfl,(blk_cell BK311.out 11).trans rfl,(blk_cell BK312.out 0).trans rfl,(blk_cell BK312.out 1).trans rfl,(blk_cell BK312.out 2).trans rfl,(blk_cell BK312.out 3).trans rfl,(blk_cell BK312.out 4).trans rfl,(blk_cell BK312.out 5).trans rfl,(blk_cell BK312.out 6).trans rfl,(blk_cell BK312.out 7).trans rfl,(blk_cell BK312.out 8).trans rfl,(blk_cell BK312.out 9).trans rfl,(blk_cell BK312.out 10).trans rfl,(blk_cell BK312.out 11).trans rfl⟩ (fun hHeld=>?_)
 clear hK K
 refine norm_ (a':=?_) ?_ ?_
 rotate_left
 ·show Act.put _ (some 9) _=_
  simp only [aP,i64_w,i32_w]
  rfl
 refine pU 5 4 ?_ (ms 6 6) rfl rfl (by kernel_rfl) (fun _ _ _=>id) (by rfl) ?_ ?_ ?_ ?_;rotate_left;(intro w';go_simp;with_reducible rfl);rotate_left;(simp only [aP,i64_w,i32_w];rfl)
 refine done_ (by kernel_rfl) ?_
 try go_wp2
 go_ret
 exact ⟨by first|rfl|(simp [pz6,pz5] <;> rfl)|(simp [*,pz6,pz5] <;> rfl),by repeat (first|(with_reducible first|exact HB.out|apply pz3|apply pz1|apply pz2|refine pz14 ?_ GE311.out|refine pz14 ?_ GE312.out)|exact HB.out)⟩
def change_Less.f (k:Nat) (a0_0:ByteArray) (a0_1:Int) (a0_2:Int) (a0_3:Int) (a0_4:Int) (a0_5:Int) (a0_6:Int) (a0_7:ByteArray) (a0_8:ByteArray) (a0_9:Int) (a0_10:Int) (a0_11:ByteArray) (a1_0:ByteArray) (a1_1:Int) (a1_2:Int) (a1_3:Int) (a1_4:Int) (a1_5:Int) (a1_6:Int) (a1_7:ByteArray) (a1_8:ByteArray) (a1_9:Int) (a1_10:Int) (a1_11:ByteArray):Option (Bool):=(change_compare.f k a0_0 a0_1 a0_2 a0_3 a0_4 a0_5 a0_6 a0_7 a0_8 a0_9 a0_10 a0_11 a1_0 a1_1 a1_2 a1_3 a1_4 a1_5 a1_6 a1_7 a1_8 a1_9 a1_10 a1_11).bind fun t318=>(some (decide (t318<0)))
set_option maxHeartbeats 8000000 in
set_option maxRecDepth 100000 in
theorem change_Less.calls (k:Nat) (a0_0:ByteArray) (a0_1:Int) (a0_2:Int) (a0_3:Int) (a0_4:Int) (a0_5:Int) (a0_6:Int) (a0_7:ByteArray) (a0_8:ByteArray) (a0_9:Int) (a0_10:Int) (a0_11:ByteArray) (a1_0:ByteArray) (a1_1:Int) (a1_2:Int) (a1_3:Int) (a1_4:Int) (a1_5:Int) (a1_6:Int) (a1_7:ByteArray) (a1_8:ByteArray) (a1_9:Int) (a1_10:Int) (a1_11:ByteArray) (r:Bool) (w:World) (hG:GL w) (h:change_Less.f k a0_0 a0_1 a0_2 a0_3 a0_4 a0_5 a0_6 a0_7 a0_8 a0_9 a0_10 a0_11 a1_0 a1_1 a1_2 a1_3 a1_4 a1_5 a1_6 a1_7 a1_8 a1_9 a1_10 a1_11=some r) :
  Calls Tryz.prog 45 #[.agg #[.string a0_0,.int .i64 a0_1,.int .i64 a0_2,.int .i64 a0_3,.int .i64 a0_4,.int .i64 a0_5,.int .i64 a0_6,.string a0_7,.string a0_8,.int .i64 a0_9,.int .i64 a0_10,.string a0_11],.agg #[.string a1_0,.int .i64 a1_1,.int .i64 a1_2,.int .i64 a1_3,.int .i64 a1_4,.int .i64 a1_5,.int .i64 a1_6,.string a1_7,.string a1_8,.int .i64 a1_9,.int .i64 a1_10,.string a1_11]] w fun e w'=>e=.returned (.bool r)∧Below w.heap.size w w':=by
 have hu57:=Tryz.underlying57
 have HB:=pz4.mk (Below.refl w.heap.size w)
 have H:((change_compare.f k a0_0 a0_1 a0_2 a0_3 a0_4 a0_5 a0_6 a0_7 a0_8 a0_9 a0_10 a0_11 a1_0 a1_1 a1_2 a1_3 a1_4 a1_5 a1_6 a1_7 a1_8 a1_9 a1_10 a1_11).bind fun t318=>(some (decide (t318<0))))=some r:=h
 clear h
 replace H:=Option.bind_eq_some_iff.mp H
 obtain ⟨t318,A30,H⟩:=H
 replace H:(some (decide (t318<0)))=some r:=H
 have A3:=pz4.mk A30
 clear A30
 obtain rfl:=Option.some.inj H
 go_enter Tryz.func45,Tryz.ntmps45
 go_wp2_with (first|((with_reducible refine pz10 (N:=2) rfl ?_);refine pz24 ?hg (N:=2) ?hd (cs:=#[.string a0_0,.int .i64 a0_1,.int .i64 a0_2,.int .i64 a0_3,.int .i64 a0_4,.int .i64 a0_5,.int .i64 a0_6,.string a0_7,.string a0_8,.int .i64 a0_9,.int .i64 a0_10,.string a0_11]) (t:=57) ?hr ?_;(case hd=>rfl);(case hg=>rfl);(case hr=>first|(go_simp;done)|(go_simp;rfl));intro gb316 hg w4 hbox hb;have n0_:=pz4.mk (pz9 (by repeat (first|(with_reducible first|exact HB.out|apply pz3|apply pz1|apply pz2)|exact HB.out)) hb);have n1_:=pz4.mk (hbox);have n2_:=pz4.mk ((by rw [hg];exact (pz20 (by repeat (first|(with_reducible first|exact HB.out|apply pz3|apply pz1|apply pz2)|exact HB.out))):w.heap.size≤gb316));have n3_:=pz4.mk ((by rw [hg];exact (pz20 (by repeat (first|(with_reducible first|exact HB.out|apply pz3|apply pz1|apply pz2)|exact HB.out))):w.heap.size≤gb316));clear HB;have HB:=n0_;have BK316:=n1_;have GW316:=n2_;have GE316:=n3_;clear n0_ n1_ n2_ n3_;clear hb hbox hg)|((with_reducible refine pz10 (N:=3) rfl ?_);refine pz24 ?hg (N:=3) ?hd (cs:=#[.string a1_0,.int .i64 a1_1,.int .i64 a1_2,.int .i64 a1_3,.int .i64 a1_4,.int .i64 a1_5,.int .i64 a1_6,.string a1_7,.string a1_8,.int .i64 a1_9,.int .i64 a1_10,.string a1_11]) (t:=57) ?hr ?_;(case hd=>rfl);(case hg=>rfl);(case hr=>first|(go_simp;done)|(go_simp;rfl));intro gb317 hg w5 hbox hb;have n0_:=pz4.mk (pz11 (g:=gb316) (o:=.cells #[.string a0_0,.int .i64 a0_1,.int .i64 a0_2,.int .i64 a0_3,.int .i64 a0_4,.int .i64 a0_5,.int .i64 a0_6,.string a0_7,.string a0_8,.int .i64 a0_9,.int .i64 a0_10,.string a0_11] 57 (0,0)) (by (with_reducible repeat (first|refine pz29 ?_ _|refine pz32 ?_|refine pz30 ?_ _));exact BK316.out) hb);have n1_:=pz4.mk (pz9 (by repeat (first|(with_reducible first|exact HB.out|apply pz3|apply pz1|apply pz2|refine pz14 ?_ GE316.out)|exact HB.out)) hb);have n2_:=pz4.mk (hbox);have n3_:=pz4.mk ((by rw [hg];exact (pz20 (by repeat (first|(with_reducible first|exact HB.out|apply pz3|apply pz1|apply pz2|refine pz14 ?_ GE316.out)|exact HB.out))):w.heap.size≤gb317));have n4_:=pz4.mk ((by rw [hg];exact (pz20 (by repeat (first|(with_reducible first|exact HB.out|apply pz3|apply pz1|apply pz2|refine pz14 ?_ GE316.out)|exact HB.out))):w.heap.size≤gb317));have n5_:=pz4.mk ((by rw [hg];exact Nat.ne_of_lt (blk_lt (g:=gb316) (o:=.cells #[.string a0_0,.int .i64 a0_1,.int .i64 a0_2,.int .i64 a0_3,.int .i64 a0_4,.int .i64 a0_5,.int .i64 a0_6,.string a0_7,.string a0_8,.int .i64 a0_9,.int .i64 a0_10,.string a0_11] 57 (0,0)) (by (with_reducible repeat (first|refine pz29 ?_ _|refine pz32 ?_|refine pz30 ?_ _));exact BK316.out)):gb316≠gb317));have n6_:=pz4.mk ((by rw [hg];exact Nat.ne_of_gt (blk_lt (g:=gb316) (o:=.cells #[.string a0_0,.int .i64 a0_1,.int .i64 a0_2,.int .i64 a0_3,.int .i64 a0_4,.int .i64 a0_5,.int .i64 a0_6,.string a0_7,.string a0_8,.int .i64 a0_9,.int .i64 a0_10,.string a0_11] 57 (0,0)) (by (with_reducible repeat (first|refine pz29 ?_ _|refine pz32 ?_|refine pz30 ?_ _));exact BK316.out)):gb317≠gb316));clear BK316;clear HB;have BK316:=n0_;have HB:=n1_;have BK317:=n2_;have GW317:=n3_;have GE317:=n4_;have NB316_317:=n5_;have NB317_316:=n6_;clear n0_ n1_ n2_ n3_ n4_ n5_ n6_;clear hb hbox hg;have hnb6:=NB316_317.out;have hnc6:=NB317_316.out;have hcz7_0:w5.cell? ⟨gb316,0,none⟩=some (.string a0_0):=(blk_cell BK316.out 0).trans rfl;have hcz7_1:w5.cell? ⟨gb316,1,none⟩=some (.int .i64 a0_1):=(blk_cell BK316.out 1).trans rfl;have hcz7_2:w5.cell? ⟨gb316,2,none⟩=some (.int .i64 a0_2):=(blk_cell BK316.out 2).trans rfl;have hcz7_3:w5.cell? ⟨gb316,3,none⟩=some (.int .i64 a0_3):=(blk_cell BK316.out 3).trans rfl;have hcz7_4:w5.cell? ⟨gb316,4,none⟩=some (.int .i64 a0_4):=(blk_cell BK316.out 4).trans rfl;have hcz7_5:w5.cell? ⟨gb316,5,none⟩=some (.int .i64 a0_5):=(blk_cell BK316.out 5).trans rfl;have hcz7_6:w5.cell? ⟨gb316,6,none⟩=some (.int .i64 a0_6):=(blk_cell BK316.out 6).trans rfl;have hcz7_7:w5.cell? ⟨gb316,7,none⟩=some (.string a0_7):=(blk_cell BK316.out 7).trans rfl;have hcz7_8:w5.cell? ⟨gb316,8,none⟩=some (.string a0_8):=(blk_cell BK316.out 8).trans rfl;have hcz7_9:w5.cell? ⟨gb316,9,none⟩=some (.int .i64 a0_9):=(blk_cell BK316.out 9).trans rfl;have hcz7_10:w5.cell? ⟨gb316,10,none⟩=some (.int .i64 a0_10):=(blk_cell BK316.out 10).trans rfl;have hcz7_11:w5.cell? ⟨gb316,11,none⟩=some (.string a0_11):=(blk_cell BK316.out 11).trans rfl;have hfz7_0:=pz7 BK316.out 0;have hfz7_1:=pz7 BK316.out 1;have hfz7_2:=pz7 BK316.out 2;have hfz7_3:=pz7 BK316.out 3;have hfz7_4:=pz7 BK316.out 4;have hfz7_5:=pz7 BK316.out 5;have hfz7_6:=pz7 BK316.out 6;have hfz7_7:=pz7 BK316.out 7;have hfz7_8:=pz7 BK316.out 8;have hfz7_9:=pz7 BK316.out 9;have hfz7_10:=pz7 BK316.out 10;have hfz7_11:=pz7 BK316.out 11;have hcz8_0:w5.cell? ⟨gb317,0,none⟩=some (.string a1_0):=(blk_cell BK317.out 0).trans rfl;have hcz8_1:w5.cell? ⟨gb317,1,none⟩=some (.int .i64 a1_1):=(blk_cell BK317.out 1).trans rfl;have hcz8_2:w5.cell? ⟨gb317,2,none⟩=some (.int .i64 a1_2):=(blk_cell BK317.out 2).trans rfl;have hcz8_3:w5.cell? ⟨gb317,3,none⟩=some (.int .i64 a1_3):=(blk_cell BK317.out 3).trans rfl;have hcz8_4:w5.cell? ⟨gb317,4,none⟩=some (.int .i64 a1_4):=(blk_cell BK317.out 4).trans rfl;have hcz8_5:w5.cell? ⟨gb317,5,none⟩=some (.int .i64 a1_5):=(blk_cell BK317.out 5).trans rfl;have hcz8_6:w5.cell? ⟨gb317,6,none⟩=some (.int .i64 a1_6):=(blk_cell BK317.out 6).trans rfl;have hcz8_7:w5.cell? ⟨gb317,7,none⟩=some (.string a1_7):=(blk_cell BK317.out 7).trans rfl;have hcz8_8:w5.cell? ⟨gb317,8,none⟩=some (.string a1_8):=(blk_cell BK317.out 8).trans rfl;have hcz8_9:w5.cell? ⟨gb317,9,none⟩=some (.int .i64 a1_9):=(blk_cell BK317.out 9).trans rfl;have hcz8_10:w5.cell? ⟨gb317,10,none⟩=some (.int .i64 a1_10):=(blk_cell BK317.out 10).trans rfl;have hcz8_11:w5.cell? ⟨gb317,11,none⟩=some (.string a1_11):=(blk_cell BK317.out 11).trans rfl;have hfz8_0:=pz7 BK317.out 0;have hfz8_1:=pz7 BK317.out 1;have hfz8_2:=pz7 BK317.out 2;have hfz8_3:=pz7 BK317.out 3;have hfz8_4:=pz7 BK317.out 4;have hfz8_5:=pz7 BK317.out 5;have hfz8_6:=pz7 BK317.out 6;have hfz8_7:=pz7 BK317.out 7;have hfz8_8:=pz7 BK317.out 8;have hfz8_9:=pz7 BK317.out 9;have hfz8_10:=pz7 BK317.out 10;have hfz8_11:=pz7 BK317.out 11)|((with_reducible refine pz8 (f:=77) rfl ?_);refine pz21 (some 7) rfl rfl Tryz.func77 (by kernel_rfl) rfl #[.agg #[.string a0_0,.int .i64 a0_1,.int .i64 a0_2,.int .i64 a0_3,.int .i64 a0_4,.int .i64 a0_5,.int .i64 a0_6,.string a0_7,.string a0_8,.int .i64 a0_9,.int .i64 a0_10,.string a0_11],.agg #[.string a1_0,.int .i64 a1_1,.int .i64 a1_2,.int .i64 a1_3,.int .i64 a1_4,.int .i64 a1_5,.int .i64 a1_6,.string a1_7,.string a1_8,.int .i64 a1_9,.int .i64 a1_10,.string a1_11]] rfl (by (try simp only [pM]);first|done|rfl|(simp only [pL];rfl)) ?_;(with_reducible refine (change_compare.calls k a0_0 a0_1 a0_2 a0_3 a0_4 a0_5 a0_6 a0_7 a0_8 a0_9 a0_10 a0_11 a1_0 a1_1 a1_2 a1_3 a1_4 a1_5 a1_6 a1_7 a1_8 a1_9 a1_10 a1_11 t318 _ (hG.ext (by repeat (first|(with_reducible first|exact HB.out|apply pz3|apply pz1|apply pz2|refine pz14 ?_ GE316.out|refine pz14 ?_ GE317.out)|exact HB.out))) A3.out).mono ?_);rintro e w9 ⟨rfl,hb⟩;refine ⟨_,rfl,?_⟩;have n0_:=pz4.mk (pz11 (g:=gb316) (o:=.cells #[.string a0_0,.int .i64 a0_1,.int .i64 a0_2,.int .i64 a0_3,.int .i64 a0_4,.int .i64 a0_5,.int .i64 a0_6,.string a0_7,.string a0_8,.int .i64 a0_9,.int .i64 a0_10,.string a0_11] 57 (0,0)) (by (with_reducible repeat (first|refine pz29 ?_ _|refine pz32 ?_|refine pz30 ?_ _));exact BK316.out) hb);have n1_:=pz4.mk (pz11 (g:=gb317) (o:=.cells #[.string a1_0,.int .i64 a1_1,.int .i64 a1_2,.int .i64 a1_3,.int .i64 a1_4,.int .i64 a1_5,.int .i64 a1_6,.string a1_7,.string a1_8,.int .i64 a1_9,.int .i64 a1_10,.string a1_11] 57 (0,0)) (by (with_reducible repeat (first|refine pz29 ?_ _|refine pz32 ?_|refine pz30 ?_ _));exact BK317.out) hb);have n2_:=pz4.mk (pz9 (by repeat (first|(with_reducible first|exact HB.out|apply pz3|apply pz1|apply pz2|refine pz14 ?_ GE316.out|refine pz14 ?_ GE317.out)|exact HB.out)) hb);clear BK316;clear BK317;clear HB;have BK316:=n0_;have BK317:=n1_;have HB:=n2_;clear n0_ n1_ n2_;(try clear hb);(try clear hb2);(try clear hk);(try clear hi)))
 go_ret
 exact ⟨by first|rfl|(simp [pz6,pz5] <;> rfl)|(simp [*,pz6,pz5] <;> rfl),by repeat (first|(with_reducible first|exact HB.out|apply pz3|apply pz1|apply pz2|refine pz14 ?_ GE316.out|refine pz14 ?_ GE317.out)|exact HB.out)⟩
end Go.Proofs.Zq
end
section
namespace Go.Proofs.Zq
open Go.RowKit Go.Proofs.YtjghikkboekonaaGreatDoor Go.Proofs.Zw.PrintWords Go.Proofs.Zw.PrintLast
open Go.Proofs.Zt (partM markedM markM opqM isM parM lastM underM markF unmarkF wouldM tarM belowM)
theorem rdOf_map (l:List Str) (i:Nat) (h:i<l.length):rdOf ByteArray.empty (l.map B) (i:Int)=B (l[i]'h):=by
 unfold rdOf
 rw [show ((i:Nat):Int).toNat=i from by omega]
 simp [h]
theorem anyBad_l:∀ (d:Nat) (l:List Str) (i:Nat) (k:Nat),l.length - i=d→i≤l.length→l.length≤5000000000→d<k →
  ∃ r:Int,pq6.l0 k (l.map B) (l.length:Int) i=some r∧(decide (r ≥ 0)=(l.drop i).any fun x=>!partM x):=by
 intro d
 induction d with
 | zero =>
  intro l i k hd hi hl hk
  obtain ⟨k,rfl⟩:∃ m,k=m + 1:=⟨k - 1,by omega⟩
  refine ⟨-1,?_,?_⟩
  ·simp only [pq6.l0]
   rw [if_neg (by omega)]
  ·rw [List.drop_eq_nil_of_le (by omega)];rfl
 | succ d ih =>
  intro l i k hd hi hl hk
  obtain ⟨k,rfl⟩:∃ m,k=m + 1:=⟨k - 1,by omega⟩
  have hlt:i<l.length:=by omega
  simp only [pq6.l0]
  rw [if_pos (by omega),if_pos (by omega),if_pos (by simp;omega),rdOf_map l i hlt,bad_f]
  simp only [Option.bind_some]
  rw [List.drop_eq_getElem_cons hlt,List.any_cons]
  cases hb:partM l[i] with
  | false =>
   refine ⟨i,?_,?_⟩
   ·simp
   ·simp
  | true =>
   obtain ⟨r,h1,h2⟩:=ih l (i + 1) k (by omega) (by omega) hl (by omega)
   refine ⟨r,?_,?_⟩
   ·simp only [Bool.not_true,Bool.false_eq_true,if_false]
    rw [wrap_in (by omega) (by omega)]
    exact h1
   ·rw [h2];simp
theorem anyBad (l:List Str) (hl:l.length≤5000000000) (k:Nat) (hk:l.length<k):pq2.f k (l.map B) ()=some (!l.all partM):=by
 unfold pq2.f pq6.f
 obtain ⟨r,h1,h2⟩:=anyBad_l l.length l 0 k (by omega) (by omega) hl hk
 rw [List.length_map]
 rw [show ((0:Nat):Int)=0 from rfl] at h1
 rw [h1]
 simp only [Option.bind_some,Option.some.injEq]
 rw [h2,List.drop_zero,List.not_all_eq_any_not]
theorem anyLong_l:∀ (d:Nat) (l:List Str) (i:Nat) (k:Nat),l.length - i=d→i≤l.length→l.length≤5000000000→d<k →
  ∃ r:Int,pq4.l0 k (l.map B) (l.length:Int) i=some r∧(decide (r ≥ 0)=(l.drop i).any fun x=>!decide (x.length≤251)):=by
 intro d
 induction d with
 | zero =>
  intro l i k hd hi hl hk
  obtain ⟨k,rfl⟩:∃ m,k=m + 1:=⟨k - 1,by omega⟩
  refine ⟨-1,?_,?_⟩
  ·simp only [pq4.l0]
   rw [if_neg (by omega)]
  ·rw [List.drop_eq_nil_of_le (by omega)];rfl
 | succ d ih =>
  intro l i k hd hi hl hk
  obtain ⟨k,rfl⟩:∃ m,k=m + 1:=⟨k - 1,by omega⟩
  have hlt:i<l.length:=by omega
  simp only [pq4.l0]
  rw [if_pos (by omega),if_pos (by omega),if_pos (by simp;omega),rdOf_map l i hlt,long_f]
  simp only [Option.bind_some]
  rw [List.drop_eq_getElem_cons hlt,List.any_cons]
  cases hb:decide (l[i].length≤251) with
  | false =>
   refine ⟨i,?_,?_⟩
   ·simp
   ·simp
  | true =>
   obtain ⟨r,h1,h2⟩:=ih l (i + 1) k (by omega) (by omega) hl (by omega)
   refine ⟨r,?_,?_⟩
   ·simp only [Bool.not_true,Bool.false_eq_true,if_false]
    rw [wrap_in (by omega) (by omega)]
    exact h1
   ·rw [h2];simp
theorem anyLong (l:List Str) (hl:l.length≤5000000000) (k:Nat) (hk:l.length<k):pq1.f k (l.map B) ()=some (!l.all fun x=>decide (x.length≤251)):=by
 unfold pq1.f pq4.f
 obtain ⟨r,h1,h2⟩:=anyLong_l l.length l 0 k (by omega) (by omega) hl hk
 rw [List.length_map]
 rw [show ((0:Nat):Int)=0 from rfl] at h1
 rw [h1]
 simp only [Option.bind_some,Option.some.injEq]
 rw [h2,List.drop_zero,List.not_all_eq_any_not]
theorem is_f (s:Str) (hs:s.length≤4000000000) (k:Nat) (hk:s.length + 1<k):paths_is.f k (B s)=some (isM s):=by
 have hc:=cut_len s
 have hne:=Zt.cutM_ne s
 have hpos:0<(Zt.cutM s).length:=List.length_pos_iff.2 hne
 have hlast:rdOf ByteArray.empty ((Zt.cutM s).map B) (((Zt.cutM s).length:Int) - 1)=B (lastM s):=by
  rw [show (((Zt.cutM s).length:Int) - 1)=(((Zt.cutM s).length - 1:Nat):Int) from by omega,rdOf_map _ _ (by omega)]
  unfold lastM
  rw [List.getLast_eq_getElem]
 have htake:((Zt.cutM s).map B).take (((Zt.cutM s).length:Int) - 1).toNat=((Zt.cutM s).dropLast).map B:=by
  rw [show (((Zt.cutM s).length:Int) - 1).toNat=(Zt.cutM s).length - 1 from by omega,List.dropLast_eq_take,List.map_take]
 unfold paths_is.f
 rw [splits_f s hs]
 simp only [Option.bind_some,List.length_map]
 rw [wrap_in (by omega) (by omega),if_pos (by omega),if_pos (by omega),hlast]
 have hm:=hp_f (lastM s) [46,119,104,46]
 rw [show (⟨#[46,119,104,46]⟩:ByteArray)=B [46,119,104,46] from rfl,hm]
 have hmk:List.isPrefixOf [46,119,104,46] (lastM s)=markedM (lastM s):=rfl
 rw [hmk]
 simp only [Option.bind_some,B_size]
 have hbad:=anyBad (Zt.cutM s) (by omega) k (by omega)
 have hlong:=anyLong (Zt.cutM s).dropLast (by simp;omega) k (by simp;omega)
 unfold isM
 cases hmd:markedM (lastM s) with
 | true =>
  simp only [if_true]
  by_cases h1:s.length≤4096
  ·rw [if_pos (by omega)]
   by_cases h2:(lastM s).length≤255
   ·rw [if_pos (by omega),hbad]
    simp only [Option.bind_some]
    cases h3:(Zt.cutM s).all partM with
    | false=>simp
    | true =>
     simp only [Bool.not_true,Bool.false_eq_true,if_false]
     rw [if_pos (by omega),htake,hlong]
     simp [h1,h2]
   ·rw [if_neg (by omega)];simp [h2]
  ·rw [if_neg (by omega)];simp [h1]
 | false =>
  simp only [Bool.false_eq_true,if_false]
  by_cases h1:s.length≤4092
  ·rw [if_pos (by omega)]
   by_cases h2:(lastM s).length≤251
   ·rw [if_pos (by omega),hbad]
    simp only [Option.bind_some]
    cases h3:(Zt.cutM s).all partM with
    | false=>simp
    | true =>
     simp only [Bool.not_true,Bool.false_eq_true,if_false]
     rw [if_pos (by omega),htake,hlong]
     simp [h1,h2]
   ·rw [if_neg (by omega)];simp [h2]
  ·rw [if_neg (by omega)];simp [h1]
def markR (s:Str):Int×ByteArray×Bool:=match markF s with|some (o,p)=>(o,B p,true)|none=>(0,B [],false)
theorem part_len (s:Str):(parM s).length≤s.length∧(lastM s).length≤s.length:=by
 rcases Zt.split_cases s with ⟨_,e,hp⟩|⟨_,e⟩
 ·rw [hp];exact ⟨Nat.zero_le _,by rw [← e];exact Nat.le_refl _⟩
 ·have:=congrArg List.length e
  simp at this
  omega
theorem mark_f (s:Str) (hs:s.length≤2000000000) (k:Nat) (hk:s.length + 1<k):paths_Mark.f k (B s)=some (markR s):=by
 have hl:=part_len s
 unfold paths_Mark.f
 rw [split_f s (by omega)]
 simp only [Option.bind_some]
 have hcp:strings_CutPrefix.f (B (lastM s)) (⟨#[46,119,104,46]⟩:ByteArray)=some (B (if markedM (lastM s)=true then (lastM s).drop 4 else lastM s),markedM (lastM s)):=by
  unfold strings_CutPrefix.f Lib.trimPrefix Lib.hasPrefix
  rfl
 rw [hcp,is_f s (by omega) k hk]
 simp only [Option.bind_some,toList_B]
 unfold markR markF
 cases h1:isM s with
 | false=>simp
 | true =>
  simp only [if_true]
  cases h2:markedM (lastM s) with
  | false=>simp
  | true =>
   simp only [if_true]
   by_cases h3:lastM s=opqM
   ·rw [if_pos h3]
    rw [if_pos (show lastM s=[46,119,104,46,46,119,104,46,46,111,112,113] from h3)]
   ·rw [if_neg h3]
    rw [if_neg (show ¬ lastM s=[46,119,104,46,46,119,104,46,46,111,112,113] from h3)]
    rw [bad_f]
    simp only [Option.bind_some]
    cases h4:partM ((lastM s).drop 4) with
    | false=>simp
    | true =>
     simp only [Bool.not_true,Bool.false_eq_true,if_false]
     rw [show (⟨#[46,119,104,46]⟩:ByteArray)=B [46,119,104,46] from rfl,hp_f]
     simp only [Option.bind_some]
     have hmk:List.isPrefixOf [46,119,104,46] ((lastM s).drop 4)=markedM ((lastM s).drop 4):=rfl
     rw [hmk]
     cases h5:markedM ((lastM s).drop 4) with
     | true=>simp
     | false =>
      simp only [Bool.false_eq_true,if_false,true_and,if_true]
      rw [below_f _ _ (by simp;omega)]
      simp
def unmarkR (op:Int) (p:Str):ByteArray×Bool:=match unmarkF op p with|some s=>(B s,true)|none=>(B [],false)
theorem would_len (op:Int) (p:Str):(wouldM op p).length≤p.length + 20:=by
 have hl:=part_len p
 unfold wouldM belowM
 split
 ·rcases Zt.split_cases p with ⟨_,e,hp⟩|⟨_,e⟩
  ·rw [hp];simp [markM];omega
  ·have:=congrArg List.length e
   simp at this
   split <;> simp [markM] <;> omega
 ·split
  ·split <;> simp [opqM] <;> omega
  ·omega
theorem unmark_test (op:Int) (p s:Str) (hs:s=wouldM op p) (k:Nat) (hl:p.length≤1000000000) (hk:p.length + 30<k) :
  ((paths_Mark.f k (B s)).bind fun bt=>(if bt.2.2=true then (if bt.1=op then (if bt.2.1.toList=(B p).toList then (some (B s,true)) else (some ((⟨#[]⟩:ByteArray),false))) else (some ((⟨#[]⟩:ByteArray),false))) else (some ((⟨#[]⟩:ByteArray),false))))=some (unmarkR op p):=by
 have hw:=would_len op p
 rw [← hs] at hw
 rw [mark_f s (by omega) k (by omega)]
 simp only [Option.bind_some]
 unfold unmarkR unmarkF markR
 rw [← hs]
 cases h:markF s with
 | none=>simp
 | some q =>
  obtain ⟨o,x⟩:=q
  simp only [if_true,toList_B,Option.some.injEq,Prod.mk.injEq]
  by_cases h1:o=op
  ·rw [if_pos h1]
   by_cases h2:x=p
   ·rw [if_pos h2,if_pos ⟨h1,h2⟩]
   ·rw [if_neg h2,if_neg (fun h=>h2 h.2)]
  ·rw [if_neg h1,if_neg (fun h=>h1 h.1)]
theorem unmark_f (op:Int) (p:Str) (hl:p.length≤1000000000) (k:Nat) (hk:p.length + 30<k):paths_Unmark.f k op (B p)=some (unmarkR op p):=by
 have hpl:=part_len p
 unfold paths_Unmark.f
 by_cases h1:op=1
 ·subst h1
  rw [if_pos rfl,split_f p (by omega)]
  simp only [Option.bind_some]
  rw [B_size,if_pos (by omega)]
  rw [show (⟨#[46,119,104,46]⟩:ByteArray)=B markM from rfl,B_append,below_f _ _ (by simp [markM];omega)]
  simp only [Option.bind_some]
  exact unmark_test 1 p _ (by unfold wouldM;rw [if_pos rfl]) k hl hk
 ·rw [if_neg h1]
  by_cases h2:op=2
  ·subst h2
   rw [if_pos rfl]
   rw [show (⟨#[46,119,104,46,46,119,104,46,46,111,112,113]⟩:ByteArray)=B opqM from rfl,below_f _ _ (by simp [opqM];omega)]
   simp only [Option.bind_some]
   exact unmark_test 2 p _ (by unfold wouldM;rw [if_neg (by decide),if_pos rfl]) k hl hk
  ·rw [if_neg h2]
   exact unmark_test op p p (by unfold wouldM;rw [if_neg h1,if_neg h2]) k hl hk
theorem unmarkR_1 (op:Int) (p:Str):(unmarkR op p).1=B (tarM op p):=by
 unfold unmarkR tarM
 cases unmarkF op p <;> rfl
theorem unmarkR_2 (op:Int) (p:Str):(unmarkR op p).2=!(tarM op p).isEmpty:=by
 unfold unmarkR tarM
 cases h:unmarkF op p with
 | none=>rfl
 | some s =>
  have:=Zt.is_ne (Zt.pz37 h).2.2
  cases s with
  | nil=>exact absurd rfl this
  | cons _ _=>rfl
theorem tar_len (op:Int) (p:Str):(tarM op p).length≤p.length + 20:=by
 unfold tarM
 cases h:unmarkF op p with
 | none=>simp
 | some s =>
  have:=(Zt.pz37 h).1
  have hw:=would_len op p
  rw [← this] at hw
  exact hw
end Go.Proofs.Zq
end
section
namespace Go.Proofs.YtjghikkboekonaaGreatDoor
open Go.RowKit Go.WideMaps Go.Maps
theorem strLaw:Keyed Tryz.prog 9:=string_keyed Tryz.underlying9
theorem zeroInt (w:World):(zeroValue 3).run Tryz.prog w=.ok (.int .i64 0) w:=by kernel_rfl
def CntMap (w:World) (b n:Nat) (f:Str→Nat):Prop :=
 ∃ D:DataW Unit,w.ownsMap Tryz.prog 9 (plainElem Tryz.prog 3) b n D∧IsMap D∧∀ key:Str,D.atKey (.string key) (.lit (.int .i64 0))=.lit (.int .i64 (f key))
theorem CntMap.made (w:World):CntMap (w.alloc (.map #[] 0)) w.heap.size 0 (fun _=>0) :=
 ⟨.map [],World.ownsMap_made _ _ _ _,isMap_empty,fun _=>rfl⟩
theorem CntMap.alloc {w:World} {b n:Nat} {f:Str→Nat} (h:CntMap w b n f) (o:Obj):CntMap (w.alloc o) b n f :=
 let ⟨D,h1,h2,h3⟩:=h;⟨D,h1.alloc o,h2,h3⟩
theorem CntMap.lt {w:World} {b n:Nat} {f:Str→Nat} (h:CntMap w b n f):b<w.heap.size:=let ⟨_,h1,_⟩:=h;h1.lt
theorem CntMap.ext {w w':World} {b n:Nat} {f:Str→Nat} (h:CntMap w b n f) (hb:Below w.heap.size w w'):CntMap w' b n f :=
 let ⟨D,h1,h2,h3⟩:=h;⟨D,h1.kept (row:=none) ⟨hb.os,hb.tape,hb.output,hb.size,fun k hk _=>hb.block k hk⟩ (by simp),h2,h3⟩
theorem keyStr {s:Str} (h:s.length≤1000000000):keyOf Tryz.prog 9 (S s)=some (.string s):=by
 have:=keyOf_string_mk (P:=Tryz.prog) Tryz.underlying9 (s:=⟨s.toArray⟩) (by simp [Lib.size_eq];unfold maxLen;omega)
 simpa using this
theorem CntMap.look {w:World} {b n:Nat} {f:Str→Nat} (h:CntMap w b n f) {s:Str} (hs:s.length≤1000000000) :
  (Instr.lookup 64 (.map (some b)) (S s) false).run Tryz.prog w=.ok (.int .i64 (f s)) w:=by
 obtain ⟨D,h1,h2,h3⟩:=h
 obtain ⟨c,hrun,hat,_⟩:=h1.lookup_int strLaw Tryz.underlying64 Tryz.underlying3 (zeroInt _) (keyStr hs)
 rw [hrun]
 rw [h3] at hat
 simp only [DataW.lit.injEq,Lit.int.injEq,true_and] at hat
 rw [hat]
theorem wf_nat {c:Nat} (h:c≤9223372036854775807):(Lit.int .i64 (c:Int)).wf=true:=WalkArith.wf_i64 ⟨by omega,by omega⟩
theorem wpList_cnt_up {P:Program} (hP:P=Tryz.prog) {w:World} {ops:Array Oper} {rest:List Oper} {o:Oper} {a:Act} {Q:Exit→Act→World→Prop}
  (hg:o.guard=none) (m x v:Operand) (hop:o.op=Op.mapUpdate 64 m x v) (b n:Nat) (f:Str→Nat) (hm:a.eval m=.map (some b)) (hown:CntMap w b n f) (hn:n≤1000000000)
  (s:Str) (c:Nat) (hx:a.eval x=S s) (hv:a.eval v=.int .i64 c) (hs:s.length≤1000000000) (hc:c≤1000000001)
  (f':Str→Nat) (hf:∀ key,f' key=if key == s then c else f key)
  (hK:∀ w',CntMap w' b (n + 1) f'→w.grownBy w' (some b)→wpList P ops Q rest (a.put o.dst undef) w') :
  wpList P ops Q (o :: rest) a w:=by
 subst hP
 obtain ⟨D,h1,h2,h3⟩:=hown
 refine wpList_mapUpdate_own _ hg m x v _ hop 9 3 strLaw Tryz.underlying64 _ b n D hm h1 (by unfold maxLen;omega) _ _ _ hx hv (keyStr hs) _ []
  (plainElem_int Tryz.underlying3 (wf_nat (by omega))) ?_
 intro w' h1' hg'
 refine hK w' ⟨_,h1',h2.put _ _,fun key=>?_⟩ hg'
 rw [hf key]
 by_cases hk:key=s
 ·subst hk
  rw [atKey_put_same h2 (by trivial)]
  simp
 ·rw [atKey_put_other (by simpa using hk),h3]
  have:(key == s)=false:=by simpa using hk
  simp [this]
theorem grown_cell {w w':World} {row:Option Nat} (hg:w.grownBy w' row) {a:Addr} {v:Value} (h:w.cell? a=some v) (hne:some a.block≠row):w'.cell? a=some v :=
 (World.cell?_of_block (w:=w) (hg.block a.block (World.block_lt_of_cell? w _ h) hne)).trans h
theorem beq_cast (c:Nat):(((c:Int) + 1) == 1)=(true && (c + 1 == 1)):=by
 rw [Bool.true_and,Bool.eq_iff_iff,beq_iff_eq,beq_iff_eq];omega
set_option maxHeartbeats 400000 in
set_option maxRecDepth 100000 in
theorem keys_calls (w:World) (a:Option Addr) (cap:Nat) (l:List (Str×Str)) (hr:RowAt prC 2 w a l) (hl:l.length≤1000000000) (hk:∀ p ∈ l,p.1.length≤1000000000) :
  Calls Tryz.prog 170 #[.slice a l.length cap] w fun e w'=>e=.returned (.tuple #[.bool (rightM l),.bool (onceM l)])∧Below w.heap.size w w':=by
 have HR:=Lib.hid hr
 have HK:=Lib.hid hk
 clear hr hk
 have hmm:=@run_makeMap Tryz.prog
 go_enter Tryz.func170,Tryz.ntmps170
 go_wp2
 go_loopg [2,3,10] l.length (fun g v2 v3 v10 wr=>∃ k:Nat,∃ r o:Bool,g + k=l.length∧v10=.int .i64 k∧v2=.bool r∧v3=.bool o∧Hid (r=rightM (l.take k)∧o=onceM (l.take k)) ∧
  Hid (CntMap wr w.heap.size k (cnt (l.take k)))∧Hid (Below w.heap.size w wr))
 case atStart=>exact ⟨0,true,true,by simp,rfl,rfl,rfl,⟨rfl,rfl⟩,CntMap.made _,(Below.refl _ _).alloc (Nat.le_refl _) _⟩
 case round =>
  obtain ⟨k,r,on,hk,rfl,rfl,rfl,HF,HC,HB⟩:=hrel
  cases gk with
  | zero =>
   have hge:l.length≤k:=by omega
   clear hk
   go_wp2
   go_ret2
   have hk:l.take k=l:=List.take_of_length_le hge
   have HF':=HF.out
   rw [hk] at HF'
   rw [← HF'.1,← HF'.2]
   exact ⟨rfl,HB.out⟩
  | succ g1 =>
   have hlt:k<l.length:=by omega
   have HG:Hid (g1 + 1 + k=l.length):=hk
   clear hk
   obtain ⟨b,o,rfl,c1,c2⟩:=(HR.out.ext HB.out).pr hlt
   have HD:Hid (l.take (k + 1)=l.take k ++ [l[k]]):=by simp [Hid]
   have hks:(l[k]).1.length≤1000000000:=HK.out _ (List.getElem_mem hlt)
   generalize l[k]=x at c1 c2 HD hks
   have HF2:Hid (rightM (l.take (k + 1))=(r && keyOk x.1)∧onceM (l.take (k + 1))=(on && (cnt (l.take (k + 1)) x.1 == 1))):=by
    rw [HD.out,rightM_snoc,once_step,HF.out.1,HF.out.2]
    exact ⟨rfl,rfl⟩
   have hcn:cnt (l.take k) x.1≤1000000000:=by
    have h1:cnt (l.take k) x.1≤(l.take k).length:=List.countP_le_length
    rw [List.length_take] at h1
    omega
   have HFF:=Lib.hid (cnt_step HD.out)
   clear HD HF
   obtain ⟨xk,xv⟩:=x
   have HKS:=Lib.hid hks
   clear hks
   dsimp only at c1 c2 hcn HF2 HFF
   have HC1:=Lib.hid (HC.out.alloc (.cells #[S xk,S xv] 169))
   have hlook:=HC1.out.look HKS.out
   dsimp only at hlook
   generalize cnt (l.take k) xk=c0 at hlook hcn HFF
   have HCC:Hid (cnt (l.take (k + 1)) xk=c0 + 1):=Lib.hid (by have:=HFF.out xk;simpa using this)
   rw [HCC.out] at HF2
   have hcells:(wr.alloc (.cells #[S xk,S xv] 169)).cell? ⟨wr.heap.size,0,none⟩=some (S xk):=cell_new _ _ _ _ rfl
   have HCE:=Lib.hid hcells
   clear hcells
   have hne:some wr.heap.size≠some w.heap.size:=by
    have h1:=HC.out.lt
    have h2:=HB.out.size
    intro e
    simp only [Option.some.injEq] at e
    omega
   have HNE:=Lib.hid hne
   have hbase:w.heap.size≤wr.heap.size + 1:=by have:=HB.out.size;omega
   clear hne HC
   cases xk with
   | nil =>
    cases r <;> cases on
    all_goals
     go_wp2_with (first|(at_mapUpdate;refine wpList_cnt_up rfl rfl _ _ _ rfl _ k _ rfl HC1.out (by omega) [] (c0 + 1) rfl (by go_num) (by simp) (by omega) _ HFF.out ?_))
     intro w' hC' hg'
     have HC2:=Lib.hid hC'
     have HB2:Hid (Below w.heap.size w w'):=(HB.out.alloc HB.out.size _).grown hg' (by simp;exact hbase) (fun j hj=>by cases hj;exact Nat.le_refl _)
     have hlook2:=HC2.out.look HKS.out
     rw [HCC.out] at hlook2
     have hcell2:=grown_cell hg' HCE.out HNE.out
     clear hC' hg' hlook
     go_wp2
     go_roundg g1
     case measure=>omega
     case rel=>exact ⟨k + 1,_,_,by have:=HG.out;omega,by go_num,rfl,rfl,⟨by rw [HF2.out.1];rfl,by rw [HF2.out.2];first|rfl|exact beq_cast c0⟩,HC2,HB2⟩
   | cons c rest =>
    cases r <;> cases on
    all_goals
     go_wp2_with (first|(go_at_call 193;refine (contains1_calls _ _ _).mono ?_;rintro e w' ⟨rfl,rfl⟩)|(at_mapUpdate;refine wpList_cnt_up rfl rfl _ _ _ rfl _ k _ rfl HC1.out (by omega) (c :: rest) (c0 + 1) rfl (by go_num) HKS.out (by omega) _ HFF.out ?_))
     intro w' hC' hg'
     have HC2:=Lib.hid hC'
     have HB2:Hid (Below w.heap.size w w'):=(HB.out.alloc HB.out.size _).grown hg' (by simp;exact hbase) (fun j hj=>by cases hj;exact Nat.le_refl _)
     have hlook2:=HC2.out.look HKS.out
     rw [HCC.out] at hlook2
     have hcell2:=grown_cell hg' HCE.out HNE.out
     clear hC' hg' hlook
     go_wp2
     go_roundg g1
     case measure=>omega
     case rel=>exact ⟨k + 1,_,_,by have:=HG.out;omega,by go_num,rfl,rfl,⟨by rw [HF2.out.1];first|rfl|simp [keyOk],by rw [HF2.out.2];first|rfl|exact beq_cast c0⟩,HC2,HB2⟩
end Go.Proofs.YtjghikkboekonaaGreatDoor
end
section
namespace Go.Proofs.YtjghikkboekonaaGreatDoor
open Go.RowKit
theorem lenAux_step_eq {rest f d:Nat} (h:(dec (rest + 1 + d)).length=1 + d):lenAux rest (f + 1) d=rest + 1 + d:=by simp only [lenAux];rw [if_pos h]
theorem lenAux_step_ne {rest f d:Nat} (h:¬ (dec (rest + 1 + d)).length=1 + d):lenAux rest (f + 1) d=lenAux rest f (d + 1):=by simp only [lenAux];rw [if_neg h]
theorem ret_i64 {a b:Int} (h:a=b):Ending.returned (.int .i64 a)=.returned (.int .i64 b):=by rw [h]
set_option maxHeartbeats 400000 in
theorem length_calls (w:World) (hg:GL w) (r:Nat) (hr:r≤1000000000) :
  Calls Tryz.prog 191 #[.int .i64 r] w fun e w'=>e=.returned (.int .i64 (lenM r))∧Below w.heap.size w w':=by
 go_enter Tryz.func191,Tryz.ntmps191
 go_wp2
 go_step3
 go_wp2
 go_step3
 go_wp2
 go_loopg [3,6] 9 (fun g v3 v6 wr=>∃ d:Nat,g + d=9∧v6=.int .i64 d∧v3=.int .i64 (r + d)∧Hid (lenM r=lenAux r g d)∧Hid (Below w.heap.size w wr))
 case atStart=>exact ⟨0,rfl,rfl,by simp,rfl,Below.refl _ _⟩
 case round =>
  obtain ⟨d,hd,rfl,rfl,HL,HB⟩:=hrel
  cases gk with
  | zero =>
   obtain rfl:d=9:=by omega
   clear hd
   go_wp2
   rw [Exit.noGoto_ret]
   go_ret
   exact ⟨ret_i64 (by rw [HL.out];simp [lenAux]),HB.out⟩
  | succ g1 =>
   have hd9:d<9:=by omega
   have hgd:Hid (g1 + 1 + d=9):=hd
   clear hd
   go_wp2_with fail
   rw [show ((r:Int) + 1 + (d:Int))=((r + 1 + d:Nat):Int) from by omega]
   refine (itoa_calls wr (hg.ext HB.out) (r + 1 + d) (by omega)).mono ?_
   rintro e w1 ⟨rfl,hb1⟩
   have HB1:Hid (Below w.heap.size w w1):=HB.out.trans (hb1.mono HB.out.size)
   clear HB hb1
   go_wp2
   ·have ht:(((dec (r + 1 + d)).length:Int) == 1 + (d:Int))=true:=by assumption
    rw [Exit.noGoto_ret]
    go_ret
    refine ⟨ret_i64 ?_,HB1.out⟩
    have:=eq_of_beq ht
    rw [HL.out,lenAux_step_eq (by omega)]
    omega
   ·have ht:(((dec (r + 1 + d)).length:Int) == 1 + (d:Int))=false:=by assumption
    go_roundg g1
    case measure=>omega
    case rel =>
     have:=ne_of_beq_false ht
     refine ⟨d + 1,by have:=hgd.out;omega,by go_num,by go_num,?_,HB1⟩
     have e:=HL.out
     rw [lenAux_step_ne (by omega)] at e
     exact e
end Go.Proofs.YtjghikkboekonaaGreatDoor
end
