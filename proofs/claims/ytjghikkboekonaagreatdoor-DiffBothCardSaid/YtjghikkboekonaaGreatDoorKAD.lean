/- A part of a proof of DiffBothCardSaid of this seat: what its walks and its laws lean on; joined by a program of this repo (wip/pack.py) out of the texts QPathsUnmark, QPathsParent, QPathsUnder, XEv1, QChangeTar, QChangeCompare, QChangeLess, XEv2, Cnt, PaxB, PaxA, PaxC, PaxD, Buf, PaxE, Row. -/
import Derived.ChangeAlike
import Derived.Laws.Externs
import Derived.Laws.IdiomCopy
import Derived.Laws.OwnMore
import Derived.Lib.AppendStr
import Derived.Lib.AtoiAllCases
import Derived.Lib.Builder
import Derived.Lib.MakeNoZero
import Derived.Lib.Strings
import Derived.Lib.UnsafeStr
import Derived.Maps.Ext
import Derived.Maps.OwnOps
import Derived.Maps.Views
import Derived.RegionTactic
import Derived.WalkArith
import Derived.Test.YtjghikkboekonaaGreatDoorKAA
import Derived.Test.YtjghikkboekonaaGreatDoorKAB
import Derived.Test.YtjghikkboekonaaGreatDoorKAC
set_option linter.unusedSimpArgs false
set_option linter.unusedVariables false
section
namespace Go.Proofs.Zq
open Go.RowKit Go.Proofs.Zw.PrintWords Go.Proofs.Zw.PrintLast Go.Proofs.Zw.PrintMore
open Go.Proofs.YtjghikkboekonaaGreatDoor (GL)
attribute [local go_sem] max2_int min2_int max_two min_two max_three min_three max_four min_four
def paths_Unmark.f (k:Nat) (a0:Int) (a1:ByteArray):Option (ByteArray×Bool):=if a0=1 then ((paths_split.f a1).bind fun bt295=>(if 4 + bt295.2.size≤9223372036854775807 then ((paths_below.f bt295.1 ((⟨#[46,119,104,46]⟩:ByteArray) ++ bt295.2)).bind fun t297=>((paths_Mark.f k t297).bind fun bt298=>(if bt298.2.2=true then (if bt298.1=a0 then (if bt298.2.1.toList=a1.toList then (some (t297,true)) else (some ((⟨#[]⟩:ByteArray),false))) else (some ((⟨#[]⟩:ByteArray),false))) else (some ((⟨#[]⟩:ByteArray),false))))) else (none))) else (if a0=2 then ((paths_below.f a1 (⟨#[46,119,104,46,46,119,104,46,46,111,112,113]⟩:ByteArray)).bind fun t301=>((paths_Mark.f k t301).bind fun bt302=>(if bt302.2.2=true then (if bt302.1=a0 then (if bt302.2.1.toList=a1.toList then (some (t301,true)) else (some ((⟨#[]⟩:ByteArray),false))) else (some ((⟨#[]⟩:ByteArray),false))) else (some ((⟨#[]⟩:ByteArray),false))))) else ((paths_Mark.f k a1).bind fun bt305=>(if bt305.2.2=true then (if bt305.1=a0 then (if bt305.2.1.toList=a1.toList then (some (a1,true)) else (some ((⟨#[]⟩:ByteArray),false))) else (some ((⟨#[]⟩:ByteArray),false))) else (some ((⟨#[]⟩:ByteArray),false)))))
set_option maxHeartbeats 8000000 in
set_option maxRecDepth 100000 in
theorem paths_Unmark.calls (k:Nat) (a0:Int) (a1:ByteArray) (r1:ByteArray) (r2:Bool) (w:World) (hG:GL w) (h:paths_Unmark.f k a0 a1=some (r1,r2)) :
  Calls Tryz.prog 64 #[.int .i64 a0,.string a1] w fun e w'=>e=.returned (.tuple #[.string r1,.bool r2])∧Below w.heap.size w w':=by
 have HB:=pz4.mk (Below.refl w.heap.size w)
 have H:(if a0=1 then ((paths_split.f a1).bind fun bt295=>(if 4 + bt295.2.size≤9223372036854775807 then ((paths_below.f bt295.1 ((⟨#[46,119,104,46]⟩:ByteArray) ++ bt295.2)).bind fun t297=>((paths_Mark.f k t297).bind fun bt298=>(if bt298.2.2=true then (if bt298.1=a0 then (if bt298.2.1.toList=a1.toList then (some (t297,true)) else (some ((⟨#[]⟩:ByteArray),false))) else (some ((⟨#[]⟩:ByteArray),false))) else (some ((⟨#[]⟩:ByteArray),false))))) else (none))) else (if a0=2 then ((paths_below.f a1 (⟨#[46,119,104,46,46,119,104,46,46,111,112,113]⟩:ByteArray)).bind fun t301=>((paths_Mark.f k t301).bind fun bt302=>(if bt302.2.2=true then (if bt302.1=a0 then (if bt302.2.1.toList=a1.toList then (some (t301,true)) else (some ((⟨#[]⟩:ByteArray),false))) else (some ((⟨#[]⟩:ByteArray),false))) else (some ((⟨#[]⟩:ByteArray),false))))) else ((paths_Mark.f k a1).bind fun bt305=>(if bt305.2.2=true then (if bt305.1=a0 then (if bt305.2.1.toList=a1.toList then (some (a1,true)) else (some ((⟨#[]⟩:ByteArray),false))) else (some ((⟨#[]⟩:ByteArray),false))) else (some ((⟨#[]⟩:ByteArray),false))))))=some (r1,r2):=h
 clear h
 by_cases c3:a0=1
 ·rw [if_pos c3] at H
  have c3b0:(a0 == 1)=true:=beq_iff_eq.mpr c3
  have c3b1:(a0 != 1)=false:=bne_eq_false_iff_eq.mpr c3
  clear c3
  replace H:=Option.bind_eq_some_iff.mp H
  obtain ⟨⟨t295,t296⟩,A40,H⟩:=H
  replace H:(if 4 + t296.size≤9223372036854775807 then ((paths_below.f t295 ((⟨#[46,119,104,46]⟩:ByteArray) ++ t296)).bind fun t297=>((paths_Mark.f k t297).bind fun bt298=>(if bt298.2.2=true then (if bt298.1=a0 then (if bt298.2.1.toList=a1.toList then (some (t297,true)) else (some ((⟨#[]⟩:ByteArray),false))) else (some ((⟨#[]⟩:ByteArray),false))) else (some ((⟨#[]⟩:ByteArray),false))))) else (none))=some (r1,r2):=H
  have A4:=pz4.mk A40
  clear A40
  by_cases c5:4 + t296.size≤9223372036854775807
  ·rw [if_pos c5] at H
   have c5b0:=eq_true c5
   have c5b1:decide (4 + t296.size≤9223372036854775807)=true:=decide_eq_true c5
   try have c5b2:(9223372036854775807<4 + t296.size)=False:=eq_false (Nat.not_lt.2 c5)
   replace H:=Option.bind_eq_some_iff.mp H
   obtain ⟨t297,A60,H⟩:=H
   replace H:((paths_Mark.f k t297).bind fun bt298=>(if bt298.2.2=true then (if bt298.1=a0 then (if bt298.2.1.toList=a1.toList then (some (t297,true)) else (some ((⟨#[]⟩:ByteArray),false))) else (some ((⟨#[]⟩:ByteArray),false))) else (some ((⟨#[]⟩:ByteArray),false))))=some (r1,r2):=H
   have A6:=pz4.mk A60
   clear A60
   replace H:=Option.bind_eq_some_iff.mp H
   obtain ⟨⟨t298,t299,t300⟩,A70,H⟩:=H
   replace H:(if t300=true then (if t298=a0 then (if t299.toList=a1.toList then (some (t297,true)) else (some ((⟨#[]⟩:ByteArray),false))) else (some ((⟨#[]⟩:ByteArray),false))) else (some ((⟨#[]⟩:ByteArray),false)))=some (r1,r2):=H
   have A7:=pz4.mk A70
   clear A70
   by_cases c8:t300=true
   ·subst c8
    have H1:(if t298=a0 then (if t299.toList=a1.toList then (some (t297,true)) else (some ((⟨#[]⟩:ByteArray),false))) else (some ((⟨#[]⟩:ByteArray),false)))=some (r1,r2):=by rw [if_pos rfl] at H;exact H
    clear H
    have H:=H1
    clear H1
    by_cases c9:t298=a0
    ·rw [if_pos c9] at H
     have c9b0:(t298 == a0)=true:=beq_iff_eq.mpr c9
     have c9b1:(t298 != a0)=false:=bne_eq_false_iff_eq.mpr c9
     clear c9
     by_cases c10:t299.toList=a1.toList
     ·rw [if_pos c10] at H
      have c10b0:(t299.toList == a1.toList)=true:=beq_iff_eq.mpr c10
      have c10b1:(t299.toList != a1.toList)=false:=bne_eq_false_iff_eq.mpr c10
      clear c10
      simp only [Option.some.injEq,Prod.mk.injEq] at H
      obtain ⟨rfl,rfl⟩:=H
      go_enter Tryz.func64,Tryz.ntmps64
      go_wp2_with (first|((with_reducible refine pz8 (f:=41) rfl ?_);refine goesL_ (some 18) rfl rfl Tryz.func41 (by kernel_rfl) rfl #[.string a1] rfl (by (try simp only [List.map_toArray,List.map_cons,List.map_nil]);first|done|rfl|(simp only [List.length_drop,List.length_take];rfl)) ?_;(with_reducible refine (paths_split.calls a1 t295 t296 _ A4.out).mono ?_);rintro e w11 ⟨rfl,hb⟩;refine ⟨_,rfl,?_⟩;have n0_:=pz4.mk (below_step (by repeat (first|(with_reducible first|exact HB.out|apply pz3|apply pz1|apply pz2)|exact HB.out)) hb);clear HB;have HB:=n0_;clear n0_;(try clear hb);(try clear hb2);(try clear hk);(try clear hi))|((with_reducible refine pz8 (f:=94) rfl ?_);refine goesL_ (some 24) rfl rfl Tryz.func94 (by kernel_rfl) rfl #[.string t295,.string ((⟨#[46,119,104,46]⟩:ByteArray) ++ t296)] rfl (by (try simp only [List.map_toArray,List.map_cons,List.map_nil]);first|done|rfl|(simp only [List.length_drop,List.length_take];rfl)) ?_;(with_reducible refine (paths_below.calls t295 ((⟨#[46,119,104,46]⟩:ByteArray) ++ t296) t297 _ A6.out).mono ?_);rintro e w' ⟨rfl,⟨nd,rfl⟩⟩;refine ⟨_,rfl,?_⟩)|((with_reducible refine pz8 (f:=67) rfl ?_);refine goesL_ (some 31) rfl rfl Tryz.func67 (by kernel_rfl) rfl #[.string t297] rfl (by (try simp only [List.map_toArray,List.map_cons,List.map_nil]);first|done|rfl|(simp only [List.length_drop,List.length_take];rfl)) ?_;(with_reducible refine (paths_Mark.calls k t297 t298 t299 true _ (hG.ext (by repeat (first|(with_reducible first|exact HB.out|apply pz3|apply pz1|apply pz2)|exact HB.out))) A7.out).mono ?_);rintro e w12 ⟨rfl,hb⟩;refine ⟨_,rfl,?_⟩;have n0_:=pz4.mk (below_step (by repeat (first|(with_reducible first|exact HB.out|apply pz3|apply pz1|apply pz2)|exact HB.out)) hb);clear HB;have HB:=n0_;clear n0_;(try clear hb);(try clear hb2);(try clear hk);(try clear hi)))
      go_ret2
      exact ⟨by first|rfl|(simp [pz6,pz5] <;> rfl)|(simp [*,pz6,pz5] <;> rfl),by repeat (first|(with_reducible first|exact HB.out|apply pz3|apply pz1|apply pz2)|exact HB.out)⟩
     ·rw [if_neg c10] at H
      have c10b0:(t299.toList == a1.toList)=false:=beq_eq_false_iff_ne.mpr c10
      have c10b1:(t299.toList != a1.toList)=true:=bne_iff_ne.mpr c10
      simp only [Option.some.injEq,Prod.mk.injEq] at H
      obtain ⟨rfl,rfl⟩:=H
      go_enter Tryz.func64,Tryz.ntmps64
      go_wp2_with (first|((with_reducible refine pz8 (f:=41) rfl ?_);refine goesL_ (some 18) rfl rfl Tryz.func41 (by kernel_rfl) rfl #[.string a1] rfl (by (try simp only [List.map_toArray,List.map_cons,List.map_nil]);first|done|rfl|(simp only [List.length_drop,List.length_take];rfl)) ?_;(with_reducible refine (paths_split.calls a1 t295 t296 _ A4.out).mono ?_);rintro e w13 ⟨rfl,hb⟩;refine ⟨_,rfl,?_⟩;have n0_:=pz4.mk (below_step (by repeat (first|(with_reducible first|exact HB.out|apply pz3|apply pz1|apply pz2)|exact HB.out)) hb);clear HB;have HB:=n0_;clear n0_;(try clear hb);(try clear hb2);(try clear hk);(try clear hi))|((with_reducible refine pz8 (f:=94) rfl ?_);refine goesL_ (some 24) rfl rfl Tryz.func94 (by kernel_rfl) rfl #[.string t295,.string ((⟨#[46,119,104,46]⟩:ByteArray) ++ t296)] rfl (by (try simp only [List.map_toArray,List.map_cons,List.map_nil]);first|done|rfl|(simp only [List.length_drop,List.length_take];rfl)) ?_;(with_reducible refine (paths_below.calls t295 ((⟨#[46,119,104,46]⟩:ByteArray) ++ t296) t297 _ A6.out).mono ?_);rintro e w' ⟨rfl,⟨nd,rfl⟩⟩;refine ⟨_,rfl,?_⟩)|((with_reducible refine pz8 (f:=67) rfl ?_);refine goesL_ (some 31) rfl rfl Tryz.func67 (by kernel_rfl) rfl #[.string t297] rfl (by (try simp only [List.map_toArray,List.map_cons,List.map_nil]);first|done|rfl|(simp only [List.length_drop,List.length_take];rfl)) ?_;(with_reducible refine (paths_Mark.calls k t297 t298 t299 true _ (hG.ext (by repeat (first|(with_reducible first|exact HB.out|apply pz3|apply pz1|apply pz2)|exact HB.out))) A7.out).mono ?_);rintro e w14 ⟨rfl,hb⟩;refine ⟨_,rfl,?_⟩;have n0_:=pz4.mk (below_step (by repeat (first|(with_reducible first|exact HB.out|apply pz3|apply pz1|apply pz2)|exact HB.out)) hb);clear HB;have HB:=n0_;clear n0_;(try clear hb);(try clear hb2);(try clear hk);(try clear hi)))
      go_ret2
      exact ⟨by first|rfl|(simp [pz6,pz5] <;> rfl)|(simp [*,pz6,pz5] <;> rfl),by repeat (first|(with_reducible first|exact HB.out|apply pz3|apply pz1|apply pz2)|exact HB.out)⟩
    ·rw [if_neg c9] at H
     have c9b0:(t298 == a0)=false:=beq_eq_false_iff_ne.mpr c9
     have c9b1:(t298 != a0)=true:=bne_iff_ne.mpr c9
     simp only [Option.some.injEq,Prod.mk.injEq] at H
     obtain ⟨rfl,rfl⟩:=H
     go_enter Tryz.func64,Tryz.ntmps64
     go_wp2_with (first|((with_reducible refine pz8 (f:=41) rfl ?_);refine goesL_ (some 18) rfl rfl Tryz.func41 (by kernel_rfl) rfl #[.string a1] rfl (by (try simp only [List.map_toArray,List.map_cons,List.map_nil]);first|done|rfl|(simp only [List.length_drop,List.length_take];rfl)) ?_;(with_reducible refine (paths_split.calls a1 t295 t296 _ A4.out).mono ?_);rintro e w15 ⟨rfl,hb⟩;refine ⟨_,rfl,?_⟩;have n0_:=pz4.mk (below_step (by repeat (first|(with_reducible first|exact HB.out|apply pz3|apply pz1|apply pz2)|exact HB.out)) hb);clear HB;have HB:=n0_;clear n0_;(try clear hb);(try clear hb2);(try clear hk);(try clear hi))|((with_reducible refine pz8 (f:=94) rfl ?_);refine goesL_ (some 24) rfl rfl Tryz.func94 (by kernel_rfl) rfl #[.string t295,.string ((⟨#[46,119,104,46]⟩:ByteArray) ++ t296)] rfl (by (try simp only [List.map_toArray,List.map_cons,List.map_nil]);first|done|rfl|(simp only [List.length_drop,List.length_take];rfl)) ?_;(with_reducible refine (paths_below.calls t295 ((⟨#[46,119,104,46]⟩:ByteArray) ++ t296) t297 _ A6.out).mono ?_);rintro e w' ⟨rfl,⟨nd,rfl⟩⟩;refine ⟨_,rfl,?_⟩)|((with_reducible refine pz8 (f:=67) rfl ?_);refine goesL_ (some 31) rfl rfl Tryz.func67 (by kernel_rfl) rfl #[.string t297] rfl (by (try simp only [List.map_toArray,List.map_cons,List.map_nil]);first|done|rfl|(simp only [List.length_drop,List.length_take];rfl)) ?_;(with_reducible refine (paths_Mark.calls k t297 t298 t299 true _ (hG.ext (by repeat (first|(with_reducible first|exact HB.out|apply pz3|apply pz1|apply pz2)|exact HB.out))) A7.out).mono ?_);rintro e w16 ⟨rfl,hb⟩;refine ⟨_,rfl,?_⟩;have n0_:=pz4.mk (below_step (by repeat (first|(with_reducible first|exact HB.out|apply pz3|apply pz1|apply pz2)|exact HB.out)) hb);clear HB;have HB:=n0_;clear n0_;(try clear hb);(try clear hb2);(try clear hk);(try clear hi)))
     go_ret2
     exact ⟨by first|rfl|(simp [pz6,pz5] <;> rfl)|(simp [*,pz6,pz5] <;> rfl),by repeat (first|(with_reducible first|exact HB.out|apply pz3|apply pz1|apply pz2)|exact HB.out)⟩
   ·replace c8:=Bool.eq_false_iff.mpr c8
    subst c8
    have H1:(some ((⟨#[]⟩:ByteArray),false))=some (r1,r2):=by rw [if_neg (show ¬ (false=true) by decide)] at H;exact H
    clear H
    have H:=H1
    clear H1
    simp only [Option.some.injEq,Prod.mk.injEq] at H
    obtain ⟨rfl,rfl⟩:=H
    go_enter Tryz.func64,Tryz.ntmps64
    go_wp2_with (first|((with_reducible refine pz8 (f:=41) rfl ?_);refine goesL_ (some 18) rfl rfl Tryz.func41 (by kernel_rfl) rfl #[.string a1] rfl (by (try simp only [List.map_toArray,List.map_cons,List.map_nil]);first|done|rfl|(simp only [List.length_drop,List.length_take];rfl)) ?_;(with_reducible refine (paths_split.calls a1 t295 t296 _ A4.out).mono ?_);rintro e w17 ⟨rfl,hb⟩;refine ⟨_,rfl,?_⟩;have n0_:=pz4.mk (below_step (by repeat (first|(with_reducible first|exact HB.out|apply pz3|apply pz1|apply pz2)|exact HB.out)) hb);clear HB;have HB:=n0_;clear n0_;(try clear hb);(try clear hb2);(try clear hk);(try clear hi))|((with_reducible refine pz8 (f:=94) rfl ?_);refine goesL_ (some 24) rfl rfl Tryz.func94 (by kernel_rfl) rfl #[.string t295,.string ((⟨#[46,119,104,46]⟩:ByteArray) ++ t296)] rfl (by (try simp only [List.map_toArray,List.map_cons,List.map_nil]);first|done|rfl|(simp only [List.length_drop,List.length_take];rfl)) ?_;(with_reducible refine (paths_below.calls t295 ((⟨#[46,119,104,46]⟩:ByteArray) ++ t296) t297 _ A6.out).mono ?_);rintro e w' ⟨rfl,⟨nd,rfl⟩⟩;refine ⟨_,rfl,?_⟩)|((with_reducible refine pz8 (f:=67) rfl ?_);refine goesL_ (some 31) rfl rfl Tryz.func67 (by kernel_rfl) rfl #[.string t297] rfl (by (try simp only [List.map_toArray,List.map_cons,List.map_nil]);first|done|rfl|(simp only [List.length_drop,List.length_take];rfl)) ?_;(with_reducible refine (paths_Mark.calls k t297 t298 t299 false _ (hG.ext (by repeat (first|(with_reducible first|exact HB.out|apply pz3|apply pz1|apply pz2)|exact HB.out))) A7.out).mono ?_);rintro e w18 ⟨rfl,hb⟩;refine ⟨_,rfl,?_⟩;have n0_:=pz4.mk (below_step (by repeat (first|(with_reducible first|exact HB.out|apply pz3|apply pz1|apply pz2)|exact HB.out)) hb);clear HB;have HB:=n0_;clear n0_;(try clear hb);(try clear hb2);(try clear hk);(try clear hi)))
    go_ret2
    exact ⟨by first|rfl|(simp [pz6,pz5] <;> rfl)|(simp [*,pz6,pz5] <;> rfl),by repeat (first|(with_reducible first|exact HB.out|apply pz3|apply pz1|apply pz2)|exact HB.out)⟩
  ·rw [if_neg c5] at H
   exact absurd H (by simp)
 ·rw [if_neg c3] at H
  have c3b0:(a0 == 1)=false:=beq_eq_false_iff_ne.mpr c3
  have c3b1:(a0 != 1)=true:=bne_iff_ne.mpr c3
  by_cases c19:a0=2
  ·rw [if_pos c19] at H
   have c19b0:(a0 == 2)=true:=beq_iff_eq.mpr c19
   have c19b1:(a0 != 2)=false:=bne_eq_false_iff_eq.mpr c19
   clear c19
   replace H:=Option.bind_eq_some_iff.mp H
   obtain ⟨t301,A200,H⟩:=H
   replace H:((paths_Mark.f k t301).bind fun bt302=>(if bt302.2.2=true then (if bt302.1=a0 then (if bt302.2.1.toList=a1.toList then (some (t301,true)) else (some ((⟨#[]⟩:ByteArray),false))) else (some ((⟨#[]⟩:ByteArray),false))) else (some ((⟨#[]⟩:ByteArray),false))))=some (r1,r2):=H
   have A20:=pz4.mk A200
   clear A200
   replace H:=Option.bind_eq_some_iff.mp H
   obtain ⟨⟨t302,t303,t304⟩,A210,H⟩:=H
   replace H:(if t304=true then (if t302=a0 then (if t303.toList=a1.toList then (some (t301,true)) else (some ((⟨#[]⟩:ByteArray),false))) else (some ((⟨#[]⟩:ByteArray),false))) else (some ((⟨#[]⟩:ByteArray),false)))=some (r1,r2):=H
   have A21:=pz4.mk A210
   clear A210
   by_cases c22:t304=true
   ·subst c22
    have H1:(if t302=a0 then (if t303.toList=a1.toList then (some (t301,true)) else (some ((⟨#[]⟩:ByteArray),false))) else (some ((⟨#[]⟩:ByteArray),false)))=some (r1,r2):=by rw [if_pos rfl] at H;exact H
    clear H
    have H:=H1
    clear H1
    by_cases c23:t302=a0
    ·rw [if_pos c23] at H
     have c23b0:(t302 == a0)=true:=beq_iff_eq.mpr c23
     have c23b1:(t302 != a0)=false:=bne_eq_false_iff_eq.mpr c23
     clear c23
     by_cases c24:t303.toList=a1.toList
     ·rw [if_pos c24] at H
      have c24b0:(t303.toList == a1.toList)=true:=beq_iff_eq.mpr c24
      have c24b1:(t303.toList != a1.toList)=false:=bne_eq_false_iff_eq.mpr c24
      clear c24
      simp only [Option.some.injEq,Prod.mk.injEq] at H
      obtain ⟨rfl,rfl⟩:=H
      go_enter Tryz.func64,Tryz.ntmps64
      go_wp2_with (first|((with_reducible refine pz8 (f:=94) rfl ?_);refine goesL_ (some 28) rfl rfl Tryz.func94 (by kernel_rfl) rfl #[.string a1,.string (⟨#[46,119,104,46,46,119,104,46,46,111,112,113]⟩:ByteArray)] rfl (by (try simp only [List.map_toArray,List.map_cons,List.map_nil]);first|done|rfl|(simp only [List.length_drop,List.length_take];rfl)) ?_;(with_reducible refine (paths_below.calls a1 (⟨#[46,119,104,46,46,119,104,46,46,111,112,113]⟩:ByteArray) t301 _ A20.out).mono ?_);rintro e w' ⟨rfl,⟨nd,rfl⟩⟩;refine ⟨_,rfl,?_⟩)|((with_reducible refine pz8 (f:=67) rfl ?_);refine goesL_ (some 31) rfl rfl Tryz.func67 (by kernel_rfl) rfl #[.string t301] rfl (by (try simp only [List.map_toArray,List.map_cons,List.map_nil]);first|done|rfl|(simp only [List.length_drop,List.length_take];rfl)) ?_;(with_reducible refine (paths_Mark.calls k t301 t302 t303 true _ (hG.ext (by repeat (first|(with_reducible first|exact HB.out|apply pz3|apply pz1|apply pz2)|exact HB.out))) A21.out).mono ?_);rintro e w25 ⟨rfl,hb⟩;refine ⟨_,rfl,?_⟩;have n0_:=pz4.mk (below_step (by repeat (first|(with_reducible first|exact HB.out|apply pz3|apply pz1|apply pz2)|exact HB.out)) hb);clear HB;have HB:=n0_;clear n0_;(try clear hb);(try clear hb2);(try clear hk);(try clear hi)))
      go_ret2
      exact ⟨by first|rfl|(simp [pz6,pz5] <;> rfl)|(simp [*,pz6,pz5] <;> rfl),by repeat (first|(with_reducible first|exact HB.out|apply pz3|apply pz1|apply pz2)|exact HB.out)⟩
     ·rw [if_neg c24] at H
      have c24b0:(t303.toList == a1.toList)=false:=beq_eq_false_iff_ne.mpr c24
      have c24b1:(t303.toList != a1.toList)=true:=bne_iff_ne.mpr c24
      simp only [Option.some.injEq,Prod.mk.injEq] at H
      obtain ⟨rfl,rfl⟩:=H
      go_enter Tryz.func64,Tryz.ntmps64
      go_wp2_with (first|((with_reducible refine pz8 (f:=94) rfl ?_);refine goesL_ (some 28) rfl rfl Tryz.func94 (by kernel_rfl) rfl #[.string a1,.string (⟨#[46,119,104,46,46,119,104,46,46,111,112,113]⟩:ByteArray)] rfl (by (try simp only [List.map_toArray,List.map_cons,List.map_nil]);first|done|rfl|(simp only [List.length_drop,List.length_take];rfl)) ?_;(with_reducible refine (paths_below.calls a1 (⟨#[46,119,104,46,46,119,104,46,46,111,112,113]⟩:ByteArray) t301 _ A20.out).mono ?_);rintro e w' ⟨rfl,⟨nd,rfl⟩⟩;refine ⟨_,rfl,?_⟩)|((with_reducible refine pz8 (f:=67) rfl ?_);refine goesL_ (some 31) rfl rfl Tryz.func67 (by kernel_rfl) rfl #[.string t301] rfl (by (try simp only [List.map_toArray,List.map_cons,List.map_nil]);first|done|rfl|(simp only [List.length_drop,List.length_take];rfl)) ?_;(with_reducible refine (paths_Mark.calls k t301 t302 t303 true _ (hG.ext (by repeat (first|(with_reducible first|exact HB.out|apply pz3|apply pz1|apply pz2)|exact HB.out))) A21.out).mono ?_);rintro e w26 ⟨rfl,hb⟩;refine ⟨_,rfl,?_⟩;have n0_:=pz4.mk (below_step (by repeat (first|(with_reducible first|exact HB.out|apply pz3|apply pz1|apply pz2)|exact HB.out)) hb);clear HB;have HB:=n0_;clear n0_;(try clear hb);(try clear hb2);(try clear hk);(try clear hi)))
      go_ret2
      exact ⟨by first|rfl|(simp [pz6,pz5] <;> rfl)|(simp [*,pz6,pz5] <;> rfl),by repeat (first|(with_reducible first|exact HB.out|apply pz3|apply pz1|apply pz2)|exact HB.out)⟩
    ·rw [if_neg c23] at H
     have c23b0:(t302 == a0)=false:=beq_eq_false_iff_ne.mpr c23
     have c23b1:(t302 != a0)=true:=bne_iff_ne.mpr c23
     simp only [Option.some.injEq,Prod.mk.injEq] at H
     obtain ⟨rfl,rfl⟩:=H
     go_enter Tryz.func64,Tryz.ntmps64
     go_wp2_with (first|((with_reducible refine pz8 (f:=94) rfl ?_);refine goesL_ (some 28) rfl rfl Tryz.func94 (by kernel_rfl) rfl #[.string a1,.string (⟨#[46,119,104,46,46,119,104,46,46,111,112,113]⟩:ByteArray)] rfl (by (try simp only [List.map_toArray,List.map_cons,List.map_nil]);first|done|rfl|(simp only [List.length_drop,List.length_take];rfl)) ?_;(with_reducible refine (paths_below.calls a1 (⟨#[46,119,104,46,46,119,104,46,46,111,112,113]⟩:ByteArray) t301 _ A20.out).mono ?_);rintro e w' ⟨rfl,⟨nd,rfl⟩⟩;refine ⟨_,rfl,?_⟩)|((with_reducible refine pz8 (f:=67) rfl ?_);refine goesL_ (some 31) rfl rfl Tryz.func67 (by kernel_rfl) rfl #[.string t301] rfl (by (try simp only [List.map_toArray,List.map_cons,List.map_nil]);first|done|rfl|(simp only [List.length_drop,List.length_take];rfl)) ?_;(with_reducible refine (paths_Mark.calls k t301 t302 t303 true _ (hG.ext (by repeat (first|(with_reducible first|exact HB.out|apply pz3|apply pz1|apply pz2)|exact HB.out))) A21.out).mono ?_);rintro e w27 ⟨rfl,hb⟩;refine ⟨_,rfl,?_⟩;have n0_:=pz4.mk (below_step (by repeat (first|(with_reducible first|exact HB.out|apply pz3|apply pz1|apply pz2)|exact HB.out)) hb);clear HB;have HB:=n0_;clear n0_;(try clear hb);(try clear hb2);(try clear hk);(try clear hi)))
     go_ret2
     exact ⟨by first|rfl|(simp [pz6,pz5] <;> rfl)|(simp [*,pz6,pz5] <;> rfl),by repeat (first|(with_reducible first|exact HB.out|apply pz3|apply pz1|apply pz2)|exact HB.out)⟩
   ·replace c22:=Bool.eq_false_iff.mpr c22
    subst c22
    have H1:(some ((⟨#[]⟩:ByteArray),false))=some (r1,r2):=by rw [if_neg (show ¬ (false=true) by decide)] at H;exact H
    clear H
    have H:=H1
    clear H1
    simp only [Option.some.injEq,Prod.mk.injEq] at H
    obtain ⟨rfl,rfl⟩:=H
    go_enter Tryz.func64,Tryz.ntmps64
    go_wp2_with (first|((with_reducible refine pz8 (f:=94) rfl ?_);refine goesL_ (some 28) rfl rfl Tryz.func94 (by kernel_rfl) rfl #[.string a1,.string (⟨#[46,119,104,46,46,119,104,46,46,111,112,113]⟩:ByteArray)] rfl (by (try simp only [List.map_toArray,List.map_cons,List.map_nil]);first|done|rfl|(simp only [List.length_drop,List.length_take];rfl)) ?_;(with_reducible refine (paths_below.calls a1 (⟨#[46,119,104,46,46,119,104,46,46,111,112,113]⟩:ByteArray) t301 _ A20.out).mono ?_);rintro e w' ⟨rfl,⟨nd,rfl⟩⟩;refine ⟨_,rfl,?_⟩)|((with_reducible refine pz8 (f:=67) rfl ?_);refine goesL_ (some 31) rfl rfl Tryz.func67 (by kernel_rfl) rfl #[.string t301] rfl (by (try simp only [List.map_toArray,List.map_cons,List.map_nil]);first|done|rfl|(simp only [List.length_drop,List.length_take];rfl)) ?_;(with_reducible refine (paths_Mark.calls k t301 t302 t303 false _ (hG.ext (by repeat (first|(with_reducible first|exact HB.out|apply pz3|apply pz1|apply pz2)|exact HB.out))) A21.out).mono ?_);rintro e w28 ⟨rfl,hb⟩;refine ⟨_,rfl,?_⟩;have n0_:=pz4.mk (below_step (by repeat (first|(with_reducible first|exact HB.out|apply pz3|apply pz1|apply pz2)|exact HB.out)) hb);clear HB;have HB:=n0_;clear n0_;(try clear hb);(try clear hb2);(try clear hk);(try clear hi)))
    go_ret2
    exact ⟨by first|rfl|(simp [pz6,pz5] <;> rfl)|(simp [*,pz6,pz5] <;> rfl),by repeat (first|(with_reducible first|exact HB.out|apply pz3|apply pz1|apply pz2)|exact HB.out)⟩
  ·rw [if_neg c19] at H
   have c19b0:(a0 == 2)=false:=beq_eq_false_iff_ne.mpr c19
   have c19b1:(a0 != 2)=true:=bne_iff_ne.mpr c19
   replace H:=Option.bind_eq_some_iff.mp H
   obtain ⟨⟨t305,t306,t307⟩,A290,H⟩:=H
   replace H:(if t307=true then (if t305=a0 then (if t306.toList=a1.toList then (some (a1,true)) else (some ((⟨#[]⟩:ByteArray),false))) else (some ((⟨#[]⟩:ByteArray),false))) else (some ((⟨#[]⟩:ByteArray),false)))=some (r1,r2):=H
   have A29:=pz4.mk A290
   clear A290
   by_cases c30:t307=true
   ·subst c30
    have H1:(if t305=a0 then (if t306.toList=a1.toList then (some (a1,true)) else (some ((⟨#[]⟩:ByteArray),false))) else (some ((⟨#[]⟩:ByteArray),false)))=some (r1,r2):=by rw [if_pos rfl] at H;exact H
    clear H
    have H:=H1
    clear H1
    by_cases c31:t305=a0
    ·rw [if_pos c31] at H
     have c31b0:(t305 == a0)=true:=beq_iff_eq.mpr c31
     have c31b1:(t305 != a0)=false:=bne_eq_false_iff_eq.mpr c31
     clear c31
     by_cases c32:t306.toList=a1.toList
     ·rw [if_pos c32] at H
      have c32b0:(t306.toList == a1.toList)=true:=beq_iff_eq.mpr c32
      have c32b1:(t306.toList != a1.toList)=false:=bne_eq_false_iff_eq.mpr c32
      clear c32
      simp only [Option.some.injEq,Prod.mk.injEq] at H
      obtain ⟨rfl,rfl⟩:=H
      go_enter Tryz.func64,Tryz.ntmps64
      go_wp2_with (first|((with_reducible refine pz8 (f:=67) rfl ?_);refine goesL_ (some 31) rfl rfl Tryz.func67 (by kernel_rfl) rfl #[.string a1] rfl (by (try simp only [List.map_toArray,List.map_cons,List.map_nil]);first|done|rfl|(simp only [List.length_drop,List.length_take];rfl)) ?_;(with_reducible refine (paths_Mark.calls k a1 t305 t306 true _ (hG.ext (by repeat (first|(with_reducible first|exact HB.out|apply pz3|apply pz1|apply pz2)|exact HB.out))) A29.out).mono ?_);rintro e w33 ⟨rfl,hb⟩;refine ⟨_,rfl,?_⟩;have n0_:=pz4.mk (below_step (by repeat (first|(with_reducible first|exact HB.out|apply pz3|apply pz1|apply pz2)|exact HB.out)) hb);clear HB;have HB:=n0_;clear n0_;(try clear hb);(try clear hb2);(try clear hk);(try clear hi)))
      go_ret2
      exact ⟨by first|rfl|(simp [pz6,pz5] <;> rfl)|(simp [*,pz6,pz5] <;> rfl),by repeat (first|(with_reducible first|exact HB.out|apply pz3|apply pz1|apply pz2)|exact HB.out)⟩
     ·rw [if_neg c32] at H
      have c32b0:(t306.toList == a1.toList)=false:=beq_eq_false_iff_ne.mpr c32
      have c32b1:(t306.toList != a1.toList)=true:=bne_iff_ne.mpr c32
      simp only [Option.some.injEq,Prod.mk.injEq] at H
      obtain ⟨rfl,rfl⟩:=H
      go_enter Tryz.func64,Tryz.ntmps64
      go_wp2_with (first|((with_reducible refine pz8 (f:=67) rfl ?_);refine goesL_ (some 31) rfl rfl Tryz.func67 (by kernel_rfl) rfl #[.string a1] rfl (by (try simp only [List.map_toArray,List.map_cons,List.map_nil]);first|done|rfl|(simp only [List.length_drop,List.length_take];rfl)) ?_;(with_reducible refine (paths_Mark.calls k a1 t305 t306 true _ (hG.ext (by repeat (first|(with_reducible first|exact HB.out|apply pz3|apply pz1|apply pz2)|exact HB.out))) A29.out).mono ?_);rintro e w34 ⟨rfl,hb⟩;refine ⟨_,rfl,?_⟩;have n0_:=pz4.mk (below_step (by repeat (first|(with_reducible first|exact HB.out|apply pz3|apply pz1|apply pz2)|exact HB.out)) hb);clear HB;have HB:=n0_;clear n0_;(try clear hb);(try clear hb2);(try clear hk);(try clear hi)))
      go_ret2
      exact ⟨by first|rfl|(simp [pz6,pz5] <;> rfl)|(simp [*,pz6,pz5] <;> rfl),by repeat (first|(with_reducible first|exact HB.out|apply pz3|apply pz1|apply pz2)|exact HB.out)⟩
    ·rw [if_neg c31] at H
     have c31b0:(t305 == a0)=false:=beq_eq_false_iff_ne.mpr c31
     have c31b1:(t305 != a0)=true:=bne_iff_ne.mpr c31
     simp only [Option.some.injEq,Prod.mk.injEq] at H
     obtain ⟨rfl,rfl⟩:=H
     go_enter Tryz.func64,Tryz.ntmps64
     go_wp2_with (first|((with_reducible refine pz8 (f:=67) rfl ?_);refine goesL_ (some 31) rfl rfl Tryz.func67 (by kernel_rfl) rfl #[.string a1] rfl (by (try simp only [List.map_toArray,List.map_cons,List.map_nil]);first|done|rfl|(simp only [List.length_drop,List.length_take];rfl)) ?_;(with_reducible refine (paths_Mark.calls k a1 t305 t306 true _ (hG.ext (by repeat (first|(with_reducible first|exact HB.out|apply pz3|apply pz1|apply pz2)|exact HB.out))) A29.out).mono ?_);rintro e w35 ⟨rfl,hb⟩;refine ⟨_,rfl,?_⟩;have n0_:=pz4.mk (below_step (by repeat (first|(with_reducible first|exact HB.out|apply pz3|apply pz1|apply pz2)|exact HB.out)) hb);clear HB;have HB:=n0_;clear n0_;(try clear hb);(try clear hb2);(try clear hk);(try clear hi)))
     go_ret2
     exact ⟨by first|rfl|(simp [pz6,pz5] <;> rfl)|(simp [*,pz6,pz5] <;> rfl),by repeat (first|(with_reducible first|exact HB.out|apply pz3|apply pz1|apply pz2)|exact HB.out)⟩
   ·replace c30:=Bool.eq_false_iff.mpr c30
    subst c30
    have H1:(some ((⟨#[]⟩:ByteArray),false))=some (r1,r2):=by rw [if_neg (show ¬ (false=true) by decide)] at H;exact H
    clear H
    have H:=H1
    clear H1
    simp only [Option.some.injEq,Prod.mk.injEq] at H
    obtain ⟨rfl,rfl⟩:=H
    go_enter Tryz.func64,Tryz.ntmps64
    go_wp2_with (first|((with_reducible refine pz8 (f:=67) rfl ?_);refine goesL_ (some 31) rfl rfl Tryz.func67 (by kernel_rfl) rfl #[.string a1] rfl (by (try simp only [List.map_toArray,List.map_cons,List.map_nil]);first|done|rfl|(simp only [List.length_drop,List.length_take];rfl)) ?_;(with_reducible refine (paths_Mark.calls k a1 t305 t306 false _ (hG.ext (by repeat (first|(with_reducible first|exact HB.out|apply pz3|apply pz1|apply pz2)|exact HB.out))) A29.out).mono ?_);rintro e w36 ⟨rfl,hb⟩;refine ⟨_,rfl,?_⟩;have n0_:=pz4.mk (below_step (by repeat (first|(with_reducible first|exact HB.out|apply pz3|apply pz1|apply pz2)|exact HB.out)) hb);clear HB;have HB:=n0_;clear n0_;(try clear hb);(try clear hb2);(try clear hk);(try clear hi)))
    go_ret2
    exact ⟨by first|rfl|(simp [pz6,pz5] <;> rfl)|(simp [*,pz6,pz5] <;> rfl),by repeat (first|(with_reducible first|exact HB.out|apply pz3|apply pz1|apply pz2)|exact HB.out)⟩
def paths_Parent.f (a0:ByteArray):Option (ByteArray):=(paths_split.f a0).bind fun bt104=>(some bt104.1)
set_option maxHeartbeats 8000000 in
set_option maxRecDepth 100000 in
theorem paths_Parent.calls (a0:ByteArray) (r:ByteArray) (w:World) (h:paths_Parent.f a0=some r) :
  Calls Tryz.prog 19 #[.string a0] w fun e w'=>e=.returned (.string r)∧Below w.heap.size w w':=by
 have HB:=pz4.mk (Below.refl w.heap.size w)
 have H:((paths_split.f a0).bind fun bt104=>(some bt104.1))=some r:=h
 clear h
 replace H:=Option.bind_eq_some_iff.mp H
 obtain ⟨⟨t104,t105⟩,A20,H⟩:=H
 replace H:(some t104)=some r:=H
 have A2:=pz4.mk A20
 clear A20
 obtain rfl:=Option.some.inj H
 go_enter Tryz.func19,Tryz.ntmps19
 go_wp2_with (first|((with_reducible refine pz8 (f:=41) rfl ?_);refine goesL_ (some 7) rfl rfl Tryz.func41 (by kernel_rfl) rfl #[.string a0] rfl (by (try simp only [List.map_toArray,List.map_cons,List.map_nil]);first|done|rfl|(simp only [List.length_drop,List.length_take];rfl)) ?_;(with_reducible refine (paths_split.calls a0 t104 t105 _ A2.out).mono ?_);rintro e w3 ⟨rfl,hb⟩;refine ⟨_,rfl,?_⟩;have n0_:=pz4.mk (below_step (by repeat (first|(with_reducible first|exact HB.out|apply pz3|apply pz1|apply pz2)|exact HB.out)) hb);clear HB;have HB:=n0_;clear n0_;(try clear hb);(try clear hb2);(try clear hk);(try clear hi)))
 go_ret
 exact ⟨by first|rfl|(simp [pz6,pz5] <;> rfl)|(simp [*,pz6,pz5] <;> rfl),by repeat (first|(with_reducible first|exact HB.out|apply pz3|apply pz1|apply pz2)|exact HB.out)⟩

end Go.Proofs.Zq
end
section
namespace Go.Proofs.Zq
open Go.RowKit Go.Proofs.YtjghikkboekonaaGreatDoor Go.Proofs.Zw.PrintWords Go.Proofs.Zw.PrintLast
open Go.Proofs.Zt (partM markedM markM opqM isM parM lastM underM markF unmarkF wouldM tarM belowM)
theorem toList_B (l:Str):(B l).toList=l:=by rw [ByteArray.toList_eq]
theorem B_append (a b:Str):B a ++ B b=B (a ++ b):=append_S a b
theorem B_extract (l:Str) (a b:Nat):(B l).extract a b=B ((l.drop a).take (b - a)):=extract_S l a b
theorem wrap_in {x:Int} (h0 : -9223372036854775808≤x) (h1:x≤9223372036854775807):wrap64 x=x:=by unfold wrap64;omega
theorem hp_f (a p:Str):pq10.f (B a) (B p)=some (p.isPrefixOf a):=by
 unfold pq10.f stringslite_HasPrefix.f
 rw [B_size,B_size]
 by_cases h:p.length≤a.length
 ·rw [if_pos (by omega),if_pos (by omega),if_pos (by omega),B_extract,toList_B,toList_B]
  simp only [Option.bind_some,Option.some.injEq]
  rw [List.drop_zero,show ((p.length:Nat):Int).toNat - 0=p.length from by omega,Bool.eq_iff_iff,beq_iff_eq,List.isPrefixOf_iff_prefix,List.prefix_iff_eq_take]
  exact ⟨fun h=>h.symm,fun h=>h.symm⟩
 ·rw [if_neg (by omega)]
  simp only [Option.bind_some,Option.some.injEq]
  cases e:p.isPrefixOf a with
  | false=>rfl
  | true =>
   have:=(List.isPrefixOf_iff_prefix.1 e).length_le
   omega
theorem ib_f (s:Str) (c:UInt8):strings_IndexByte.f (B s) (c.toNat:Int)=some (Lib.indexByte s c):=by
 unfold strings_IndexByte.f
 rw [show ((c.toNat:Int)).toNat.toUInt8=c from by simp]
theorem ib_neg (s:Str) (c:UInt8):decide (Lib.indexByte s c ≥ 0)=s.contains c:=by
 induction s with
 | nil=>simp [Lib.indexByte]
 | cons b r ih =>
  have hg:=Lib.indexByte_ge r c
  unfold Lib.indexByte
  by_cases h:b == c
  ·rw [if_pos h]
   have:c=b:=(beq_iff_eq.1 h).symm
   subst this
   simp
  ·rw [if_neg h]
   have hbc:¬ c=b:=fun e=>h (by rw [e];simp)
   have e2:(b :: r).contains c=r.contains c:=by simp [hbc]
   rw [e2,← ih]
   by_cases h1:Lib.indexByte r c == -1
   ·rw [if_pos h1]
    have:=beq_iff_eq.1 h1
    simp [this]
   ·rw [if_neg h1]
    have h2:Lib.indexByte r c ≠ -1:=fun e=>h1 (by rw [e];rfl)
    simp only [ge_iff_le,decide_eq_decide]
    omega
theorem bad_f (s:Str):pq14.f (B s)=some (!partM s):=by
 unfold pq14.f
 rw [toList_B]
 have h0:=ib_f s 0
 rw [show ((0:UInt8).toNat:Int)=0 from rfl] at h0
 unfold partM
 by_cases h1:s=[]
 ·rw [if_pos h1,h1];rfl
 ·rw [if_neg h1]
  by_cases h2:s=[46]
  ·rw [if_pos h2,h2];rfl
  ·rw [if_neg h2]
   by_cases h3:s=[46,46]
   ·rw [if_pos h3,h3];rfl
   ·rw [if_neg h3,h0]
    simp only [Option.bind_some,Option.some.injEq]
    rw [ib_neg]
    have e1:s.isEmpty=false:=by cases s with|nil=>exact absurd rfl h1|cons _ _=>rfl
    have e2:(s == [46])=false:=by simpa using h2
    have e3:(s == [46,46])=false:=by simpa using h3
    rw [e1,e2,e3]
    simp
theorem long_f (s:Str):pq13.f (B s)=some (!decide (s.length≤251)):=by
 unfold pq13.f
 rw [B_size]
 congr 1
 by_cases h:s.length≤251
 ·simp [h];omega
 ·simp [h];omega
theorem lastOcc_none {x:Str} (h:(47:UInt8) ∉ x):∀ k,Lib.lastOcc x [47] k = -1:=by
 intro k
 induction k with
 | zero=>rfl
 | succ k ih =>
  unfold Lib.lastOcc
  rw [if_neg,ih]
  unfold Lib.occAt
  rw [List.isPrefixOf_iff_prefix]
  rintro ⟨r,hr⟩
  exact h (List.mem_of_mem_drop (i:=k) (by rw [← hr];simp))
theorem lastOcc_hit {u x:Str} (h:(47:UInt8) ∉ x):∀ k,u.length<k→Lib.lastOcc (u ++ 47 :: x) [47] k=(u.length:Int):=by
 intro k
 induction k with
 | zero=>intro h;omega
 | succ k ih =>
  intro hk
  unfold Lib.lastOcc
  by_cases e:k=u.length
  ·subst e
   rw [if_pos]
   unfold Lib.occAt
   simp
  ·rw [if_neg,ih (by omega)]
   unfold Lib.occAt
   rw [List.isPrefixOf_iff_prefix]
   rintro ⟨r,hr⟩
   have:(u ++ 47 :: x).drop k=x.drop (k - u.length - 1):=by
    rw [List.drop_append,List.drop_eq_nil_of_le (by omega),List.nil_append,show k - u.length=(k - u.length - 1) + 1 from by omega,List.drop_succ_cons]
    congr 1
   rw [this] at hr
   exact h (List.mem_of_mem_drop (i:=k - u.length - 1) (by rw [← hr];simp))
theorem split_f (s:Str) (hs:s.length≤4000000000):paths_split.f (B s)=some (B (parM s),B (lastM s)):=by
 unfold paths_split.f strings_LastIndex.f
 rw [if_pos (by rw [B_size];omega)]
 simp only [Option.bind_some,L_B]
 rcases Zt.split_cases s with ⟨_,e,hp⟩|⟨_,e⟩
 ·have hns:(47:UInt8) ∉ s:=by have:=Zt.lastM_slash s;rwa [← e] at this
  have hl:Lib.lastIndex s [47] = -1:=by
   unfold Lib.lastIndex
   split
   ·exact lastOcc_none hns _
   ·rfl
  have hm:mx (-1) 0=0:=by unfold mx;omega
  rw [hl,hm,B_size,wrap_in (by omega) (by omega)]
  rw [if_pos (by omega),if_pos (by omega),if_pos (by omega),if_pos (by omega),hp,B_extract,B_extract]
  congr 2
  rw [← e]
  simp
 ·have hx:=Zt.lastM_slash s
  generalize parM s=u at e ⊢
  generalize lastM s=x at e hx ⊢
  subst e
  have hl:Lib.lastIndex (u ++ 47 :: x) [47]=(u.length:Int):=by
   unfold Lib.lastIndex
   rw [if_pos (by simp;omega)]
   exact lastOcc_hit hx _ (by simp;omega)
  have hm:mx (u.length:Int) 0=(u.length:Int):=by unfold mx;omega
  have hlen:(u ++ 47 :: x).length=u.length + (x.length + 1):=by simp
  rw [hl,hm,B_size,wrap_in (by omega) (by omega)]
  rw [if_pos (by omega),if_pos (by omega),if_pos (by omega),if_pos (by omega),B_extract,B_extract]
  have h1:List.take ((u.length:Int).toNat - 0) (List.drop 0 (u ++ 47 :: x))=u:=by
   rw [List.drop_zero,show (u.length:Int).toNat - 0=u.length from by omega]
   simp
  have h2:List.take ((u ++ 47 :: x).length - (u.length + 1:Int).toNat) (List.drop (u.length + 1:Int).toNat (u ++ 47 :: x))=x:=by
   rw [show (u.length + 1:Int).toNat=u.length + 1 from by omega]
   rw [List.drop_append,List.drop_eq_nil_of_le (by omega),List.nil_append,show u.length + 1 - u.length=0 + 1 from by omega,List.drop_succ_cons,List.drop_zero]
   exact List.take_of_length_le (by omega)
  rw [h1,h2]
theorem parent_f (s:Str) (hs:s.length≤4000000000):paths_Parent.f (B s)=some (B (parM s)):=by
 unfold paths_Parent.f;rw [split_f s hs];rfl
theorem below_f (p x:Str) (h:p.length + x.length≤8000000000):paths_below.f (B p) (B x)=some (B (belowM p x)):=by
 unfold paths_below.f belowM
 rw [toList_B]
 by_cases h1:p=[]
 ·rw [if_pos h1,if_pos h1]
 ·rw [if_neg h1,if_neg h1,B_append,B_size,B_size,B_size,B_append]
  rw [if_pos (by omega),if_pos (by simp;omega)]
  simp
theorem index_hit (c:UInt8):∀ (p r:Str),c ∉ p→Lib.index (p ++ c :: r) [c]=(p.length:Int)
 | [],r,_=>by simp [Lib.index]
 | x :: p,r,h=>by
  have hx:(x == c)=false:=by
   rw [beq_eq_false_iff_ne];rintro rfl;exact h List.mem_cons_self
  have ih:=index_hit c p r (fun hm=>h (List.mem_cons_of_mem _ hm))
  rw [List.cons_append,index_cons_ne _ hx,ih]
  rw [if_neg (by simp)]
  simp
theorem splitB_cut:∀ (k:Nat) (s:Str),s.count 47=k→Lib.splitB (B [47]) 0 k (B s)=(Zt.cutM s).map B:=by
 intro k
 induction k with
 | zero =>
  intro s hk
  have:(47:UInt8) ∉ s:=List.count_eq_zero.1 hk
  rw [Lib.splitB_zero,Zt.cut_one this];rfl
 | succ k ih =>
  intro s hk
  rcases cut1_parts s with ⟨h1,h2⟩|⟨_,h2,h3⟩
  ·obtain ⟨e,hp⟩:=cut1_found 47 s h1
   generalize hq:(cut1 47 s).1=p at e hp h2
   generalize hr:(cut1 47 s).2.1=r at e h2
   have hi:Lib.indexB (B s) (B [47])=(p.length:Int):=by
    show Lib.index s [47]=_
    rw [e];exact index_hit 47 p r hp
   have hcr:r.count 47=k:=by
    rw [e,List.count_append,List.count_cons_self,List.count_eq_zero.2 hp] at hk
    omega
   rw [h2,List.map_cons,← ih r hcr]
   conv=>lhs;unfold Lib.splitB
   rw [hi,if_neg (by simp)]
   rw [B_extract,B_extract,B_size]
   congr 1
   ·congr 1
    rw [e];simp
   ·congr 1
    rw [show ((p.length:Int)).toNat + (B [47]).size=p.length + 1 from by rw [B_size];simp]
    rw [e,List.drop_append,List.drop_eq_nil_of_le (by omega),List.nil_append,show p.length + 1 - p.length=0 + 1 from by omega,List.drop_succ_cons,List.drop_zero]
    rw [List.take_of_length_le (by simp;omega)]
  ·exfalso
   have:=count_parts s
   rw [h2] at this
   simp at this
   omega
theorem cut_len (s:Str):(Zt.cutM s).length≤s.length + 1:=by
 rw [← count_parts]
 have:=List.count_le_length (a:=(47:UInt8)) (l:=s)
 omega
theorem splits_f (s:Str) (hs:s.length≤4000000000):strings_Split.f (B s) (B [47])=some ((Zt.cutM s).map B):=by
 have hc:Lib.countB (B s) (B [47])=s.count 47:=Lib.count_one 47 s
 have hl:=count_parts s
 have:=cut_len s
 unfold strings_Split.f
 rw [hc,splitB_cut _ s rfl]
 rw [if_pos]
 rw [B_size,B_size,List.length_map]
 exact ⟨by omega,by simp,by omega,by omega⟩
end Go.Proofs.Zq
end
section
namespace Go.Proofs.Zq
open Go.RowKit Go.Proofs.Zw.PrintWords Go.Proofs.Zw.PrintLast Go.Proofs.Zw.PrintMore
open Go.Proofs.YtjghikkboekonaaGreatDoor (GL)
attribute [local go_sem] max2_int min2_int max_two min_two max_three min_three max_four min_four
def change_tar.f (k:Nat) (a0_0:ByteArray) (a0_1:Int) (a0_2:Int) (a0_3:Int) (a0_4:Int) (a0_5:Int) (a0_6:Int) (a0_7:ByteArray) (a0_8:ByteArray) (a0_9:Int) (a0_10:Int) (a0_11:ByteArray):Option (ByteArray):=(paths_Unmark.f k a0_1 a0_0).bind fun bt309=>(some bt309.1)
set_option maxHeartbeats 8000000 in
set_option maxRecDepth 100000 in
theorem change_tar.calls (k:Nat) (a0_0:ByteArray) (a0_1:Int) (a0_2:Int) (a0_3:Int) (a0_4:Int) (a0_5:Int) (a0_6:Int) (a0_7:ByteArray) (a0_8:ByteArray) (a0_9:Int) (a0_10:Int) (a0_11:ByteArray) (r:ByteArray) (w:World) (hG:GL w) (h:change_tar.f k a0_0 a0_1 a0_2 a0_3 a0_4 a0_5 a0_6 a0_7 a0_8 a0_9 a0_10 a0_11=some r) :
  Calls Tryz.prog 121 #[.agg #[.string a0_0,.int .i64 a0_1,.int .i64 a0_2,.int .i64 a0_3,.int .i64 a0_4,.int .i64 a0_5,.int .i64 a0_6,.string a0_7,.string a0_8,.int .i64 a0_9,.int .i64 a0_10,.string a0_11]] w fun e w'=>e=.returned (.string r)∧Below w.heap.size w w':=by
 have hu57:=Tryz.underlying57
 have HB:=pz4.mk (Below.refl w.heap.size w)
 have H:((paths_Unmark.f k a0_1 a0_0).bind fun bt309=>(some bt309.1))=some r:=h
 clear h
 replace H:=Option.bind_eq_some_iff.mp H
 obtain ⟨⟨t309,t310⟩,A20,H⟩:=H
 replace H:(some t309)=some r:=H
 have A2:=pz4.mk A20
 clear A20
 obtain rfl:=Option.some.inj H
 go_enter Tryz.func121,Tryz.ntmps121
 go_wp2_with (first|((with_reducible refine gate_dst (N:=1) rfl ?_);refine box_event ?hg (N:=1) ?hd (cs:=#[.string a0_0,.int .i64 a0_1,.int .i64 a0_2,.int .i64 a0_3,.int .i64 a0_4,.int .i64 a0_5,.int .i64 a0_6,.string a0_7,.string a0_8,.int .i64 a0_9,.int .i64 a0_10,.string a0_11]) (t:=57) ?hr ?_;(case hd=>rfl);(case hg=>rfl);(case hr=>first|(go_simp;done)|(go_simp;rfl));intro gb308 hg w3 hbox hb;have n0_:=pz4.mk (below_step (by repeat (first|(with_reducible first|exact HB.out|apply pz3|apply pz1|apply pz2)|exact HB.out)) hb);have n1_:=pz4.mk (hbox);have n2_:=pz4.mk ((by rw [hg];exact (below_size (by repeat (first|(with_reducible first|exact HB.out|apply pz3|apply pz1|apply pz2)|exact HB.out))):w.heap.size≤gb308));have n3_:=pz4.mk ((by rw [hg];exact (below_size (by repeat (first|(with_reducible first|exact HB.out|apply pz3|apply pz1|apply pz2)|exact HB.out))):w.heap.size≤gb308));clear HB;have HB:=n0_;have BK308:=n1_;have GW308:=n2_;have GE308:=n3_;clear n0_ n1_ n2_ n3_;clear hb hbox hg;have hcz4_0:w3.cell? ⟨gb308,0,none⟩=some (.string a0_0):=(blk_cell BK308.out 0).trans rfl;have hcz4_1:w3.cell? ⟨gb308,1,none⟩=some (.int .i64 a0_1):=(blk_cell BK308.out 1).trans rfl;have hcz4_2:w3.cell? ⟨gb308,2,none⟩=some (.int .i64 a0_2):=(blk_cell BK308.out 2).trans rfl;have hcz4_3:w3.cell? ⟨gb308,3,none⟩=some (.int .i64 a0_3):=(blk_cell BK308.out 3).trans rfl;have hcz4_4:w3.cell? ⟨gb308,4,none⟩=some (.int .i64 a0_4):=(blk_cell BK308.out 4).trans rfl;have hcz4_5:w3.cell? ⟨gb308,5,none⟩=some (.int .i64 a0_5):=(blk_cell BK308.out 5).trans rfl;have hcz4_6:w3.cell? ⟨gb308,6,none⟩=some (.int .i64 a0_6):=(blk_cell BK308.out 6).trans rfl;have hcz4_7:w3.cell? ⟨gb308,7,none⟩=some (.string a0_7):=(blk_cell BK308.out 7).trans rfl;have hcz4_8:w3.cell? ⟨gb308,8,none⟩=some (.string a0_8):=(blk_cell BK308.out 8).trans rfl;have hcz4_9:w3.cell? ⟨gb308,9,none⟩=some (.int .i64 a0_9):=(blk_cell BK308.out 9).trans rfl;have hcz4_10:w3.cell? ⟨gb308,10,none⟩=some (.int .i64 a0_10):=(blk_cell BK308.out 10).trans rfl;have hcz4_11:w3.cell? ⟨gb308,11,none⟩=some (.string a0_11):=(blk_cell BK308.out 11).trans rfl;have hfz4_0:=pz7 BK308.out 0;have hfz4_1:=pz7 BK308.out 1;have hfz4_2:=pz7 BK308.out 2;have hfz4_3:=pz7 BK308.out 3;have hfz4_4:=pz7 BK308.out 4;have hfz4_5:=pz7 BK308.out 5;have hfz4_6:=pz7 BK308.out 6;have hfz4_7:=pz7 BK308.out 7;have hfz4_8:=pz7 BK308.out 8;have hfz4_9:=pz7 BK308.out 9;have hfz4_10:=pz7 BK308.out 10;have hfz4_11:=pz7 BK308.out 11)|((with_reducible refine pz8 (f:=64) rfl ?_);refine goesL_ (some 10) rfl rfl Tryz.func64 (by kernel_rfl) rfl #[.int .i64 a0_1,.string a0_0] rfl (by (try simp only [List.map_toArray,List.map_cons,List.map_nil]);first|done|rfl|(simp only [List.length_drop,List.length_take];rfl)) ?_;(with_reducible refine (paths_Unmark.calls k a0_1 a0_0 t309 t310 _ (hG.ext (by repeat (first|(with_reducible first|exact HB.out|apply pz3|apply pz1|apply pz2|refine below_set ?_ GE308.out)|exact HB.out))) A2.out).mono ?_);rintro e w5 ⟨rfl,hb⟩;refine ⟨_,rfl,?_⟩;have n0_:=pz4.mk (blk_below (g:=gb308) (o:=.cells #[.string a0_0,.int .i64 a0_1,.int .i64 a0_2,.int .i64 a0_3,.int .i64 a0_4,.int .i64 a0_5,.int .i64 a0_6,.string a0_7,.string a0_8,.int .i64 a0_9,.int .i64 a0_10,.string a0_11] 57 (0,0)) (by (with_reducible repeat (first|refine blk_drewN ?_ _|refine blk_drew ?_|refine blk_alloc ?_ _));exact BK308.out) hb);have n1_:=pz4.mk (below_step (by repeat (first|(with_reducible first|exact HB.out|apply pz3|apply pz1|apply pz2|refine below_set ?_ GE308.out)|exact HB.out)) hb);clear BK308;clear HB;have BK308:=n0_;have HB:=n1_;clear n0_ n1_;(try clear hb);(try clear hb2);(try clear hk);(try clear hi)))
 go_ret
 exact ⟨by first|rfl|(simp [pz6,pz5] <;> rfl)|(simp [*,pz6,pz5] <;> rfl),by repeat (first|(with_reducible first|exact HB.out|apply pz3|apply pz1|apply pz2|refine below_set ?_ GE308.out)|exact HB.out)⟩
def change_compare.f (k:Nat) (a0_0:ByteArray) (a0_1:Int) (a0_2:Int) (a0_3:Int) (a0_4:Int) (a0_5:Int) (a0_6:Int) (a0_7:ByteArray) (a0_8:ByteArray) (a0_9:Int) (a0_10:Int) (a0_11:ByteArray) (a1_0:ByteArray) (a1_1:Int) (a1_2:Int) (a1_3:Int) (a1_4:Int) (a1_5:Int) (a1_6:Int) (a1_7:ByteArray) (a1_8:ByteArray) (a1_9:Int) (a1_10:Int) (a1_11:ByteArray):Option (Int):=(change_tar.f k a0_0 a0_1 a0_2 a0_3 a0_4 a0_5 a0_6 a0_7 a0_8 a0_9 a0_10 a0_11).bind fun t313=>((change_tar.f k a1_0 a1_1 a1_2 a1_3 a1_4 a1_5 a1_6 a1_7 a1_8 a1_9 a1_10 a1_11).bind fun t314=>((paths_Compare.f t313 t314).bind fun t315=>(some t315)))
set_option maxHeartbeats 8000000 in
set_option maxRecDepth 100000 in
theorem change_compare.calls (k:Nat) (a0_0:ByteArray) (a0_1:Int) (a0_2:Int) (a0_3:Int) (a0_4:Int) (a0_5:Int) (a0_6:Int) (a0_7:ByteArray) (a0_8:ByteArray) (a0_9:Int) (a0_10:Int) (a0_11:ByteArray) (a1_0:ByteArray) (a1_1:Int) (a1_2:Int) (a1_3:Int) (a1_4:Int) (a1_5:Int) (a1_6:Int) (a1_7:ByteArray) (a1_8:ByteArray) (a1_9:Int) (a1_10:Int) (a1_11:ByteArray) (r:Int) (w:World) (hG:GL w) (h:change_compare.f k a0_0 a0_1 a0_2 a0_3 a0_4 a0_5 a0_6 a0_7 a0_8 a0_9 a0_10 a0_11 a1_0 a1_1 a1_2 a1_3 a1_4 a1_5 a1_6 a1_7 a1_8 a1_9 a1_10 a1_11=some r) :
  Calls Tryz.prog 77 #[.agg #[.string a0_0,.int .i64 a0_1,.int .i64 a0_2,.int .i64 a0_3,.int .i64 a0_4,.int .i64 a0_5,.int .i64 a0_6,.string a0_7,.string a0_8,.int .i64 a0_9,.int .i64 a0_10,.string a0_11],.agg #[.string a1_0,.int .i64 a1_1,.int .i64 a1_2,.int .i64 a1_3,.int .i64 a1_4,.int .i64 a1_5,.int .i64 a1_6,.string a1_7,.string a1_8,.int .i64 a1_9,.int .i64 a1_10,.string a1_11]] w fun e w'=>e=.returned (.int .i64 r)∧Below w.heap.size w w':=by
 have hu57:=Tryz.underlying57
 have HB:=pz4.mk (Below.refl w.heap.size w)
 have H:((change_tar.f k a0_0 a0_1 a0_2 a0_3 a0_4 a0_5 a0_6 a0_7 a0_8 a0_9 a0_10 a0_11).bind fun t313=>((change_tar.f k a1_0 a1_1 a1_2 a1_3 a1_4 a1_5 a1_6 a1_7 a1_8 a1_9 a1_10 a1_11).bind fun t314=>((paths_Compare.f t313 t314).bind fun t315=>(some t315))))=some r:=h
 clear h
 replace H:=Option.bind_eq_some_iff.mp H
 obtain ⟨t313,A30,H⟩:=H
 replace H:((change_tar.f k a1_0 a1_1 a1_2 a1_3 a1_4 a1_5 a1_6 a1_7 a1_8 a1_9 a1_10 a1_11).bind fun t314=>((paths_Compare.f t313 t314).bind fun t315=>(some t315)))=some r:=H
 have A3:=pz4.mk A30
 clear A30
 replace H:=Option.bind_eq_some_iff.mp H
 obtain ⟨t314,A40,H⟩:=H
 replace H:((paths_Compare.f t313 t314).bind fun t315=>(some t315))=some r:=H
 have A4:=pz4.mk A40
 clear A40
 replace H:=Option.bind_eq_some_iff.mp H
 obtain ⟨t315,A50,H⟩:=H
 replace H:(some t315)=some r:=H
 have A5:=pz4.mk A50
 clear A50
 obtain rfl:=Option.some.inj H
 go_enter Tryz.func77,Tryz.ntmps77
 try go_wp2_with (first|((with_reducible refine gate_dst (N:=2) rfl ?_);refine box_event ?hg (N:=2) ?hd (cs:=#[.string a0_0,.int .i64 a0_1,.int .i64 a0_2,.int .i64 a0_3,.int .i64 a0_4,.int .i64 a0_5,.int .i64 a0_6,.string a0_7,.string a0_8,.int .i64 a0_9,.int .i64 a0_10,.string a0_11]) (t:=57) ?hr ?_;(case hd=>rfl);(case hg=>rfl);(case hr=>first|(go_simp;done)|(go_simp;rfl));intro gb311 hg w6 hbox hb;have n0_:=pz4.mk (below_step (by repeat (first|(with_reducible first|exact HB.out|apply pz3|apply pz1|apply pz2)|exact HB.out)) hb);have n1_:=pz4.mk (hbox);have n2_:=pz4.mk ((by rw [hg];exact (below_size (by repeat (first|(with_reducible first|exact HB.out|apply pz3|apply pz1|apply pz2)|exact HB.out))):w.heap.size≤gb311));have n3_:=pz4.mk ((by rw [hg];exact (below_size (by repeat (first|(with_reducible first|exact HB.out|apply pz3|apply pz1|apply pz2)|exact HB.out))):w.heap.size≤gb311));clear HB;have HB:=n0_;have BK311:=n1_;have GW311:=n2_;have GE311:=n3_;clear n0_ n1_ n2_ n3_;clear hb hbox hg)|((with_reducible refine gate_dst (N:=3) rfl ?_);refine box_event ?hg (N:=3) ?hd (cs:=#[.string a1_0,.int .i64 a1_1,.int .i64 a1_2,.int .i64 a1_3,.int .i64 a1_4,.int .i64 a1_5,.int .i64 a1_6,.string a1_7,.string a1_8,.int .i64 a1_9,.int .i64 a1_10,.string a1_11]) (t:=57) ?hr ?_;(case hd=>rfl);(case hg=>rfl);(case hr=>first|(go_simp;done)|(go_simp;rfl));intro gb312 hg w7 hbox hb;have n0_:=pz4.mk (blk_below (g:=gb311) (o:=.cells #[.string a0_0,.int .i64 a0_1,.int .i64 a0_2,.int .i64 a0_3,.int .i64 a0_4,.int .i64 a0_5,.int .i64 a0_6,.string a0_7,.string a0_8,.int .i64 a0_9,.int .i64 a0_10,.string a0_11] 57 (0,0)) (by (with_reducible repeat (first|refine blk_drewN ?_ _|refine blk_drew ?_|refine blk_alloc ?_ _));exact BK311.out) hb);have n1_:=pz4.mk (below_step (by repeat (first|(with_reducible first|exact HB.out|apply pz3|apply pz1|apply pz2|refine below_set ?_ GE311.out)|exact HB.out)) hb);have n2_:=pz4.mk (hbox);have n3_:=pz4.mk ((by rw [hg];exact (below_size (by repeat (first|(with_reducible first|exact HB.out|apply pz3|apply pz1|apply pz2|refine below_set ?_ GE311.out)|exact HB.out))):w.heap.size≤gb312));have n4_:=pz4.mk ((by rw [hg];exact (below_size (by repeat (first|(with_reducible first|exact HB.out|apply pz3|apply pz1|apply pz2|refine below_set ?_ GE311.out)|exact HB.out))):w.heap.size≤gb312));have n5_:=pz4.mk ((by rw [hg];exact Nat.ne_of_lt (blk_lt (g:=gb311) (o:=.cells #[.string a0_0,.int .i64 a0_1,.int .i64 a0_2,.int .i64 a0_3,.int .i64 a0_4,.int .i64 a0_5,.int .i64 a0_6,.string a0_7,.string a0_8,.int .i64 a0_9,.int .i64 a0_10,.string a0_11] 57 (0,0)) (by (with_reducible repeat (first|refine blk_drewN ?_ _|refine blk_drew ?_|refine blk_alloc ?_ _));exact BK311.out)):gb311≠gb312));have n6_:=pz4.mk ((by rw [hg];exact Nat.ne_of_gt (blk_lt (g:=gb311) (o:=.cells #[.string a0_0,.int .i64 a0_1,.int .i64 a0_2,.int .i64 a0_3,.int .i64 a0_4,.int .i64 a0_5,.int .i64 a0_6,.string a0_7,.string a0_8,.int .i64 a0_9,.int .i64 a0_10,.string a0_11] 57 (0,0)) (by (with_reducible repeat (first|refine blk_drewN ?_ _|refine blk_drew ?_|refine blk_alloc ?_ _));exact BK311.out)):gb312≠gb311));clear BK311;clear HB;have BK311:=n0_;have HB:=n1_;have BK312:=n2_;have GW312:=n3_;have GE312:=n4_;have NB311_312:=n5_;have NB312_311:=n6_;clear n0_ n1_ n2_ n3_ n4_ n5_ n6_;clear hb hbox hg))
 have n0_:=pz4.mk (blk_drew BK311.out)
 have n1_:=pz4.mk (blk_drew BK312.out)
 have n2_:=pz4.mk (pz2 HB.out)
 clear BK311
 clear BK312
 clear HB
 have BK311:=n0_
 have BK312:=n1_
 have HB:=n2_
 clear n0_ n1_ n2_
 refine start_ (n:=6) (S:=fun w'=>w'.cell? ⟨gb311,0,none⟩=some (.string a0_0)∧w'.cell? ⟨gb311,1,none⟩=some (.int .i64 a0_1)∧w'.cell? ⟨gb311,2,none⟩=some (.int .i64 a0_2)∧w'.cell? ⟨gb311,3,none⟩=some (.int .i64 a0_3)∧w'.cell? ⟨gb311,4,none⟩=some (.int .i64 a0_4)∧w'.cell? ⟨gb311,5,none⟩=some (.int .i64 a0_5)∧w'.cell? ⟨gb311,6,none⟩=some (.int .i64 a0_6)∧w'.cell? ⟨gb311,7,none⟩=some (.string a0_7)∧w'.cell? ⟨gb311,8,none⟩=some (.string a0_8)∧w'.cell? ⟨gb311,9,none⟩=some (.int .i64 a0_9)∧w'.cell? ⟨gb311,10,none⟩=some (.int .i64 a0_10)∧w'.cell? ⟨gb311,11,none⟩=some (.string a0_11)∧w'.cell? ⟨gb312,0,none⟩=some (.string a1_0)∧w'.cell? ⟨gb312,1,none⟩=some (.int .i64 a1_1)∧w'.cell? ⟨gb312,2,none⟩=some (.int .i64 a1_2)∧w'.cell? ⟨gb312,3,none⟩=some (.int .i64 a1_3)∧w'.cell? ⟨gb312,4,none⟩=some (.int .i64 a1_4)∧w'.cell? ⟨gb312,5,none⟩=some (.int .i64 a1_5)∧w'.cell? ⟨gb312,6,none⟩=some (.int .i64 a1_6)∧w'.cell? ⟨gb312,7,none⟩=some (.string a1_7)∧w'.cell? ⟨gb312,8,none⟩=some (.string a1_8)∧w'.cell? ⟨gb312,9,none⟩=some (.int .i64 a1_9)∧w'.cell? ⟨gb312,10,none⟩=some (.int .i64 a1_10)∧w'.cell? ⟨gb312,11,none⟩=some (.string a1_11)) (ds:=[]) (bm 6 0) (by kernel_rfl) rfl rfl ⟨(blk_cell BK311.out 0).trans rfl,(blk_cell BK311.out 1).trans rfl,(blk_cell BK311.out 2).trans rfl,(blk_cell BK311.out 3).trans rfl,(blk_cell BK311.out 4).trans rfl,(blk_cell BK311.out 5).trans rfl,(blk_cell BK311.out 6).trans rfl,(blk_cell BK311.out 7).trans rfl,(blk_cell BK311.out 8).trans rfl,(blk_cell BK311.out 9).trans rfl,(blk_cell BK311.out 10).trans rfl,(blk_cell BK311.out 11).trans rfl,(blk_cell BK312.out 0).trans rfl,(blk_cell BK312.out 1).trans rfl,(blk_cell BK312.out 2).trans rfl,(blk_cell BK312.out 3).trans rfl,(blk_cell BK312.out 4).trans rfl,(blk_cell BK312.out 5).trans rfl,(blk_cell BK312.out 6).trans rfl,(blk_cell BK312.out 7).trans rfl,(blk_cell BK312.out 8).trans rfl,(blk_cell BK312.out 9).trans rfl,(blk_cell BK312.out 10).trans rfl,(blk_cell BK312.out 11).trans rfl⟩ (fun hHeld=>?_)
 generalize w7.drew=w8 at BK311 BK312 HB hHeld ⊢
 refine take_ (i:=0) (N:=some 5) (v:=?_) (a':=?_) (bm 6 1) rfl rfl (by kernel_rfl) (fun _ _ _ h=>h) (Or.inl ⟨by rfl,?_⟩) hHeld ?_ ?_
 rotate_left
 ·rintro w' ⟨s0,s1,s2,s3,s4,s5,s6,s7,s8,s9,s10,s11,s12,s13,s14,s15,s16,s17,s18,s19,s20,s21,s22,s23⟩
  go_simp
  with_reducible rfl
 rotate_left
 ·simp only [aP,i64_w,i32_w]
  rfl
 refine take_ (i:=2) (N:=some 7) (v:=?_) (a':=?_) (bm 6 5) rfl rfl (by kernel_rfl) (fun _ _ _ h=>h) (Or.inl ⟨by rfl,?_⟩) hHeld ?_ ?_
 rotate_left
 ·rintro w' ⟨s0,s1,s2,s3,s4,s5,s6,s7,s8,s9,s10,s11,s12,s13,s14,s15,s16,s17,s18,s19,s20,s21,s22,s23⟩
  go_simp
  with_reducible rfl
 rotate_left
 ·simp only [aP,i64_w,i32_w]
  rfl
 refine one_ (i:=1) (N:=some 6) (bm 6 7) rfl rfl (by kernel_rfl) (by decide) (fun K hK=>?_)
 refine goes_ Tryz.func121 (by kernel_rfl) rfl #[.agg #[.string a0_0,.int .i64 a0_1,.int .i64 a0_2,.int .i64 a0_3,.int .i64 a0_4,.int .i64 a0_5,.int .i64 a0_6,.string a0_7,.string a0_8,.int .i64 a0_9,.int .i64 a0_10,.string a0_11]] (by rfl) rfl rfl (by (try simp only [List.map_toArray,List.map_cons,List.map_nil]);first|done|rfl|(simp only [List.length_drop,List.length_take];rfl)) ?_
 with_reducible refine (change_tar.calls k a0_0 a0_1 a0_2 a0_3 a0_4 a0_5 a0_6 a0_7 a0_8 a0_9 a0_10 a0_11 t313 _ (hG.ext (by repeat (first|(with_reducible first|exact HB.out|apply pz3|apply pz1|apply pz2|refine below_set ?_ GE311.out|refine below_set ?_ GE312.out)|exact HB.out))) A3.out).mono ?_
 rintro e w9 ⟨rfl,hb⟩
 refine ⟨_,rfl,?_⟩
 have n0_:=pz4.mk (blk_below (g:=gb311) (o:=.cells #[.string a0_0,.int .i64 a0_1,.int .i64 a0_2,.int .i64 a0_3,.int .i64 a0_4,.int .i64 a0_5,.int .i64 a0_6,.string a0_7,.string a0_8,.int .i64 a0_9,.int .i64 a0_10,.string a0_11] 57 (0,0)) (by (with_reducible repeat (first|refine blk_drewN ?_ _|refine blk_drew ?_|refine blk_alloc ?_ _));exact BK311.out) hb)
 have n1_:=pz4.mk (blk_below (g:=gb312) (o:=.cells #[.string a1_0,.int .i64 a1_1,.int .i64 a1_2,.int .i64 a1_3,.int .i64 a1_4,.int .i64 a1_5,.int .i64 a1_6,.string a1_7,.string a1_8,.int .i64 a1_9,.int .i64 a1_10,.string a1_11] 57 (0,0)) (by (with_reducible repeat (first|refine blk_drewN ?_ _|refine blk_drew ?_|refine blk_alloc ?_ _));exact BK312.out) hb)
 have n2_:=pz4.mk (below_step (by repeat (first|(with_reducible first|exact HB.out|apply pz3|apply pz1|apply pz2|refine below_set ?_ GE311.out|refine below_set ?_ GE312.out)|exact HB.out)) hb)
 clear BK311
 clear BK312
 clear HB
 have BK311:=n0_
 have BK312:=n1_
 have HB:=n2_
 clear n0_ n1_ n2_
 (try clear hb)
 (try clear hb2)
 (try clear hk)
 (try clear hi)
 refine hK.out _ _ ⟨(blk_cell BK311.out 0).trans rfl,(blk_cell BK311.out 1).trans rfl,(blk_cell BK311.out 2).trans rfl,(blk_cell BK311.out 3).trans rfl,(blk_cell BK311.out 4).trans rfl,(blk_cell BK311.out 5).trans rfl,(blk_cell BK311.out 6).trans rfl,(blk_cell BK311.out 7).trans rfl,(blk_cell BK311.out 8).trans rfl,(blk_cell BK311.out 9).trans rfl,(blk_cell BK311.out 10).trans rfl,(blk_cell BK311.out 11).trans rfl,(blk_cell BK312.out 0).trans rfl,(blk_cell BK312.out 1).trans rfl,(blk_cell BK312.out 2).trans rfl,(blk_cell BK312.out 3).trans rfl,(blk_cell BK312.out 4).trans rfl,(blk_cell BK312.out 5).trans rfl,(blk_cell BK312.out 6).trans rfl,(blk_cell BK312.out 7).trans rfl,(blk_cell BK312.out 8).trans rfl,(blk_cell BK312.out 9).trans rfl,(blk_cell BK312.out 10).trans rfl,(blk_cell BK312.out 11).trans rfl⟩ (fun hHeld=>?_)
 clear hK K
 refine norm_ (a':=?_) ?_ ?_
 rotate_left
 ·show Act.put _ (some 6) _=_
  simp only [aP,i64_w,i32_w]
  rfl
 refine one_ (i:=3) (N:=some 8) (bm 6 15) rfl rfl (by kernel_rfl) (by decide) (fun K hK=>?_)
 refine goes_ Tryz.func121 (by kernel_rfl) rfl #[.agg #[.string a1_0,.int .i64 a1_1,.int .i64 a1_2,.int .i64 a1_3,.int .i64 a1_4,.int .i64 a1_5,.int .i64 a1_6,.string a1_7,.string a1_8,.int .i64 a1_9,.int .i64 a1_10,.string a1_11]] (by rfl) rfl rfl (by (try simp only [List.map_toArray,List.map_cons,List.map_nil]);first|done|rfl|(simp only [List.length_drop,List.length_take];rfl)) ?_
 with_reducible refine (change_tar.calls k a1_0 a1_1 a1_2 a1_3 a1_4 a1_5 a1_6 a1_7 a1_8 a1_9 a1_10 a1_11 t314 _ (hG.ext (by repeat (first|(with_reducible first|exact HB.out|apply pz3|apply pz1|apply pz2|refine below_set ?_ GE311.out|refine below_set ?_ GE312.out)|exact HB.out))) A4.out).mono ?_
 rintro e w10 ⟨rfl,hb⟩
 refine ⟨_,rfl,?_⟩
 have n0_:=pz4.mk (blk_below (g:=gb311) (o:=.cells #[.string a0_0,.int .i64 a0_1,.int .i64 a0_2,.int .i64 a0_3,.int .i64 a0_4,.int .i64 a0_5,.int .i64 a0_6,.string a0_7,.string a0_8,.int .i64 a0_9,.int .i64 a0_10,.string a0_11] 57 (0,0)) (by (with_reducible repeat (first|refine blk_drewN ?_ _|refine blk_drew ?_|refine blk_alloc ?_ _));exact BK311.out) hb)
 have n1_:=pz4.mk (blk_below (g:=gb312) (o:=.cells #[.string a1_0,.int .i64 a1_1,.int .i64 a1_2,.int .i64 a1_3,.int .i64 a1_4,.int .i64 a1_5,.int .i64 a1_6,.string a1_7,.string a1_8,.int .i64 a1_9,.int .i64 a1_10,.string a1_11] 57 (0,0)) (by (with_reducible repeat (first|refine blk_drewN ?_ _|refine blk_drew ?_|refine blk_alloc ?_ _));exact BK312.out) hb)
 have n2_:=pz4.mk (below_step (by repeat (first|(with_reducible first|exact HB.out|apply pz3|apply pz1|apply pz2|refine below_set ?_ GE311.out|refine below_set ?_ GE312.out)|exact HB.out)) hb)
 clear BK311
 clear BK312
 clear HB
 have BK311:=n0_
 have BK312:=n1_
 have HB:=n2_
 clear n0_ n1_ n2_
 (try clear hb)
 (try clear hb2)
 (try clear hk)
 (try clear hi)
 refine hK.out _ _ ⟨(blk_cell BK311.out 0).trans rfl,(blk_cell BK311.out 1).trans rfl,(blk_cell BK311.out 2).trans rfl,(blk_cell BK311.out 3).trans rfl,(blk_cell BK311.out 4).trans rfl,(blk_cell BK311.out 5).trans rfl,(blk_cell BK311.out 6).trans rfl,(blk_cell BK311.out 7).trans rfl,(blk_cell BK311.out 8).trans rfl,(blk_cell BK311.out 9).trans rfl,(blk_cell BK311.out 10).trans rfl,(blk_cell BK311.out 11).trans rfl,(blk_cell BK312.out 0).trans rfl,(blk_cell BK312.out 1).trans rfl,(blk_cell BK312.out 2).trans rfl,(blk_cell BK312.out 3).trans rfl,(blk_cell BK312.out 4).trans rfl,(blk_cell BK312.out 5).trans rfl,(blk_cell BK312.out 6).trans rfl,(blk_cell BK312.out 7).trans rfl,(blk_cell BK312.out 8).trans rfl,(blk_cell BK312.out 9).trans rfl,(blk_cell BK312.out 10).trans rfl,(blk_cell BK312.out 11).trans rfl⟩ (fun hHeld=>?_)
 clear hK K
 refine norm_ (a':=?_) ?_ ?_
 rotate_left
 ·show Act.put _ (some 8) _=_
  simp only [aP,i64_w,i32_w]
  rfl
 refine one_ (i:=4) (N:=some 9) (bm 6 31) rfl rfl (by kernel_rfl) (by decide) (fun K hK=>?_)
 refine goes_ Tryz.func37 (by kernel_rfl) rfl #[.string t313,.string t314] (by rfl) rfl rfl (by (try simp only [List.map_toArray,List.map_cons,List.map_nil]);first|done|rfl|(simp only [List.length_drop,List.length_take];rfl)) ?_
 with_reducible refine (paths_Compare.calls t313 t314 t315 _ (hG.ext (by repeat (first|(with_reducible first|exact HB.out|apply pz3|apply pz1|apply pz2|refine below_set ?_ GE311.out|refine below_set ?_ GE312.out)|exact HB.out))) A5.out).mono ?_
 rintro e w11 ⟨rfl,hb⟩
 refine ⟨_,rfl,?_⟩
 have n0_:=pz4.mk (blk_below (g:=gb311) (o:=.cells #[.string a0_0,.int .i64 a0_1,.int .i64 a0_2,.int .i64 a0_3,.int .i64 a0_4,.int .i64 a0_5,.int .i64 a0_6,.string a0_7,.string a0_8,.int .i64 a0_9,.int .i64 a0_10,.string a0_11] 57 (0,0)) (by (with_reducible repeat (first|refine blk_drewN ?_ _|refine blk_drew ?_|refine blk_alloc ?_ _));exact BK311.out) hb)
 have n1_:=pz4.mk (blk_below (g:=gb312) (o:=.cells #[.string a1_0,.int .i64 a1_1,.int .i64 a1_2,.int .i64 a1_3,.int .i64 a1_4,.int .i64 a1_5,.int .i64 a1_6,.string a1_7,.string a1_8,.int .i64 a1_9,.int .i64 a1_10,.string a1_11] 57 (0,0)) (by (with_reducible repeat (first|refine blk_drewN ?_ _|refine blk_drew ?_|refine blk_alloc ?_ _));exact BK312.out) hb)
 have n2_:=pz4.mk (below_step (by repeat (first|(with_reducible first|exact HB.out|apply pz3|apply pz1|apply pz2|refine below_set ?_ GE311.out|refine below_set ?_ GE312.out)|exact HB.out)) hb)
 clear BK311
 clear BK312
 clear HB
 have BK311:=n0_
 have BK312:=n1_
 have HB:=n2_
 clear n0_ n1_ n2_
 (try clear hb)
 (try clear hb2)
 (try clear hk)
 (try clear hi)
 refine hK.out _ _ ⟨(blk_cell BK311.out 0).trans rfl,(blk_cell BK311.out 1).trans rfl,(blk_cell BK311.out 2).trans rfl,(blk_cell BK311.out 3).trans rfl,(blk_cell BK311.out 4).trans rfl,(blk_cell BK311.out 5).trans rfl,(blk_cell BK311.out 6).trans rfl,(blk_cell BK311.out 7).trans rfl,(blk_cell BK311.out 8).trans rfl,(blk_cell BK311.out 9).trans rfl,(blk_cell BK311.out 10).trans rfl,(blk_cell BK311.out 11).trans rfl,(blk_cell BK312.out 0).trans rfl,(blk_cell BK312.out 1).trans rfl,(blk_cell BK312.out 2).trans rfl,(blk_cell BK312.out 3).trans rfl,(blk_cell BK312.out 4).trans rfl,(blk_cell BK312.out 5).trans rfl,(blk_cell BK312.out 6).trans rfl,(blk_cell BK312.out 7).trans rfl,(blk_cell BK312.out 8).trans rfl,(blk_cell BK312.out 9).trans rfl,(blk_cell BK312.out 10).trans rfl,(blk_cell BK312.out 11).trans rfl⟩ (fun hHeld=>?_)
 clear hK K
 refine norm_ (a':=?_) ?_ ?_
 rotate_left
 ·show Act.put _ (some 9) _=_
  simp only [aP,i64_w,i32_w]
  rfl
 refine pU 5 4 ?_ (bm 6 63) rfl rfl (by kernel_rfl) (fun _ _ _=>id) (by rfl) ?_ ?_ ?_ ?_
 rotate_left
 ·intro w'
  go_simp
  with_reducible rfl
 rotate_left
 ·simp only [aP,i64_w,i32_w]
  rfl
 refine done_ (by kernel_rfl) ?_
 try go_wp2
 go_ret
 exact ⟨by first|rfl|(simp [pz6,pz5] <;> rfl)|(simp [*,pz6,pz5] <;> rfl),by repeat (first|(with_reducible first|exact HB.out|apply pz3|apply pz1|apply pz2|refine below_set ?_ GE311.out|refine below_set ?_ GE312.out)|exact HB.out)⟩
def change_Less.f (k:Nat) (a0_0:ByteArray) (a0_1:Int) (a0_2:Int) (a0_3:Int) (a0_4:Int) (a0_5:Int) (a0_6:Int) (a0_7:ByteArray) (a0_8:ByteArray) (a0_9:Int) (a0_10:Int) (a0_11:ByteArray) (a1_0:ByteArray) (a1_1:Int) (a1_2:Int) (a1_3:Int) (a1_4:Int) (a1_5:Int) (a1_6:Int) (a1_7:ByteArray) (a1_8:ByteArray) (a1_9:Int) (a1_10:Int) (a1_11:ByteArray):Option (Bool):=(change_compare.f k a0_0 a0_1 a0_2 a0_3 a0_4 a0_5 a0_6 a0_7 a0_8 a0_9 a0_10 a0_11 a1_0 a1_1 a1_2 a1_3 a1_4 a1_5 a1_6 a1_7 a1_8 a1_9 a1_10 a1_11).bind fun t318=>(some (decide (t318<0)))
set_option maxHeartbeats 8000000 in
set_option maxRecDepth 100000 in
theorem change_Less.calls (k:Nat) (a0_0:ByteArray) (a0_1:Int) (a0_2:Int) (a0_3:Int) (a0_4:Int) (a0_5:Int) (a0_6:Int) (a0_7:ByteArray) (a0_8:ByteArray) (a0_9:Int) (a0_10:Int) (a0_11:ByteArray) (a1_0:ByteArray) (a1_1:Int) (a1_2:Int) (a1_3:Int) (a1_4:Int) (a1_5:Int) (a1_6:Int) (a1_7:ByteArray) (a1_8:ByteArray) (a1_9:Int) (a1_10:Int) (a1_11:ByteArray) (r:Bool) (w:World) (hG:GL w) (h:change_Less.f k a0_0 a0_1 a0_2 a0_3 a0_4 a0_5 a0_6 a0_7 a0_8 a0_9 a0_10 a0_11 a1_0 a1_1 a1_2 a1_3 a1_4 a1_5 a1_6 a1_7 a1_8 a1_9 a1_10 a1_11=some r) :
  Calls Tryz.prog 45 #[.agg #[.string a0_0,.int .i64 a0_1,.int .i64 a0_2,.int .i64 a0_3,.int .i64 a0_4,.int .i64 a0_5,.int .i64 a0_6,.string a0_7,.string a0_8,.int .i64 a0_9,.int .i64 a0_10,.string a0_11],.agg #[.string a1_0,.int .i64 a1_1,.int .i64 a1_2,.int .i64 a1_3,.int .i64 a1_4,.int .i64 a1_5,.int .i64 a1_6,.string a1_7,.string a1_8,.int .i64 a1_9,.int .i64 a1_10,.string a1_11]] w fun e w'=>e=.returned (.bool r)∧Below w.heap.size w w':=by
 have hu57:=Tryz.underlying57
 have HB:=pz4.mk (Below.refl w.heap.size w)
 have H:((change_compare.f k a0_0 a0_1 a0_2 a0_3 a0_4 a0_5 a0_6 a0_7 a0_8 a0_9 a0_10 a0_11 a1_0 a1_1 a1_2 a1_3 a1_4 a1_5 a1_6 a1_7 a1_8 a1_9 a1_10 a1_11).bind fun t318=>(some (decide (t318<0))))=some r:=h
 clear h
 replace H:=Option.bind_eq_some_iff.mp H
 obtain ⟨t318,A30,H⟩:=H
 replace H:(some (decide (t318<0)))=some r:=H
 have A3:=pz4.mk A30
 clear A30
 obtain rfl:=Option.some.inj H
 go_enter Tryz.func45,Tryz.ntmps45
 go_wp2_with (first|((with_reducible refine gate_dst (N:=2) rfl ?_);refine box_event ?hg (N:=2) ?hd (cs:=#[.string a0_0,.int .i64 a0_1,.int .i64 a0_2,.int .i64 a0_3,.int .i64 a0_4,.int .i64 a0_5,.int .i64 a0_6,.string a0_7,.string a0_8,.int .i64 a0_9,.int .i64 a0_10,.string a0_11]) (t:=57) ?hr ?_;(case hd=>rfl);(case hg=>rfl);(case hr=>first|(go_simp;done)|(go_simp;rfl));intro gb316 hg w4 hbox hb;have n0_:=pz4.mk (below_step (by repeat (first|(with_reducible first|exact HB.out|apply pz3|apply pz1|apply pz2)|exact HB.out)) hb);have n1_:=pz4.mk (hbox);have n2_:=pz4.mk ((by rw [hg];exact (below_size (by repeat (first|(with_reducible first|exact HB.out|apply pz3|apply pz1|apply pz2)|exact HB.out))):w.heap.size≤gb316));have n3_:=pz4.mk ((by rw [hg];exact (below_size (by repeat (first|(with_reducible first|exact HB.out|apply pz3|apply pz1|apply pz2)|exact HB.out))):w.heap.size≤gb316));clear HB;have HB:=n0_;have BK316:=n1_;have GW316:=n2_;have GE316:=n3_;clear n0_ n1_ n2_ n3_;clear hb hbox hg)|((with_reducible refine gate_dst (N:=3) rfl ?_);refine box_event ?hg (N:=3) ?hd (cs:=#[.string a1_0,.int .i64 a1_1,.int .i64 a1_2,.int .i64 a1_3,.int .i64 a1_4,.int .i64 a1_5,.int .i64 a1_6,.string a1_7,.string a1_8,.int .i64 a1_9,.int .i64 a1_10,.string a1_11]) (t:=57) ?hr ?_;(case hd=>rfl);(case hg=>rfl);(case hr=>first|(go_simp;done)|(go_simp;rfl));intro gb317 hg w5 hbox hb;have n0_:=pz4.mk (blk_below (g:=gb316) (o:=.cells #[.string a0_0,.int .i64 a0_1,.int .i64 a0_2,.int .i64 a0_3,.int .i64 a0_4,.int .i64 a0_5,.int .i64 a0_6,.string a0_7,.string a0_8,.int .i64 a0_9,.int .i64 a0_10,.string a0_11] 57 (0,0)) (by (with_reducible repeat (first|refine blk_drewN ?_ _|refine blk_drew ?_|refine blk_alloc ?_ _));exact BK316.out) hb);have n1_:=pz4.mk (below_step (by repeat (first|(with_reducible first|exact HB.out|apply pz3|apply pz1|apply pz2|refine below_set ?_ GE316.out)|exact HB.out)) hb);have n2_:=pz4.mk (hbox);have n3_:=pz4.mk ((by rw [hg];exact (below_size (by repeat (first|(with_reducible first|exact HB.out|apply pz3|apply pz1|apply pz2|refine below_set ?_ GE316.out)|exact HB.out))):w.heap.size≤gb317));have n4_:=pz4.mk ((by rw [hg];exact (below_size (by repeat (first|(with_reducible first|exact HB.out|apply pz3|apply pz1|apply pz2|refine below_set ?_ GE316.out)|exact HB.out))):w.heap.size≤gb317));have n5_:=pz4.mk ((by rw [hg];exact Nat.ne_of_lt (blk_lt (g:=gb316) (o:=.cells #[.string a0_0,.int .i64 a0_1,.int .i64 a0_2,.int .i64 a0_3,.int .i64 a0_4,.int .i64 a0_5,.int .i64 a0_6,.string a0_7,.string a0_8,.int .i64 a0_9,.int .i64 a0_10,.string a0_11] 57 (0,0)) (by (with_reducible repeat (first|refine blk_drewN ?_ _|refine blk_drew ?_|refine blk_alloc ?_ _));exact BK316.out)):gb316≠gb317));have n6_:=pz4.mk ((by rw [hg];exact Nat.ne_of_gt (blk_lt (g:=gb316) (o:=.cells #[.string a0_0,.int .i64 a0_1,.int .i64 a0_2,.int .i64 a0_3,.int .i64 a0_4,.int .i64 a0_5,.int .i64 a0_6,.string a0_7,.string a0_8,.int .i64 a0_9,.int .i64 a0_10,.string a0_11] 57 (0,0)) (by (with_reducible repeat (first|refine blk_drewN ?_ _|refine blk_drew ?_|refine blk_alloc ?_ _));exact BK316.out)):gb317≠gb316));clear BK316;clear HB;have BK316:=n0_;have HB:=n1_;have BK317:=n2_;have GW317:=n3_;have GE317:=n4_;have NB316_317:=n5_;have NB317_316:=n6_;clear n0_ n1_ n2_ n3_ n4_ n5_ n6_;clear hb hbox hg;have hnb6:=NB316_317.out;have hnc6:=NB317_316.out;have hcz7_0:w5.cell? ⟨gb316,0,none⟩=some (.string a0_0):=(blk_cell BK316.out 0).trans rfl;have hcz7_1:w5.cell? ⟨gb316,1,none⟩=some (.int .i64 a0_1):=(blk_cell BK316.out 1).trans rfl;have hcz7_2:w5.cell? ⟨gb316,2,none⟩=some (.int .i64 a0_2):=(blk_cell BK316.out 2).trans rfl;have hcz7_3:w5.cell? ⟨gb316,3,none⟩=some (.int .i64 a0_3):=(blk_cell BK316.out 3).trans rfl;have hcz7_4:w5.cell? ⟨gb316,4,none⟩=some (.int .i64 a0_4):=(blk_cell BK316.out 4).trans rfl;have hcz7_5:w5.cell? ⟨gb316,5,none⟩=some (.int .i64 a0_5):=(blk_cell BK316.out 5).trans rfl;have hcz7_6:w5.cell? ⟨gb316,6,none⟩=some (.int .i64 a0_6):=(blk_cell BK316.out 6).trans rfl;have hcz7_7:w5.cell? ⟨gb316,7,none⟩=some (.string a0_7):=(blk_cell BK316.out 7).trans rfl;have hcz7_8:w5.cell? ⟨gb316,8,none⟩=some (.string a0_8):=(blk_cell BK316.out 8).trans rfl;have hcz7_9:w5.cell? ⟨gb316,9,none⟩=some (.int .i64 a0_9):=(blk_cell BK316.out 9).trans rfl;have hcz7_10:w5.cell? ⟨gb316,10,none⟩=some (.int .i64 a0_10):=(blk_cell BK316.out 10).trans rfl;have hcz7_11:w5.cell? ⟨gb316,11,none⟩=some (.string a0_11):=(blk_cell BK316.out 11).trans rfl;have hfz7_0:=pz7 BK316.out 0;have hfz7_1:=pz7 BK316.out 1;have hfz7_2:=pz7 BK316.out 2;have hfz7_3:=pz7 BK316.out 3;have hfz7_4:=pz7 BK316.out 4;have hfz7_5:=pz7 BK316.out 5;have hfz7_6:=pz7 BK316.out 6;have hfz7_7:=pz7 BK316.out 7;have hfz7_8:=pz7 BK316.out 8;have hfz7_9:=pz7 BK316.out 9;have hfz7_10:=pz7 BK316.out 10;have hfz7_11:=pz7 BK316.out 11;have hcz8_0:w5.cell? ⟨gb317,0,none⟩=some (.string a1_0):=(blk_cell BK317.out 0).trans rfl;have hcz8_1:w5.cell? ⟨gb317,1,none⟩=some (.int .i64 a1_1):=(blk_cell BK317.out 1).trans rfl;have hcz8_2:w5.cell? ⟨gb317,2,none⟩=some (.int .i64 a1_2):=(blk_cell BK317.out 2).trans rfl;have hcz8_3:w5.cell? ⟨gb317,3,none⟩=some (.int .i64 a1_3):=(blk_cell BK317.out 3).trans rfl;have hcz8_4:w5.cell? ⟨gb317,4,none⟩=some (.int .i64 a1_4):=(blk_cell BK317.out 4).trans rfl;have hcz8_5:w5.cell? ⟨gb317,5,none⟩=some (.int .i64 a1_5):=(blk_cell BK317.out 5).trans rfl;have hcz8_6:w5.cell? ⟨gb317,6,none⟩=some (.int .i64 a1_6):=(blk_cell BK317.out 6).trans rfl;have hcz8_7:w5.cell? ⟨gb317,7,none⟩=some (.string a1_7):=(blk_cell BK317.out 7).trans rfl;have hcz8_8:w5.cell? ⟨gb317,8,none⟩=some (.string a1_8):=(blk_cell BK317.out 8).trans rfl;have hcz8_9:w5.cell? ⟨gb317,9,none⟩=some (.int .i64 a1_9):=(blk_cell BK317.out 9).trans rfl;have hcz8_10:w5.cell? ⟨gb317,10,none⟩=some (.int .i64 a1_10):=(blk_cell BK317.out 10).trans rfl;have hcz8_11:w5.cell? ⟨gb317,11,none⟩=some (.string a1_11):=(blk_cell BK317.out 11).trans rfl;have hfz8_0:=pz7 BK317.out 0;have hfz8_1:=pz7 BK317.out 1;have hfz8_2:=pz7 BK317.out 2;have hfz8_3:=pz7 BK317.out 3;have hfz8_4:=pz7 BK317.out 4;have hfz8_5:=pz7 BK317.out 5;have hfz8_6:=pz7 BK317.out 6;have hfz8_7:=pz7 BK317.out 7;have hfz8_8:=pz7 BK317.out 8;have hfz8_9:=pz7 BK317.out 9;have hfz8_10:=pz7 BK317.out 10;have hfz8_11:=pz7 BK317.out 11)|((with_reducible refine pz8 (f:=77) rfl ?_);refine goesL_ (some 7) rfl rfl Tryz.func77 (by kernel_rfl) rfl #[.agg #[.string a0_0,.int .i64 a0_1,.int .i64 a0_2,.int .i64 a0_3,.int .i64 a0_4,.int .i64 a0_5,.int .i64 a0_6,.string a0_7,.string a0_8,.int .i64 a0_9,.int .i64 a0_10,.string a0_11],.agg #[.string a1_0,.int .i64 a1_1,.int .i64 a1_2,.int .i64 a1_3,.int .i64 a1_4,.int .i64 a1_5,.int .i64 a1_6,.string a1_7,.string a1_8,.int .i64 a1_9,.int .i64 a1_10,.string a1_11]] rfl (by (try simp only [List.map_toArray,List.map_cons,List.map_nil]);first|done|rfl|(simp only [List.length_drop,List.length_take];rfl)) ?_;(with_reducible refine (change_compare.calls k a0_0 a0_1 a0_2 a0_3 a0_4 a0_5 a0_6 a0_7 a0_8 a0_9 a0_10 a0_11 a1_0 a1_1 a1_2 a1_3 a1_4 a1_5 a1_6 a1_7 a1_8 a1_9 a1_10 a1_11 t318 _ (hG.ext (by repeat (first|(with_reducible first|exact HB.out|apply pz3|apply pz1|apply pz2|refine below_set ?_ GE316.out|refine below_set ?_ GE317.out)|exact HB.out))) A3.out).mono ?_);rintro e w9 ⟨rfl,hb⟩;refine ⟨_,rfl,?_⟩;have n0_:=pz4.mk (blk_below (g:=gb316) (o:=.cells #[.string a0_0,.int .i64 a0_1,.int .i64 a0_2,.int .i64 a0_3,.int .i64 a0_4,.int .i64 a0_5,.int .i64 a0_6,.string a0_7,.string a0_8,.int .i64 a0_9,.int .i64 a0_10,.string a0_11] 57 (0,0)) (by (with_reducible repeat (first|refine blk_drewN ?_ _|refine blk_drew ?_|refine blk_alloc ?_ _));exact BK316.out) hb);have n1_:=pz4.mk (blk_below (g:=gb317) (o:=.cells #[.string a1_0,.int .i64 a1_1,.int .i64 a1_2,.int .i64 a1_3,.int .i64 a1_4,.int .i64 a1_5,.int .i64 a1_6,.string a1_7,.string a1_8,.int .i64 a1_9,.int .i64 a1_10,.string a1_11] 57 (0,0)) (by (with_reducible repeat (first|refine blk_drewN ?_ _|refine blk_drew ?_|refine blk_alloc ?_ _));exact BK317.out) hb);have n2_:=pz4.mk (below_step (by repeat (first|(with_reducible first|exact HB.out|apply pz3|apply pz1|apply pz2|refine below_set ?_ GE316.out|refine below_set ?_ GE317.out)|exact HB.out)) hb);clear BK316;clear BK317;clear HB;have BK316:=n0_;have BK317:=n1_;have HB:=n2_;clear n0_ n1_ n2_;(try clear hb);(try clear hb2);(try clear hk);(try clear hi)))
 go_ret
 exact ⟨by first|rfl|(simp [pz6,pz5] <;> rfl)|(simp [*,pz6,pz5] <;> rfl),by repeat (first|(with_reducible first|exact HB.out|apply pz3|apply pz1|apply pz2|refine below_set ?_ GE316.out|refine below_set ?_ GE317.out)|exact HB.out)⟩
end Go.Proofs.Zq
end
section
namespace Go.Proofs.Zq
open Go.RowKit Go.Proofs.YtjghikkboekonaaGreatDoor Go.Proofs.Zw.PrintWords Go.Proofs.Zw.PrintLast
open Go.Proofs.Zt (partM markedM markM opqM isM parM lastM underM markF unmarkF wouldM tarM belowM)
theorem rdOf_map (l:List Str) (i:Nat) (h:i<l.length):rdOf ByteArray.empty (l.map B) (i:Int)=B (l[i]'h):=by
 unfold rdOf
 rw [show ((i:Nat):Int).toNat=i from by omega]
 simp [h]
theorem anyBad_l:∀ (d:Nat) (l:List Str) (i:Nat) (k:Nat),l.length - i=d→i≤l.length→l.length≤5000000000→d<k →
  ∃ r:Int,pq6.l0 k (l.map B) (l.length:Int) i=some r∧(decide (r ≥ 0)=(l.drop i).any fun x=>!partM x):=by
 intro d
 induction d with
 | zero =>
  intro l i k hd hi hl hk
  obtain ⟨k,rfl⟩:∃ m,k=m + 1:=⟨k - 1,by omega⟩
  refine ⟨-1,?_,?_⟩
  ·simp only [pq6.l0]
   rw [if_neg (by omega)]
  ·rw [List.drop_eq_nil_of_le (by omega)];rfl
 | succ d ih =>
  intro l i k hd hi hl hk
  obtain ⟨k,rfl⟩:∃ m,k=m + 1:=⟨k - 1,by omega⟩
  have hlt:i<l.length:=by omega
  simp only [pq6.l0]
  rw [if_pos (by omega),if_pos (by omega),if_pos (by simp;omega),rdOf_map l i hlt,bad_f]
  simp only [Option.bind_some]
  rw [List.drop_eq_getElem_cons hlt,List.any_cons]
  cases hb:partM l[i] with
  | false =>
   refine ⟨i,?_,?_⟩
   ·simp
   ·simp
  | true =>
   obtain ⟨r,h1,h2⟩:=ih l (i + 1) k (by omega) (by omega) hl (by omega)
   refine ⟨r,?_,?_⟩
   ·simp only [Bool.not_true,Bool.false_eq_true,if_false]
    rw [wrap_in (by omega) (by omega)]
    exact h1
   ·rw [h2];simp
theorem anyBad (l:List Str) (hl:l.length≤5000000000) (k:Nat) (hk:l.length<k):pq2.f k (l.map B) ()=some (!l.all partM):=by
 unfold pq2.f pq6.f
 obtain ⟨r,h1,h2⟩:=anyBad_l l.length l 0 k (by omega) (by omega) hl hk
 rw [List.length_map]
 rw [show ((0:Nat):Int)=0 from rfl] at h1
 rw [h1]
 simp only [Option.bind_some,Option.some.injEq]
 rw [h2,List.drop_zero,List.not_all_eq_any_not]
theorem anyLong_l:∀ (d:Nat) (l:List Str) (i:Nat) (k:Nat),l.length - i=d→i≤l.length→l.length≤5000000000→d<k →
  ∃ r:Int,pq4.l0 k (l.map B) (l.length:Int) i=some r∧(decide (r ≥ 0)=(l.drop i).any fun x=>!decide (x.length≤251)):=by
 intro d
 induction d with
 | zero =>
  intro l i k hd hi hl hk
  obtain ⟨k,rfl⟩:∃ m,k=m + 1:=⟨k - 1,by omega⟩
  refine ⟨-1,?_,?_⟩
  ·simp only [pq4.l0]
   rw [if_neg (by omega)]
  ·rw [List.drop_eq_nil_of_le (by omega)];rfl
 | succ d ih =>
  intro l i k hd hi hl hk
  obtain ⟨k,rfl⟩:∃ m,k=m + 1:=⟨k - 1,by omega⟩
  have hlt:i<l.length:=by omega
  simp only [pq4.l0]
  rw [if_pos (by omega),if_pos (by omega),if_pos (by simp;omega),rdOf_map l i hlt,long_f]
  simp only [Option.bind_some]
  rw [List.drop_eq_getElem_cons hlt,List.any_cons]
  cases hb:decide (l[i].length≤251) with
  | false =>
   refine ⟨i,?_,?_⟩
   ·simp
   ·simp
  | true =>
   obtain ⟨r,h1,h2⟩:=ih l (i + 1) k (by omega) (by omega) hl (by omega)
   refine ⟨r,?_,?_⟩
   ·simp only [Bool.not_true,Bool.false_eq_true,if_false]
    rw [wrap_in (by omega) (by omega)]
    exact h1
   ·rw [h2];simp
theorem anyLong (l:List Str) (hl:l.length≤5000000000) (k:Nat) (hk:l.length<k):pq1.f k (l.map B) ()=some (!l.all fun x=>decide (x.length≤251)):=by
 unfold pq1.f pq4.f
 obtain ⟨r,h1,h2⟩:=anyLong_l l.length l 0 k (by omega) (by omega) hl hk
 rw [List.length_map]
 rw [show ((0:Nat):Int)=0 from rfl] at h1
 rw [h1]
 simp only [Option.bind_some,Option.some.injEq]
 rw [h2,List.drop_zero,List.not_all_eq_any_not]
theorem is_f (s:Str) (hs:s.length≤4000000000) (k:Nat) (hk:s.length + 1<k):paths_is.f k (B s)=some (isM s):=by
 have hc:=cut_len s
 have hne:=Zt.cutM_ne s
 have hpos:0<(Zt.cutM s).length:=List.length_pos_iff.2 hne
 have hlast:rdOf ByteArray.empty ((Zt.cutM s).map B) (((Zt.cutM s).length:Int) - 1)=B (lastM s):=by
  rw [show (((Zt.cutM s).length:Int) - 1)=(((Zt.cutM s).length - 1:Nat):Int) from by omega,rdOf_map _ _ (by omega)]
  unfold lastM
  rw [List.getLast_eq_getElem]
 have htake:((Zt.cutM s).map B).take (((Zt.cutM s).length:Int) - 1).toNat=((Zt.cutM s).dropLast).map B:=by
  rw [show (((Zt.cutM s).length:Int) - 1).toNat=(Zt.cutM s).length - 1 from by omega,List.dropLast_eq_take,List.map_take]
 unfold paths_is.f
 rw [splits_f s hs]
 simp only [Option.bind_some,List.length_map]
 rw [wrap_in (by omega) (by omega),if_pos (by omega),if_pos (by omega),hlast]
 have hm:=hp_f (lastM s) [46,119,104,46]
 rw [show (⟨#[46,119,104,46]⟩:ByteArray)=B [46,119,104,46] from rfl,hm]
 have hmk:List.isPrefixOf [46,119,104,46] (lastM s)=markedM (lastM s):=rfl
 rw [hmk]
 simp only [Option.bind_some,B_size]
 have hbad:=anyBad (Zt.cutM s) (by omega) k (by omega)
 have hlong:=anyLong (Zt.cutM s).dropLast (by simp;omega) k (by simp;omega)
 unfold isM
 cases hmd:markedM (lastM s) with
 | true =>
  simp only [if_true]
  by_cases h1:s.length≤4096
  ·rw [if_pos (by omega)]
   by_cases h2:(lastM s).length≤255
   ·rw [if_pos (by omega),hbad]
    simp only [Option.bind_some]
    cases h3:(Zt.cutM s).all partM with
    | false=>simp
    | true =>
     simp only [Bool.not_true,Bool.false_eq_true,if_false]
     rw [if_pos (by omega),htake,hlong]
     simp [h1,h2]
   ·rw [if_neg (by omega)];simp [h2]
  ·rw [if_neg (by omega)];simp [h1]
 | false =>
  simp only [Bool.false_eq_true,if_false]
  by_cases h1:s.length≤4092
  ·rw [if_pos (by omega)]
   by_cases h2:(lastM s).length≤251
   ·rw [if_pos (by omega),hbad]
    simp only [Option.bind_some]
    cases h3:(Zt.cutM s).all partM with
    | false=>simp
    | true =>
     simp only [Bool.not_true,Bool.false_eq_true,if_false]
     rw [if_pos (by omega),htake,hlong]
     simp [h1,h2]
   ·rw [if_neg (by omega)];simp [h2]
  ·rw [if_neg (by omega)];simp [h1]
def markR (s:Str):Int×ByteArray×Bool:=match markF s with|some (o,p)=>(o,B p,true)|none=>(0,B [],false)
theorem part_len (s:Str):(parM s).length≤s.length∧(lastM s).length≤s.length:=by
 rcases Zt.split_cases s with ⟨_,e,hp⟩|⟨_,e⟩
 ·rw [hp];exact ⟨Nat.zero_le _,by rw [← e];exact Nat.le_refl _⟩
 ·have:=congrArg List.length e
  simp at this
  omega
theorem mark_f (s:Str) (hs:s.length≤2000000000) (k:Nat) (hk:s.length + 1<k):paths_Mark.f k (B s)=some (markR s):=by
 have hl:=part_len s
 unfold paths_Mark.f
 rw [split_f s (by omega)]
 simp only [Option.bind_some]
 have hcp:strings_CutPrefix.f (B (lastM s)) (⟨#[46,119,104,46]⟩:ByteArray)=some (B (if markedM (lastM s)=true then (lastM s).drop 4 else lastM s),markedM (lastM s)):=by
  unfold strings_CutPrefix.f Lib.trimPrefix Lib.hasPrefix
  rfl
 rw [hcp,is_f s (by omega) k hk]
 simp only [Option.bind_some,toList_B]
 unfold markR markF
 cases h1:isM s with
 | false=>simp
 | true =>
  simp only [if_true]
  cases h2:markedM (lastM s) with
  | false=>simp
  | true =>
   simp only [if_true]
   by_cases h3:lastM s=opqM
   ·rw [if_pos h3]
    rw [if_pos (show lastM s=[46,119,104,46,46,119,104,46,46,111,112,113] from h3)]
   ·rw [if_neg h3]
    rw [if_neg (show ¬ lastM s=[46,119,104,46,46,119,104,46,46,111,112,113] from h3)]
    rw [bad_f]
    simp only [Option.bind_some]
    cases h4:partM ((lastM s).drop 4) with
    | false=>simp
    | true =>
     simp only [Bool.not_true,Bool.false_eq_true,if_false]
     rw [show (⟨#[46,119,104,46]⟩:ByteArray)=B [46,119,104,46] from rfl,hp_f]
     simp only [Option.bind_some]
     have hmk:List.isPrefixOf [46,119,104,46] ((lastM s).drop 4)=markedM ((lastM s).drop 4):=rfl
     rw [hmk]
     cases h5:markedM ((lastM s).drop 4) with
     | true=>simp
     | false =>
      simp only [Bool.false_eq_true,if_false,true_and,if_true]
      rw [below_f _ _ (by simp;omega)]
      simp
def unmarkR (op:Int) (p:Str):ByteArray×Bool:=match unmarkF op p with|some s=>(B s,true)|none=>(B [],false)
theorem would_len (op:Int) (p:Str):(wouldM op p).length≤p.length + 20:=by
 have hl:=part_len p
 unfold wouldM belowM
 split
 ·rcases Zt.split_cases p with ⟨_,e,hp⟩|⟨_,e⟩
  ·rw [hp];simp [markM];omega
  ·have:=congrArg List.length e
   simp at this
   split <;> simp [markM] <;> omega
 ·split
  ·split <;> simp [opqM] <;> omega
  ·omega
theorem unmark_test (op:Int) (p s:Str) (hs:s=wouldM op p) (k:Nat) (hl:p.length≤1000000000) (hk:p.length + 30<k) :
  ((paths_Mark.f k (B s)).bind fun bt=>(if bt.2.2=true then (if bt.1=op then (if bt.2.1.toList=(B p).toList then (some (B s,true)) else (some ((⟨#[]⟩:ByteArray),false))) else (some ((⟨#[]⟩:ByteArray),false))) else (some ((⟨#[]⟩:ByteArray),false))))=some (unmarkR op p):=by
 have hw:=would_len op p
 rw [← hs] at hw
 rw [mark_f s (by omega) k (by omega)]
 simp only [Option.bind_some]
 unfold unmarkR unmarkF markR
 rw [← hs]
 cases h:markF s with
 | none=>simp
 | some q =>
  obtain ⟨o,x⟩:=q
  simp only [if_true,toList_B,Option.some.injEq,Prod.mk.injEq]
  by_cases h1:o=op
  ·rw [if_pos h1]
   by_cases h2:x=p
   ·rw [if_pos h2,if_pos ⟨h1,h2⟩]
   ·rw [if_neg h2,if_neg (fun h=>h2 h.2)]
  ·rw [if_neg h1,if_neg (fun h=>h1 h.1)]
theorem unmark_f (op:Int) (p:Str) (hl:p.length≤1000000000) (k:Nat) (hk:p.length + 30<k):paths_Unmark.f k op (B p)=some (unmarkR op p):=by
 have hpl:=part_len p
 unfold paths_Unmark.f
 by_cases h1:op=1
 ·subst h1
  rw [if_pos rfl,split_f p (by omega)]
  simp only [Option.bind_some]
  rw [B_size,if_pos (by omega)]
  rw [show (⟨#[46,119,104,46]⟩:ByteArray)=B markM from rfl,B_append,below_f _ _ (by simp [markM];omega)]
  simp only [Option.bind_some]
  exact unmark_test 1 p _ (by unfold wouldM;rw [if_pos rfl]) k hl hk
 ·rw [if_neg h1]
  by_cases h2:op=2
  ·subst h2
   rw [if_pos rfl]
   rw [show (⟨#[46,119,104,46,46,119,104,46,46,111,112,113]⟩:ByteArray)=B opqM from rfl,below_f _ _ (by simp [opqM];omega)]
   simp only [Option.bind_some]
   exact unmark_test 2 p _ (by unfold wouldM;rw [if_neg (by decide),if_pos rfl]) k hl hk
  ·rw [if_neg h2]
   exact unmark_test op p p (by unfold wouldM;rw [if_neg h1,if_neg h2]) k hl hk
theorem unmarkR_1 (op:Int) (p:Str):(unmarkR op p).1=B (tarM op p):=by
 unfold unmarkR tarM
 cases unmarkF op p <;> rfl
theorem tar_len (op:Int) (p:Str):(tarM op p).length≤p.length + 20:=by
 unfold tarM
 cases h:unmarkF op p with
 | none=>simp
 | some s =>
  have:=(Zt.unmarkF_some h).1
  have hw:=would_len op p
  rw [← this] at hw
  exact hw
end Go.Proofs.Zq
end
section
namespace Go.Proofs.YtjghikkboekonaaGreatDoor
open Go.RowKit Go.WideMaps Go.Maps
theorem strLaw:Keyed Tryz.prog 9:=string_keyed Tryz.underlying9
theorem zeroInt (w:World):(zeroValue 3).run Tryz.prog w=.ok (.int .i64 0) w:=by kernel_rfl
def CntMap (w:World) (b n:Nat) (f:Str→Nat):Prop :=
 ∃ D:DataW Unit,w.ownsMap Tryz.prog 9 (plainElem Tryz.prog 3) b n D∧IsMap D∧∀ key:Str,D.atKey (.string key) (.lit (.int .i64 0))=.lit (.int .i64 (f key))
theorem CntMap.made (w:World):CntMap (w.alloc (.map #[] 0)) w.heap.size 0 (fun _=>0) :=
 ⟨.map [],World.ownsMap_made _ _ _ _,isMap_empty,fun _=>rfl⟩
theorem CntMap.alloc {w:World} {b n:Nat} {f:Str→Nat} (h:CntMap w b n f) (o:Obj):CntMap (w.alloc o) b n f :=
 let ⟨D,h1,h2,h3⟩:=h;⟨D,h1.alloc o,h2,h3⟩
theorem CntMap.lt {w:World} {b n:Nat} {f:Str→Nat} (h:CntMap w b n f):b<w.heap.size:=let ⟨_,h1,_⟩:=h;h1.lt
theorem CntMap.ext {w w':World} {b n:Nat} {f:Str→Nat} (h:CntMap w b n f) (hb:Below w.heap.size w w'):CntMap w' b n f :=
 let ⟨D,h1,h2,h3⟩:=h;⟨D,h1.kept (row:=none) ⟨hb.os,hb.tape,hb.output,hb.size,fun k hk _=>hb.block k hk⟩ (by simp),h2,h3⟩
theorem keyStr {s:Str} (h:s.length≤1000000000):keyOf Tryz.prog 9 (S s)=some (.string s):=by
 have:=keyOf_string_mk (P:=Tryz.prog) Tryz.underlying9 (s:=⟨s.toArray⟩) (by simp [Lib.size_eq];unfold maxLen;omega)
 simpa using this
theorem CntMap.look {w:World} {b n:Nat} {f:Str→Nat} (h:CntMap w b n f) {s:Str} (hs:s.length≤1000000000) :
  (Instr.lookup 64 (.map (some b)) (S s) false).run Tryz.prog w=.ok (.int .i64 (f s)) w:=by
 obtain ⟨D,h1,h2,h3⟩:=h
 obtain ⟨c,hrun,hat,_⟩:=h1.lookup_int strLaw Tryz.underlying64 Tryz.underlying3 (zeroInt _) (keyStr hs)
 rw [hrun]
 rw [h3] at hat
 simp only [DataW.lit.injEq,Lit.int.injEq,true_and] at hat
 rw [hat]
theorem wf_nat {c:Nat} (h:c≤9223372036854775807):(Lit.int .i64 (c:Int)).wf=true:=WalkArith.wf_i64 ⟨by omega,by omega⟩
theorem wpList_cnt_up {P:Program} (hP:P=Tryz.prog) {w:World} {ops:Array Oper} {rest:List Oper} {o:Oper} {a:Act} {Q:Exit→Act→World→Prop}
  (hg:o.guard=none) (m x v:Operand) (hop:o.op=Op.mapUpdate 64 m x v) (b n:Nat) (f:Str→Nat) (hm:a.eval m=.map (some b)) (hown:CntMap w b n f) (hn:n≤1000000000)
  (s:Str) (c:Nat) (hx:a.eval x=S s) (hv:a.eval v=.int .i64 c) (hs:s.length≤1000000000) (hc:c≤1000000001)
  (f':Str→Nat) (hf:∀ key,f' key=if key == s then c else f key)
  (hK:∀ w',CntMap w' b (n + 1) f'→w.grownBy w' (some b)→wpList P ops Q rest (a.put o.dst undef) w') :
  wpList P ops Q (o :: rest) a w:=by
 subst hP
 obtain ⟨D,h1,h2,h3⟩:=hown
 refine wpList_mapUpdate_own _ hg m x v _ hop 9 3 strLaw Tryz.underlying64 _ b n D hm h1 (by unfold maxLen;omega) _ _ _ hx hv (keyStr hs) _ []
  (plainElem_int Tryz.underlying3 (wf_nat (by omega))) ?_
 intro w' h1' hg'
 refine hK w' ⟨_,h1',h2.put _ _,fun key=>?_⟩ hg'
 rw [hf key]
 by_cases hk:key=s
 ·subst hk
  rw [atKey_put_same h2 (by trivial)]
  simp
 ·rw [atKey_put_other (by simpa using hk),h3]
  have:(key == s)=false:=by simpa using hk
  simp [this]
theorem grown_cell {w w':World} {row:Option Nat} (hg:w.grownBy w' row) {a:Addr} {v:Value} (h:w.cell? a=some v) (hne:some a.block≠row):w'.cell? a=some v :=
 (World.cell?_of_block (w:=w) (hg.block a.block (World.block_lt_of_cell? w _ h) hne)).trans h
theorem beq_cast (c:Nat):(((c:Int) + 1) == 1)=(true && (c + 1 == 1)):=by
 rw [Bool.true_and,Bool.eq_iff_iff,beq_iff_eq,beq_iff_eq];omega
set_option maxHeartbeats 400000 in
set_option maxRecDepth 100000 in
theorem keys_calls (w:World) (a:Option Addr) (cap:Nat) (l:List (Str×Str)) (hr:RowAt prC 2 w a l) (hl:l.length≤1000000000) (hk:∀ p ∈ l,p.1.length≤1000000000) :
  Calls Tryz.prog 170 #[.slice a l.length cap] w fun e w'=>e=.returned (.tuple #[.bool (rightM l),.bool (onceM l)])∧Below w.heap.size w w':=by
 have HR:=Lib.hid hr
 have HK:=Lib.hid hk
 clear hr hk
 have hmm:=@run_makeMap Tryz.prog
 go_enter Tryz.func170,Tryz.ntmps170
 go_wp2
 go_loopg [2,3,10] l.length (fun g v2 v3 v10 wr=>∃ k:Nat,∃ r o:Bool,g + k=l.length∧v10=.int .i64 k∧v2=.bool r∧v3=.bool o∧Hid (r=rightM (l.take k)∧o=onceM (l.take k)) ∧
  Hid (CntMap wr w.heap.size k (cnt (l.take k)))∧Hid (Below w.heap.size w wr))
 case atStart=>exact ⟨0,true,true,by simp,rfl,rfl,rfl,⟨rfl,rfl⟩,CntMap.made _,(Below.refl _ _).alloc (Nat.le_refl _) _⟩
 case round =>
  obtain ⟨k,r,on,hk,rfl,rfl,rfl,HF,HC,HB⟩:=hrel
  cases gk with
  | zero =>
   have hge:l.length≤k:=by omega
   clear hk
   go_wp2
   go_ret2
   have hk:l.take k=l:=List.take_of_length_le hge
   have HF':=HF.out
   rw [hk] at HF'
   rw [← HF'.1,← HF'.2]
   exact ⟨rfl,HB.out⟩
  | succ g1 =>
   have hlt:k<l.length:=by omega
   have HG:Hid (g1 + 1 + k=l.length):=hk
   clear hk
   obtain ⟨b,o,rfl,c1,c2⟩:=(HR.out.ext HB.out).pr hlt
   have HD:Hid (l.take (k + 1)=l.take k ++ [l[k]]):=by simp [Hid]
   have hks:(l[k]).1.length≤1000000000:=HK.out _ (List.getElem_mem hlt)
   generalize l[k]=x at c1 c2 HD hks
   have HF2:Hid (rightM (l.take (k + 1))=(r && keyOk x.1)∧onceM (l.take (k + 1))=(on && (cnt (l.take (k + 1)) x.1 == 1))):=by
    rw [HD.out,rightM_snoc,once_step,HF.out.1,HF.out.2]
    exact ⟨rfl,rfl⟩
   have hcn:cnt (l.take k) x.1≤1000000000:=by
    have h1:cnt (l.take k) x.1≤(l.take k).length:=List.countP_le_length
    rw [List.length_take] at h1
    omega
   have HFF:=Lib.hid (cnt_step HD.out)
   clear HD HF
   obtain ⟨xk,xv⟩:=x
   have HKS:=Lib.hid hks
   clear hks
   dsimp only at c1 c2 hcn HF2 HFF
   have HC1:=Lib.hid (HC.out.alloc (.cells #[S xk,S xv] 169))
   have hlook:=HC1.out.look HKS.out
   dsimp only at hlook
   generalize cnt (l.take k) xk=c0 at hlook hcn HFF
   have HCC:Hid (cnt (l.take (k + 1)) xk=c0 + 1):=Lib.hid (by have:=HFF.out xk;simpa using this)
   rw [HCC.out] at HF2
   have hcells:(wr.alloc (.cells #[S xk,S xv] 169)).cell? ⟨wr.heap.size,0,none⟩=some (S xk):=cell_new _ _ _ _ rfl
   have HCE:=Lib.hid hcells
   clear hcells
   have hne:some wr.heap.size≠some w.heap.size:=by
    have h1:=HC.out.lt
    have h2:=HB.out.size
    intro e
    simp only [Option.some.injEq] at e
    omega
   have HNE:=Lib.hid hne
   have hbase:w.heap.size≤wr.heap.size + 1:=by have:=HB.out.size;omega
   clear hne HC
   cases xk with
   | nil =>
    cases r <;> cases on
    all_goals
     go_wp2_with (first|(at_mapUpdate;refine wpList_cnt_up rfl rfl _ _ _ rfl _ k _ rfl HC1.out (by omega) [] (c0 + 1) rfl (by go_num) (by simp) (by omega) _ HFF.out ?_))
     intro w' hC' hg'
     have HC2:=Lib.hid hC'
     have HB2:Hid (Below w.heap.size w w'):=(HB.out.alloc HB.out.size _).grown hg' (by simp;exact hbase) (fun j hj=>by cases hj;exact Nat.le_refl _)
     have hlook2:=HC2.out.look HKS.out
     rw [HCC.out] at hlook2
     have hcell2:=grown_cell hg' HCE.out HNE.out
     clear hC' hg' hlook
     go_wp2
     go_roundg g1
     case measure=>omega
     case rel=>exact ⟨k + 1,_,_,by have:=HG.out;omega,by go_num,rfl,rfl,⟨by rw [HF2.out.1];rfl,by rw [HF2.out.2];first|rfl|exact beq_cast c0⟩,HC2,HB2⟩
   | cons c rest =>
    cases r <;> cases on
    all_goals
     go_wp2_with (first|(go_at_call 193;refine (contains1_calls _ _ _).mono ?_;rintro e w' ⟨rfl,rfl⟩)|(at_mapUpdate;refine wpList_cnt_up rfl rfl _ _ _ rfl _ k _ rfl HC1.out (by omega) (c :: rest) (c0 + 1) rfl (by go_num) HKS.out (by omega) _ HFF.out ?_))
     intro w' hC' hg'
     have HC2:=Lib.hid hC'
     have HB2:Hid (Below w.heap.size w w'):=(HB.out.alloc HB.out.size _).grown hg' (by simp;exact hbase) (fun j hj=>by cases hj;exact Nat.le_refl _)
     have hlook2:=HC2.out.look HKS.out
     rw [HCC.out] at hlook2
     have hcell2:=grown_cell hg' HCE.out HNE.out
     clear hC' hg' hlook
     go_wp2
     go_roundg g1
     case measure=>omega
     case rel=>exact ⟨k + 1,_,_,by have:=HG.out;omega,by go_num,rfl,rfl,⟨by rw [HF2.out.1];first|rfl|simp [keyOk],by rw [HF2.out.2];first|rfl|exact beq_cast c0⟩,HC2,HB2⟩
end Go.Proofs.YtjghikkboekonaaGreatDoor
end
section
namespace Go.Proofs.YtjghikkboekonaaGreatDoor
open Go.RowKit
theorem lenAux_step_eq {rest f d:Nat} (h:(dec (rest + 1 + d)).length=1 + d):lenAux rest (f + 1) d=rest + 1 + d:=by simp only [lenAux];rw [if_pos h]
theorem lenAux_step_ne {rest f d:Nat} (h:¬ (dec (rest + 1 + d)).length=1 + d):lenAux rest (f + 1) d=lenAux rest f (d + 1):=by simp only [lenAux];rw [if_neg h]
theorem ret_i64 {a b:Int} (h:a=b):Ending.returned (.int .i64 a)=.returned (.int .i64 b):=by rw [h]
set_option maxHeartbeats 400000 in
theorem length_calls (w:World) (hg:GL w) (r:Nat) (hr:r≤1000000000) :
  Calls Tryz.prog 191 #[.int .i64 r] w fun e w'=>e=.returned (.int .i64 (lenM r))∧Below w.heap.size w w':=by
 go_enter Tryz.func191,Tryz.ntmps191
 go_wp2
 go_step3
 go_wp2
 go_step3
 go_wp2
 go_loopg [3,6] 9 (fun g v3 v6 wr=>∃ d:Nat,g + d=9∧v6=.int .i64 d∧v3=.int .i64 (r + d)∧Hid (lenM r=lenAux r g d)∧Hid (Below w.heap.size w wr))
 case atStart=>exact ⟨0,rfl,rfl,by simp,rfl,Below.refl _ _⟩
 case round =>
  obtain ⟨d,hd,rfl,rfl,HL,HB⟩:=hrel
  cases gk with
  | zero =>
   obtain rfl:d=9:=by omega
   clear hd
   go_wp2
   rw [Exit.noGoto_ret]
   go_ret
   exact ⟨ret_i64 (by rw [HL.out];simp [lenAux]),HB.out⟩
  | succ g1 =>
   have hd9:d<9:=by omega
   have hgd:Hid (g1 + 1 + d=9):=hd
   clear hd
   go_wp2_with fail
   rw [show ((r:Int) + 1 + (d:Int))=((r + 1 + d:Nat):Int) from by omega]
   refine (itoa_calls wr (hg.ext HB.out) (r + 1 + d) (by omega)).mono ?_
   rintro e w1 ⟨rfl,hb1⟩
   have HB1:Hid (Below w.heap.size w w1):=HB.out.trans (hb1.mono HB.out.size)
   clear HB hb1
   go_wp2
   ·have ht:(((dec (r + 1 + d)).length:Int) == 1 + (d:Int))=true:=by assumption
    rw [Exit.noGoto_ret]
    go_ret
    refine ⟨ret_i64 ?_,HB1.out⟩
    have:=eq_of_beq ht
    rw [HL.out,lenAux_step_eq (by omega)]
    omega
   ·have ht:(((dec (r + 1 + d)).length:Int) == 1 + (d:Int))=false:=by assumption
    go_roundg g1
    case measure=>omega
    case rel =>
     have:=ne_of_beq_false ht
     refine ⟨d + 1,by have:=hgd.out;omega,by go_num,by go_num,?_,HB1⟩
     have e:=HL.out
     rw [lenAux_step_ne (by omega)] at e
     exact e
def CutPost (s:Str) (w:World) (e:Ending) (w':World):Prop :=
 ∃ (p:Str×Str) (rest:Str) (ok:Bool),e=.returned (.tuple #[.agg #[S p.1,S p.2],S rest,.bool ok])∧cutM s=(if ok then some (p,rest) else none)∧Below w.heap.size w w'
theorem CutPost.done {s:Str} {w w':World} {e:Ending} {key value rest:Str} (ok:Bool) (h1:cutM s=(if ok then some ((key,value),rest) else none)) (h2:e=.returned (.tuple #[.agg #[S key,S value],S rest,.bool ok])) (h3:Below w.heap.size w w'):CutPost s w e w' :=
 ⟨(key,value),rest,ok,h2,h1,h3⟩
theorem CutPost.fail {s:Str} {w w':World} {e:Ending} (h1:cutM s=none) (h2:e=.returned (.tuple #[.agg #[S [],S []],S [],.bool false])) (h3:Below w.heap.size w w'):CutPost s w e w' :=
 ⟨([],[]),[],false,h2,by simpa using h1,h3⟩
theorem len_no {n t:Nat} {v:Int} (hv:v=n) (h5:(((lenM (n - t):Nat):Int) != v)=true) (h:lenM (v.toNat - t)=v.toNat):False:=by
 subst hv
 simp only [Int.toNat_natCast] at h
 rw [h] at h5
 simp at h5
theorem len_yes {n t:Nat} {v:Int} (hv:v=n) (h5:(((lenM (n - t):Nat):Int) != v)=false):lenM (v.toNat - t)=v.toNat:=by
 subst hv
 simp only [Int.toNat_natCast]
 simp only [bne_eq_false_iff_eq] at h5
 omega
set_option maxHeartbeats 1000000 in
set_option maxRecDepth 100000 in
theorem cut_calls (w:World) (hg:GL w) (s:Str) (hs:s.length≤1000000000) :
  Calls Tryz.prog 169 #[S s] w (CutPost s w):=by
 have HS:=Lib.hid hs
 clear hs
 go_enter Tryz.func169,Tryz.ntmps169
 go_wp2_with fail
 have HP:=Lib.hid (blk_new w (.cells #[S [],S []] 169))
 have HB:Hid (Below w.heap.size w (w.alloc (.cells #[S [],S []] 169))):=below_new w _
 refine (cut1_calls _ (hg.ext HB.out) _ _ HS.out).mono ?_
 rintro e wc ⟨rfl,hbc⟩
 replace HP:=Lib.hid (blk_ext HP.out hbc)
 replace HB:Hid (Below w.heap.size w wc):=below_then HB.out hbc
 clear hbc
 have HC:Hid (cutM s=cutAt s (cut1 32 s).1 (cut1 32 s).2.2):=rfl
 have HTL:Hid ((cut1 32 s).1.length≤s.length):=cut1_len 32 s
 generalize cut1 32 s=q at HC HTL
 obtain ⟨text,rest0,is⟩:=q
 dsimp only at HC HTL
 have htl:text.length≤1000000000:=Nat.le_trans HTL.out HS.out
 rcases hat:Lib.atoiAll text with v|_|_
 ·
  have hv:=Lib.atoiAll_bounds hat
  have HAT:=Lib.hid hat
  clear hat
  go_wp2_with fail
  refine (atoi_ok_calls _ text htl v HAT.out).mono ?_
  rintro e wc ⟨rfl,hbc⟩
  replace HP:=Lib.hid (blk_ext HP.out hbc)
  replace HB:Hid (Below w.heap.size w wc):=below_then HB.out hbc
  clear hbc
  cases is with
  | false =>
   have HN:Hid (cutM s=none):=Lib.hid (by rw [HC.out];simp [cutAt])
   have c0:=blk_cell HP.out 0
   have c1:=blk_cell HP.out 1
   have f0:=blk_free HP.out 0
   have f1:=blk_free HP.out 1
   dsimp at c0 c1
   go_wp2_with fail
   obtain ⟨w3,hw3⟩:∃ w3,w3=(wc.setCell ⟨w.heap.size,0,none⟩ (S [])).setCell ⟨w.heap.size,1,none⟩ (S []):=⟨_,rfl⟩
   obtain ⟨h3,hb3⟩:=set_two HP.out (S []) (S []) (Nat.le_refl _) HB.out
   rw [← hw3] at h3 hb3 ⊢
   have d0:=blk_cell h3 0
   have d1:=blk_cell h3 1
   dsimp at d0 d1
   exact bodyPost_ret (v:=.tuple #[.agg #[S [],S []],S [],.bool false]) (by simp [results,Tryz.results169,go_sem,d0,d1]) rfl (CutPost.fail HN.out rfl hb3)
  | true =>
   have HC2:Hid (cutM s=(numM s text).bind fun n=>(bodyM ((s.drop (text.length + 1)).take (n - (text.length + 1)))).map fun p=>(p,s.drop n)):=Lib.hid (by rw [HC.out];simp [cutAt])
   clear HC
   have HNUM:Hid (numM s text=if Lib.itoa v=text∧text.length≤9∧v≤(s.length:Int)∧(text.length:Int) + 1<v∧lenM (v.toNat - text.length)=v.toNat then some v.toNat else none):=Lib.hid (by rw [numM,HAT.out])
   clear HAT
   go_wp2_with fail
   refine (itoaZ_calls _ (hg.ext HB.out) v hv.1 hv.2).mono ?_
   rintro e wc ⟨rfl,hbc⟩
   replace HP:=Lib.hid (blk_ext HP.out hbc)
   replace HB:Hid (Below w.heap.size w wc):=below_then HB.out hbc
   clear hbc
   by_cases h1:Lib.itoa v=text
   ·cases h2 : decide ((9:Int)<(text.length:Int)) with
    | true =>
     have HN:Hid (cutM s=none):=Lib.hid (by rw [HC2.out,HNUM.out,if_neg (fun h=>by have:=of_decide_eq_true h2;have:=h.2.1;omega)];rfl)
     have c0:=blk_cell HP.out 0
     have c1:=blk_cell HP.out 1
     have f0:=blk_free HP.out 0
     have f1:=blk_free HP.out 1
     dsimp at c0 c1
     go_wp2_with fail
     obtain ⟨w3,hw3⟩:∃ w3,w3=(wc.setCell ⟨w.heap.size,0,none⟩ (S [])).setCell ⟨w.heap.size,1,none⟩ (S []):=⟨_,rfl⟩
     obtain ⟨h3,hb3⟩:=set_two HP.out (S []) (S []) (Nat.le_refl _) HB.out
     rw [← hw3] at h3 hb3 ⊢
     have d0:=blk_cell h3 0
     have d1:=blk_cell h3 1
     dsimp at d0 d1
     exact bodyPost_ret (v:=.tuple #[.agg #[S [],S []],S [],.bool false]) (by simp [results,Tryz.results169,go_sem,d0,d1]) rfl (CutPost.fail HN.out rfl hb3)
    | false =>
     cases h3:decide ((s.length:Int)<v) with
     | true =>
      have HN:Hid (cutM s=none):=Lib.hid (by rw [HC2.out,HNUM.out,if_neg (fun h=>by have:=of_decide_eq_true h3;have:=h.2.2.1;omega)];rfl)
      have c0:=blk_cell HP.out 0
      have c1:=blk_cell HP.out 1
      have f0:=blk_free HP.out 0
      have f1:=blk_free HP.out 1
      dsimp at c0 c1
      go_wp2_with fail
      obtain ⟨w3,hw3⟩:∃ w3,w3=(wc.setCell ⟨w.heap.size,0,none⟩ (S [])).setCell ⟨w.heap.size,1,none⟩ (S []):=⟨_,rfl⟩
      obtain ⟨h3,hb3⟩:=set_two HP.out (S []) (S []) (Nat.le_refl _) HB.out
      rw [← hw3] at h3 hb3 ⊢
      have d0:=blk_cell h3 0
      have d1:=blk_cell h3 1
      dsimp at d0 d1
      exact bodyPost_ret (v:=.tuple #[.agg #[S [],S []],S [],.bool false]) (by simp [results,Tryz.results169,go_sem,d0,d1]) rfl (CutPost.fail HN.out rfl hb3)
     | false =>
      cases h4:decide (v≤(text.length:Int) + 1) with
      | true =>
       have HN:Hid (cutM s=none):=Lib.hid (by rw [HC2.out,HNUM.out,if_neg (fun h=>by have:=of_decide_eq_true h4;have:=h.2.2.2.1;omega)];rfl)
       have c0:=blk_cell HP.out 0
       have c1:=blk_cell HP.out 1
       have f0:=blk_free HP.out 0
       have f1:=blk_free HP.out 1
       dsimp at c0 c1
       go_wp2_with fail
       obtain ⟨w3,hw3⟩:∃ w3,w3=(wc.setCell ⟨w.heap.size,0,none⟩ (S [])).setCell ⟨w.heap.size,1,none⟩ (S []):=⟨_,rfl⟩
       obtain ⟨h3,hb3⟩:=set_two HP.out (S []) (S []) (Nat.le_refl _) HB.out
       rw [← hw3] at h3 hb3 ⊢
       have d0:=blk_cell h3 0
       have d1:=blk_cell h3 1
       dsimp at d0 d1
       exact bodyPost_ret (v:=.tuple #[.agg #[S [],S []],S [],.bool false]) (by simp [results,Tryz.results169,go_sem,d0,d1]) rfl (CutPost.fail HN.out rfl hb3)
      | false =>
       have i2:text.length≤9:=by have:=of_decide_eq_false h2;omega
       have i3:v≤(s.length:Int):=by have:=of_decide_eq_false h3;omega
       have i4:(text.length:Int) + 1<v:=by have:=of_decide_eq_false h4;omega
       go_wp2_with fail
       obtain ⟨n,hn⟩:∃ n:Nat,v=n:=⟨v.toNat,by omega⟩
       rw [show (v - (text.length:Int))=((n - text.length:Nat):Int) from by omega]
       have HNV:=Lib.hid hn
       refine (length_calls _ (hg.ext HB.out) (n - text.length) (by have:=HS.out;omega)).mono ?_
       clear hn
       rintro e wc ⟨rfl,hbc⟩
       replace HP:=Lib.hid (blk_ext HP.out hbc)
       replace HB:Hid (Below w.heap.size w wc):=below_then HB.out hbc
       clear hbc
       cases h5:(((lenM (n - text.length):Nat):Int) != v) with
       | true =>
        have HN:Hid (cutM s=none):=Lib.hid (by rw [HC2.out,HNUM.out,if_neg (fun h=>len_no HNV.out h5 h.2.2.2.2)];rfl)
        have c0:=blk_cell HP.out 0
        have c1:=blk_cell HP.out 1
        have f0:=blk_free HP.out 0
        have f1:=blk_free HP.out 1
        dsimp at c0 c1
        go_wp2_with fail
        obtain ⟨w3,hw3⟩:∃ w3,w3=(wc.setCell ⟨w.heap.size,0,none⟩ (S [])).setCell ⟨w.heap.size,1,none⟩ (S []):=⟨_,rfl⟩
        obtain ⟨h3,hb3⟩:=set_two HP.out (S []) (S []) (Nat.le_refl _) HB.out
        rw [← hw3] at h3 hb3 ⊢
        have d0:=blk_cell h3 0
        have d1:=blk_cell h3 1
        dsimp at d0 d1
        exact bodyPost_ret (v:=.tuple #[.agg #[S [],S []],S [],.bool false]) (by simp [results,Tryz.results169,go_sem,d0,d1]) rfl (CutPost.fail HN.out rfl hb3)
       | false =>
        go_wp2_with fail
        rw [extract_S]
        refine (cutSuffix_calls _ _ [10] (by have:=HS.out;simp;omega)).mono ?_
        rintro e wc ⟨rfl,hbc⟩
        replace HP:=Lib.hid (blk_ext HP.out hbc)
        replace HB:Hid (Below w.heap.size w wc):=below_then HB.out hbc
        clear hbc
        have HBODY:Hid (cutM s=(bodyM ((s.drop (text.length + 1)).take (v.toNat - (text.length + 1)))).map fun p=>(p,s.drop v.toNat)):=Lib.hid (by rw [HC2.out,HNUM.out,if_pos ⟨h1,i2,i3,i4,len_yes HNV.out h5⟩];rfl)
        have hbl:((s.drop (text.length + 1)).take (v.toNat - (text.length + 1))).length≤1000000000:=by have:=HS.out;simp;omega
        generalize (s.drop (text.length + 1)).take (v.toNat - (text.length + 1))=body at HBODY hbl
        have htr:(Lib.trimSuffix body [10]).length≤1000000000:=by exact Nat.le_trans (trimSuffix_le _ _) hbl
        have HBM:Hid (bodyM body=if Lib.hasSuffix body [10] && (cut1 61 (Lib.trimSuffix body [10])).2.2 && !((cut1 61 (Lib.trimSuffix body [10])).1 == []) then some ((cut1 61 (Lib.trimSuffix body [10])).1,(cut1 61 (Lib.trimSuffix body [10])).2.1) else none):=rfl
        generalize Lib.trimSuffix body [10]=trim at HBM htr
        generalize Lib.hasSuffix body [10]=ended at HBM
        go_wp2_with fail
        refine (cut1_calls _ (hg.ext HB.out) _ _ htr).mono ?_
        rintro e wc ⟨rfl,hbc⟩
        replace HP:=Lib.hid (blk_ext HP.out hbc)
        replace HB:Hid (Below w.heap.size w wc):=below_then HB.out hbc
        clear hbc
        generalize cut1 61 trim=q at HBM
        obtain ⟨key,value,is⟩:=q
        dsimp only at HBM
        have c0:=blk_cell HP.out 0
        have c1:=blk_cell HP.out 1
        have f0:=blk_free HP.out 0
        have f1:=blk_free HP.out 1
        dsimp at c0 c1
        go_wp2_with fail
        obtain ⟨w4,hw4⟩:∃ w4,w4=(wc.setCell ⟨w.heap.size,0,none⟩ (S key)).setCell ⟨w.heap.size,1,none⟩ (S value):=⟨_,rfl⟩
        obtain ⟨h4',hb4⟩:=set_two HP.out (S key) (S value) (Nat.le_refl _) HB.out
        rw [← hw4] at h4' hb4 ⊢
        have HP4:=Lib.hid h4'
        have HB4:=Lib.hid hb4
        clear hw4 h4' hb4 c0 c1 f0 f1 h1 h2 h3 h4 h5
        have c0:=blk_cell HP4.out 0
        have c1:=blk_cell HP4.out 1
        have f0:=blk_free HP4.out 0
        have f1:=blk_free HP4.out 1
        dsimp at c0 c1
        cases ended
        ·
         go_region
         all_goals
          obtain ⟨w5,hw5⟩:∃ w5,w5=((w4.setCell ⟨w.heap.size,0,none⟩ (S key)).setCell ⟨w.heap.size,1,none⟩ (S value)).drew:=⟨_,rfl⟩
          obtain ⟨h5',hb5⟩:=set_two HP4.out (S key) (S value) (Nat.le_refl _) HB4.out
          have h5d:w5.heap[w.heap.size]?=some (.cells #[S key,S value] 169 (0,0)):=by rw [hw5];exact h5'
          have hb5d:Below w.heap.size w w5:=by rw [hw5];exact hb5.drew
          rw [← hw5]
          clear hw5 h5' hb5
          go_wp2_with fail
          have d0:=blk_cell h5d 0
          have d1:=blk_cell h5d 1
          dsimp at d0 d1
          refine bodyPost_ret (v:=.tuple #[.agg #[S key,S value],.string ((⟨s.toArray⟩:ByteArray).extract v.toNat s.length),.bool false]) (by simp [results,Tryz.results169,go_sem,d0,d1]) rfl ?_
          rw [extract_end]
          exact CutPost.done false (by rw [HBODY.out,HBM.out];simp) rfl hb5d
        ·cases is
         ·
          go_region
          all_goals
           obtain ⟨w5,hw5⟩:∃ w5,w5=((w4.setCell ⟨w.heap.size,0,none⟩ (S key)).setCell ⟨w.heap.size,1,none⟩ (S value)).drew:=⟨_,rfl⟩
           obtain ⟨h5',hb5⟩:=set_two HP4.out (S key) (S value) (Nat.le_refl _) HB4.out
           have h5d:w5.heap[w.heap.size]?=some (.cells #[S key,S value] 169 (0,0)):=by rw [hw5];exact h5'
           have hb5d:Below w.heap.size w w5:=by rw [hw5];exact hb5.drew
           rw [← hw5]
           clear hw5 h5' hb5
           go_wp2_with fail
           have d0:=blk_cell h5d 0
           have d1:=blk_cell h5d 1
           dsimp at d0 d1
           refine bodyPost_ret (v:=.tuple #[.agg #[S key,S value],.string ((⟨s.toArray⟩:ByteArray).extract v.toNat s.length),.bool false]) (by simp [results,Tryz.results169,go_sem,d0,d1]) rfl ?_
           rw [extract_end]
           exact CutPost.done false (by rw [HBODY.out,HBM.out];simp) rfl hb5d
         ·cases key with
          | nil =>
           go_region
           all_goals
            obtain ⟨w5,hw5⟩:∃ w5,w5=((w4.setCell ⟨w.heap.size,0,none⟩ (S [])).setCell ⟨w.heap.size,1,none⟩ (S value)).drew:=⟨_,rfl⟩
            obtain ⟨h5',hb5⟩:=set_two HP4.out (S []) (S value) (Nat.le_refl _) HB4.out
            have h5d:w5.heap[w.heap.size]?=some (.cells #[S [],S value] 169 (0,0)):=by rw [hw5];exact h5'
            have hb5d:Below w.heap.size w w5:=by rw [hw5];exact hb5.drew
            rw [← hw5]
            clear hw5 h5' hb5
            go_wp2_with fail
            have d0:=blk_cell h5d 0
            have d1:=blk_cell h5d 1
            dsimp at d0 d1
            refine bodyPost_ret (v:=.tuple #[.agg #[S [],S value],.string ((⟨s.toArray⟩:ByteArray).extract v.toNat s.length),.bool false]) (by simp [results,Tryz.results169,go_sem,d0,d1]) rfl ?_
            rw [extract_end]
            exact CutPost.done false (by rw [HBODY.out,HBM.out];simp) rfl hb5d
          | cons kc kr =>
           go_region
           all_goals
            obtain ⟨w5,hw5⟩:∃ w5,w5=((w4.setCell ⟨w.heap.size,0,none⟩ (S (kc::kr))).setCell ⟨w.heap.size,1,none⟩ (S value)).drew:=⟨_,rfl⟩
            obtain ⟨h5',hb5⟩:=set_two HP4.out (S (kc::kr)) (S value) (Nat.le_refl _) HB4.out
            have h5d:w5.heap[w.heap.size]?=some (.cells #[S (kc::kr),S value] 169 (0,0)):=by rw [hw5];exact h5'
            have hb5d:Below w.heap.size w w5:=by rw [hw5];exact hb5.drew
            rw [← hw5]
            clear hw5 h5' hb5
            go_wp2_with fail
            have d0:=blk_cell h5d 0
            have d1:=blk_cell h5d 1
            dsimp at d0 d1
            refine bodyPost_ret (v:=.tuple #[.agg #[S (kc::kr),S value],.string ((⟨s.toArray⟩:ByteArray).extract v.toNat s.length),.bool true]) (by simp [results,Tryz.results169,go_sem,d0,d1]) rfl ?_
            rw [extract_end]
            exact CutPost.done true (by rw [HBODY.out,HBM.out];simp) rfl hb5d
   ·have HN:Hid (cutM s=none):=Lib.hid (by rw [HC2.out,HNUM.out,if_neg (fun h=>h1 h.1)];rfl)
    have c0:=blk_cell HP.out 0
    have c1:=blk_cell HP.out 1
    have f0:=blk_free HP.out 0
    have f1:=blk_free HP.out 1
    dsimp at c0 c1
    go_wp2_with fail
    obtain ⟨w3,hw3⟩:∃ w3,w3=(wc.setCell ⟨w.heap.size,0,none⟩ (S [])).setCell ⟨w.heap.size,1,none⟩ (S []):=⟨_,rfl⟩
    obtain ⟨h3,hb3⟩:=set_two HP.out (S []) (S []) (Nat.le_refl _) HB.out
    rw [← hw3] at h3 hb3 ⊢
    have d0:=blk_cell h3 0
    have d1:=blk_cell h3 1
    dsimp at d0 d1
    exact bodyPost_ret (v:=.tuple #[.agg #[S [],S []],S [],.bool false]) (by simp [results,Tryz.results169,go_sem,d0,d1]) rfl (CutPost.fail HN.out rfl hb3)
 ·
  have HN:Hid (cutM s=none):=Lib.hid (by rw [HC.out];cases is <;> simp [cutAt,numM,hat])
  have hbad:∀ v,Lib.atoiAll text≠.ok v:=by rw [hat];intro v;simp
  have HBAD:=Lib.hid hbad
  clear hat hbad
  go_wp2_with fail
  refine (atoi_bad_calls _ (hg.ext HB.out) text htl HBAD.out).mono ?_
  rintro e wc ⟨nb,xb,rfl,hbc⟩
  replace HP:=Lib.hid (blk_ext HP.out hbc)
  replace HB:Hid (Below w.heap.size w wc):=below_then HB.out hbc
  clear hbc
  cases is
  ·
   have c0:=blk_cell HP.out 0
   have c1:=blk_cell HP.out 1
   have f0:=blk_free HP.out 0
   have f1:=blk_free HP.out 1
   dsimp at c0 c1
   go_wp2_with fail
   obtain ⟨w3,hw3⟩:∃ w3,w3=(wc.setCell ⟨w.heap.size,0,none⟩ (S [])).setCell ⟨w.heap.size,1,none⟩ (S []):=⟨_,rfl⟩
   obtain ⟨h3,hb3⟩:=set_two HP.out (S []) (S []) (Nat.le_refl _) HB.out
   rw [← hw3] at h3 hb3 ⊢
   have d0:=blk_cell h3 0
   have d1:=blk_cell h3 1
   dsimp at d0 d1
   exact bodyPost_ret (v:=.tuple #[.agg #[S [],S []],S [],.bool false]) (by simp [results,Tryz.results169,go_sem,d0,d1]) rfl (CutPost.fail HN.out rfl hb3)
  ·
   have c0:=blk_cell HP.out 0
   have c1:=blk_cell HP.out 1
   have f0:=blk_free HP.out 0
   have f1:=blk_free HP.out 1
   dsimp at c0 c1
   go_wp2_with fail
   obtain ⟨w3,hw3⟩:∃ w3,w3=(wc.setCell ⟨w.heap.size,0,none⟩ (S [])).setCell ⟨w.heap.size,1,none⟩ (S []):=⟨_,rfl⟩
   obtain ⟨h3,hb3⟩:=set_two HP.out (S []) (S []) (Nat.le_refl _) HB.out
   rw [← hw3] at h3 hb3 ⊢
   have d0:=blk_cell h3 0
   have d1:=blk_cell h3 1
   dsimp at d0 d1
   exact bodyPost_ret (v:=.tuple #[.agg #[S [],S []],S [],.bool false]) (by simp [results,Tryz.results169,go_sem,d0,d1]) rfl (CutPost.fail HN.out rfl hb3)
 ·
  have HN:Hid (cutM s=none):=Lib.hid (by rw [HC.out];cases is <;> simp [cutAt,numM,hat])
  have hbad:∀ v,Lib.atoiAll text≠.ok v:=by rw [hat];intro v;simp
  have HBAD:=Lib.hid hbad
  clear hat hbad
  go_wp2_with fail
  refine (atoi_bad_calls _ (hg.ext HB.out) text htl HBAD.out).mono ?_
  rintro e wc ⟨nb,xb,rfl,hbc⟩
  replace HP:=Lib.hid (blk_ext HP.out hbc)
  replace HB:Hid (Below w.heap.size w wc):=below_then HB.out hbc
  clear hbc
  cases is
  ·
   have c0:=blk_cell HP.out 0
   have c1:=blk_cell HP.out 1
   have f0:=blk_free HP.out 0
   have f1:=blk_free HP.out 1
   dsimp at c0 c1
   go_wp2_with fail
   obtain ⟨w3,hw3⟩:∃ w3,w3=(wc.setCell ⟨w.heap.size,0,none⟩ (S [])).setCell ⟨w.heap.size,1,none⟩ (S []):=⟨_,rfl⟩
   obtain ⟨h3,hb3⟩:=set_two HP.out (S []) (S []) (Nat.le_refl _) HB.out
   rw [← hw3] at h3 hb3 ⊢
   have d0:=blk_cell h3 0
   have d1:=blk_cell h3 1
   dsimp at d0 d1
   exact bodyPost_ret (v:=.tuple #[.agg #[S [],S []],S [],.bool false]) (by simp [results,Tryz.results169,go_sem,d0,d1]) rfl (CutPost.fail HN.out rfl hb3)
  ·
   have c0:=blk_cell HP.out 0
   have c1:=blk_cell HP.out 1
   have f0:=blk_free HP.out 0
   have f1:=blk_free HP.out 1
   dsimp at c0 c1
   go_wp2_with fail
   obtain ⟨w3,hw3⟩:∃ w3,w3=(wc.setCell ⟨w.heap.size,0,none⟩ (S [])).setCell ⟨w.heap.size,1,none⟩ (S []):=⟨_,rfl⟩
   obtain ⟨h3,hb3⟩:=set_two HP.out (S []) (S []) (Nat.le_refl _) HB.out
   rw [← hw3] at h3 hb3 ⊢
   have d0:=blk_cell h3 0
   have d1:=blk_cell h3 1
   dsimp at d0 d1
   exact bodyPost_ret (v:=.tuple #[.agg #[S [],S []],S [],.bool false]) (by simp [results,Tryz.results169,go_sem,d0,d1]) rfl (CutPost.fail HN.out rfl hb3)
theorem info_pair:(Tryz.prog.info? 169).map (fun i=>(i.zero,i.size,i.bytes))=some (some (.agg #[S [],S []]),2,32):=by kernel_rfl
def ParsePost (s:Str) (w:World) (e:Ending) (w':World):Prop :=
 ∃ v,e=.returned (.tuple #[v,.int .i64 (parseM s).2])∧Owr prC 169 2 w.heap.size w' v (parseM s).1∧Below w.heap.size w w'
set_option maxHeartbeats 1000000 in
set_option maxRecDepth 100000 in
theorem parse_calls (w:World) (hg:GL w) (a:Option Addr) (cap:Nat) (s:Str) (hr:RowAt byC 1 w a s) (hn:a=none→s=[]) (hs:s.length≤100000000) :
  Calls Tryz.prog 139 #[.slice a s.length cap] w (ParsePost s w):=by
 have hconv:=bytes_text hr cap hn
 obtain ⟨i0,hi,hz0,hz1,hz2⟩:=info_parts info_pair
 have HI:=Lib.hid hi
 have HZ0:=Lib.hid hz0
 have HZ1:=Lib.hid hz1
 have HZ2:=Lib.hid hz2
 clear hi hz0 hz1 hz2 hr hn
 have HS:=Lib.hid hs
 clear hs
 go_enter Tryz.func139,Tryz.ntmps139
 go_wp2
 clear hconv
 go_loopg [4,5] s.length (fun g v4 v5 wr=>∃ (ps:List (Str×Str)) (rest:Str),v5=S rest∧Hid (Owr prC 169 2 w.heap.size wr v4 ps)∧rest.length≤g∧ps.length + rest.length≤s.length ∧
  Hid (∀ p ∈ ps,p.1.length≤s.length)∧Hid (parseF s.length s=(parseF g rest).map (ps ++ ·))∧Hid (Below w.heap.size w wr))
 case atStart=>exact ⟨[],s,rfl,Owr.nil _ _ _ _ _,Nat.le_refl _,by simp,fun p hp=>(by cases hp),by simp [Hid],Below.refl _ _⟩
 case round =>
  obtain ⟨ps,rest,rfl,HO,hrg,hps,HK,HF,HB⟩:=hrel
  cases rest with
  | nil =>
   obtain ⟨ao,co,rfl,hz,_⟩:=HO.out.val
   have HFE:Hid (parseF s.length s=some ps):=Lib.hid (by rw [HF.out,parseF_nil];simp)
   clear hz
   go_wp2_with fail
   refine (keys_calls _ _ _ ps (HO.out.row prC_len) (by have:=HS.out;omega) (fun p hp=>by have:=HK.out p hp;have:=HS.out;omega)).mono ?_
   rintro e w1 ⟨rfl,hb1⟩
   have HO1:=Lib.hid (HO.out.ext hb1)
   have HB1:Hid (Below w.heap.size w w1):=below_then HB.out hb1
   clear hb1
   cases ho:onceM ps with
   | true =>
    have HP:Hid (parseM s=(ps,0)):=Lib.hid (by simp [parseM,HFE.out,ho])
    go_wp2_with fail
    go_ret2
    exact ⟨_,by rw [HP.out];rfl,by rw [HP.out];exact HO1.out,HB1.out⟩
   | false =>
    have HP:Hid (parseM s=([],7)):=Lib.hid (by simp [parseM,HFE.out,ho])
    go_wp2_with fail
    go_ret2
    exact ⟨_,by rw [HP.out];rfl,by rw [HP.out];exact Owr.nil _ _ _ _ _,HB1.out⟩
  | cons c r =>
   cases gk with
   | zero=>simp at hrg
   | succ g1 =>
    go_wp2_with fail
    refine (cut_calls _ (hg.ext HB.out) (c :: r) (by have:=HS.out;omega)).mono ?_
    rintro e w1 ⟨p,rest',ok,rfl,hcut,hb1⟩
    have HO1:=Lib.hid (HO.out.ext hb1)
    have HB1:Hid (Below w.heap.size w w1):=below_then HB.out hb1
    clear hb1
    cases ok with
    | false =>
     have HFE:Hid (parseF s.length s=none):=Lib.hid (by rw [HF.out,parseF_no (by simpa using hcut)];rfl)
     clear hcut
     have HP:Hid (parseM s=([],3)):=Lib.hid (by simp [parseM,HFE.out])
     go_wp2_with fail
     go_ret2
     exact ⟨_,by rw [HP.out];rfl,by rw [HP.out];exact Owr.nil _ _ _ _ _,HB1.out.alloc HB1.out.size _⟩
    | true =>
     have hc:cutM (c :: r)=some (p,rest'):=by simpa using hcut
     have hlen:=cutM_some hc
     have HFE:Hid (parseF s.length s=(parseF g1 rest').map ((ps ++ [p]) ++ ·)):=Lib.hid (by rw [HF.out,parseF_yes hc];cases parseF g1 rest' <;> simp)
     have i1:rest'.length≤g1:=by omega
     have i2:(ps ++ [p]).length + rest'.length≤s.length:=by simp only [List.length_append,List.length_cons,List.length_nil];omega
     have HK2:Hid (∀ q ∈ ps ++ [p],q.1.length≤s.length):=by
      intro q hq
      rcases List.mem_append.1 hq with hq|hq
      ·exact HK.out q hq
      ·simp only [List.mem_cons,List.not_mem_nil,or_false] at hq;subst hq;omega
     have hpl:ps.length≤100000000:=by have:=HS.out;omega
     have hsz:=HB1.out.size
     clear hcut hc hlen HK HF HO HB
     go_wp2_with (at_builtin;refine wpList_append_one rfl _ _ 145 rfl w.heap.size 169 2 32 i0 (.agg #[S [],S []]) Tryz.underlying145 HI.out HZ0.out HZ1.out HZ2.out rfl (by decide) prC_len prC_one _ ps rfl ((HO1.out.alloc _).alloc _) p _ 1 rfl ?c1 ?c2 ?c3 ?c4 ?_)
     case c1=>intro j u hu;exact cell_new_at (cs:=[S p.1,S p.2]) (by simp) hu
     case c2=>unfold maxLen;omega
     case c3=>omega
     case c4=>simp;omega
     intro v' w' ho' hg'
     have HO2:=Lib.hid ho'
     have HB2:Hid (Below w.heap.size w w'):=((HB1.out.alloc hsz _).alloc (by simp;omega) _).grown hg' (by simp;omega) (fun j hj=>(World.ownsRow.lt HO1.out j hj).1)
     clear ho' hg' HO1 HB1
     go_wp2
     go_roundg g1
     case measure=>omega
     case rel=>exact ⟨ps ++ [p],rest',rfl,HO2,i1,i2,HK2,HFE,HB2⟩
theorem infoByte:(Tryz.prog.info? 5).map (fun i=>(i.zero,i.size,i.bytes))=some (some (.int .u8 0),1,1):=by kernel_rfl
theorem sizeBuilder:(Tryz.prog.info? 203).map (·.size)=some 2:=by kernel_rfl
theorem liesBuilder:liesAt Tryz.prog Tryz.prog.depth 203 (2 / Tryz.prog.cellsOf 203) 0 203 1=true:=by kernel_rfl
set_option maxHeartbeats 1000000 in
set_option maxRecDepth 100000 in
theorem copyCheck_used (b:Nat) (w:World) (h0:w.cell? ⟨b,0,none⟩=some (.pointer (some ⟨b,0,none⟩))) :
  Calls Tryz.prog 208 #[.pointer (some ⟨b,0,none⟩)] w fun e w'=>e=.returned (.tuple #[])∧w=w':=by
 obtain ⟨j,hj,_⟩:=Option.map_eq_some_iff.1 sizeBuilder
 go_enter Tryz.func208,Tryz.ntmps208
 go_wp2
 rw [Lib.run_neq_ptr_same w _ Tryz.underlying201 hj]
 go_wp2
 go_end0
 exact ⟨rfl,rfl⟩
set_option maxHeartbeats 1000000 in
set_option maxRecDepth 100000 in
theorem copyCheck_fresh (b:Nat) (w:World) (h0:w.cell? ⟨b,0,none⟩=some (.pointer none)) (hsh:w.shape? b=some (203,2)) (hfz:w.frozen? ⟨b,0,none⟩=false) :
  Calls Tryz.prog 208 #[.pointer (some ⟨b,0,none⟩)] w fun e w'=>e=.returned (.tuple #[])∧w'=w.setCell ⟨b,0,none⟩ (.pointer (some ⟨b,0,none⟩)):=by
 obtain ⟨j,hj,hjs⟩:=Option.map_eq_some_iff.1 sizeBuilder
 go_enter Tryz.func208,Tryz.ntmps208
 go_wp2
 rw [Lib.run_to_unsafe w ⟨b,0,none⟩ Tryz.underlying201 Tryz.underlying220 hj (by rw [hjs];decide) hsh (Nat.zero_lt_succ 1)]
 simp only [Result.andThen]
 rw [Oper.upon_value]
 go_wp2
 rw [run_callFunc_extern Tryz.func218 (by kernel_rfl) (by kernel_rfl) (by kernel_rfl) (e:=Extern.AbiNoEscape.same) (by kernel_rfl)]
 rw [Lib.run_noEscape]
 simp only [Result.andThen]
 rw [Oper.upon_value]
 go_wp2
 rw [Lib.run_from_unsafe w ⟨b,0,none⟩ Tryz.underlying220 Tryz.underlying201 hj hsh liesBuilder]
 simp only [Result.andThen]
 rw [Oper.upon_value]
 go_wp2
 go_end0
 exact ⟨rfl,rfl⟩
theorem copyCheck_calls (B b:Nat) (bs:List Value) (w:World) (h:Lib.IsBuilder 203 5 B b bs w) :
  Calls Tryz.prog 208 #[.pointer (some ⟨b,0,none⟩)] w fun e w'=>e=.returned (.tuple #[])∧(Lib.BuilderAt 203 5 B b (.pointer (some ⟨b,0,none⟩)) bs w'∧Below B w w'):=by
 rcases h with h|h
 ·refine (copyCheck_fresh b w h.cell0 h.shape h.frozen0).mono ?_
  rintro e w' ⟨rfl,rfl⟩
  exact ⟨rfl,h.used _,(Below.refl B w).setCell (p:=⟨b,0,none⟩) h.1 _⟩
 ·refine (copyCheck_used b w h.cell0).mono ?_
  rintro e w' ⟨rfl,rfl⟩
  exact ⟨rfl,h,Below.refl B _⟩
set_option maxHeartbeats 2000000 in
set_option maxRecDepth 100000 in
theorem writeString_any (B b:Nat) (bs:List Value) (s:ByteArray) (w:World) (h:Lib.IsBuilder 203 5 B b bs w) (hlen:bs.length + s.size≤140737488355328) (hBw:B≤w.heap.size) :
  Calls Tryz.prog 196 #[.pointer (some ⟨b,0,none⟩),.string s] w fun e w'=>e=.returned (.tuple #[.int .i64 s.size,.nilIface])∧(Lib.BuilderAt 203 5 B b (.pointer (some ⟨b,0,none⟩)) (bs ++ Lib.strCells s) w'∧Below B w w'):=by
 obtain ⟨i0,hi,hz0,hz1,hz2⟩:=info_parts infoByte
 go_enter Tryz.func196,Tryz.ntmps196
 go_wp2_with (go_at_call 208;refine (copyCheck_calls B b bs _ h).mono ?_)
 rintro e w1 ⟨rfl,h1,hb1⟩
 obtain ⟨hB,v,hbk,hown,hne⟩:=h1
 have c0:w1.cell? ⟨b,0,none⟩=some (.pointer (some ⟨b,0,none⟩)):=by rw [Lib.cell_of_heap hbk];rfl
 have c1:w1.cell? ⟨b,1,none⟩=some v:=by rw [Lib.cell_of_heap hbk];rfl
 go_wp2_with (at_builtin;refine Lib.wpList_append_own_string _ rfl _ _ 148 9 rfl B 5 i0 Tryz.underlying148 Tryz.underlying9 hi hz0 hz1 hz2 _ _ _ rfl hown s rfl ?c3 ?c4 ?c5 ?_)
 case c3=>unfold maxLen;omega
 case c4=>omega
 case c5=>have:=hb1.size;omega
 intro v' w2 hown' hgrow _
 have hlt:b<w1.heap.size:=blk_lt hbk
 have hb2:w2.heap[b]?=some (.cells #[.pointer (some ⟨b,0,none⟩),v] 203 (0,0)):=by
  rw [hgrow.block b hlt (fun e=>hne e.symm)]
  exact hbk
 have d0:w2.cell? ⟨b,0,none⟩=some (.pointer (some ⟨b,0,none⟩)):=by rw [Lib.cell_of_heap hb2];rfl
 have d1:w2.cell? ⟨b,1,none⟩=some v:=by rw [Lib.cell_of_heap hb2];rfl
 have f1:w2.frozen? ⟨b,1,none⟩=false:=Lib.frozen_of_heap hb2 1
 obtain ⟨ao,n',cap,rfl⟩:∃ ao n' cap,v'=.slice ao n' cap:=by
  rcases hown'.2 with ⟨hv,_⟩|⟨g,cap,cur,hv,_⟩
  ·exact ⟨_,_,_,hv⟩
  ·exact ⟨_,_,_,hv⟩
 go_wp2
 go_ret2
 refine ⟨rfl,?_,?_⟩
 ·exact Lib.BuilderAt.put (T:=203) (e:=5) hB hb2 (bs':=bs ++ Lib.strCells s) (by simpa [Lib.strCells_length] using hown') (by decide)
 ·exact (hb1.grown hgrow (by have:=hb1.size;omega) (fun k hk=>(hown.lt k hk).1)).setCell (p:=⟨b,1,none⟩) hB _
def Bld (B b:Nat) (l:Str) (w:World):Prop:=Lib.IsBuilder 203 5 B b (Lib.byteCells l) w
theorem Bld.fresh (w:World):Bld w.heap.size w.heap.size [] (w.alloc (.cells #[.pointer none,.slice none 0 0] 203)):=Lib.fresh_isBuilder _ _ _
theorem bldAt_ext {T e:TypeId} {B b:Nat} {p:Value} {bs:List Value} {w w':World} (h:Lib.BuilderAt T e B b p bs w) (hb:Below w.heap.size w w'):Lib.BuilderAt T e B b p bs w':=by
 obtain ⟨h1,v,h2,h3,h4⟩:=h
 refine ⟨h1,v,blk_ext h2 hb,World.ownsRow.kept h3 (row:=none) ⟨hb.os,hb.tape,hb.output,hb.size,fun i hi _=>hb.block i hi⟩ ?_,h4⟩
 cases v.ownBlock <;> simp
theorem Bld.ext {B b:Nat} {l:Str} {w w':World} (h:Bld B b l w) (hb:Below w.heap.size w w'):Bld B b l w':=by
 rcases h with h|h
 ·exact .inl (bldAt_ext h hb)
 ·exact .inr (bldAt_ext h hb)
theorem writeString_calls (B b:Nat) (l s:Str) (w:World) (h:Bld B b l w) (hlen:l.length + s.length≤140737488355328) (hBw:B≤w.heap.size) :
  Calls Tryz.prog 196 #[.pointer (some ⟨b,0,none⟩),S s] w fun e w'=>(∃ n,e=.returned (.tuple #[.int .i64 n,.nilIface]))∧Bld B b (l ++ s) w'∧Below B w w' :=
 (writeString_any B b _ ⟨s.toArray⟩ w h (by rw [Lib.byteCells_length,Lib.size_eq];exact hlen) hBw).mono fun e w' ⟨he,h1,h2⟩=>by
  refine ⟨⟨_,he⟩,.inr ?_,h2⟩
  have:Lib.byteCells l ++ Lib.strCells ⟨s.toArray⟩=Lib.byteCells (l ++ s):=by simp [Lib.byteCells,Lib.strCells]
  rw [this] at h1
  exact h1
theorem builderString_calls (B b:Nat) (l:Str) (w:World) (h:Bld B b l w) (hBw:B≤w.heap.size) :
  Calls Tryz.prog 197 #[.pointer (some ⟨b,0,none⟩)] w fun e w'=>e=.returned (S l)∧Below B w w' :=
 Tryz.Builder_String_any B b l w h hBw
def Sl {α:Type} (enc:α→List Value) (k:Nat) (w:World) (v:Value) (l:List α):Prop :=
 ∃ a cap,v=.slice a l.length cap∧RowAt enc k w a l∧(a=none→l=[])∧l.length≤cap
theorem Sl.nil {α:Type} (enc:α→List Value) (k:Nat) (w:World):Sl enc k w (.slice none 0 0) []:=⟨none,0,rfl,RowAt.nil _ _ _ _,fun _=>rfl,Nat.le_refl _⟩
theorem Sl.ext {α:Type} {enc:α→List Value} {k:Nat} {w w':World} {v:Value} {l:List α} (h:Sl enc k w v l) (hb:Below w.heap.size w w'):Sl enc k w' v l :=
 let ⟨a,cap,h1,h2,h3,h4⟩:=h;⟨a,cap,h1,h2.ext hb,h3,h4⟩
theorem text_bytes (w:World) (s:Str) :
  ∃ cap,(convert 9 148 (S s)).run Tryz.prog w=.ok (.slice (some ⟨w.heap.size,0,none⟩) s.length cap) (Lib.bytesWorld w 5 ⟨s.toArray⟩) ∧
   Sl byC 1 (Lib.bytesWorld w 5 ⟨s.toArray⟩) (.slice (some ⟨w.heap.size,0,none⟩) s.length cap) s:=by
 refine ⟨_,Lib.run_convert_string_bytes w _ _ _ ⟨s.toArray⟩ Tryz.underlying9 Tryz.underlying148 Tryz.underlying5,⟨_,_,rfl,?_,(fun h=>by cases h),?_⟩⟩
 ·intro i x hx
  refine ⟨_,_,rfl,fun j u hu=>?_⟩
  have hi:i<s.length:=(List.getElem?_eq_some_iff.1 hx).1
  cases j with
  | zero =>
   simp only [byC,List.getElem?_cons_zero,Option.some.injEq] at hu
   subst hu
   have:=Lib.bytesWorld_cell w 5 ⟨s.toArray⟩ i (by rw [Lib.size_eq];exact hi)
   simp only [Nat.zero_add,Nat.mul_one,Nat.add_zero]
   rw [this]
   simp [List.getD,hx]
  | succ j=>simp [byC] at hu
 ·have:=grownCap_ge w (ByteArray.size ⟨s.toArray⟩) 0 5
  rw [Lib.size_eq] at this ⊢
  exact this
def PrintPost (l:List (Str×Str)) (w:World) (e:Ending) (w':World):Prop :=
 ∃ v,e=.returned (.tuple #[v,.bool (printOk l)])∧Sl byC 1 w' v (if printOk l then printM l else [])∧Below w.heap.size w w'
set_option maxHeartbeats 1000000 in
set_option maxRecDepth 100000 in
theorem print_calls (w:World) (hg:GL w) (a:Option Addr) (cap:Nat) (l:List (Str×Str)) (hr:RowAt prC 2 w a l) (hl:bulk l≤100000000) :
  Calls Tryz.prog 176 #[.slice a l.length cap] w (PrintPost l w):=by
 have HR:=Lib.hid hr
 have HL:=Lib.hid hl
 have hll:l.length≤100000000:=Nat.le_trans (bulk_len l) hl
 have hpl:∀ p ∈ l,p.1.length + p.2.length≤100000000:=fun p hp=>Nat.le_trans (bulk_mem l p hp) hl
 have HPL:=Lib.hid hpl
 clear hr hl hpl
 go_enter Tryz.func176,Tryz.ntmps176
 go_wp2_with fail
 refine (keys_calls _ _ _ l HR.out (by omega) (fun p hp=>by have:=HPL.out p hp;omega)).mono ?_
 rintro e w1 ⟨rfl,hb1⟩
 have HB1:Hid (Below w.heap.size w w1):=hb1
 clear hb1
 cases hrt:rightM l with
 | false =>
  have HP:Hid (printOk l=false):=Lib.hid (by simp [printOk,hrt])
  go_wp2_with fail
  go_ret2
  exact ⟨_,by rw [HP.out];rfl,by rw [HP.out];exact Sl.nil _ _ _,HB1.out⟩
 | true =>
  cases hon:onceM l with
  | false =>
   have HP:Hid (printOk l=false):=Lib.hid (by simp [printOk,hon])
   go_wp2_with fail
   go_ret2
   exact ⟨_,by rw [HP.out];rfl,by rw [HP.out];exact Sl.nil _ _ _,HB1.out⟩
  | true =>
   have HP:Hid (printOk l=true):=Lib.hid (by simp [printOk,hon,hrt])
   clear hrt hon
   go_wp2_with fail
   go_loopg [23] l.length (fun g v23 wr=>∃ k:Nat,g + k=l.length∧v23=.int .i64 k∧Hid (Bld w1.heap.size w1.heap.size (printM (l.take k)) wr)∧Hid (Below w.heap.size w wr)∧w1.heap.size≤wr.heap.size)
   case atStart=>exact ⟨0,by simp,rfl,Bld.fresh _,HB1.out.alloc HB1.out.size _,by simp⟩
   case round =>
    obtain ⟨k,hk,rfl,HBL,HB,hsz⟩:=hrel
    cases gk with
    | zero =>
     have hge:l.length≤k:=by omega
     clear hk
     have HBL2:Hid (Bld w1.heap.size w1.heap.size (printM l) wr):=by have:=HBL.out;rw [List.take_of_length_le hge] at this;exact this
     go_wp2_with fail
     refine (builderString_calls _ _ _ _ HBL2.out hsz).mono ?_
     rintro e w2 ⟨rfl,hb2⟩
     have HB2:Hid (Below w.heap.size w w2):=HB.out.trans (hb2.mono HB1.out.size)
     clear hb2
     obtain ⟨cap',hconv,hsl⟩:=text_bytes w2 (printM l)
     have HSL:=Lib.hid hsl
     clear hsl
     go_wp2_with fail
     go_ret2
     exact ⟨_,by rw [HP.out];rfl,by rw [HP.out];exact HSL.out,below_then HB2.out (below_bytesWorld _ _ _)⟩
    | succ g1 =>
     have hlt:k<l.length:=by omega
     have HG:Hid (g1 + 1 + k=l.length):=hk
     clear hk
     obtain ⟨b,o,rfl,c1,c2⟩:=(HR.out.ext HB.out).pr hlt
     have HD:Hid (printM (l.take (k + 1))=printM (l.take k) ++ recM l[k]):=Lib.hid (printM_take l hlt)
     have hxl:=HPL.out _ (List.getElem_mem hlt)
     generalize l[k]=x at c1 c2 HD hxl
     have hpk:(printM (l.take k)).length≤100000000:=by
      have h1:=bulk_take l k
      have h2:=HL.out
      exact Nat.le_trans (printM_len (l.take k) (by omega)) (by omega)
     have HRL:Hid ((restM x).length=1 + x.1.length + 1 + x.2.length + 1):=Lib.hid (by simp [restM];omega)
     have hrl:(restM x).length≤100000003:=by rw [HRL.out];omega
     go_wp2_with fail
     rw [show (1 + (x.1.length:Int) + 1 + (x.2.length:Int) + 1)=(((restM x).length:Nat):Int) from by rw [HRL.out];omega]
     have HB2:Hid (Below w.heap.size w (wr.alloc (.cells #[S x.1,S x.2] 169))):=HB.out.alloc HB.out.size _
     refine (length_calls _ (hg.ext HB2.out) (restM x).length (by omega)).mono ?_
     rintro e w2 ⟨rfl,hb2⟩
     have HB3:Hid (Below w.heap.size w w2):=below_then HB2.out hb2
     have HBL2:=Lib.hid ((HBL.out.ext (below_new wr _)).ext hb2)
     have hsz2:w1.heap.size≤w2.heap.size:=by have:=hb2.size;simp at this;omega
     have hlm:=lenM_le (restM x).length
     clear hb2
     go_wp2_with fail
     refine (itoa_calls _ (hg.ext HB3.out) (lenM (restM x).length) (by omega)).mono ?_
     rintro e w3 ⟨rfl,hb3⟩
     have HB4:Hid (Below w.heap.size w w3):=below_then HB3.out hb3
     have HBL3:=Lib.hid (HBL2.out.ext hb3)
     have hsz3:w1.heap.size≤w3.heap.size:=by have:=hb3.size;omega
     have hdl:=dec_len (lenM (restM x).length) (by omega)
     clear hb3
     go_wp2_with fail
     refine (writeString_calls _ _ _ (dec (lenM (restM x).length)) _ HBL3.out (by omega) hsz3).mono ?_
     rintro e w4 ⟨⟨n4,rfl⟩,hbl4,hb4⟩
     have HB5:Hid (Below w.heap.size w w4):=HB4.out.trans (hb4.mono HB1.out.size)
     have HBL4:=Lib.hid hbl4
     have hsz4:w1.heap.size≤w4.heap.size:=by have:=hb4.size;omega
     clear hbl4 hb4
     go_wp2_with fail
     simp only [append_S]
     refine (writeString_calls _ _ _ _ _ HBL4.out (by simp only [List.length_append,List.length_cons,List.length_nil];omega) hsz4).mono ?_
     rintro e w5 ⟨⟨n5,rfl⟩,hbl5,hb5⟩
     have HB6:Hid (Below w.heap.size w w5):=HB5.out.trans (hb5.mono HB1.out.size)
     have HBL5:Hid (Bld w1.heap.size w1.heap.size (printM (l.take (k + 1))) w5):=Lib.hid (by rw [HD.out,recM,← List.append_assoc];exact hbl5)
     have hsz5:w1.heap.size≤w5.heap.size:=by have:=hb5.size;omega
     clear hbl5 hb5
     go_wp2_with fail
     go_roundg g1
     case measure=>omega
     case rel=>exact ⟨k + 1,by have:=HG.out;omega,by go_num,HBL5,HB6,hsz5⟩
theorem flat_get {α:Type} {enc:α→List Value} {k:Nat} (hk:∀ x,(enc x).length=k):∀ (l:List α) (j:Nat) (u:Value),(flat enc l)[j]?=some u→∃ i jj x,l[i]?=some x∧(enc x)[jj]?=some u∧j=i * k + jj
 | [],j,u,h=>by simp [flat] at h
 | y :: r,j,u,h=>by
  have e:flat enc (y :: r)=enc y ++ flat enc r:=rfl
  rw [e] at h
  by_cases hj:j<k
  ·rw [List.getElem?_append_left (by rw [hk];exact hj)] at h
   exact ⟨0,j,y,rfl,h,by omega⟩
  ·rw [List.getElem?_append_right (by rw [hk];omega),hk] at h
   obtain ⟨i,jj,x,h1,h2,h3⟩:=flat_get hk r (j - k) u h
   exact ⟨i + 1,jj,x,h1,h2,by rw [Nat.succ_mul];omega⟩
theorem run_append_row {α:Type} {P:Program} {enc:α→List Value} {w:World} (t ty:TypeId)
  (base T k bytes:Nat) (i:TypeInfo) (z:Value) (ht:P.underlying t=some (.slice T)) (hi:P.info? T=some i) (hz:i.zero=some z)
  (hsize:i.size=k) (hby:i.bytes=bytes) (hzs:z.cells.size=k) (hsz:0<k) (hk:∀ x,(enc x).length=k) (h1:∀ x,∀ u ∈ enc x,u.oneCell'=true)
  (v:Value) (l:List α) (hown:Owr enc T k base w v l) (A:Option Addr) (c:Nat) (m:List α) (hr:RowAt enc k w A m) (hn:A=none→m=[])
  (h63:l.length + m.length≤maxLen) (hbytes:(l.length + m.length) * bytes≤140737488355328) (hbase:base≤w.heap.size) :
  ∃ v' w',(Builtin.append_ #[t,t] ty #[v,.slice A m.length c]).run P w=.ok v' w'∧Owr enc T k base w' v' (l ++ m)∧w.grownBy w' v.ownBlock:=by
 cases A with
 | none =>
  obtain rfl:=hn rfl
  refine ⟨v,w,?_,by rw [List.append_nil];exact hown,World.grownBy.refl w _⟩
  rcases hown.2 with ⟨hv,h0⟩|⟨g,cap,cur,hv,_,_,hnc,_⟩
  ·subst hv
   simp [Builtin.append_,run_underlying ht,sizeOf,typeInfo,hi,Builtin.lenOf,Builtin.firstCells]
  ·subst hv
   simp [Builtin.append_,run_underlying ht,sizeOf,typeInfo,hi,Builtin.lenOf,Builtin.firstCells,hnc,storeCells]
 | some ad =>
  obtain ⟨v',w',hrun,h2,h3,_⟩:=run_append_own (P:=P) w base t ty T i z k bytes ht hi hz hsize hby hzs hsz v l.length (flat enc l) hown ad m.length c (flat enc m) (flat_length hk m) (fun j u hu=>by
   obtain ⟨i,jj,x,hx,hv,rfl⟩:=flat_get hk m j u hu
   obtain ⟨b,o,ha,hc⟩:=hr i x hx
   obtain rfl:=Option.some.inj ha
   rw [add_at,← Nat.add_assoc]
   exact hc jj u hv) (fun u hu=>by
   obtain ⟨x,_,hx⟩:=List.mem_flatMap.1 hu
   exact h1 x u hx) h63 hbytes hbase
  refine ⟨v',w',hrun,?_,h3⟩
  unfold Owr
  rw [flat_append,List.length_append]
  exact h2
theorem wpList_append_row {α:Type} {P:Program} {enc:α→List Value} {w:World} {ops:Array Oper} {rest:List Oper} {o:Oper} {a:Act} {Q:Exit→Act→World→Prop} (hw:Region.wanted o (yielded ops a.tmps)=true) (s x:Operand) (t:TypeId)
  (ho:o.op=.call { callee:=.builtin .append,args:=#[s,x],argTypes:=#[t,t] })
  (base T k bytes:Nat) (i:TypeInfo) (z:Value) (ht:P.underlying t=some (.slice T)) (hi:P.info? T=some i) (hz:i.zero=some z)
  (hsize:i.size=k) (hby:i.bytes=bytes) (hzs:z.cells.size=k) (hsz:0<k) (hk:∀ x,(enc x).length=k) (h1:∀ x,∀ u ∈ enc x,u.oneCell'=true)
  (v:Value) (l:List α) (hs:a.eval s=v) (hown:Owr enc T k base w v l) (A:Option Addr) (n c:Nat) (m:List α) (hx:a.eval x=.slice A n c) (hnm:n=m.length) (hr:RowAt enc k w A m) (hn:A=none→m=[])
  (h63:l.length + m.length≤maxLen) (hbytes:(l.length + m.length) * bytes≤140737488355328) (hbase:base≤w.heap.size)
  (h:∀ v' w',Owr enc T k base w' v' (l ++ m)→w.grownBy w' v.ownBlock→wpList P ops Q rest (a.put o.dst v') w'):wpList P ops Q (o :: rest) a w:=by
 subst hnm
 obtain ⟨v',w',hrun,h2,h3⟩:=run_append_row (P:=P) (enc:=enc) (w:=w) t o.type base T k bytes i z ht hi hz hsize hby hzs hsz hk h1 v l hown A c m hr hn h63 hbytes hbase
 unfold wpList
 rw [if_pos hw]
 refine Or.inl ?_
 unfold Oper.wp execOp
 simp only [ho,resolve,invoke,builtin,Sem.run_bind,Sem.run_pure,Result.andThen_ok,List.map_toArray,List.map_cons,List.map_nil,hs,hx,hrun]
 exact h v' w' h2 h3
theorem own_empty {α:Type} (enc:α→List Value) {T:TypeId} (k base:Nat) (w:World) (hb:base≤w.heap.size):Owr enc T k base (w.alloc (.cells #[] T)) (.slice (some ⟨w.heap.size,0,none⟩) 0 0) []:=by
 refine ⟨by simp [flat],.inr ⟨w.heap.size,0,#[],rfl,hb,blk_new w _,Nat.le_refl _,Nat.zero_le _,by simp,by simp [flat]⟩⟩
end Go.Proofs.YtjghikkboekonaaGreatDoor
end
