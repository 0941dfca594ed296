/- Law 23, CommonFolds: the row's proof and its card. -/
import Derived.Test.YtjghikkboekonaaGreatDoorKAJ
import Derived.Test.YtjghikkboekonaaGreatDoorKAL
import Derived.Test.YtjghikkboekonaaGreatDoorKAM
set_option linter.unusedSimpArgs false
set_option linter.unusedVariables false
section
namespace Go.Proofs.YtjghikkboekonaaGreatDoor.commonFolds
open Go.ChangeShapes Go.WideShapes Go.ChangeAt Go.RowKit Go.Proofs.YtjghikkboekonaaGreatDoor Go.Proofs.Zq
set_option maxRecDepth 100000 in
theorem contract (H:Type) (enc:TypeId×Value→H) (W:World) (base:Nat) (args:Array Value) (ds gs:List (DataW H)) (before:List MemPlace)
  (hval:∀ (j:Nat) t v,Tryz.f9.params[j]?=some t→args[j]?=some v→Value.okWide Tryz.prog W .any base t v)
  (hW:DataW.Whole enc Tryz.prog Tryz.f9.params.toList Rows.commonFoldsSpec.vars false W args.toList ds gs before)
  (hsz0:(DataW.weightsEach Tryz.prog (Tryz.f9.params.toList ++ (OpenSpec.ofChange Rows.commonFoldsSpec).bare.plain.varTypes Tryz.prog) (ds ++ gs)).all (·≤reachBytes)=true)
  (hL:laidMetH Tryz.prog Rows.commonFoldsRow.laid W) (hsh:W.ShapedOpen Tryz.prog) :
  Calls Tryz.prog 9 args W fun e W'=>∃ v,e=.returned v∧Rows.commonFoldsSpec.post enc Tryz.prog Tryz.f9 false true false false W args v W':=by
 have hW':=hW
 obtain ⟨p,q,hA0,hV,rfl,hfz,hnd⟩:=hW
 have hA:DataW.TrodAll enc Tryz.prog W 0 (fun _=>true) true Tryz.f9.params.toList args.toList ds p:=hA0
 obtain ⟨rfl,rfl⟩:=trodVars_none hV
 have hsz:(DataW.weightsEach Tryz.prog Tryz.f9.params.toList ds).all (·≤reachBytes)=true:=by
  have e:Tryz.f9.params.toList ++ (OpenSpec.ofChange Rows.commonFoldsSpec).bare.plain.varTypes Tryz.prog=Tryz.f9.params.toList:=by kernel_rfl
  rw [e,List.append_nil] at hsz0
  exact hsz0
 rw [Tryz.params9] at hA hval hsz
 obtain ⟨v0,v1,v2,d0,d1,d2,p0,p1,p2,rfl,rfl,rfl,h0,h1,h2⟩:=trodAll_three hA
 obtain ⟨a0,l0,c0,rfl,hr0,hc0,hs0,hn0,hw0⟩:=stk_arg5 (hval 0 _ v0 rfl rfl) h0 (weighs hsz 0 rfl rfl)
 obtain ⟨a1,l1,c1,rfl,hr1,hc1,hs1,hn1,hw1⟩:=stk_arg5 (hval 1 _ v1 rfl rfl) h1 (weighs hsz 1 rfl rfl)
 obtain ⟨a2,l2,c2,rfl,hr2,hc2,hs2,hn2,hw2⟩:=stk_arg5 (hval 2 _ v2 rfl rfl) h2 (weighs hsz 2 rfl rfl)
 refine (commonFolds_calls W (gl_of hL hsh) a0 c0 l0 hr0 hc0 hs0 hn0 hw0 a1 c1 l1 hr1 hc1 hs1 hn1 hw1 a2 c2 l2 hr2 hc2 hs2 hn2 hw2).mono fun e W' ⟨he,hb⟩=>?_
 subst he
 exact ⟨_,rfl,law_post rfl rfl rfl (by rw [Tryz.params9];intro t ht;simp only [List.mem_cons,List.not_mem_nil,or_false] at ht;rcases ht with rfl|rfl|rfl <;> exact ⟨by kernel_rfl,of_decide_eq_true (by kernel_rfl)⟩) hW' hb⟩
set_option maxRecDepth 100000 in
theorem lifted (os:Os) (started:os.Started) (H:Type) (enc:TypeId×Value→H) (F:Stop.Interp) :
  ReturnsInHanded {} Tryz.checked os 9 .any ((OpenSpec.ofChange Rows.commonFoldsSpec).preRow enc Tryz.prog Tryz.f9 Rows.commonFoldsRow.domain false Rows.commonFoldsRow.laid) (((OpenSpec.ofChange Rows.commonFoldsSpec).at F).post enc Tryz.prog Tryz.f9 false true false false):=by
 refine returnsInHanded_of_row (C:=Tryz.checked) (s:=OpenSpec.ofChange Rows.commonFoldsSpec) own started (by kernel_rfl) Tryz.func9
  (witness_row_atRef (enc:=enc) (C:=Tryz.checked) false (laidWorld os) #[.slice none 0 0,.slice none 0 0,.slice none 0 0] rfl (by kernel_rfl) (by kernel_rfl) (by kernel_rfl)
   (OpenSpec.preRow_of_cond 8 (x:=([.nil,.nil,.nil],[],[])) (by kernel_rfl) (by kernel_rfl) (fun k hk=>by cases hk) (by kernel_rfl) (laid_met os _))) ?_
 intro W base args ds gs before hval hW _ _ hsz hL hsh _
 exact contract H enc W base args ds gs before hval hW hsz hL hsh
theorem said:Rows.CommonFoldsSaid :=
 OpenClaim.holds_of_cond 9 Tryz.f9 rfl rfl rfl rfl rfl rfl rfl ⟨rfl,rfl,rfl,rfl,rfl⟩ rfl rfl rfl rfl rfl (by kernel_rfl) Tryz.func9 closed_
  (of_decide_eq_true (by kernel_rfl)) (by unfold Func.isWrapper;first|(rw [if_pos (by decide +kernel)];kernel_rfl)|(rw [if_neg (by decide +kernel)];exact ⟨rfl,rfl⟩))
  (fun os started H enc _ F=>by rw [OpenClaim.pre_eq_preRow];exact lifted os started H enc F)
theorem plain (f : FuncId) (fn : Func) (hf : Tryz.pinned.checked.prog.funcNamed "onionskin/onionskinlaw23.CommonFolds" = some f) (hfn : Tryz.pinned.checked.prog.funcs[f]? = some fn) :
  true=Tryz.pinned.checked.prog.looks []∧∀ (j:Nat) t,fn.params[j]?=some t→Tryz.pinned.checked.prog.wantsStandIn t=false:=by
 obtain rfl : f = 9 := Option.some.inj ((show Tryz.prog.funcNamed "onionskin/onionskinlaw23.CommonFolds" = some 9 by kernel_rfl).symm.trans hf) |>.symm
 obtain rfl:fn=Tryz.f9:=(Option.some.inj (Tryz.func9.symm.trans hfn)).symm
 refine ⟨by kernel_rfl,fun j t ht=>?_⟩
 rw [Tryz.params9] at ht
 have hm:=Array.mem_of_getElem? ht
 simp only [List.mem_toArray,List.mem_cons,List.not_mem_nil,or_false] at hm
 rcases hm with rfl|rfl|rfl
 ·exact (show Tryz.prog.wantsStandIn 41=false by kernel_rfl)
 ·exact (show Tryz.prog.wantsStandIn 41=false by kernel_rfl)
 ·exact (show Tryz.prog.wantsStandIn 41=false by kernel_rfl)
theorem card:Rows.CommonFoldsCardSaid :=
 Claim7.holds_tied_plain_at .later [] _ _ _ _ said (fun _ h=>by cases h) (by kernel_rfl) (fun _ h=>by cases h) commonFolds_row_tie rfl ⟨rfl,rfl⟩ (by kernel_rfl) rfl plain (by kernel_rfl)
end Go.Proofs.YtjghikkboekonaaGreatDoor.commonFolds
end
