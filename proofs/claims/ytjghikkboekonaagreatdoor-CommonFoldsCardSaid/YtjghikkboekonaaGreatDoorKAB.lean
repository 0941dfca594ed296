/- A part of a proof of statements of this seat: what its walks and its laws lean on; joined by a program of this repo (wip/pack.py) out of the texts QKinds, Own, XWords, PaxM, Shelf, Lib, XStr, XLaid, Th, Srt, Pth, QCmpOrInt, XCmp, XSplit. -/
import Derived.ArgAppend
import Derived.Below
import Derived.BigQuiet
import Derived.DataReads
import Derived.Deep.AppendLies
import Derived.Deep.CutBlock
import Derived.Deep.DeepCutAuto
import Derived.Deep.Draws
import Derived.Deep.LoopGhost
import Derived.Deep.OwnRows
import Derived.Deep.QuietTactic
import Derived.Deep.RegionHeld3
import Derived.Ground.Names2Prog
import Derived.Ground.SlsfProg
import Derived.KernelRfl
import Derived.Laws.BitsLemmas
import Derived.Laws.BytesArg
import Derived.Laws.IdiomCopy
import Derived.Laws.IdiomStrings
import Derived.Laws.MakeOwn
import Derived.Laws.OwnMore
import Derived.Laws.Rows
import Derived.Laws.Slices
import Derived.Lib.AppendStr
import Derived.Lib.AtoiAll
import Derived.Lib.ConvBytes
import Derived.Lib.IndexMore
import Derived.Lib.ItoaMem
import Derived.Lib.ItoaNum
import Derived.Lib.Strings
import Derived.Maps.AppendAt
import Derived.OrdersHeld
import Derived.OwnWalk
import Derived.RowKit
import Derived.RowKit3
import Derived.Shelf.LaysC
import Derived.Shelf.LaysM
import Derived.Shelf.SlSortCmp.HeapSort1
import Derived.Shelf.SlSortCmp.Insertion
import Derived.Shelf.SlSortCmp.Insertion1
import Derived.Shelf.SlSortCmp.Median1
import Derived.Shelf.SlSortCmp.NoneTotal
import Derived.Shelf.SlSortCmp.PartialInsertion1
import Derived.Shelf.SlSortCmp.Partition1
import Derived.Shelf.SlSortCmp.PartitionEqual1
import Derived.Shelf.SlSortCmp.Pdq1
import Derived.Shelf.SlSortCmp.Pivot1
import Derived.Shelf.SlSortCmp.ReverseRange1
import Derived.Shelf.SlSortCmp.SiftDown1
import Derived.Shelf.SlSortCmp.Whole1
import Derived.Shelf.Slices.SearchI
import Derived.Shelf.Small.Bits
import Derived.Shelf.Small.Strs
import Derived.Shelf.Small.Wraps
import Derived.Shelf.Strconv.Atoi
import Derived.Shelf.Strconv.AtoiAll
import Derived.Shelf.Strconv.AtoiErr
import Derived.Shelf.Strconv.AtoiErrFast
import Derived.Shelf.Strconv.AtoiFail
import Derived.Shelf.Strconv.AtoiInnerAll
import Derived.Shelf.Strconv.AtoiLong
import Derived.Shelf.Strconv.Clone
import Derived.Shelf.Strconv.ErrVarAll
import Derived.Shelf.Strconv.Itoa0
import Derived.Shelf.Strconv.Itoa1
import Derived.Shelf.Strconv.Itoa2
import Derived.Shelf.Strconv.Itoa3
import Derived.Shelf.Strconv.Lower
import Derived.Shelf.Strconv.ParseInt10
import Derived.Shelf.Strconv.ParseInt10All
import Derived.Shelf.Strconv.ParseInt10At16
import Derived.Shelf.Strconv.ParseInt10At32
import Derived.Shelf.Strconv.ParseInt10At64
import Derived.Shelf.Strconv.ParseInt10At8
import Derived.Shelf.Strconv.ParseIntEmpty
import Derived.Shelf.Strconv.ParseUint10
import Derived.Shelf.Strconv.ParseUint10Any
import Derived.Shelf.Strconv.ParseUint10At
import Derived.Shelf.Strconv.ParseUint10Empty
import Derived.Shelf.Strconv.ParseUint10b16
import Derived.Shelf.Strconv.ParseUint10b32
import Derived.Shelf.Strconv.ParseUint10b64
import Derived.Shelf.Strconv.ParseUint10b8
import Derived.Shelf.Strconv.ParseUintEmpty
import Derived.Shelf.Strconv.RangeError
import Derived.Shelf.Strconv.SyntaxError
import Derived.Shelf.Strconv.ToError
import Derived.Shelf.Strconv.ToErrorRange
import Derived.Shelf.Strings.Builder1
import Derived.Shelf.Strings.BuilderCap
import Derived.Shelf.Strings.BuilderF
import Derived.Shelf.Strings.BuilderK
import Derived.Shelf.Strings.Count
import Derived.Shelf.Strings.Cut
import Derived.Shelf.Strings.Explode
import Derived.Shelf.Strings.LastIndex
import Derived.Shelf.Strings.LastIndexAll
import Derived.Shelf.Strings.Prefix
import Derived.Shelf.Strings.RuneCount
import Derived.Shelf.Strings.Search1
import Derived.Shelf.Strings.Search2
import Derived.Shelf.Strings.Search3
import Derived.Shelf.Strings.Shaped
import Derived.Shelf.Strings.Split
import Derived.Shelf.Strings.SplitShaped
import Derived.Shelf.Unicode.Decode
import Derived.Shelf.Unicode.DecodeAny
import Derived.Shelf.Unicode.DecodeSlow
import Derived.Shelf.Utf8.RuneCount
import Derived.Sort.Grow
import Derived.Tactics
import Derived.Test.YtjghikkboekonaaGreatDoorProg
import Derived.WalkKit
import Derived.WideLaws
import Derived.Test.YtjghikkboekonaaGreatDoorKAA
set_option linter.unusedSimpArgs false
set_option linter.unusedVariables false
section
namespace Go.Proofs.Zq
open Go.RowKit Go.Proofs.Zw.PrintWords Go.Proofs.Zw.PrintLast Go.Proofs.Zw.PrintMore
open Go.Proofs.YtjghikkboekonaaGreatDoor (GL)
attribute [local go_sem] max2_int min2_int max_two min_two pz35 pz36 max_four min_four
def errW:Option Int→Value
 | none=>.nilIface
 | some c=>.iface 213 (.int .i64 c)
theorem pz6:errW none=.nilIface:=rfl
theorem pz5 (c:Int):errW (some c)=.iface 213 (.int .i64 c):=rfl
theorem info5:(Tryz.prog.info? 5).map (fun i=>(i.zero,i.size,i.bytes))=some (some (.int .u8 0),1,1):=by kernel_rfl
theorem info9:(Tryz.prog.info? 9).map (fun i=>(i.zero,i.size,i.bytes))=some (some (.string ⟨#[]⟩),1,16):=by kernel_rfl
structure S169 where
 f0:ByteArray
 f1:ByteArray
def z169:S169:=⟨(⟨#[]⟩:ByteArray),(⟨#[]⟩:ByteArray)⟩
def k169:Kd S169:=Kd.iso (Kd.pair Kd.string Kd.string) (fun x:S169=>(x.f0,x.f1))
theorem k169_open {w:World} {x:S169} {cs:List Value} (h:k169.K w x cs):cs=[.string x.f0,.string x.f1]:=by
 obtain ⟨_,_,rfl,rfl,rfl⟩:=h
 exact rfl
theorem k169_openM {w:World} {base:Nat} {ok:Nat→Prop} {x:S169} {cs:List Value} (h:k169.M w base ok x cs):cs=[.string x.f0,.string x.f1]:=by
 obtain ⟨_,_,rfl,rfl,rfl⟩:=h
 exact rfl
theorem k169_mk (w:World) (x:S169)  : k169.K w x [.string x.f0,.string x.f1]:=⟨[.string x.f0],[.string x.f1],rfl,rfl,rfl⟩
theorem k169_mkM (w:World) (base:Nat) (ok:Nat→Prop) (x:S169)  : k169.M w base ok x [.string x.f0,.string x.f1]:=⟨[.string x.f0],[.string x.f1],rfl,rfl,rfl⟩
def rd_T169 (xs:List S169) (i:Int):S169:=xs.getD i.toNat z169
theorem at_T169 {w:World} {A:Option Addr} {n:Nat} {xs:List S169} (h:Kd.C k169 w A n xs) (i:Int) (h0:0≤i) (h1:i<n):∃ ad ,A=some ad∧w.cell? (ad.add (i.toNat * 2))=some (.string (rd_T169 xs i).f0)∧w.cell? ⟨(ad.add (i.toNat * 2)).block,(ad.add (i.toNat * 2)).off + 1,none⟩=some (.string (rd_T169 xs i).f1):=by
 obtain ⟨ad,c,e,_,hK,hc0⟩:=Kd.C_get h z169 i h0 h1
 have hc:∀ j u,c[j]?=some u→w.cell? (ad.add (i.toNat * 2 + j))=some u:=hc0
 obtain rfl:=k169_open hK
 exact ⟨ad,e,hc 0 _ rfl,by rw [← add_field _ _ 1 (by omega)];exact hc 1 _ rfl⟩
structure S28 where
 f0:Int
 f1:Int
 f2:Int
 f3:Int
 f4:Int
 f5:ByteArray
 f6:ByteArray
 f7:Int
 f8:Int
 f9:ByteArray
def z28:S28:=⟨(0:Int),(0:Int),(0:Int),(0:Int),(0:Int),(⟨#[]⟩:ByteArray),(⟨#[]⟩:ByteArray),(0:Int),(0:Int),(⟨#[]⟩:ByteArray)⟩
def k28:Kd S28:=Kd.iso (Kd.pair (Kd.int .i64) (Kd.pair (Kd.int .i64) (Kd.pair (Kd.int .i64) (Kd.pair (Kd.int .i64) (Kd.pair (Kd.int .i64) (Kd.pair Kd.string (Kd.pair Kd.string (Kd.pair (Kd.int .i64) (Kd.pair (Kd.int .i64) Kd.string))))))))) (fun x:S28=>(x.f0,x.f1,x.f2,x.f3,x.f4,x.f5,x.f6,x.f7,x.f8,x.f9))
theorem k28_open {w:World} {x:S28} {cs:List Value} (h:k28.K w x cs):cs=[.int .i64 x.f0,.int .i64 x.f1,.int .i64 x.f2,.int .i64 x.f3,.int .i64 x.f4,.string x.f5,.string x.f6,.int .i64 x.f7,.int .i64 x.f8,.string x.f9]:=by
 obtain ⟨_,_,rfl,rfl,⟨_,_,rfl,rfl,⟨_,_,rfl,rfl,⟨_,_,rfl,rfl,⟨_,_,rfl,rfl,⟨_,_,rfl,rfl,⟨_,_,rfl,rfl,⟨_,_,rfl,rfl,⟨_,_,rfl,rfl,rfl⟩⟩⟩⟩⟩⟩⟩⟩⟩:=h
 exact rfl
theorem k28_mk (w:World) (x:S28)  : k28.K w x [.int .i64 x.f0,.int .i64 x.f1,.int .i64 x.f2,.int .i64 x.f3,.int .i64 x.f4,.string x.f5,.string x.f6,.int .i64 x.f7,.int .i64 x.f8,.string x.f9]:=⟨[.int .i64 x.f0],[.int .i64 x.f1,.int .i64 x.f2,.int .i64 x.f3,.int .i64 x.f4,.string x.f5,.string x.f6,.int .i64 x.f7,.int .i64 x.f8,.string x.f9],rfl,rfl,⟨[.int .i64 x.f1],[.int .i64 x.f2,.int .i64 x.f3,.int .i64 x.f4,.string x.f5,.string x.f6,.int .i64 x.f7,.int .i64 x.f8,.string x.f9],rfl,rfl,⟨[.int .i64 x.f2],[.int .i64 x.f3,.int .i64 x.f4,.string x.f5,.string x.f6,.int .i64 x.f7,.int .i64 x.f8,.string x.f9],rfl,rfl,⟨[.int .i64 x.f3],[.int .i64 x.f4,.string x.f5,.string x.f6,.int .i64 x.f7,.int .i64 x.f8,.string x.f9],rfl,rfl,⟨[.int .i64 x.f4],[.string x.f5,.string x.f6,.int .i64 x.f7,.int .i64 x.f8,.string x.f9],rfl,rfl,⟨[.string x.f5],[.string x.f6,.int .i64 x.f7,.int .i64 x.f8,.string x.f9],rfl,rfl,⟨[.string x.f6],[.int .i64 x.f7,.int .i64 x.f8,.string x.f9],rfl,rfl,⟨[.int .i64 x.f7],[.int .i64 x.f8,.string x.f9],rfl,rfl,⟨[.int .i64 x.f8],[.string x.f9],rfl,rfl,rfl⟩⟩⟩⟩⟩⟩⟩⟩⟩
theorem k28_mkM (w:World) (base:Nat) (ok:Nat→Prop) (x:S28)  : k28.M w base ok x [.int .i64 x.f0,.int .i64 x.f1,.int .i64 x.f2,.int .i64 x.f3,.int .i64 x.f4,.string x.f5,.string x.f6,.int .i64 x.f7,.int .i64 x.f8,.string x.f9]:=⟨[.int .i64 x.f0],[.int .i64 x.f1,.int .i64 x.f2,.int .i64 x.f3,.int .i64 x.f4,.string x.f5,.string x.f6,.int .i64 x.f7,.int .i64 x.f8,.string x.f9],rfl,rfl,⟨[.int .i64 x.f1],[.int .i64 x.f2,.int .i64 x.f3,.int .i64 x.f4,.string x.f5,.string x.f6,.int .i64 x.f7,.int .i64 x.f8,.string x.f9],rfl,rfl,⟨[.int .i64 x.f2],[.int .i64 x.f3,.int .i64 x.f4,.string x.f5,.string x.f6,.int .i64 x.f7,.int .i64 x.f8,.string x.f9],rfl,rfl,⟨[.int .i64 x.f3],[.int .i64 x.f4,.string x.f5,.string x.f6,.int .i64 x.f7,.int .i64 x.f8,.string x.f9],rfl,rfl,⟨[.int .i64 x.f4],[.string x.f5,.string x.f6,.int .i64 x.f7,.int .i64 x.f8,.string x.f9],rfl,rfl,⟨[.string x.f5],[.string x.f6,.int .i64 x.f7,.int .i64 x.f8,.string x.f9],rfl,rfl,⟨[.string x.f6],[.int .i64 x.f7,.int .i64 x.f8,.string x.f9],rfl,rfl,⟨[.int .i64 x.f7],[.int .i64 x.f8,.string x.f9],rfl,rfl,⟨[.int .i64 x.f8],[.string x.f9],rfl,rfl,rfl⟩⟩⟩⟩⟩⟩⟩⟩⟩
structure S32 where
 f0:ByteArray
 f1:S28
def z32:S32:=⟨(⟨#[]⟩:ByteArray),z28⟩
def k32:Kd S32:=Kd.iso (Kd.pair Kd.string k28) (fun x:S32=>(x.f0,x.f1))
theorem k32_open {w:World} {x:S32} {cs:List Value} (h:k32.K w x cs):cs=[.string x.f0,.int .i64 x.f1.f0,.int .i64 x.f1.f1,.int .i64 x.f1.f2,.int .i64 x.f1.f3,.int .i64 x.f1.f4,.string x.f1.f5,.string x.f1.f6,.int .i64 x.f1.f7,.int .i64 x.f1.f8,.string x.f1.f9]:=by
 obtain ⟨_,_,rfl,rfl,s1⟩:=h
 obtain rfl:=k28_open s1
 exact rfl
theorem k32_mkM (w:World) (base:Nat) (ok:Nat→Prop) (x:S32)  : k32.M w base ok x [.string x.f0,.int .i64 x.f1.f0,.int .i64 x.f1.f1,.int .i64 x.f1.f2,.int .i64 x.f1.f3,.int .i64 x.f1.f4,.string x.f1.f5,.string x.f1.f6,.int .i64 x.f1.f7,.int .i64 x.f1.f8,.string x.f1.f9]:=⟨[.string x.f0],[.int .i64 x.f1.f0,.int .i64 x.f1.f1,.int .i64 x.f1.f2,.int .i64 x.f1.f3,.int .i64 x.f1.f4,.string x.f1.f5,.string x.f1.f6,.int .i64 x.f1.f7,.int .i64 x.f1.f8,.string x.f1.f9],rfl,rfl,(k28_mkM w base ok x.f1 )⟩
structure S57 where
 f0:ByteArray
 f1:Int
 f2:S28
def z57:S57:=⟨(⟨#[]⟩:ByteArray),(0:Int),z28⟩
def k57:Kd S57:=Kd.iso (Kd.pair Kd.string (Kd.pair (Kd.int .i64) k28)) (fun x:S57=>(x.f0,x.f1,x.f2))
theorem k57_open {w:World} {x:S57} {cs:List Value} (h:k57.K w x cs):cs=[.string x.f0,.int .i64 x.f1,.int .i64 x.f2.f0,.int .i64 x.f2.f1,.int .i64 x.f2.f2,.int .i64 x.f2.f3,.int .i64 x.f2.f4,.string x.f2.f5,.string x.f2.f6,.int .i64 x.f2.f7,.int .i64 x.f2.f8,.string x.f2.f9]:=by
 obtain ⟨_,_,rfl,rfl,⟨_,_,rfl,rfl,s2⟩⟩:=h
 obtain rfl:=k28_open s2
 exact rfl
theorem k57_mk (w:World) (x:S57)  : k57.K w x [.string x.f0,.int .i64 x.f1,.int .i64 x.f2.f0,.int .i64 x.f2.f1,.int .i64 x.f2.f2,.int .i64 x.f2.f3,.int .i64 x.f2.f4,.string x.f2.f5,.string x.f2.f6,.int .i64 x.f2.f7,.int .i64 x.f2.f8,.string x.f2.f9]:=⟨[.string x.f0],[.int .i64 x.f1,.int .i64 x.f2.f0,.int .i64 x.f2.f1,.int .i64 x.f2.f2,.int .i64 x.f2.f3,.int .i64 x.f2.f4,.string x.f2.f5,.string x.f2.f6,.int .i64 x.f2.f7,.int .i64 x.f2.f8,.string x.f2.f9],rfl,rfl,⟨[.int .i64 x.f1],[.int .i64 x.f2.f0,.int .i64 x.f2.f1,.int .i64 x.f2.f2,.int .i64 x.f2.f3,.int .i64 x.f2.f4,.string x.f2.f5,.string x.f2.f6,.int .i64 x.f2.f7,.int .i64 x.f2.f8,.string x.f2.f9],rfl,rfl,(k28_mk w x.f2 )⟩⟩
def rd_T57 (xs:List S57) (i:Int):S57:=xs.getD i.toNat z57
theorem at_T57 {w:World} {A:Option Addr} {n:Nat} {xs:List S57} (h:Kd.C k57 w A n xs) (i:Int) (h0:0≤i) (h1:i<n):∃ ad ,A=some ad∧w.cell? (ad.add (i.toNat * 12))=some (.string (rd_T57 xs i).f0)∧w.cell? ⟨(ad.add (i.toNat * 12)).block,(ad.add (i.toNat * 12)).off + 1,none⟩=some (.int .i64 (rd_T57 xs i).f1)∧w.cell? ⟨(ad.add (i.toNat * 12)).block,(ad.add (i.toNat * 12)).off + 2,none⟩=some (.int .i64 (rd_T57 xs i).f2.f0)∧w.cell? ⟨(ad.add (i.toNat * 12)).block,(ad.add (i.toNat * 12)).off + 3,none⟩=some (.int .i64 (rd_T57 xs i).f2.f1)∧w.cell? ⟨(ad.add (i.toNat * 12)).block,(ad.add (i.toNat * 12)).off + 4,none⟩=some (.int .i64 (rd_T57 xs i).f2.f2)∧w.cell? ⟨(ad.add (i.toNat * 12)).block,(ad.add (i.toNat * 12)).off + 5,none⟩=some (.int .i64 (rd_T57 xs i).f2.f3)∧w.cell? ⟨(ad.add (i.toNat * 12)).block,(ad.add (i.toNat * 12)).off + 6,none⟩=some (.int .i64 (rd_T57 xs i).f2.f4)∧w.cell? ⟨(ad.add (i.toNat * 12)).block,(ad.add (i.toNat * 12)).off + 7,none⟩=some (.string (rd_T57 xs i).f2.f5)∧w.cell? ⟨(ad.add (i.toNat * 12)).block,(ad.add (i.toNat * 12)).off + 8,none⟩=some (.string (rd_T57 xs i).f2.f6)∧w.cell? ⟨(ad.add (i.toNat * 12)).block,(ad.add (i.toNat * 12)).off + 9,none⟩=some (.int .i64 (rd_T57 xs i).f2.f7)∧w.cell? ⟨(ad.add (i.toNat * 12)).block,(ad.add (i.toNat * 12)).off + 10,none⟩=some (.int .i64 (rd_T57 xs i).f2.f8)∧w.cell? ⟨(ad.add (i.toNat * 12)).block,(ad.add (i.toNat * 12)).off + 11,none⟩=some (.string (rd_T57 xs i).f2.f9):=by
 obtain ⟨ad,c,e,_,hK,hc0⟩:=Kd.C_get h z57 i h0 h1
 have hc:∀ j u,c[j]?=some u→w.cell? (ad.add (i.toNat * 12 + j))=some u:=hc0
 obtain rfl:=k57_open hK
 exact ⟨ad,e,hc 0 _ rfl,by rw [← add_field _ _ 1 (by omega)];exact hc 1 _ rfl,by rw [← add_field _ _ 2 (by omega)];exact hc 2 _ rfl,by rw [← add_field _ _ 3 (by omega)];exact hc 3 _ rfl,by rw [← add_field _ _ 4 (by omega)];exact hc 4 _ rfl,by rw [← add_field _ _ 5 (by omega)];exact hc 5 _ rfl,by rw [← add_field _ _ 6 (by omega)];exact hc 6 _ rfl,by rw [← add_field _ _ 7 (by omega)];exact hc 7 _ rfl,by rw [← add_field _ _ 8 (by omega)];exact hc 8 _ rfl,by rw [← add_field _ _ 9 (by omega)];exact hc 9 _ rfl,by rw [← add_field _ _ 10 (by omega)];exact hc 10 _ rfl,by rw [← add_field _ _ 11 (by omega)];exact hc 11 _ rfl⟩
end Go.Proofs.Zq
end
section
namespace Go.Proofs.YtjghikkboekonaaGreatDoor
open Go.RowKit
theorem add_at (b o j:Nat):(⟨b,o,none⟩:Addr).add j=⟨b,o + j,none⟩:=by
 cases j with
 | zero=>simp [Addr.add]
 | succ j=>simp [Addr.add]
def flat {α:Type} (enc:α→List Value) (l:List α):List Value:=l.flatMap enc
theorem flat_length {α:Type} {enc:α→List Value} {k:Nat} (hk:∀ x,(enc x).length=k):∀ l:List α,(flat enc l).length=l.length * k
 | []=>by simp [flat]
 | x :: r=>by
  have:=flat_length hk r
  simp only [flat,List.flatMap_cons,List.length_append,hk,List.length_cons,Nat.succ_mul] at *
  omega
theorem flat_at {α:Type} {enc:α→List Value} {k:Nat} (hk:∀ x,(enc x).length=k):∀ (l:List α) (i j:Nat) (x:α) (u:Value),l[i]?=some x→(enc x)[j]?=some u→(flat enc l)[i * k + j]?=some u
 | [],i,_,_,_,h,_=>by simp at h
 | y :: r,0,j,x,u,h,hu=>by
  simp only [List.getElem?_cons_zero,Option.some.injEq] at h
  subst h
  have hj:j<(enc y).length:=(List.getElem?_eq_some_iff.1 hu).1
  simp only [flat,List.flatMap_cons,Nat.zero_mul,Nat.zero_add]
  rw [List.getElem?_append_left hj]
  exact hu
 | y :: r,i + 1,j,x,u,h,hu=>by
  simp only [List.getElem?_cons_succ] at h
  have ih:=flat_at hk r i j x u h hu
  simp only [flat,List.flatMap_cons]
  rw [List.getElem?_append_right (by rw [hk];simp only [Nat.succ_mul];omega),hk,show (i + 1) * k + j - k=i * k + j from by simp only [Nat.succ_mul];omega]
  exact ih
theorem flat_snoc {α:Type} (enc:α→List Value) (l:List α) (x:α):flat enc (l ++ [x])=flat enc l ++ enc x:=by simp [flat]
theorem flat_append {α:Type} (enc:α→List Value) (l m:List α):flat enc (l ++ m)=flat enc l ++ flat enc m:=by simp [flat]
def Owr {α:Type} (enc:α→List Value) (T k base:Nat) (w:World) (v:Value) (l:List α):Prop:=w.ownsRow base T k v l.length (flat enc l)
theorem Owr.nil {α:Type} (enc:α→List Value) (T k base:Nat) (w:World):Owr enc T k base w (.slice none 0 0) []:=World.ownsRow_nil _ _ _ _
theorem Owr.val {α:Type} {enc:α→List Value} {T k base:Nat} {w:World} {v:Value} {l:List α} (h:Owr enc T k base w v l) :
  ∃ a cap,v=.slice a l.length cap∧(a=none→l=[]∧cap=0)∧l.length≤cap:=by
 rcases h.2 with ⟨hv,h0⟩|⟨g,cap,cur,hv,_,_,h1,_⟩
 ·exact ⟨none,0,by rw [hv,h0],fun _=>⟨List.eq_nil_of_length_eq_zero h0,rfl⟩,by omega⟩
 ·exact ⟨_,_,hv,(fun h=>by cases h),h1⟩
theorem Owr.row {α:Type} {enc:α→List Value} {T k base:Nat} {w:World} {a:Option Addr} {n cap:Nat} {l:List α} (hk:∀ x,(enc x).length=k) (h:Owr enc T k base w (.slice a n cap) l):RowAt enc k w a l:=by
 intro i x hx
 rcases h.2 with ⟨hv,h0⟩|⟨g,cap',cur,hv,hb,hg,h1,h2,h3,h4⟩
 ·have:=List.eq_nil_of_length_eq_zero h0
  rw [this] at hx
  simp at hx
 ·cases hv
  refine ⟨g,0,rfl,fun j u hu=>?_⟩
  have e:=flat_at hk l i j x u hx hu
  have hg':(Value.slice (some ⟨g,0,none⟩) l.length cap).ownBlock=some g:=rfl
  have:=World.ownsRow.cells h hg' (i * k + j) u e
  rw [add_at,← Nat.add_assoc] at this
  exact this
theorem Owr.kept {α:Type} {enc:α→List Value} {T k base:Nat} {w w':World} {v:Value} {l:List α} {row:Option Nat} (h:Owr enc T k base w v l) (hg:w.grownBy w' row) (hne:v.ownBlock=none∨v.ownBlock≠row):Owr enc T k base w' v l:=World.ownsRow.kept h hg hne
theorem Owr.ext {α:Type} {enc:α→List Value} {T k base:Nat} {w w':World} {v:Value} {l:List α} (h:Owr enc T k base w v l) (hb:Below w.heap.size w w'):Owr enc T k base w' v l:=by
 refine World.ownsRow.kept h (row:=none) ⟨hb.os,hb.tape,hb.output,hb.size,fun i hi _=>hb.block i hi⟩ ?_
 cases v.ownBlock <;> simp
theorem Owr.alloc {α:Type} {enc:α→List Value} {T k base:Nat} {w:World} {v:Value} {l:List α} (h:Owr enc T k base w v l) (o:Obj):Owr enc T k base (w.alloc o) v l:=World.ownsRow.alloc h o
theorem pz33 {α:Type} {P:Program} {enc:α→List Value} {w:World} {ops:Array Oper} {rest:List Oper} {o:Oper} {a:Act} {Q:Exit→Act→World→Prop} (hgd:o.guard=none) (s x:Operand) (t:TypeId)
  (ho:o.op=.call { callee:=.builtin .append,args:=#[s,x],argTypes:=#[t,t] })
  (base T k bytes:Nat) (i:TypeInfo) (z:Value) (ht:P.underlying t=some (.slice T)) (hi:P.info? T=some i) (hz:i.zero=some z)
  (hsize:i.size=k) (hby:i.bytes=bytes) (hzs:z.cells.size=k) (hsz:0<k) (hk:∀ x,(enc x).length=k) (h1:∀ x,∀ u ∈ enc x,u.oneCell'=true)
  (v:Value) (l:List α) (hs:a.eval s=v) (hown:Owr enc T k base w v l) (e:α) (b:Nat) (c:Nat) (hx:a.eval x=.slice (some ⟨b,0,none⟩) 1 c) (hnews:∀ j u,(enc e)[j]?=some u→w.cell? ⟨b,j,none⟩=some u)
  (h63:l.length + 1≤maxLen) (hbytes:(l.length + 1) * bytes≤140737488355328) (hbase:base≤w.heap.size)
  (h:∀ v' w',Owr enc T k base w' v' (l ++ [e])→w.grownBy w' v.ownBlock→wpList P ops Q rest (a.put o.dst v') w'):wpList P ops Q (o :: rest) a w:=by
 refine wpList_append_own w hgd s x t ho base T i z k bytes ht hi hz hsize hby hzs hsz v l.length (flat enc l) hs hown ⟨b,0,none⟩ 1 c (enc e) hx (by rw [hk,Nat.one_mul]) (fun j u hu=>by rw [add_at,Nat.zero_add];exact hnews j u hu) (h1 e) h63 hbytes hbase ?_
 intro v' w' ho' hg' _
 refine h v' w' ?_ hg'
 unfold Owr
 rw [flat_snoc,List.length_append]
 exact ho'
theorem prC_len (p:Str×Str):(prC p).length=2:=rfl
theorem prC_one (p:Str×Str):∀ u ∈ prC p,u.oneCell'=true:=by intro u hu;simp [prC] at hu;rcases hu with rfl|rfl <;> rfl
theorem bytes_text {w:World} {a:Option Addr} {l:Str} (h:RowAt byC 1 w a l) (cap:Nat) (hn:a=none→l=[]) :
  (convert 148 9 (.slice a l.length cap)).run Tryz.prog w=.ok (S l) w:=by
 cases a with
 | none =>
  have:=hn rfl
  subst this
  exact run_convert_bytes_nil w _ _ Tryz.underlying148 Tryz.underlying5 _ _ _ Tryz.underlying9
 | some a =>
  refine run_convert_bytes_back w _ _ _ a cap l Tryz.underlying148 Tryz.underlying5 Tryz.underlying9 fun j hj=>?_
  obtain ⟨b,o,ha,hc⟩:=h.by hj
  cases ha
  rw [add_at]
  exact hc
end Go.Proofs.YtjghikkboekonaaGreatDoor
end
section
namespace Go.Proofs.Zq
open Go.RowKit Go.Proofs.YtjghikkboekonaaGreatDoor Go.Proofs.Zw.PrintWords Go.Proofs.Zw.PrintLast
theorem _root_.Go.Proofs.YtjghikkboekonaaGreatDoor.GL.drewN {w:World} (h:GL w) (n:Nat):GL (w.drewN n):=h.ext ⟨rfl,rfl,rfl,Nat.le_refl _,fun _ _=>rfl⟩
theorem _root_.Go.Proofs.YtjghikkboekonaaGreatDoor.GL.drew {w:World} (h:GL w):GL w.drew:=h.ext ⟨rfl,rfl,rfl,Nat.le_refl _,fun _ _=>rfl⟩
abbrev B (l:Str):ByteArray:=⟨l.toArray⟩
theorem B_L (x:ByteArray):B x.data.toList=x:=by cases x;simp [B]
theorem L_B (l:Str):(B l).data.toList=l:=rfl
theorem B_size (l:Str):(B l).size=l.length:=rfl
theorem row_of_C {α β:Type} {d:Kd α} {enc:β→List Value} {f:α→β} (hd:∀ w x cs,d.K w x cs→cs=enc (f x)) (hz:0<d.sz) {w:World} {A:Option Addr} {n:Nat} {xs:List α} (h:d.C w A n xs):RowAt enc d.sz w A (xs.map f):=by
 intro i x hx
 rw [List.getElem?_map] at hx
 obtain ⟨y,hy,rfl⟩:=Option.map_eq_some_iff.1 hx
 have hi:i<xs.length:=(List.getElem?_eq_some_iff.1 hy).1
 obtain ⟨ad,he,hc⟩:=h.2.2 (by have:=h.1;omega)
 obtain ⟨b,o,sp⟩:=ad
 obtain rfl:sp=none:=by
  obtain ⟨c,hs,_,hcell⟩:=hc 0 _ (List.getElem?_eq_getElem (show 0<xs.length by omega))
  cases c with
  | nil=>simp at hs;omega
  | cons v r =>
   have h0:=hcell 0 v rfl
   rw [Nat.zero_mul] at h0
   simpa [Addr.add] using World.cell?_spot h0
 obtain ⟨c,hs,hK,hcell⟩:=hc i y hy
 have:=hd _ _ _ hK
 subst this
 refine ⟨b,o,he,fun j u hu=>?_⟩
 have:=hcell j u hu
 rw [YtjghikkboekonaaGreatDoor.add_at,← Nat.add_assoc] at this
 exact this
theorem C_of_row {α β:Type} {d:Kd α} {enc:β→List Value} {f:α→β} (hk:∀ w x,d.K w x (enc (f x))) {w:World} {A:Option Addr} {xs:List α} (h:RowAt enc d.sz w A (xs.map f)) (hn:xs.length≤9223372036854775807):d.C w A xs.length xs:=by
 refine ⟨rfl,hn,fun h0=>?_⟩
 cases xs with
 | nil=>simp at h0
 | cons x r =>
  obtain ⟨b,o,ha,_⟩:=h 0 (f x) rfl
  refine ⟨⟨b,o,none⟩,ha,fun j p hp=>⟨enc (f p),d.K_len (hk w p),hk w p,fun i u hu=>?_⟩⟩
  obtain ⟨b',o',ha',hc⟩:=h j (f p) (by rw [List.getElem?_map,hp];rfl)
  rw [ha] at ha'
  cases ha'
  rw [YtjghikkboekonaaGreatDoor.add_at,← Nat.add_assoc]
  exact hc i u hu
theorem R_of_own {α β:Type} {d:Kd α} {enc:β→List Value} {f:α→β} {T:Nat} (hk:∀ w base ok x,d.M w base ok x (enc (f x))) (hl:∀ y,(enc y).length=d.sz) {w:World} {base:Nat} {v:Value} {xs:List α} (h:Owr enc T d.sz base w v (xs.map f)):d.R T w base (fun _=>True) v xs:=by
 refine ⟨fun _ _=>trivial,flat enc (xs.map f),by have:=h;unfold Owr at this;rwa [List.length_map] at this,?_,fun j p hp=>?_⟩
 ·rw [flat_length hl,List.length_map]
 ·have e:((flat enc (xs.map f)).drop (j * d.sz)).take d.sz=enc (f p):=by
   apply List.ext_getElem?
   intro i
   rw [List.getElem?_take]
   split
   ·rename_i hi
    rw [List.getElem?_drop]
    have hi':i<(enc (f p)).length:=by rw [hl];exact hi
    rw [List.getElem?_eq_getElem hi']
    exact flat_at hl (xs.map f) j i (f p) _ (by rw [List.getElem?_map,hp];rfl) (List.getElem?_eq_getElem hi')
   ·rename_i hi
    rw [List.getElem?_eq_none (by rw [hl];omega)]
  rw [e]
  exact hk _ _ _ _
theorem own_of_R {α β:Type} {d:Kd α} {enc:β→List Value} {f:α→β} {T:Nat} (hk:∀ w base ok x cs,d.M w base ok x cs→cs=enc (f x)) (hl:∀ y,(enc y).length=d.sz) {w:World} {base:Nat} {ok:Nat→Prop} {v:Value} {xs:List α} (h:d.R T w base ok v xs):Owr enc T d.sz base w v (xs.map f):=by
 obtain ⟨_,inner,ho,h1,h2⟩:=h
 have:inner=flat enc (xs.map f):=by
  clear ho
  induction xs generalizing inner with
  | nil=>simpa [flat] using h1
  | cons x r ih =>
   have e0:=hk _ _ _ _ _ (h2 0 x rfl)
   simp only [Nat.zero_mul,List.drop_zero] at e0
   have hsz:(inner.drop d.sz).length=r.length * d.sz:=by rw [List.length_drop,h1,List.length_cons,Nat.succ_mul];omega
   have er:=ih (inner:=inner.drop d.sz) hsz (fun j p hp=>by
    have:=h2 (j + 1) p (by simpa using hp)
    rwa [Nat.succ_mul,Nat.add_comm,← List.drop_drop] at this)
   rw [← List.take_append_drop d.sz inner,e0,er]
   simp [flat]
 subst this
 unfold Owr
 rw [List.length_map]
 exact ho
def prOf (x:S169):Str×Str:=(x.f0.data.toList,x.f1.data.toList)
def ofPr (p:Str×Str):S169:=⟨B p.1,B p.2⟩
theorem prOf_ofPr (p:Str×Str):prOf (ofPr p)=p:=rfl
theorem prs_back (l:List (Str×Str)):(l.map ofPr).map prOf=l:=by rw [List.map_map];exact (List.map_congr_left (fun x _=>prOf_ofPr x)).trans (List.map_id _)
theorem prC_of (x:S169):prC (prOf x)=[.string x.f0,.string x.f1]:=by
 show [Value.string (B _),Value.string (B _)]=_
 rw [prOf,B_L,B_L]
theorem pr_row {w:World} {A:Option Addr} {n:Nat} {xs:List S169} (h:Kd.C k169 w A n xs):RowAt prC 2 w A (xs.map prOf) :=
 row_of_C (d:=k169) (fun w x cs h=>by rw [k169_open h,prC_of]) (by decide) h
theorem pr_C {w:World} {A:Option Addr} {xs:List S169} (h:RowAt prC 2 w A (xs.map prOf)) (hn:xs.length≤9223372036854775807):Kd.C k169 w A xs.length xs :=
 C_of_row (d:=k169) (fun w x=>by rw [prC_of];exact k169_mk w x) h hn
theorem pr_R {w:World} {base:Nat} {v:Value} {l:List (Str×Str)} (h:Owr prC 169 2 base w v l):Kd.R k169 169 w base (fun _=>True) v (l.map ofPr) :=
 R_of_own (d:=k169) (f:=prOf) (fun w base ok x=>by rw [prC_of];exact k169_mkM w base ok x) prC_len (by rw [prs_back];exact h)
theorem goesV_ {P : Program} {ops : Array Oper} {Q : Exit → Act → World → Prop} {oi : Oper} {N : Option Tmp} {a : Act} {w : World} {K : Act → World → Prop} {f : FuncId} {fn : Func} {xs : Array Operand} {ts : Array TypeId} (hf : P.funcs[f]? = some fn) (hname : (fn.name == "runtime.NumGoroutine") = false) (hb : fn.body.isSome = true) (args : Array Value)
  (hw:Region.wanted oi (yielded ops a.tmps)=true) (hN:oi.dst=N) (hop:∃ c,oi.op=.call { callee:=.value c,args:=xs,argTypes:=ts }∧a.eval c=.func (.func f) #[] #[]) (hargs:xs.map a.eval=args)
  (h:Calls P f args w fun e w'=>∃ v,e=.returned v∧K (a.put N v) w'):if Region.wanted oi (yielded ops a.tmps)=true then Oper.wp P oi a w K Q else K (a.put N undef) w:=by
 refine call_ f args hw hN ?_ h
 have he:=enters_ hf hname hb args w
 obtain ⟨c,hc,hv⟩:=hop
 unfold execOp
 simp [hc,resolve,Deferred.ofValue,invoke,hv,hargs,he]
theorem same_drawn {w w':World} (h:w'=w):pz17 w w':=by subst h;exact pz17.refl _
end Go.Proofs.Zq
end
section
namespace Go.Proofs.YtjghikkboekonaaGreatDoor
abbrev dec (n:Nat):List UInt8:=Lib.decDigits n
def cut1 (c:UInt8):List UInt8→List UInt8×List UInt8×Bool
 | []=>([],[],false)
 | x :: r=>if x == c then ([],r,true) else (x :: (cut1 c r).1,(cut1 c r).2.1,(cut1 c r).2.2)
theorem index_cons_eq (c:UInt8) (r:List UInt8):Lib.index (c :: r) [c]=0:=by simp [Lib.index]
theorem index_cons_ne {x c:UInt8} (r:List UInt8) (h:(x == c)=false):Lib.index (x :: r) [c]=if Lib.index r [c] == -1 then -1 else Lib.index r [c] + 1:=by
 have h':(c == x)=false:=by rw [beq_eq_false_iff_ne] at *;exact fun e=>h e.symm
 have hp:List.isPrefixOf [c] (x :: r)=false:=by simp [List.isPrefixOf,h']
 rw [Lib.index,hp];simp
theorem cut_one (c:UInt8):∀ s:List UInt8,Lib.cut s [c]=cut1 c s
 | []=>by simp [Lib.cut,Lib.index,cut1]
 | x :: r=>by
  have ih:=cut_one c r
  have hge:=Lib.index_ge r [c]
  cases h:x == c with
  | true =>
   obtain rfl:=eq_of_beq h
   simp [Lib.cut,cut1,index_cons_eq]
  | false =>
   simp only [cut1,h]
   rw [← ih]
   unfold Lib.cut
   rw [index_cons_ne r h]
   by_cases h1:Lib.index r [c] = -1
   ·simp [h1]
   ·have h2:(Lib.index r [c] == -1)=false:=by simpa using h1
    rw [h2]
    have h3:0≤Lib.index r [c]:=by omega
    obtain ⟨k,hk⟩:∃ k:Nat,Lib.index r [c]=k:=⟨_,(Int.toNat_of_nonneg h3).symm⟩
    rw [hk]
    have e1:((k:Int) + 1).toNat=k + 1:=by omega
    have p1:(0:Int)≤(k:Int) + 1:=by omega
    simp [e1,p1]
theorem indexByte_ge (c:UInt8):∀ l:List UInt8,-1≤Lib.indexByte l c
 | []=>by simp [Lib.indexByte]
 | b :: l=>by
  have:=indexByte_ge c l
  unfold Lib.indexByte
  split
  ·omega
  ·split <;> omega
theorem indexByte_mem (c:UInt8):∀ l:List UInt8,decide (0≤Lib.indexByte l c)=l.contains c
  | []=>by simp [Lib.indexByte]
  | b :: l => by
    have ih:=indexByte_mem c l
    have hge:=indexByte_ge c l
    unfold Lib.indexByte
    rw [List.contains_cons]
    cases h:b == c with
    | true => have h':(c == b)=true:=by rw [beq_iff_eq] at *;exact h.symm
              simp [h']
    | false =>
      have h':(c == b)=false:=by rw [beq_eq_false_iff_ne] at *;exact fun e=>h e.symm
      rw [h',Bool.false_or,← ih]
      by_cases h1:Lib.indexByte l c = -1
      · simp [h1]
      · have h2:(Lib.indexByte l c == -1)=false:=by simpa using h1
        simp only [h2]
        rw [if_neg (by simp),if_neg (by simp)]
        apply decide_eq_decide.2
        omega
def keyOk (k:List UInt8):Bool:=!(k == []) && !k.contains 61
def onceM:List (List UInt8×List UInt8)→Bool
 | []=>true
 | p :: r=>!(r.any (fun q=>q.1 == p.1)) && onceM r
def rightM (l:List (List UInt8×List UInt8)):Bool:=l.all (fun p=>keyOk p.1)
def cnt (l:List (List UInt8×List UInt8)) (k:List UInt8):Nat:=l.countP (fun p=>p.1 == k)
theorem rightM_snoc (l:List (List UInt8×List UInt8)) (p:List UInt8×List UInt8):rightM (l ++ [p])=(rightM l && keyOk p.1):=by simp [rightM]
theorem cnt_snoc (l:List (List UInt8×List UInt8)) (p:List UInt8×List UInt8) (k:List UInt8):cnt (l ++ [p]) k=cnt l k + if p.1 == k then 1 else 0:=by
 simp [cnt,List.countP_append,List.countP_cons]
theorem cnt_step {l m:List (List UInt8×List UInt8)} {p:List UInt8×List UInt8} (h:m=l ++ [p]) (key:List UInt8):cnt m key=if key == p.1 then cnt l p.1 + 1 else cnt l key:=by
 rw [h,cnt_snoc]
 by_cases hk:key=p.1
 ·subst hk;simp
 ·have h1:(p.1 == key)=false:=by simpa using fun e=>hk e.symm
  have h2:(key == p.1)=false:=by simpa using hk
  simp [h1,h2]
theorem any_cnt (l:List (List UInt8×List UInt8)) (k:List UInt8):l.any (fun q=>q.1 == k)=!(cnt l k == 0):=by
 induction l with
 | nil=>rfl
 | cons p r ih =>
  simp only [List.any_cons,ih,cnt,List.countP_cons]
  cases h:p.1 == k <;> simp
theorem onceM_snoc (p:List UInt8×List UInt8):∀ l:List (List UInt8×List UInt8),onceM (l ++ [p])=(onceM l && !(l.any (fun q=>q.1 == p.1)))
 | []=>by simp [onceM]
 | q :: r=>by
  have ih:=onceM_snoc p r
  simp only [List.cons_append,onceM,ih,List.any_append,List.any_cons,List.any_nil]
  have hc:(p.1 == q.1)=(q.1 == p.1):=by rw [Bool.eq_iff_iff,beq_iff_eq,beq_iff_eq];exact eq_comm
  rw [hc]
  cases r.any (fun z=>z.1 == q.1) <;> cases (q.1 == p.1) <;> cases onceM r <;> cases r.any (fun z=>z.1 == p.1) <;> rfl
theorem once_step (l:List (List UInt8×List UInt8)) (p:List UInt8×List UInt8):onceM (l ++ [p])=(onceM l && (cnt (l ++ [p]) p.1 == 1)):=by
 rw [onceM_snoc,any_cnt,cnt_snoc]
 congr 1
 simp
def lenAux (rest:Nat):Nat→Nat→Nat
 | 0,d=>rest + d
 | f + 1,d=>if (dec (rest + 1 + d)).length=1 + d then rest + 1 + d else lenAux rest f (d + 1)
def lenM (rest:Nat):Nat:=lenAux rest 9 0
def numM (s text:List UInt8):Option Nat :=
 match Lib.atoiAll text with
 | .ok v =>
  if Lib.itoa v=text∧text.length≤9∧v≤(s.length:Int)∧(text.length:Int) + 1<v∧lenM (v.toNat - text.length)=v.toNat then some v.toNat else none
 | _=>none
def bodyM (body:List UInt8):Option (List UInt8×List UInt8) :=
 if Lib.hasSuffix body [10] && (cut1 61 (Lib.trimSuffix body [10])).2.2 && !((cut1 61 (Lib.trimSuffix body [10])).1 == []) then some ((cut1 61 (Lib.trimSuffix body [10])).1,(cut1 61 (Lib.trimSuffix body [10])).2.1) else none
def cutAt (s text:List UInt8) (is:Bool):Option ((List UInt8×List UInt8)×List UInt8) :=
 if is then (numM s text).bind fun n=>(bodyM ((s.drop (text.length + 1)).take (n - (text.length + 1)))).map fun p=>(p,s.drop n) else none
def cutM (s:List UInt8):Option ((List UInt8×List UInt8)×List UInt8):=cutAt s (cut1 32 s).1 (cut1 32 s).2.2
theorem cut1_len2 (c:UInt8):∀ s:List UInt8,(cut1 c s).2.1.length≤s.length
 | []=>by simp [cut1]
 | x :: r=>by
  have:=cut1_len2 c r
  unfold cut1
  split <;> simp <;> omega
theorem cut1_len (c:UInt8):∀ s:List UInt8,(cut1 c s).1.length≤s.length
 | []=>by simp [cut1]
 | x :: r=>by
  have:=cut1_len c r
  unfold cut1
  split <;> simp <;> omega
theorem trimSuffix_le (a b:List UInt8):(Lib.trimSuffix a b).length≤a.length:=by
 unfold Lib.trimSuffix
 split
 ·simp
 ·exact Nat.le_refl _
theorem cutM_some {s:List UInt8} {p:List UInt8×List UInt8} {rest:List UInt8} (h:cutM s=some (p,rest)):rest.length<s.length∧p.1.length≤s.length∧p.2.length≤s.length:=by
 unfold cutM cutAt at h
 split at h
 ·generalize (cut1 32 s).1=text at h
  cases hn:numM s text with
  | none=>simp [hn] at h
  | some n =>
   simp only [hn,Option.bind_some] at h
   have hn2:1≤n∧n≤s.length:=by
    unfold numM at hn
    split at hn
    ·split at hn
     ·rename_i hc
      simp only [Option.some.injEq] at hn
      omega
     ·cases hn
    ·cases hn
   unfold bodyM at h
   split at h
   ·simp only [Option.map_some,Option.some.injEq,Prod.mk.injEq] at h
    obtain ⟨rfl,rfl⟩:=h
    have h1:=cut1_len 61 (Lib.trimSuffix (List.take (n - (text.length + 1)) (List.drop (text.length + 1) s)) [10])
    have h2:=trimSuffix_le (List.take (n - (text.length + 1)) (List.drop (text.length + 1) s)) [10]
    have h3:=cut1_len2 61 (Lib.trimSuffix (List.take (n - (text.length + 1)) (List.drop (text.length + 1) s)) [10])
    simp only [List.length_take,List.length_drop] at h2 ⊢
    omega
   ·simp at h
 ·cases h
def parseF:Nat→List UInt8→Option (List (List UInt8×List UInt8))
 | 0,s=>if s=[] then some [] else none
 | f + 1,s=>if s=[] then some [] else match cutM s with
  | none=>none
  | some (p,rest)=>(parseF f rest).map (p :: ·)
theorem parseF_nil (f:Nat):parseF f []=some []:=by cases f <;> simp [parseF]
theorem parseF_no {f:Nat} {c:UInt8} {r:List UInt8} (h:cutM (c :: r)=none):parseF (f + 1) (c :: r)=none:=by simp [parseF,h]
theorem parseF_yes {f:Nat} {c:UInt8} {r rest:List UInt8} {p:List UInt8×List UInt8} (h:cutM (c :: r)=some (p,rest)):parseF (f + 1) (c :: r)=(parseF f rest).map (p :: ·):=by simp [parseF,h]
def parseM (s:List UInt8):List (List UInt8×List UInt8)×Nat :=
 match parseF s.length s with
 | none=>([],3)
 | some ps=>if onceM ps then (ps,0) else ([],7)
def restM (p:List UInt8×List UInt8):List UInt8:=[32] ++ p.1 ++ [61] ++ p.2 ++ [10]
def recM (p:List UInt8×List UInt8):List UInt8:=dec (lenM (restM p).length) ++ restM p
def printM (l:List (List UInt8×List UInt8)):List UInt8:=l.flatMap recM
def printOk (l:List (List UInt8×List UInt8)):Bool:=rightM l && onceM l
theorem lenAux_le (r:Nat):∀ f d,d + f=9→lenAux r f d≤r + 9
 | 0,d,h=>by simp [lenAux];omega
 | f + 1,d,h=>by
  have:=lenAux_le r f (d + 1) (by omega)
  simp only [lenAux]
  split <;> omega
theorem lenM_le (r:Nat):lenM r≤r + 9:=lenAux_le r 9 0 rfl
theorem nDigits_le (n:Nat):∀ k,n<10 ^ k→1≤k→Lib.nDigits n≤k:=by
 intro k
 induction k generalizing n with
 | zero=>intro _ h;omega
 | succ k ih =>
  intro h _
  by_cases h10:n<10
  ·rw [Lib.nDigits_small h10];omega
  ·rw [Lib.nDigits_big h10]
   have:n / 10<10 ^ k:=by rw [Nat.pow_succ] at h;omega
   have hk:1≤k:=by
    rcases k with _|k
    ·simp at h;omega
    ·omega
   have:=ih (n / 10) this hk
   omega
theorem dec_len (n:Nat) (h:n<10000000000):(dec n).length≤10:=by
 show (Lib.decDigits n).length≤10
 rw [Lib.decDigits_length]
 exact nDigits_le n 10 (by simpa using h) (by omega)
theorem recM_len (p:List UInt8×List UInt8) (h:p.1.length + p.2.length≤1000000000):(recM p).length≤p.1.length + p.2.length + 13:=by
 have hr:(restM p).length=p.1.length + p.2.length + 3:=by simp [restM];omega
 have h1:=lenM_le (restM p).length
 have h2:=dec_len (lenM (restM p).length) (by omega)
 simp only [recM,List.length_append]
 omega
theorem printM_take (l:List (List UInt8×List UInt8)) {k:Nat} (h:k<l.length):printM (l.take (k + 1))=printM (l.take k) ++ recM l[k]:=by
 rw [List.take_succ_eq_append_getElem h]
 unfold printM
 rw [List.flatMap_append,List.flatMap_singleton]
def bulk (l:List (List UInt8×List UInt8)):Nat:=(l.map fun p=>p.1.length + p.2.length + 13).sum
theorem bulk_len:∀ l:List (List UInt8×List UInt8),l.length≤bulk l
 | []=>Nat.zero_le _
 | p :: r=>by have:=bulk_len r;simp only [bulk,List.map_cons,List.sum_cons,List.length_cons] at *;omega
theorem bulk_mem:∀ (l:List (List UInt8×List UInt8)),∀ p ∈ l,p.1.length + p.2.length≤bulk l
 | [],p,h=>by cases h
 | q :: r,p,h=>by
  simp only [bulk,List.map_cons,List.sum_cons]
  rcases List.mem_cons.1 h with rfl|h
  ·omega
  ·have:=bulk_mem r p h;simp only [bulk] at this;omega
theorem printM_len:∀ (l:List (List UInt8×List UInt8)),bulk l≤1000000000→(printM l).length≤bulk l
 | [],_=>by simp [printM]
 | p :: r,h=>by
  simp only [bulk,List.map_cons,List.sum_cons] at h ⊢
  have h1:=recM_len p (by omega)
  have h2:=printM_len r (by simp only [bulk];omega)
  simp only [bulk] at h2
  simp only [printM,List.flatMap_cons,List.length_append] at h2 ⊢
  omega
theorem bulk_take (l:List (List UInt8×List UInt8)) (k:Nat):bulk (l.take k)≤bulk l:=by
 have h:bulk l=bulk (l.take k) + bulk (l.drop k):=by
  simp only [bulk]
  rw [← List.sum_append,← List.map_append,List.take_append_drop]
 omega
theorem dec_length (n:Nat):(dec n).length=Lib.nDigits n:=Lib.decDigits_length n
end Go.Proofs.YtjghikkboekonaaGreatDoor
end
section
namespace Go.Proofs
open Go.Shelf
def Tryz.lays169_ren:Go.Shelf.Ren:=⟨fun|169=>197|n=>n,fun|70=>201|9=>9|0=>0|72=>203|37=>148|127=>210|3=>3|5=>5|n=>n,fun|n=>n⟩
theorem Tryz.lays169:Go.Proofs.Lays.n169 Tryz.prog Tryz.lays169_ren:={
 mixed:=by kernel_rfl
 f169:=Tryz.func197.trans (congrArg some (by kernel_rfl))
 t0:=Tryz.underlying0
 a0:=Tryz.isAgg0
 z0:=Tryz.sizeOf0
 v0:=Tryz.zeroValue0
 t3:=Tryz.underlying3
 a3:=Tryz.isAgg3
 z3:=Tryz.sizeOf3
 v3:=Tryz.zeroValue3
 t9:=Tryz.underlying9
 a9:=Tryz.isAgg9
 z9:=Tryz.sizeOf9
 v9:=Tryz.zeroValue9
 t37:=Tryz.underlying148
 a37:=Tryz.isAgg148
 z37:=Tryz.sizeOf148
 v37:=Tryz.zeroValue148
 t70:=Tryz.underlying201
 a70:=Tryz.isAgg201
 z70:=Tryz.sizeOf201
 v70:=Tryz.zeroValue201
 t72:=Tryz.underlying203
 a72:=Tryz.isAgg203
 z72:=Tryz.sizeOf203
 v72:=Tryz.zeroValue203
 t127:=Tryz.underlying210
 a127:=Tryz.isAgg210
 z127:=Tryz.sizeOf210
 v127:=Tryz.zeroValue210 }
theorem Tryz.Builder_Extra_169:Builder.Extra Tryz.prog Tryz.lays169_ren:={
 sizeBuilder:=by kernel_rfl
 liesBuilder:=by kernel_rfl
 t5:=Tryz.underlying5
 a5:=Tryz.isAgg5
 z5:=Tryz.sizeOf5
 v5:=Tryz.zeroValue5
 infoByte:=by kernel_rfl
 cellsByte:=by kernel_rfl
 sizeByte:=by kernel_rfl
 neB5:=by decide }
open Go.RowKit in
theorem Tryz.Builder_String_any (B b:Nat) (l:List UInt8) (w:World) (h:Lib.IsBuilder 203 5 B b (Lib.byteCells l) w) (hBw:B≤w.heap.size) :
  Calls Tryz.prog 197 #[.pointer (some ⟨b,0,none⟩)] w fun e w'=>e=.returned (.string ⟨l.toArray⟩)∧Below B w w':=Any.Builder_String_any Tryz.lays169 Tryz.Builder_Extra_169 B b l w h hBw
def Tryz.lays106_ren:Go.Shelf.Ren:=⟨fun|106=>69|213=>104|265=>147|n=>n,fun|9=>9|3=>3|n=>n,fun|n=>n⟩
theorem Tryz.lays106:Go.Proofs.Lays.n106 Tryz.prog Tryz.lays106_ren:={
 mixed:=by kernel_rfl
 f106:=Tryz.func69.trans (congrArg some (by kernel_rfl))
 f213:=Tryz.func104.trans (congrArg some (by kernel_rfl))
 f265:=Tryz.func147.trans (congrArg some (by kernel_rfl))
 t3:=Tryz.underlying3
 a3:=Tryz.isAgg3
 z3:=Tryz.sizeOf3
 v3:=Tryz.zeroValue3
 t9:=Tryz.underlying9
 a9:=Tryz.isAgg9
 z9:=Tryz.sizeOf9
 v9:=Tryz.zeroValue9 }
open Go.RowKit in
theorem Tryz.strings_Compare (a b:ByteArray) (w:World) :
  Calls Tryz.prog 69 #[.string a,.string b] w fun e w'=>e=.returned (.int .i64 (Lib.compareBytes a.data.toList b.data.toList))∧w'=w:=Any.strings_Compare Tryz.lays106 a b w
def Tryz.lays137_ren:Go.Shelf.Ren:=⟨fun|137=>137|217=>167|266=>188|n=>n,fun|9=>9|5=>5|3=>3|n=>n,fun|n=>n⟩
theorem Tryz.lays137:Go.Proofs.Lays.n137 Tryz.prog Tryz.lays137_ren:={
 mixed:=by kernel_rfl
 f137:=Tryz.func137.trans (congrArg some (by kernel_rfl))
 f217:=Tryz.func167.trans (congrArg some (by kernel_rfl))
 f266:=Tryz.func188.trans (congrArg some (by kernel_rfl))
 t3:=Tryz.underlying3
 a3:=Tryz.isAgg3
 z3:=Tryz.sizeOf3
 v3:=Tryz.zeroValue3
 t5:=Tryz.underlying5
 a5:=Tryz.isAgg5
 z5:=Tryz.sizeOf5
 v5:=Tryz.zeroValue5
 t9:=Tryz.underlying9
 a9:=Tryz.isAgg9
 z9:=Tryz.sizeOf9
 v9:=Tryz.zeroValue9 }
open Go.RowKit in
theorem Tryz.strings_IndexByte (s:ByteArray) (c:Int) (w:World) :
  Calls Tryz.prog 137 #[.string s,.int .u8 c] w fun e w'=>e=.returned (.int .i64 (Lib.indexByte s.data.toList c.toNat.toUInt8))∧w'=w:=Any.strings_IndexByte Tryz.lays137 s c w
def Tryz.lays103_ren:Go.Shelf.Ren:=⟨fun|103=>99|210=>141|206=>145|n=>n,fun|9=>9|4=>4|24=>101|3=>3|n=>n,fun|n=>n⟩
theorem Tryz.lays103:Go.Proofs.Lays.n103 Tryz.prog Tryz.lays103_ren:={
 mixed:=by kernel_rfl
 f103:=Tryz.func99.trans (congrArg some (by kernel_rfl))
 f206:=Tryz.func145.trans (congrArg some (by kernel_rfl))
 f210:=Tryz.func141.trans (congrArg some (by kernel_rfl))
 t3:=Tryz.underlying3
 a3:=Tryz.isAgg3
 z3:=Tryz.sizeOf3
 v3:=Tryz.zeroValue3
 t4:=Tryz.underlying4
 a4:=Tryz.isAgg4
 z4:=Tryz.sizeOf4
 v4:=Tryz.zeroValue4
 t9:=Tryz.underlying9
 a9:=Tryz.isAgg9
 z9:=Tryz.sizeOf9
 v9:=Tryz.zeroValue9
 t24:=Tryz.underlying101
 a24:=Tryz.isAgg101
 z24:=Tryz.sizeOf101
 v24:=Tryz.zeroValue101 }
open Go.RowKit in
theorem Tryz.strings_CutPrefix (s p:ByteArray) (w:World) :
  Calls Tryz.prog 99 #[.string s,.string p] w fun e w'=>e=.returned (.tuple #[.string ⟨(Lib.trimPrefix s.data.toList p.data.toList).toArray⟩,.bool (Lib.hasPrefix s.data.toList p.data.toList)])∧w'=w:=Any.strings_CutPrefix Tryz.lays103 s p w
def Tryz.lays104_ren:Go.Shelf.Ren:=⟨fun|104=>192|211=>205|207=>216|n=>n,fun|9=>9|4=>4|24=>101|3=>3|n=>n,fun|n=>n⟩
theorem Tryz.lays104:Go.Proofs.Lays.n104 Tryz.prog Tryz.lays104_ren:={
 mixed:=by kernel_rfl
 f104:=Tryz.func192.trans (congrArg some (by kernel_rfl))
 f207:=Tryz.func216.trans (congrArg some (by kernel_rfl))
 f211:=Tryz.func205.trans (congrArg some (by kernel_rfl))
 t3:=Tryz.underlying3
 a3:=Tryz.isAgg3
 z3:=Tryz.sizeOf3
 v3:=Tryz.zeroValue3
 t4:=Tryz.underlying4
 a4:=Tryz.isAgg4
 z4:=Tryz.sizeOf4
 v4:=Tryz.zeroValue4
 t9:=Tryz.underlying9
 a9:=Tryz.isAgg9
 z9:=Tryz.sizeOf9
 v9:=Tryz.zeroValue9
 t24:=Tryz.underlying101
 a24:=Tryz.isAgg101
 z24:=Tryz.sizeOf101
 v24:=Tryz.zeroValue101 }
open Go.RowKit in
theorem Tryz.strings_CutSuffix (s p:ByteArray) (w:World) (hs:s.size≤9223372036854775807) :
  Calls Tryz.prog 192 #[.string s,.string p] w fun e w'=>e=.returned (.tuple #[.string ⟨(Lib.trimSuffix s.data.toList p.data.toList).toArray⟩,.bool (Lib.hasSuffix s.data.toList p.data.toList)])∧w'=w:=Any.strings_CutSuffix Tryz.lays104 s p w hs
def Tryz.lays122_ren:Go.Shelf.Ren:=⟨fun|122=>70|215=>105|n=>n,fun|3=>3|4=>4|n=>n,fun|n=>n⟩
theorem Tryz.lays122:Go.Proofs.Lays.n122 Tryz.prog Tryz.lays122_ren:={
 mixed:=by kernel_rfl
 f122:=Tryz.func70.trans (congrArg some (by kernel_rfl))
 f215:=Tryz.func105.trans (congrArg some (by kernel_rfl))
 t3:=Tryz.underlying3
 a3:=Tryz.isAgg3
 z3:=Tryz.sizeOf3
 v3:=Tryz.zeroValue3
 t4:=Tryz.underlying4
 a4:=Tryz.isAgg4
 z4:=Tryz.sizeOf4
 v4:=Tryz.zeroValue4 }
open Go.RowKit in
theorem Tryz.cmp_Compare_int (x y:Int) (w:World) :
  Calls Tryz.prog 70 #[.int .i64 x,.int .i64 y] w fun e w'=>e=.returned (.int .i64 (Lib.compareInt x y))∧w'=w:=Any.cmp_Compare_int Tryz.lays122 x y w
def Tryz.laysM171_ren:Go.Shelf.Ren:=⟨fun|171=>190|243=>204|246=>215|283=>223|284=>224|285=>225|286=>226|129=>120|317=>230|318=>231|319=>232|320=>233|337=>234|338=>235|n=>n,fun|3=>3|9=>9|2=>2|4=>4|171=>227|0=>0|53=>140|37=>148|5=>5|173=>229|212=>240|51=>138|20=>20|213=>241|46=>113|232=>60|233=>242|n=>n,fun|17=>5|18=>6|19=>7|n=>n⟩
theorem Tryz.laysM171:Go.Proofs.LaysM.n171 Tryz.prog Tryz.laysM171_ren:={
 mixed:=by kernel_rfl
 f129:=Tryz.func120.trans (congrArg some (by kernel_rfl))
 f171:=Tryz.func190.trans (congrArg some (by kernel_rfl))
 f243:=Tryz.func204.trans (congrArg some (by kernel_rfl))
 f246:=Tryz.func215.trans (congrArg some (by kernel_rfl))
 f283:=Tryz.func223.trans (congrArg some (by kernel_rfl))
 f284:=Tryz.func224.trans (congrArg some (by kernel_rfl))
 f285:=Tryz.func225.trans (congrArg some (by kernel_rfl))
 f286:=Tryz.func226.trans (congrArg some (by kernel_rfl))
 f317:=Tryz.func230.trans (congrArg some (by kernel_rfl))
 f318:=Tryz.func231.trans (congrArg some (by kernel_rfl))
 f319:=Tryz.func232.trans (congrArg some (by kernel_rfl))
 f320:=Tryz.func233.trans (congrArg some (by kernel_rfl))
 f337:=Tryz.func234.trans (congrArg some (by kernel_rfl))
 f338:=Tryz.func235.trans (congrArg some (by kernel_rfl))
 t0:=Tryz.underlying0
 a0:=Tryz.isAgg0
 z0:=Tryz.sizeOf0
 v0:=Tryz.zeroValue0
 t2:=Tryz.underlying2
 a2:=Tryz.isAgg2
 z2:=Tryz.sizeOf2
 v2:=Tryz.zeroValue2
 t3:=Tryz.underlying3
 a3:=Tryz.isAgg3
 z3:=Tryz.sizeOf3
 v3:=Tryz.zeroValue3
 t4:=Tryz.underlying4
 a4:=Tryz.isAgg4
 z4:=Tryz.sizeOf4
 v4:=Tryz.zeroValue4
 t5:=Tryz.underlying5
 a5:=Tryz.isAgg5
 z5:=Tryz.sizeOf5
 v5:=Tryz.zeroValue5
 t9:=Tryz.underlying9
 a9:=Tryz.isAgg9
 z9:=Tryz.sizeOf9
 v9:=Tryz.zeroValue9
 t20:=Tryz.underlying20
 a20:=Tryz.isAgg20
 z20:=Tryz.sizeOf20
 v20:=Tryz.zeroValue20
 t37:=Tryz.underlying148
 a37:=Tryz.isAgg148
 z37:=Tryz.sizeOf148
 v37:=Tryz.zeroValue148
 t46:=Tryz.underlying113
 a46:=Tryz.isAgg113
 z46:=Tryz.sizeOf113
 v46:=Tryz.zeroValue113
 t51:=Tryz.underlying138
 a51:=Tryz.isAgg138
 z51:=Tryz.sizeOf138
 v51:=Tryz.zeroValue138
 t53:=Tryz.underlying140
 a53:=Tryz.isAgg140
 z53:=Tryz.sizeOf140
 v53:=Tryz.zeroValue140
 t171:=Tryz.underlying227
 a171:=Tryz.isAgg227
 z171:=Tryz.sizeOf227
 v171:=Tryz.zeroValue227
 t173:=Tryz.underlying229
 a173:=Tryz.isAgg229
 z173:=Tryz.sizeOf229
 v173:=Tryz.zeroValue229
 t212:=Tryz.underlying240
 a212:=Tryz.isAgg240
 z212:=Tryz.sizeOf240
 v212:=Tryz.zeroValue240
 t213:=Tryz.underlying241
 a213:=Tryz.isAgg241
 z213:=Tryz.sizeOf241
 t232:=Tryz.underlying60
 a232:=Tryz.isAgg60
 z232:=Tryz.sizeOf60
 v232:=Tryz.zeroValue60
 t233:=Tryz.underlying242
 a233:=Tryz.isAgg242
 z233:=Tryz.sizeOf242
 v233:=Tryz.zeroValue242
 g17:=by kernel_rfl
 g18:=by kernel_rfl
 g19:=by kernel_rfl
 i0:=by kernel_rfl
 i2:=by kernel_rfl
 i3:=by kernel_rfl
 i4:=by kernel_rfl
 i5:=by kernel_rfl
 i9:=by kernel_rfl
 i20:=by kernel_rfl
 i37:=by kernel_rfl
 i46:=by kernel_rfl
 i51:=by kernel_rfl
 i53:=by kernel_rfl
 i171:=by kernel_rfl
 i173:=by kernel_rfl
 i212:=by kernel_rfl
 i232:=by kernel_rfl
 i233:=by kernel_rfl
 m17:=by kernel_rfl
 m18:=by kernel_rfl
 m19:=by kernel_rfl }
open Go.RowKit Go.Sort Go.Lib in
theorem Tryz.strconv_Itoa (n : Int) (h0 : -9223372036854775808 ≤ n) (h1 : n ≤ 9223372036854775807) (w : World) (htab : Lib.TabIs Tryz.prog w "internal/strconv.uint64pow10" .u64 Lib.pow10Tab) :
  Calls Tryz.prog 190 #[.int .i64 n] w fun e w'=>e=.returned (.string ⟨(Lib.itoa n).toArray⟩)∧∃ k os,w'=grow (w.drewN k) os:=Any.strconv_Itoa Tryz.laysM171 n h0 h1 w htab
def Tryz.laysC172_ren:Go.Shelf.Ren:=⟨fun|172=>189|244=>202|245=>203|247=>210|279=>211|280=>212|281=>213|282=>214|287=>220|316=>221|171=>190|205=>222|321=>228|322=>229|243=>204|246=>215|283=>223|284=>224|285=>225|286=>226|129=>120|317=>230|318=>231|319=>232|320=>233|337=>234|338=>235|n=>n,fun|9=>9|3=>3|75=>195|76=>196|4=>4|5=>5|167=>213|37=>148|0=>0|85=>214|2=>2|168=>216|53=>140|175=>222|46=>113|210=>225|127=>210|145=>238|143=>236|21=>21|171=>227|173=>229|212=>240|51=>138|20=>20|213=>241|232=>60|233=>242|80=>204|n=>n,fun|15=>1|16=>2|17=>5|18=>6|19=>7|n=>n⟩
theorem Tryz.laysC172:Go.Proofs.LaysC.n172 Tryz.prog Tryz.laysC172_ren:={
 mixed:=by kernel_rfl
 f129:=Tryz.func120.trans (congrArg some (by kernel_rfl))
 f171:=Tryz.func190.trans (congrArg some (by kernel_rfl))
 f172:=Tryz.func189.trans (congrArg some (by kernel_rfl))
 f205:=Tryz.func222.trans (congrArg some (by kernel_rfl))
 f243:=Tryz.func204.trans (congrArg some (by kernel_rfl))
 f244:=Tryz.func202.trans (congrArg some (by kernel_rfl))
 f245:=Tryz.func203.trans (congrArg some (by kernel_rfl))
 f246:=Tryz.func215.trans (congrArg some (by kernel_rfl))
 f247:=Tryz.func210.trans (congrArg some (by kernel_rfl))
 f279:=Tryz.func211.trans (congrArg some (by kernel_rfl))
 f280:=Tryz.func212.trans (congrArg some (by kernel_rfl))
 f281:=Tryz.func213.trans (congrArg some (by kernel_rfl))
 f282:=Tryz.func214.trans (congrArg some (by kernel_rfl))
 f283:=Tryz.func223.trans (congrArg some (by kernel_rfl))
 f284:=Tryz.func224.trans (congrArg some (by kernel_rfl))
 f285:=Tryz.func225.trans (congrArg some (by kernel_rfl))
 f286:=Tryz.func226.trans (congrArg some (by kernel_rfl))
 f287:=Tryz.func220.trans (congrArg some (by kernel_rfl))
 f316:=Tryz.func221.trans (congrArg some (by kernel_rfl))
 f317:=Tryz.func230.trans (congrArg some (by kernel_rfl))
 f318:=Tryz.func231.trans (congrArg some (by kernel_rfl))
 f319:=Tryz.func232.trans (congrArg some (by kernel_rfl))
 f320:=Tryz.func233.trans (congrArg some (by kernel_rfl))
 f321:=Tryz.func228.trans (congrArg some (by kernel_rfl))
 f322:=Tryz.func229.trans (congrArg some (by kernel_rfl))
 f337:=Tryz.func234.trans (congrArg some (by kernel_rfl))
 f338:=Tryz.func235.trans (congrArg some (by kernel_rfl))
 t0:=Tryz.underlying0
 a0:=Tryz.isAgg0
 z0:=Tryz.sizeOf0
 v0:=Tryz.zeroValue0
 t2:=Tryz.underlying2
 a2:=Tryz.isAgg2
 z2:=Tryz.sizeOf2
 v2:=Tryz.zeroValue2
 t3:=Tryz.underlying3
 a3:=Tryz.isAgg3
 z3:=Tryz.sizeOf3
 v3:=Tryz.zeroValue3
 t4:=Tryz.underlying4
 a4:=Tryz.isAgg4
 z4:=Tryz.sizeOf4
 v4:=Tryz.zeroValue4
 t5:=Tryz.underlying5
 a5:=Tryz.isAgg5
 z5:=Tryz.sizeOf5
 v5:=Tryz.zeroValue5
 t9:=Tryz.underlying9
 a9:=Tryz.isAgg9
 z9:=Tryz.sizeOf9
 v9:=Tryz.zeroValue9
 t20:=Tryz.underlying20
 a20:=Tryz.isAgg20
 z20:=Tryz.sizeOf20
 v20:=Tryz.zeroValue20
 t21:=Tryz.underlying21
 a21:=Tryz.isAgg21
 z21:=Tryz.sizeOf21
 v21:=Tryz.zeroValue21
 t37:=Tryz.underlying148
 a37:=Tryz.isAgg148
 z37:=Tryz.sizeOf148
 v37:=Tryz.zeroValue148
 t46:=Tryz.underlying113
 a46:=Tryz.isAgg113
 z46:=Tryz.sizeOf113
 v46:=Tryz.zeroValue113
 t51:=Tryz.underlying138
 a51:=Tryz.isAgg138
 z51:=Tryz.sizeOf138
 v51:=Tryz.zeroValue138
 t53:=Tryz.underlying140
 a53:=Tryz.isAgg140
 z53:=Tryz.sizeOf140
 v53:=Tryz.zeroValue140
 t75:=Tryz.underlying195
 a75:=Tryz.isAgg195
 z75:=Tryz.sizeOf195
 v75:=Tryz.zeroValue195
 t76:=Tryz.underlying196
 a76:=Tryz.isAgg196
 z76:=Tryz.sizeOf196
 v76:=Tryz.zeroValue196
 t85:=Tryz.underlying214
 a85:=Tryz.isAgg214
 z85:=Tryz.sizeOf214
 v85:=Tryz.zeroValue214
 t127:=Tryz.underlying210
 a127:=Tryz.isAgg210
 z127:=Tryz.sizeOf210
 v127:=Tryz.zeroValue210
 t143:=Tryz.underlying236
 a143:=Tryz.isAgg236
 z143:=Tryz.sizeOf236
 v143:=Tryz.zeroValue236
 t145:=Tryz.underlying238
 a145:=Tryz.isAgg238
 z145:=Tryz.sizeOf238
 v145:=Tryz.zeroValue238
 t167:=Tryz.underlying213
 a167:=Tryz.isAgg213
 z167:=Tryz.sizeOf213
 v167:=Tryz.zeroValue213
 t168:=Tryz.underlying216
 a168:=Tryz.isAgg216
 z168:=Tryz.sizeOf216
 v168:=Tryz.zeroValue216
 t171:=Tryz.underlying227
 a171:=Tryz.isAgg227
 z171:=Tryz.sizeOf227
 v171:=Tryz.zeroValue227
 t173:=Tryz.underlying229
 a173:=Tryz.isAgg229
 z173:=Tryz.sizeOf229
 v173:=Tryz.zeroValue229
 t175:=Tryz.underlying222
 a175:=Tryz.isAgg222
 z175:=Tryz.sizeOf222
 v175:=Tryz.zeroValue222
 t210:=Tryz.underlying225
 a210:=Tryz.isAgg225
 z210:=Tryz.sizeOf225
 v210:=Tryz.zeroValue225
 t212:=Tryz.underlying240
 a212:=Tryz.isAgg240
 z212:=Tryz.sizeOf240
 v212:=Tryz.zeroValue240
 t213:=Tryz.underlying241
 a213:=Tryz.isAgg241
 z213:=Tryz.sizeOf241
 t232:=Tryz.underlying60
 a232:=Tryz.isAgg60
 z232:=Tryz.sizeOf60
 v232:=Tryz.zeroValue60
 t233:=Tryz.underlying242
 a233:=Tryz.isAgg242
 z233:=Tryz.sizeOf242
 v233:=Tryz.zeroValue242
 g15:=by kernel_rfl
 g16:=by kernel_rfl
 g17:=by kernel_rfl
 g18:=by kernel_rfl
 g19:=by kernel_rfl
 t80:=Tryz.underlying204
 a80:=Tryz.isAgg204
 z80:=Tryz.sizeOf204
 v80:=Tryz.zeroValue204
 i0:=by kernel_rfl
 i2:=by kernel_rfl
 i3:=by kernel_rfl
 i4:=by kernel_rfl
 i5:=by kernel_rfl
 i9:=by kernel_rfl
 i20:=by kernel_rfl
 i21:=by kernel_rfl
 i37:=by kernel_rfl
 i46:=by kernel_rfl
 i51:=by kernel_rfl
 i53:=by kernel_rfl
 i75:=by kernel_rfl
 i76:=by kernel_rfl
 i80:=by kernel_rfl
 i85:=by kernel_rfl
 i127:=by kernel_rfl
 i143:=by kernel_rfl
 i145:=by kernel_rfl
 i167:=by kernel_rfl
 i168:=by kernel_rfl
 i171:=by kernel_rfl
 i173:=by kernel_rfl
 i175:=by kernel_rfl
 i210:=by kernel_rfl
 i212:=by kernel_rfl
 i232:=by kernel_rfl
 i233:=by kernel_rfl
 m15:=by kernel_rfl
 m16:=by kernel_rfl
 m17:=by kernel_rfl
 m18:=by kernel_rfl
 m19:=by kernel_rfl
 c0:=by kernel_rfl
 c2:=by kernel_rfl
 c3:=by kernel_rfl
 c4:=by kernel_rfl
 c5:=by kernel_rfl
 c9:=by kernel_rfl
 c20:=by kernel_rfl
 c21:=by kernel_rfl
 c37:=by kernel_rfl
 c46:=by kernel_rfl
 c51:=by kernel_rfl
 c53:=by kernel_rfl
 c75:=by kernel_rfl
 c76:=by kernel_rfl
 c80:=by kernel_rfl
 c85:=by kernel_rfl
 c127:=by kernel_rfl
 c143:=by kernel_rfl
 c145:=by kernel_rfl
 c167:=by kernel_rfl
 c168:=by kernel_rfl
 c171:=by kernel_rfl
 c173:=by kernel_rfl
 c175:=by kernel_rfl
 c210:=by kernel_rfl
 c212:=by kernel_rfl
 c213:=by kernel_rfl
 c232:=by kernel_rfl
 c233:=by kernel_rfl }
open Go.RowKit in
theorem Tryz.strconv_Atoi_ok (s:ByteArray) (hmax:s.size≤9223372036854775806) (v:Int) (h:Lib.atoiAll s.data.toList=.ok v) (w:World) :
  Calls Tryz.prog 189 #[.string s] w fun e w'=>e=.returned (.tuple #[.int .i64 v,.nilIface])∧(w'=w∨∃ t,w'=Lib.bytesWorld w 5 t):=Any.strconv_Atoi_ok Tryz.laysC172 s hmax v h w
open Go.RowKit in
theorem Tryz.strconv_Atoi_bad_var (s : ByteArray) (hlim : s.size ≤ 281474976710656) (h1 : ∀ v, Lib.atoiAll s.data.toList ≠ .ok v) (h2 : Lib.atoiAll s.data.toList ≠ .range) (tp : TypeId) (p : Value) (w : World) (hvar : w.var? Tryz.prog "strconv.ErrSyntax" = some #[.iface tp p]) :
  Calls Tryz.prog 189 #[.string s] w fun e w'=>∃ N,e=.returned (.tuple #[.int .i64 0,.iface 216 (.pointer (some ⟨N,0,none⟩))])∧w.heap.size≤N∧w'.heap[N]?=some (.cells #[.string ⟨#[65,116,111,105]⟩,.string s,.iface tp p] 225 (0,0))∧Below w.heap.size w w':=Any.strconv_Atoi_syntax_var Tryz.laysC172 s hlim (by rcases e:Lib.atoiAll s.data.toList with v|_|_;exact absurd e (h1 v);exact rfl;exact absurd e h2) tp p w hvar
open Go.RowKit in
theorem Tryz.strconv_Atoi_range_var (s : ByteArray) (hlim : s.size ≤ 281474976710656) (h : Lib.atoiAll s.data.toList = .range) (tp : TypeId) (p : Value) (w : World) (hvar : w.var? Tryz.prog "strconv.ErrRange" = some #[.iface tp p]) :
  Calls Tryz.prog 189 #[.string s] w fun e w'=>∃ N,e=.returned (.tuple #[.int .i64 (Lib.atoiSat s.data.toList),.iface 216 (.pointer (some ⟨N,0,none⟩))])∧w.heap.size≤N∧w'.heap[N]?=some (.cells #[.string ⟨#[65,116,111,105]⟩,.string s,.iface tp p] 225 (0,0))∧Below w.heap.size w w':=Any.strconv_Atoi_range_var Tryz.laysC172 s hlim h tp p w hvar
def Tryz.lays144_ren:Go.Shelf.Ren:=⟨fun|144=>193|143=>108|219=>146|217=>167|225=>179|224=>180|267=>181|266=>188|314=>199|n=>n,fun|9=>9|4=>4|3=>3|5=>5|46=>113|146=>155|51=>138|n=>n,fun|1=>0|n=>n⟩
theorem Tryz.lays144:Go.Proofs.Lays.n144 Tryz.prog Tryz.lays144_ren:={
 mixed:=by kernel_rfl
 f143:=Tryz.func108.trans (congrArg some (by kernel_rfl))
 f144:=Tryz.func193.trans (congrArg some (by kernel_rfl))
 f217:=Tryz.func167.trans (congrArg some (by kernel_rfl))
 f219:=Tryz.func146.trans (congrArg some (by kernel_rfl))
 f224:=Tryz.func180.trans (congrArg some (by kernel_rfl))
 f225:=Tryz.func179.trans (congrArg some (by kernel_rfl))
 f266:=Tryz.func188.trans (congrArg some (by kernel_rfl))
 f267:=Tryz.func181.trans (congrArg some (by kernel_rfl))
 f314:=Tryz.func199.trans (congrArg some (by kernel_rfl))
 t3:=Tryz.underlying3
 a3:=Tryz.isAgg3
 z3:=Tryz.sizeOf3
 v3:=Tryz.zeroValue3
 t4:=Tryz.underlying4
 a4:=Tryz.isAgg4
 z4:=Tryz.sizeOf4
 v4:=Tryz.zeroValue4
 t5:=Tryz.underlying5
 a5:=Tryz.isAgg5
 z5:=Tryz.sizeOf5
 v5:=Tryz.zeroValue5
 t9:=Tryz.underlying9
 a9:=Tryz.isAgg9
 z9:=Tryz.sizeOf9
 v9:=Tryz.zeroValue9
 t46:=Tryz.underlying113
 a46:=Tryz.isAgg113
 z46:=Tryz.sizeOf113
 v46:=Tryz.zeroValue113
 t51:=Tryz.underlying138
 a51:=Tryz.isAgg138
 z51:=Tryz.sizeOf138
 v51:=Tryz.zeroValue138
 t146:=Tryz.underlying155
 a146:=Tryz.isAgg155
 z146:=Tryz.sizeOf155
 v146:=Tryz.zeroValue155
 g1:=by kernel_rfl }
open Go.RowKit Go.Lib in
theorem Tryz.strings_Contains_one (s:ByteArray) (c:UInt8) (w:World) :
  Calls Tryz.prog 193 #[.string s,.string ⟨#[c]⟩] w fun e w'=>e=.returned (.bool (decide (0≤Lib.indexByte s.data.toList c)))∧w'=w:=Any.strings_Contains_one Tryz.lays144 s c w
def Tryz.lays145_ren:Go.Shelf.Ren:=⟨fun|145=>68|220=>103|219=>146|217=>167|225=>179|224=>180|267=>181|266=>188|314=>199|n=>n,fun|9=>9|4=>4|59=>106|3=>3|5=>5|46=>113|146=>155|51=>138|n=>n,fun|1=>0|n=>n⟩
theorem Tryz.lays145:Go.Proofs.Lays.n145 Tryz.prog Tryz.lays145_ren:={
 mixed:=by kernel_rfl
 f145:=Tryz.func68.trans (congrArg some (by kernel_rfl))
 f217:=Tryz.func167.trans (congrArg some (by kernel_rfl))
 f219:=Tryz.func146.trans (congrArg some (by kernel_rfl))
 f220:=Tryz.func103.trans (congrArg some (by kernel_rfl))
 f224:=Tryz.func180.trans (congrArg some (by kernel_rfl))
 f225:=Tryz.func179.trans (congrArg some (by kernel_rfl))
 f266:=Tryz.func188.trans (congrArg some (by kernel_rfl))
 f267:=Tryz.func181.trans (congrArg some (by kernel_rfl))
 f314:=Tryz.func199.trans (congrArg some (by kernel_rfl))
 t3:=Tryz.underlying3
 a3:=Tryz.isAgg3
 z3:=Tryz.sizeOf3
 v3:=Tryz.zeroValue3
 t4:=Tryz.underlying4
 a4:=Tryz.isAgg4
 z4:=Tryz.sizeOf4
 v4:=Tryz.zeroValue4
 t5:=Tryz.underlying5
 a5:=Tryz.isAgg5
 z5:=Tryz.sizeOf5
 v5:=Tryz.zeroValue5
 t9:=Tryz.underlying9
 a9:=Tryz.isAgg9
 z9:=Tryz.sizeOf9
 v9:=Tryz.zeroValue9
 t46:=Tryz.underlying113
 a46:=Tryz.isAgg113
 z46:=Tryz.sizeOf113
 v46:=Tryz.zeroValue113
 t51:=Tryz.underlying138
 a51:=Tryz.isAgg138
 z51:=Tryz.sizeOf138
 v51:=Tryz.zeroValue138
 t59:=Tryz.underlying106
 a59:=Tryz.isAgg106
 z59:=Tryz.sizeOf106
 v59:=Tryz.zeroValue106
 t146:=Tryz.underlying155
 a146:=Tryz.isAgg155
 z146:=Tryz.sizeOf155
 v146:=Tryz.zeroValue155
 g1:=by kernel_rfl }
open Go.RowKit Go.Lib in
theorem Tryz.strings_Cut (s sep:ByteArray) (m:Int) (w:World) (hs:s.size<4294967281) (hm:w.cell? ⟨0,0,none⟩=some (.int .i64 m)) :
  Calls Tryz.prog 68 #[.string s,.string sep] w fun e w'=>e=.returned (.tuple #[.string ⟨(Lib.cut s.data.toList sep.data.toList).1.toArray⟩,.string ⟨(Lib.cut s.data.toList sep.data.toList).2.1.toArray⟩,.bool (Lib.cut s.data.toList sep.data.toList).2.2])∧∃ n,w'=w.drewN n:=Any.strings_Cut Tryz.lays145 s sep m w hs hm
def Tryz.lays138_ren:Go.Shelf.Ren:=⟨fun|138=>71|195=>106|218=>107|143=>108|219=>146|217=>167|225=>179|224=>180|267=>181|266=>188|314=>199|n=>n,fun|9=>9|3=>3|4=>4|5=>5|0=>0|46=>113|146=>155|51=>138|n=>n,fun|1=>0|n=>n⟩
theorem Tryz.lays138:Go.Proofs.Lays.n138 Tryz.prog Tryz.lays138_ren:={
 mixed:=by kernel_rfl
 f138:=Tryz.func71.trans (congrArg some (by kernel_rfl))
 f143:=Tryz.func108.trans (congrArg some (by kernel_rfl))
 f195:=Tryz.func106.trans (congrArg some (by kernel_rfl))
 f217:=Tryz.func167.trans (congrArg some (by kernel_rfl))
 f218:=Tryz.func107.trans (congrArg some (by kernel_rfl))
 f219:=Tryz.func146.trans (congrArg some (by kernel_rfl))
 f224:=Tryz.func180.trans (congrArg some (by kernel_rfl))
 f225:=Tryz.func179.trans (congrArg some (by kernel_rfl))
 f266:=Tryz.func188.trans (congrArg some (by kernel_rfl))
 f267:=Tryz.func181.trans (congrArg some (by kernel_rfl))
 f314:=Tryz.func199.trans (congrArg some (by kernel_rfl))
 t0:=Tryz.underlying0
 a0:=Tryz.isAgg0
 z0:=Tryz.sizeOf0
 v0:=Tryz.zeroValue0
 t3:=Tryz.underlying3
 a3:=Tryz.isAgg3
 z3:=Tryz.sizeOf3
 v3:=Tryz.zeroValue3
 t4:=Tryz.underlying4
 a4:=Tryz.isAgg4
 z4:=Tryz.sizeOf4
 v4:=Tryz.zeroValue4
 t5:=Tryz.underlying5
 a5:=Tryz.isAgg5
 z5:=Tryz.sizeOf5
 v5:=Tryz.zeroValue5
 t9:=Tryz.underlying9
 a9:=Tryz.isAgg9
 z9:=Tryz.sizeOf9
 v9:=Tryz.zeroValue9
 t46:=Tryz.underlying113
 a46:=Tryz.isAgg113
 z46:=Tryz.sizeOf113
 v46:=Tryz.zeroValue113
 t51:=Tryz.underlying138
 a51:=Tryz.isAgg138
 z51:=Tryz.sizeOf138
 v51:=Tryz.zeroValue138
 t146:=Tryz.underlying155
 a146:=Tryz.isAgg155
 z146:=Tryz.sizeOf155
 v146:=Tryz.zeroValue155
 g1:=by kernel_rfl }
open Go.RowKit Go.Lib in
theorem Tryz.strings_Count_one (s:ByteArray) (c:UInt8) (w:World) :
  Calls Tryz.prog 71 #[.string s,.string ⟨#[c]⟩] w fun e w'=>e=.returned (.int .i64 (Lib.countByte s.data.toList c))∧w'=w:=Any.strings_Count_one Tryz.lays138 s c w
def Tryz.lays148_ren:Go.Shelf.Ren:=⟨fun|148=>74|222=>109|223=>110|269=>148|n=>n,fun|9=>9|3=>3|4=>4|5=>5|146=>155|51=>138|46=>113|n=>n,fun|n=>n⟩
theorem Tryz.lays148:Go.Proofs.Lays.n148 Tryz.prog Tryz.lays148_ren:={
 mixed:=by kernel_rfl
 f148:=Tryz.func74.trans (congrArg some (by kernel_rfl))
 f222:=Tryz.func109.trans (congrArg some (by kernel_rfl))
 f223:=Tryz.func110.trans (congrArg some (by kernel_rfl))
 f269:=Tryz.func148.trans (congrArg some (by kernel_rfl))
 t3:=Tryz.underlying3
 a3:=Tryz.isAgg3
 z3:=Tryz.sizeOf3
 v3:=Tryz.zeroValue3
 t4:=Tryz.underlying4
 a4:=Tryz.isAgg4
 z4:=Tryz.sizeOf4
 v4:=Tryz.zeroValue4
 t5:=Tryz.underlying5
 a5:=Tryz.isAgg5
 z5:=Tryz.sizeOf5
 v5:=Tryz.zeroValue5
 t9:=Tryz.underlying9
 a9:=Tryz.isAgg9
 z9:=Tryz.sizeOf9
 v9:=Tryz.zeroValue9
 t46:=Tryz.underlying113
 a46:=Tryz.isAgg113
 z46:=Tryz.sizeOf113
 v46:=Tryz.zeroValue113
 t51:=Tryz.underlying138
 a51:=Tryz.isAgg138
 z51:=Tryz.sizeOf138
 v51:=Tryz.zeroValue138
 t146:=Tryz.underlying155
 a146:=Tryz.isAgg155
 z146:=Tryz.sizeOf155
 v146:=Tryz.zeroValue155 }
open Go.RowKit Go.Lib in
theorem Tryz.strings_LastIndex (s sub:ByteArray) (hs:s.size<4611686018427387904) (w:World) :
  Calls Tryz.prog 74 #[.string s,.string sub] w fun e w'=>e=.returned (.int .i64 (Lib.lastIndex s.data.toList sub.data.toList))∧w'=w:=Any.strings_LastIndex Tryz.lays148 s sub hs w
def Tryz.lays206_ren:Go.Shelf.Ren:=⟨fun|206=>145|n=>n,fun|9=>9|4=>4|3=>3|n=>n,fun|n=>n⟩
theorem Tryz.lays206:Go.Proofs.Lays.n206 Tryz.prog Tryz.lays206_ren:={
 mixed:=by kernel_rfl
 f206:=Tryz.func145.trans (congrArg some (by kernel_rfl))
 t3:=Tryz.underlying3
 a3:=Tryz.isAgg3
 z3:=Tryz.sizeOf3
 v3:=Tryz.zeroValue3
 t4:=Tryz.underlying4
 a4:=Tryz.isAgg4
 z4:=Tryz.sizeOf4
 v4:=Tryz.zeroValue4
 t9:=Tryz.underlying9
 a9:=Tryz.isAgg9
 z9:=Tryz.sizeOf9
 v9:=Tryz.zeroValue9 }
open Go.RowKit Go.Lib in
theorem Tryz.stringslite_HasPrefix (s p:ByteArray) (w:World) :
  Calls Tryz.prog 145 #[.string s,.string p] w fun e w'=>e=.returned (.bool (Lib.hasPrefix s.data.toList p.data.toList))∧w'=w:=Any.stringslite_HasPrefix Tryz.lays206 s p w
def Tryz.lays99_ren:Go.Shelf.Ren:=⟨fun|99=>102|206=>145|n=>n,fun|9=>9|4=>4|3=>3|n=>n,fun|n=>n⟩
theorem Tryz.lays99:Go.Proofs.Lays.n99 Tryz.prog Tryz.lays99_ren:={
 mixed:=by kernel_rfl
 f99:=Tryz.func102.trans (congrArg some (by kernel_rfl))
 f206:=Tryz.func145.trans (congrArg some (by kernel_rfl))
 t3:=Tryz.underlying3
 a3:=Tryz.isAgg3
 z3:=Tryz.sizeOf3
 v3:=Tryz.zeroValue3
 t4:=Tryz.underlying4
 a4:=Tryz.isAgg4
 z4:=Tryz.sizeOf4
 v4:=Tryz.zeroValue4
 t9:=Tryz.underlying9
 a9:=Tryz.isAgg9
 z9:=Tryz.sizeOf9
 v9:=Tryz.zeroValue9 }
open Go.RowKit Go.Lib in
theorem Tryz.strings_HasPrefix (s p:ByteArray) (w:World) :
  Calls Tryz.prog 102 #[.string s,.string p] w fun e w'=>e=.returned (.bool (Lib.hasPrefix s.data.toList p.data.toList))∧w'=w:=Any.strings_HasPrefix Tryz.lays99 s p w
def Tryz.lays146_ren:Go.Shelf.Ren:=⟨fun|146=>142|221=>177|268=>198|138=>71|143=>108|195=>106|197=>209|218=>107|219=>146|260=>219|217=>167|225=>179|224=>180|267=>181|266=>188|314=>199|n=>n,fun|9=>9|31=>86|3=>3|4=>4|0=>0|105=>211|21=>21|5=>5|46=>113|119=>231|139=>234|138=>233|146=>155|51=>138|n=>n,fun|1=>0|3=>3|4=>4|n=>n⟩
theorem Tryz.lays146:Go.Proofs.Lays.n146 Tryz.prog Tryz.lays146_ren:={
 mixed:=by kernel_rfl
 f138:=Tryz.func71.trans (congrArg some (by kernel_rfl))
 f143:=Tryz.func108.trans (congrArg some (by kernel_rfl))
 f146:=Tryz.func142.trans (congrArg some (by kernel_rfl))
 f195:=Tryz.func106.trans (congrArg some (by kernel_rfl))
 f197:=Tryz.func209.trans (congrArg some (by kernel_rfl))
 f217:=Tryz.func167.trans (congrArg some (by kernel_rfl))
 f218:=Tryz.func107.trans (congrArg some (by kernel_rfl))
 f219:=Tryz.func146.trans (congrArg some (by kernel_rfl))
 f221:=Tryz.func177.trans (congrArg some (by kernel_rfl))
 f224:=Tryz.func180.trans (congrArg some (by kernel_rfl))
 f225:=Tryz.func179.trans (congrArg some (by kernel_rfl))
 f260:=Tryz.func219.trans (congrArg some (by kernel_rfl))
 f266:=Tryz.func188.trans (congrArg some (by kernel_rfl))
 f267:=Tryz.func181.trans (congrArg some (by kernel_rfl))
 f268:=Tryz.func198.trans (congrArg some (by kernel_rfl))
 f314:=Tryz.func199.trans (congrArg some (by kernel_rfl))
 t0:=Tryz.underlying0
 a0:=Tryz.isAgg0
 z0:=Tryz.sizeOf0
 v0:=Tryz.zeroValue0
 t3:=Tryz.underlying3
 a3:=Tryz.isAgg3
 z3:=Tryz.sizeOf3
 v3:=Tryz.zeroValue3
 t4:=Tryz.underlying4
 a4:=Tryz.isAgg4
 z4:=Tryz.sizeOf4
 v4:=Tryz.zeroValue4
 t5:=Tryz.underlying5
 a5:=Tryz.isAgg5
 z5:=Tryz.sizeOf5
 v5:=Tryz.zeroValue5
 t9:=Tryz.underlying9
 a9:=Tryz.isAgg9
 z9:=Tryz.sizeOf9
 v9:=Tryz.zeroValue9
 t21:=Tryz.underlying21
 a21:=Tryz.isAgg21
 z21:=Tryz.sizeOf21
 v21:=Tryz.zeroValue21
 t31:=Tryz.underlying86
 a31:=Tryz.isAgg86
 z31:=Tryz.sizeOf86
 v31:=Tryz.zeroValue86
 t46:=Tryz.underlying113
 a46:=Tryz.isAgg113
 z46:=Tryz.sizeOf113
 v46:=Tryz.zeroValue113
 t51:=Tryz.underlying138
 a51:=Tryz.isAgg138
 z51:=Tryz.sizeOf138
 v51:=Tryz.zeroValue138
 t105:=Tryz.underlying211
 a105:=Tryz.isAgg211
 z105:=Tryz.sizeOf211
 v105:=Tryz.zeroValue211
 t119:=Tryz.underlying231
 a119:=Tryz.isAgg231
 z119:=Tryz.sizeOf231
 t138:=Tryz.underlying233
 a138:=Tryz.isAgg233
 z138:=Tryz.sizeOf233
 v138:=Tryz.zeroValue233
 t139:=Tryz.underlying234
 a139:=Tryz.isAgg234
 z139:=Tryz.sizeOf234
 v139:=Tryz.zeroValue234
 t146:=Tryz.underlying155
 a146:=Tryz.isAgg155
 z146:=Tryz.sizeOf155
 v146:=Tryz.zeroValue155
 g1:=by kernel_rfl
 g3:=by kernel_rfl
 g4:=by kernel_rfl }
open Go.RowKit Go.Lib in
theorem Tryz.strings_Split (s sep:ByteArray) (m:Int) (w:World) (hs:s.size<4294967281) (hm:w.cell? ⟨0,0,none⟩=some (.int .i64 m)) (h1:1≤sep.size) :
  Calls Tryz.prog 142 #[.string s,.string sep] w fun e w' =>
   e=.returned (.slice (some ⟨w.heap.size,0,none⟩) (Lib.countB s sep + 1) (Lib.countB s sep + 1))∧w'=w.alloc (.cells ((Lib.splitB sep 0 (Lib.countB s sep) s).map Value.string).toArray 9):=Any.strings_Split Tryz.lays146 (by kernel_rfl) s sep m w hs hm h1
def Tryz.laysSlF6_f82_ren:Go.Shelf.Ren:=⟨fun|6=>82|15=>76|14=>126|28=>119|29=>120|20=>154|21=>155|22=>156|23=>157|24=>158|25=>159|26=>160|27=>161|46=>183|47=>150|48=>151|49=>184|50=>185|57=>200|n=>n,fun|22=>86|24=>9|25=>66|3=>3|39=>113|0=>0|53=>138|55=>140|4=>4|46=>131|45=>130|50=>135|5=>5|9=>9|66=>157|70=>161|76=>188|77=>189|n=>n,fun|n=>n⟩
theorem Tryz.laysSlF6_f82:Go.Proofs.SlLaysF.n6 Tryz.prog Tryz.laysSlF6_f82_ren:={
 mixed:=by kernel_rfl
 f6:=⟨Tryz.f82.name,by decide,Tryz.func82.trans (congrArg some (by kernel_rfl))⟩
 f14:=⟨Tryz.f126.name,by decide,Tryz.func126.trans (congrArg some (by kernel_rfl))⟩
 f15:=Tryz.func76.trans (congrArg some (by kernel_rfl))
 f20:=⟨Tryz.f154.name,by decide,Tryz.func154.trans (congrArg some (by kernel_rfl))⟩
 f21:=⟨Tryz.f155.name,by decide,Tryz.func155.trans (congrArg some (by kernel_rfl))⟩
 f22:=⟨Tryz.f156.name,by decide,Tryz.func156.trans (congrArg some (by kernel_rfl))⟩
 f23:=⟨Tryz.f157.name,by decide,Tryz.func157.trans (congrArg some (by kernel_rfl))⟩
 f24:=⟨Tryz.f158.name,by decide,Tryz.func158.trans (congrArg some (by kernel_rfl))⟩
 f25:=⟨Tryz.f159.name,by decide,Tryz.func159.trans (congrArg some (by kernel_rfl))⟩
 f26:=⟨Tryz.f160.name,by decide,Tryz.func160.trans (congrArg some (by kernel_rfl))⟩
 f27:=⟨Tryz.f161.name,by decide,Tryz.func161.trans (congrArg some (by kernel_rfl))⟩
 f28:=Tryz.func119.trans (congrArg some (by kernel_rfl))
 f29:=Tryz.func120.trans (congrArg some (by kernel_rfl))
 f46:=⟨Tryz.f183.name,by decide,Tryz.func183.trans (congrArg some (by kernel_rfl))⟩
 f47:=Tryz.func150.trans (congrArg some (by kernel_rfl))
 f48:=Tryz.func151.trans (congrArg some (by kernel_rfl))
 f49:=⟨Tryz.f184.name,by decide,Tryz.func184.trans (congrArg some (by kernel_rfl))⟩
 f50:=⟨Tryz.f185.name,by decide,Tryz.func185.trans (congrArg some (by kernel_rfl))⟩
 f57:=⟨Tryz.f200.name,by decide,Tryz.func200.trans (congrArg some (by kernel_rfl))⟩
 t0:=Tryz.underlying0
 a0:=Tryz.isAgg0
 z0:=Tryz.sizeOf0
 v0:=Tryz.zeroValue0
 t3:=Tryz.underlying3
 a3:=Tryz.isAgg3
 z3:=Tryz.sizeOf3
 v3:=Tryz.zeroValue3
 t4:=Tryz.underlying4
 a4:=Tryz.isAgg4
 z4:=Tryz.sizeOf4
 v4:=Tryz.zeroValue4
 t5:=Tryz.underlying5
 a5:=Tryz.isAgg5
 z5:=Tryz.sizeOf5
 v5:=Tryz.zeroValue5
 t9:=Tryz.underlying9
 a9:=Tryz.isAgg9
 z9:=Tryz.sizeOf9
 v9:=Tryz.zeroValue9
 t22:=Tryz.underlying86
 a22:=Tryz.isAgg86
 z22:=Tryz.sizeOf86
 v22:=Tryz.zeroValue86
 a24:=Tryz.isAgg9
 z24:=Tryz.sizeOf9
 t25:=Tryz.underlying66
 a25:=Tryz.isAgg66
 z25:=Tryz.sizeOf66
 v25:=Tryz.zeroValue66
 t39:=Tryz.underlying113
 a39:=Tryz.isAgg113
 z39:=Tryz.sizeOf113
 v39:=Tryz.zeroValue113
 t45:=Tryz.underlying130
 a45:=Tryz.isAgg130
 z45:=Tryz.sizeOf130
 v45:=Tryz.zeroValue130
 t46:=Tryz.underlying131
 a46:=Tryz.isAgg131
 z46:=Tryz.sizeOf131
 v46:=Tryz.zeroValue131
 t50:=Tryz.underlying135
 a50:=Tryz.isAgg135
 z50:=Tryz.sizeOf135
 v50:=Tryz.zeroValue135
 t53:=Tryz.underlying138
 a53:=Tryz.isAgg138
 z53:=Tryz.sizeOf138
 v53:=Tryz.zeroValue138
 t55:=Tryz.underlying140
 a55:=Tryz.isAgg140
 z55:=Tryz.sizeOf140
 v55:=Tryz.zeroValue140
 t66:=Tryz.underlying157
 a66:=Tryz.isAgg157
 z66:=Tryz.sizeOf157
 v66:=Tryz.zeroValue157
 t70:=Tryz.underlying161
 a70:=Tryz.isAgg161
 z70:=Tryz.sizeOf161
 v70:=Tryz.zeroValue161
 t76:=Tryz.underlying188
 a76:=Tryz.isAgg188
 z76:=Tryz.sizeOf188
 v76:=Tryz.zeroValue188
 t77:=Tryz.underlying189
 a77:=Tryz.isAgg189
 z77:=Tryz.sizeOf189
 v77:=Tryz.zeroValue189 }
open Go.RowKit Go.Lib Go.Sort in
theorem Tryz.slices_SortFunc {α:Type} [Inhabited α] (enc:α→Value) (h1:OneCell enc) (cf:α→α→Int) (hO:SWO (ltOf cf)) (g:Nat) (cb:Array Value) (blk off cap:Nat) (d:Array α) (w:World) (eg:∀ args w,(callFunc g args).run Tryz.prog w=.ok (.enter g args) w) (hcmp:CmpLays1 Tryz.prog g cb enc cf blk off d.size w) (hH:Holds enc w blk off d) (hblk:blk<w.heap.size) (hsz:d.size<4611686018427387904) :
  Calls Tryz.prog 82 #[.slice (some ⟨blk,off,none⟩) d.size cap,.func (.func g) #[] cb] w fun e w' =>
   e=.returned (.tuple #[])∧∃ d' n os,PermIn 0 d.size d d'∧SortedIn (ltOf cf) 0 d.size d'∧w'=sortWorld enc w blk off n d' os:=Any.slices_SortFunc Tryz.laysSlF6_f82 enc h1 cf hO g cb blk off cap d w eg hcmp hH hblk hsz
def Tryz.laysSlF06_f82_ren:Go.Shelf.Ren:=⟨fun|6=>82|15=>76|14=>126|28=>119|29=>120|20=>154|21=>155|22=>156|23=>157|24=>158|25=>159|26=>160|27=>161|46=>183|47=>150|48=>151|49=>184|50=>185|57=>200|n=>n,fun|22=>86|24=>9|25=>66|3=>3|39=>113|0=>0|53=>138|55=>140|4=>4|46=>131|45=>130|50=>135|5=>5|9=>9|66=>157|70=>161|76=>188|77=>189|n=>n,fun|n=>n⟩
theorem Tryz.laysSlF06_f82:Go.Proofs.SlLaysF0.n6 Tryz.prog Tryz.laysSlF06_f82_ren:={
 mixed:=by kernel_rfl
 f6:=⟨Tryz.f82.name,by decide,Tryz.func82.trans (congrArg some (by kernel_rfl))⟩
 f14:=⟨Tryz.f126.name,by decide,Tryz.func126.trans (congrArg some (by kernel_rfl))⟩
 f15:=Tryz.func76.trans (congrArg some (by kernel_rfl))
 f20:=⟨Tryz.f154.name,by decide,Tryz.func154.trans (congrArg some (by kernel_rfl))⟩
 f21:=⟨Tryz.f155.name,by decide,Tryz.func155.trans (congrArg some (by kernel_rfl))⟩
 f22:=⟨Tryz.f156.name,by decide,Tryz.func156.trans (congrArg some (by kernel_rfl))⟩
 f23:=⟨Tryz.f157.name,by decide,Tryz.func157.trans (congrArg some (by kernel_rfl))⟩
 f24:=⟨Tryz.f158.name,by decide,Tryz.func158.trans (congrArg some (by kernel_rfl))⟩
 f25:=⟨Tryz.f159.name,by decide,Tryz.func159.trans (congrArg some (by kernel_rfl))⟩
 f26:=⟨Tryz.f160.name,by decide,Tryz.func160.trans (congrArg some (by kernel_rfl))⟩
 f27:=⟨Tryz.f161.name,by decide,Tryz.func161.trans (congrArg some (by kernel_rfl))⟩
 f28:=Tryz.func119.trans (congrArg some (by kernel_rfl))
 f29:=Tryz.func120.trans (congrArg some (by kernel_rfl))
 f46:=⟨Tryz.f183.name,by decide,Tryz.func183.trans (congrArg some (by kernel_rfl))⟩
 f47:=Tryz.func150.trans (congrArg some (by kernel_rfl))
 f48:=Tryz.func151.trans (congrArg some (by kernel_rfl))
 f49:=⟨Tryz.f184.name,by decide,Tryz.func184.trans (congrArg some (by kernel_rfl))⟩
 f50:=⟨Tryz.f185.name,by decide,Tryz.func185.trans (congrArg some (by kernel_rfl))⟩
 f57:=⟨Tryz.f200.name,by decide,Tryz.func200.trans (congrArg some (by kernel_rfl))⟩
 t0:=Tryz.underlying0
 a0:=Tryz.isAgg0
 z0:=Tryz.sizeOf0
 v0:=Tryz.zeroValue0
 t3:=Tryz.underlying3
 a3:=Tryz.isAgg3
 z3:=Tryz.sizeOf3
 v3:=Tryz.zeroValue3
 t4:=Tryz.underlying4
 a4:=Tryz.isAgg4
 z4:=Tryz.sizeOf4
 v4:=Tryz.zeroValue4
 t5:=Tryz.underlying5
 a5:=Tryz.isAgg5
 z5:=Tryz.sizeOf5
 v5:=Tryz.zeroValue5
 t9:=Tryz.underlying9
 a9:=Tryz.isAgg9
 z9:=Tryz.sizeOf9
 v9:=Tryz.zeroValue9
 t22:=Tryz.underlying86
 a22:=Tryz.isAgg86
 z22:=Tryz.sizeOf86
 v22:=Tryz.zeroValue86
 t25:=Tryz.underlying66
 a25:=Tryz.isAgg66
 z25:=Tryz.sizeOf66
 v25:=Tryz.zeroValue66
 t39:=Tryz.underlying113
 a39:=Tryz.isAgg113
 z39:=Tryz.sizeOf113
 v39:=Tryz.zeroValue113
 t45:=Tryz.underlying130
 a45:=Tryz.isAgg130
 z45:=Tryz.sizeOf130
 v45:=Tryz.zeroValue130
 t46:=Tryz.underlying131
 a46:=Tryz.isAgg131
 z46:=Tryz.sizeOf131
 v46:=Tryz.zeroValue131
 t50:=Tryz.underlying135
 a50:=Tryz.isAgg135
 z50:=Tryz.sizeOf135
 v50:=Tryz.zeroValue135
 t53:=Tryz.underlying138
 a53:=Tryz.isAgg138
 z53:=Tryz.sizeOf138
 v53:=Tryz.zeroValue138
 t55:=Tryz.underlying140
 a55:=Tryz.isAgg140
 z55:=Tryz.sizeOf140
 v55:=Tryz.zeroValue140
 t66:=Tryz.underlying157
 a66:=Tryz.isAgg157
 z66:=Tryz.sizeOf157
 v66:=Tryz.zeroValue157
 t70:=Tryz.underlying161
 a70:=Tryz.isAgg161
 z70:=Tryz.sizeOf161
 v70:=Tryz.zeroValue161
 t76:=Tryz.underlying188
 a76:=Tryz.isAgg188
 z76:=Tryz.sizeOf188
 v76:=Tryz.zeroValue188
 t77:=Tryz.underlying189
 a77:=Tryz.isAgg189
 z77:=Tryz.sizeOf189
 v77:=Tryz.zeroValue189 }
open Go.RowKit Go.Lib Go.Sort in
theorem Tryz.slices_SortFunc_none {α:Type} [Inhabited α] (p:Option Addr) (cap:Nat) (fv:Value) (w:World) :
  Calls Tryz.prog 82 #[.slice p 0 cap,fv] w fun e w'=>e=.returned (.tuple #[])∧w'=w:=AnyF.slices_SortFunc_none Tryz.laysSlF06_f82 p cap fv w
open Go.RowKit Go.Lib Go.Sort in
theorem Tryz.slices_SortFunc_total {α:Type} [Inhabited α] (enc:α→Value) (h1:OneCell enc) (cf:α→α→Int) (hO:SWO (ltOf cf)) (g:Nat) (cb:Array Value) (blk off cap:Nat) (d:Array α) (w:World) (eg:∀ args w,(callFunc g args).run Tryz.prog w=.ok (.enter g args) w) (hcmp:CmpLays1 Tryz.prog g cb enc cf blk off d.size w) (hH:Holds enc w blk off d) (hblk:blk<w.heap.size) (hsz:d.size<4611686018427387904) (hT:∀ x y,(ltOf cf) x y=false→(ltOf cf) y x=false→x=y) :
  Calls Tryz.prog 82 #[.slice (some ⟨blk,off,none⟩) d.size cap,.func (.func g) #[] cb] w fun e w' =>
   e=.returned (.tuple #[])∧∃ n os,w'=sortWorld enc w blk off n (d.toList.mergeSort fun x y=>!(ltOf cf) y x).toArray os:=Any.slices_SortFunc_total Tryz.laysSlF6_f82 enc h1 cf hO g cb blk off cap d w eg hcmp hH hblk hsz hT
end Go.Proofs
end
section
namespace Go.Proofs.YtjghikkboekonaaGreatDoor
open Go.RowKit
theorem below_grow {B:Nat} {w:World} {k:Nat} {os:Array Obj} (h:B≤w.heap.size):Below B w (Sort.grow (w.drewN k) os):=by
 refine ⟨rfl,rfl,rfl,by simp [Sort.grow],fun i hi=>?_⟩
 show (w.heap ++ os)[i]?=w.heap[i]?
 rw [Array.getElem?_append_left (by omega)]
theorem below_bytesWorld (w:World) (e:TypeId) (s:ByteArray):Below w.heap.size w (Lib.bytesWorld w e s) :=
 ⟨rfl,rfl,rfl,by rw [Lib.bytesWorld_size];omega,fun k hk=>Lib.bytesWorld_at_old w e s k hk⟩
theorem itoaZ_calls (w:World) (hg:GL w) (n:Int) (h0 : -9223372036854775808≤n) (hn:n≤9223372036854775807) :
  Calls Tryz.prog 190 #[.int .i64 n] w fun e w'=>e=.returned (S (Lib.itoa n))∧Below w.heap.size w w' :=
 (Tryz.strconv_Itoa n h0 hn w hg.pow).mono fun e w' ⟨he,k,os,hw⟩=>by
  subst hw
  exact ⟨he,below_grow (Nat.le_refl _)⟩
theorem itoa_calls (w:World) (hg:GL w) (n:Nat) (hn:n≤9223372036854775807) :
  Calls Tryz.prog 190 #[.int .i64 n] w fun e w'=>e=.returned (S (dec n))∧Below w.heap.size w w' :=
 (itoaZ_calls w hg n (by omega) (by omega)).mono fun e w' ⟨he,hb⟩=>by
  rw [Lib.itoa_nonneg] at he
  exact ⟨he,hb⟩
theorem atoi_ok_calls (w:World) (s:Str) (hs:s.length≤1000000000) (v:Int) (h:Lib.atoiAll s=.ok v) :
  Calls Tryz.prog 189 #[S s] w fun e w'=>e=.returned (.tuple #[.int .i64 v,.nilIface])∧Below w.heap.size w w' :=
 (Tryz.strconv_Atoi_ok ⟨s.toArray⟩ (by simp [Lib.size_eq];omega) v (by simpa using h) w).mono fun e w' ⟨he,hw⟩=>by
  refine ⟨he,?_⟩
  rcases hw with rfl|⟨t,rfl⟩
  ·exact Below.refl _ _
  ·exact below_bytesWorld _ _ _
theorem atoi_bad_calls (w:World) (hg:GL w) (s:Str) (hs:s.length≤1000000000) (h:∀ v,Lib.atoiAll s≠.ok v) :
  Calls Tryz.prog 189 #[S s] w fun e w'=>∃ n x,e=.returned (.tuple #[.int .i64 n,.iface 216 x])∧Below w.heap.size w w':=by
 obtain ⟨t1,p1,h1⟩:=hg.syn
 obtain ⟨t2,p2,h2⟩:=hg.rng
 rcases hc:Lib.atoiAll s with v|_|_
 ·exact absurd hc (h v)
 ·exact (Tryz.strconv_Atoi_bad_var ⟨s.toArray⟩ (by simp [Lib.size_eq];omega) (by intro v;simp [hc]) (by simp [hc]) t1 p1 w h1).mono fun e w' ⟨N,he,_,_,hb⟩=>⟨_,_,he,hb⟩
 ·exact (Tryz.strconv_Atoi_range_var ⟨s.toArray⟩ (by simp [Lib.size_eq];omega) (by simpa using hc) t2 p2 w h2).mono fun e w' ⟨N,he,_,_,hb⟩=>⟨_,_,he,hb⟩
theorem below_drewN (w:World) (n:Nat):Below w.heap.size w (w.drewN n):=⟨rfl,rfl,rfl,Nat.le_refl _,fun _ _=>rfl⟩
theorem cut1_calls (w:World) (hg:GL w) (s:Str) (c:UInt8) (hs:s.length≤1000000000) :
  Calls Tryz.prog 68 #[S s,.string ⟨#[c]⟩] w fun e w'=>e=.returned (.tuple #[S (cut1 c s).1,S (cut1 c s).2.1,.bool (cut1 c s).2.2])∧Below w.heap.size w w':=by
 obtain ⟨m,hm⟩:=hg.max
 refine (Tryz.strings_Cut ⟨s.toArray⟩ ⟨#[c]⟩ m w (by simp [Lib.size_eq];omega) hm).mono fun e w' ⟨he,n,hw⟩=>?_
 subst hw
 simp only [cut_one] at he
 exact ⟨he,below_drewN _ _⟩
theorem cutSuffix_calls (w:World) (s p:Str) (hs:s.length≤1000000000) :
  Calls Tryz.prog 192 #[S s,S p] w fun e w'=>e=.returned (.tuple #[S (Lib.trimSuffix s p),.bool (Lib.hasSuffix s p)])∧Below w.heap.size w w' :=
 (Tryz.strings_CutSuffix ⟨s.toArray⟩ ⟨p.toArray⟩ w (by simp [Lib.size_eq];omega)).mono fun e w' ⟨he,hw⟩=>by
  subst hw;exact ⟨by simpa using he,Below.refl _ _⟩
theorem contains1_calls (w:World) (s:Str) (c:UInt8) :
  Calls Tryz.prog 193 #[S s,.string ⟨#[c]⟩] w fun e w'=>e=.returned (.bool (s.contains c))∧w=w' :=
 (Tryz.strings_Contains_one ⟨s.toArray⟩ c w).mono fun e w' ⟨he,hw⟩=>by
  subst hw;rw [indexByte_mem] at he;exact ⟨by simpa using he,rfl⟩
end Go.Proofs.YtjghikkboekonaaGreatDoor
end
section
namespace Go.Proofs.Zq
open Go.RowKit Go.Proofs.YtjghikkboekonaaGreatDoor Go.Proofs.Zw.PrintWords Go.Proofs.Zw.PrintLast
def strings_IndexByte.f (a0:ByteArray) (a1:Int):Option Int:=some (Lib.indexByte a0.data.toList a1.toNat.toUInt8)
theorem strings_IndexByte.calls (a0:ByteArray) (a1:Int) (r:Int) (w:World) (h:strings_IndexByte.f a0 a1=some r) :
  Calls Tryz.prog 137 #[.string a0,.int .u8 a1] w fun e w'=>e=.returned (.int .i64 r)∧pz17 w w':=by
 unfold strings_IndexByte.f at h
 cases h
 exact (Tryz.strings_IndexByte a0 a1 w).mono fun e w' ⟨he,hw⟩=>⟨he,same_drawn hw⟩
def strings_Compare.f (a0 a1:ByteArray):Option Int:=some (Lib.compareBytes a0.data.toList a1.data.toList)
theorem strings_Compare.calls (a0 a1:ByteArray) (r:Int) (w:World) (h:strings_Compare.f a0 a1=some r) :
  Calls Tryz.prog 69 #[.string a0,.string a1] w fun e w'=>e=.returned (.int .i64 r)∧pz17 w w':=by
 unfold strings_Compare.f at h
 cases h
 exact (Tryz.strings_Compare a0 a1 w).mono fun e w' ⟨he,hw⟩=>⟨he,same_drawn hw⟩
def strings_LastIndex.f (a0 a1:ByteArray):Option Int:=if a0.size<4611686018427387904 then some (Lib.lastIndex a0.data.toList a1.data.toList) else none
theorem strings_LastIndex.calls (a0 a1:ByteArray) (r:Int) (w:World) (h:strings_LastIndex.f a0 a1=some r) :
  Calls Tryz.prog 74 #[.string a0,.string a1] w fun e w'=>e=.returned (.int .i64 r)∧pz17 w w':=by
 unfold strings_LastIndex.f at h
 split at h
 ·rename_i hs
  cases h
  exact (Tryz.strings_LastIndex a0 a1 hs w).mono fun e w' ⟨he,hw⟩=>⟨he,same_drawn hw⟩
 ·cases h
def strings_CutPrefix.f (a0 a1:ByteArray):Option (ByteArray×Bool):=some (B (Lib.trimPrefix a0.data.toList a1.data.toList),Lib.hasPrefix a0.data.toList a1.data.toList)
theorem strings_CutPrefix.calls (a0 a1:ByteArray) (r1:ByteArray) (r2:Bool) (w:World) (h:strings_CutPrefix.f a0 a1=some (r1,r2)) :
  Calls Tryz.prog 99 #[.string a0,.string a1] w fun e w'=>e=.returned (.tuple #[.string r1,.bool r2])∧pz17 w w':=by
 unfold strings_CutPrefix.f at h
 cases h
 exact (Tryz.strings_CutPrefix a0 a1 w).mono fun e w' ⟨he,hw⟩=>⟨he,same_drawn hw⟩
end Go.Proofs.Zq
end
section
namespace Go.Proofs.Zq
open Go.RowKit Go.Proofs.YtjghikkboekonaaGreatDoor Go.Sort Go.Proofs.Zw.PrintWords
def Laid (w w':World):Prop:=∃ n os,w'=grow (w.drewN n) os
theorem Laid.refl (w:World):Laid w w:=⟨0,#[],by simp [grow,World.drewN]⟩
theorem Laid.alloc {w w':World} (h:Laid w w') (o:Obj):Laid w (w'.alloc o):=by
 obtain ⟨n,os,rfl⟩:=h
 exact ⟨n,os.push o,by simp [grow,World.alloc]⟩
theorem Laid.drewN {w w':World} (h:Laid w w') (m:Nat):Laid w (w'.drewN m):=by
 obtain ⟨n,os,rfl⟩:=h
 exact ⟨n + m,os,by simp [grow,World.drewN,Nat.add_assoc]⟩
theorem Laid.drew {w w':World} (h:Laid w w'):Laid w w'.drew:=h.drewN 1
theorem Laid.trans {a b c:World} (h:Laid a b) (k:Laid b c):Laid a c:=by
 obtain ⟨n,os,rfl⟩:=h
 obtain ⟨m,os',rfl⟩:=k
 exact ⟨n + m,os ++ os',by simp [grow,World.drewN,Nat.add_assoc,Array.append_assoc]⟩
theorem Laid.drawn {w w1 w2:World} (h:Laid w w1) (hd:pz17 w1 w2):Laid w w2:=by
 obtain ⟨n,rfl⟩:=hd
 exact h.drewN n
theorem Laid.below {w w':World} (h:Laid w w'):Below w.heap.size w w':=by
 obtain ⟨n,os,rfl⟩:=h
 refine ⟨rfl,rfl,rfl,by simp [grow,World.drewN],fun k hk=>?_⟩
 show (w.heap ++ os)[k]?=_
 rw [Array.getElem?_append_left hk]
end Go.Proofs.Zq
end
section
namespace Go.Proofs.Zt
structure Paths (π:Type) where
 root:π
 par:π→π
 under:π→π→Bool
 lt:π→π→Prop
 V:π→Prop
 dep:π→Nat
 V_root:¬ V root
 par_V:∀ {q},V q→par q=root∨V (par q)
 under_iff:∀ {p q},V q→(under p q=true↔p=par q∨under p (par q)=true)
 under_root:∀ p,under p root=false
 dep_lt:∀ {q},V q→dep (par q)<dep q
 lt_irrefl:∀ a,V a→¬ lt a a
 lt_trans:∀ a b c,V a→V b→V c→lt a b→lt b c→lt a c
 lt_total:∀ a b,V a→V b→a≠b→lt a b∨lt b a
 par_lt:∀ {q},V q→par q≠root→lt (par q) q
variable {π ν:Type} (P:Paths π) (dir:ν→Bool)
namespace Paths
variable {P}
theorem ne_root {q:π} (h:P.V q):q≠P.root:=fun e=>P.V_root (e ▸ h)
theorem ind {C:π→Prop} (h:∀ q,P.V q→(P.par q≠P.root→C (P.par q))→C q):∀ q,P.V q→C q:=by
 intro q
 induction hn:P.dep q using Nat.strongRecOn generalizing q with
 | ind n ih =>
  intro hq
  refine h q hq fun hne=>?_
  rcases P.par_V hq with hr|hv
  ·exact absurd hr hne
  ·exact ih _ (by rw [← hn];exact P.dep_lt hq) _ rfl hv
theorem under_par {q:π} (h:P.V q):P.under (P.par q) q=true:=(P.under_iff h).2 (.inl rfl)
theorem under_trans {a b:π}:∀ c,P.V c→P.under a b=true→P.under b c=true→P.under a c=true:=by
 refine ind (C:=fun c=>P.under a b=true→P.under b c=true→P.under a c=true) fun c hc ih hab hbc=>?_
 rcases (P.under_iff hc).1 hbc with h|h
 ·subst h;exact (P.under_iff hc).2 (.inr hab)
 ·by_cases hr:P.par c=P.root
  ·rw [hr,P.under_root] at h;cases h
  ·exact (P.under_iff hc).2 (.inr (ih hr hab h))
theorem under_lt {p:π}:∀ q,P.V q→P.V p→P.under p q=true→P.lt p q:=by
 refine ind (C:=fun q=>P.V p→P.under p q=true→P.lt p q) fun q hq ih hp hu=>?_
 rcases (P.under_iff hq).1 hu with h|h
 ·subst h;exact P.par_lt hq (ne_root hp)
 ·by_cases hr:P.par q=P.root
  ·rw [hr,P.under_root] at h;cases h
  ·have hv:=(P.par_V hq).resolve_left hr
   exact P.lt_trans _ _ _ hp hv hq (ih hr hp h) (P.par_lt hq hr)
end Paths
def Fold (g:π→Option ν) (p:π):Prop:=p=P.root∨∃ n,g p=some n∧dir n=true
def WF (g:π→Option ν):Prop:=∀ q n,g q=some n→P.V q∧Fold P dir g (P.par q)
variable {P dir}
theorem WF.up {g:π→Option ν} (h:WF P dir g):∀ q,P.V q→∀ n,g q=some n→∀ p,P.under p q=true→Fold P dir g p:=by
 refine Paths.ind (C:=fun q=>∀ n,g q=some n→∀ p,P.under p q=true→Fold P dir g p) fun q hq ih n hn p hu=>?_
 rcases (P.under_iff hq).1 hu with e|e
 ·rw [e];exact (h q n hn).2
 ·by_cases hr:P.par q=P.root
  ·rw [hr,P.under_root] at e;cases e
  ·rcases (h q n hn).2 with h'|⟨m,hm,_⟩
   ·exact absurd h' hr
   ·exact ih hr m hm p e
structure Lay (P:Paths π) (ν:Type) where
 put:π→Option ν
 tk:π→Bool
 put_V:∀ p n,put p=some n→P.V p
 tk_down:∀ p q,P.V q→tk p=true→P.under p q=true→tk q=true
def Cov (dir:ν→Bool) (L:Lay P ν) (q:π):Prop:=∃ p n,L.put p=some n∧dir n=false∧P.under p q=true
open Classical in
noncomputable def after (dir:ν→Bool) (L:Lay P ν) (g:π→Option ν) (q:π):Option ν :=
 match L.put q with
 | some n=>some n
 | none=>if Cov dir L q∨L.tk q=true then none else g q
def Ok (dir:ν→Bool) (L:Lay P ν) (g:π→Option ν):Prop:=∀ p n,L.put p=some n→Fold P dir (after dir L g) (P.par p)
theorem after_put {L:Lay P ν} {g:π→Option ν} {q:π} {n:ν} (h:L.put q=some n):after dir L g q=some n:=by unfold after;rw [h]
theorem after_gone {L:Lay P ν} {g:π→Option ν} {q:π} (h:L.put q=none) (h2:Cov dir L q∨L.tk q=true):after dir L g q=none:=by unfold after;rw [h];simp only;rw [if_pos h2]
theorem after_same {L:Lay P ν} {g:π→Option ν} {q:π} (h:L.put q=none) (h2:¬ Cov dir L q) (h3:L.tk q=false):after dir L g q=g q:=by
 unfold after;rw [h];simp only;rw [if_neg (by rw [h3];simp [h2])]
theorem after_cases (L:Lay P ν) (g:π→Option ν) (q:π) :
  (∃ n,L.put q=some n∧after dir L g q=some n)∨(L.put q=none∧(Cov dir L q∨L.tk q=true)∧after dir L g q=none)∨(L.put q=none∧¬ Cov dir L q∧L.tk q=false∧after dir L g q=g q):=by
 cases h:L.put q with
 | some n=>exact .inl ⟨n,rfl,after_put h⟩
 | none =>
  by_cases h2:Cov dir L q∨L.tk q=true
  ·exact .inr (.inl ⟨rfl,h2,after_gone h h2⟩)
  ·have h3:L.tk q=false:=by cases e:L.tk q with|false=>rfl|true=>exact absurd (.inr e) h2
   exact .inr (.inr ⟨rfl,fun c=>h2 (.inl c),h3,after_same h (fun c=>h2 (.inl c)) h3⟩)
theorem Cov.down {L:Lay P ν} {p q:π} (hq:P.V q) (h:Cov dir L p) (hu:P.under p q=true):Cov dir L q :=
 let ⟨a,n,h1,h2,h3⟩:=h;⟨a,n,h1,h2,Paths.under_trans q hq h3 hu⟩
theorem fold_after {L:Lay P ν} {g:π→Option ν} {p q:π} (hq:P.V q) (hu:p=P.par q) (hf:Fold P dir g p) (hc:¬ Cov dir L q) (ht:L.tk q=false):Fold P dir (after dir L g) p:=by
 rcases hf with h|⟨n,hn,hd⟩
 ·exact .inl h
 ·have hup:P.under p q=true:=by rw [hu];exact Paths.under_par hq
  rcases after_cases (dir:=dir) L g p with ⟨m,h1,h2⟩|⟨h1,h2,_⟩|⟨_,_,_,h4⟩
  ·cases hm:dir m with
   | true=>exact .inr ⟨m,h2,hm⟩
   | false=>exact absurd ⟨p,m,h1,hm,hup⟩ hc
  ·rcases h2 with h2|h2
   ·exact absurd (h2.down hq hup) hc
   ·rw [L.tk_down p q hq h2 hup] at ht;cases ht
  ·exact .inr ⟨n,h4.trans hn,hd⟩
theorem after_WF {L:Lay P ν} {g:π→Option ν} (hg:WF P dir g) (hL:Ok dir L g):WF P dir (after dir L g):=by
 intro q n hn
 rcases after_cases (dir:=dir) L g q with ⟨m,h1,_⟩|⟨_,_,h3⟩|⟨_,h2,h3,h4⟩
 ·exact ⟨L.put_V _ _ h1,hL _ _ h1⟩
 ·rw [h3] at hn;cases hn
 ·rw [h4] at hn
  exact ⟨(hg q n hn).1,fold_after (hg q n hn).1 rfl (hg q n hn).2 h2 h3⟩
def Lets (dir:ν→Bool) (B:Lay P ν) (q:π):Prop:=B.put q=none∧B.tk q=false∧¬ Cov dir B q
structure Two (dir:ν→Bool) (A B T:Lay P ν):Prop where
 putB:∀ p n,B.put p=some n→T.put p=some n
 putA:∀ p n,A.put p=some n→Lets dir B p→T.put p=some n
 put:∀ p n,T.put p=some n→B.put p=some n∨A.put p=some n∧Lets dir B p
 tk:∀ q,P.V q→(T.tk q=true↔A.tk q=true∨B.tk q=true∨∃ p n m,A.put p=some n∧dir n=false∧B.put p=some m∧dir m=true∧(q=p∨P.under p q=true))
structure Makes (dir:ν→Bool) (a b:π→Option ν) (L:Lay P ν):Prop where
 put:∀ p n,L.put p=some n↔b p=some n∧a p≠some n
 tk:∀ q,P.V q→(L.tk q=true↔∃ p,(q=p∨P.under p q=true)∧a p≠none∧b p=none∧Fold P dir b (P.par p))
end Go.Proofs.Zt
end
section
namespace Go.Proofs.Zt
structure Ord {α:Type} (S:α→Prop) (r:α→α→Prop):Prop where
 irrefl:∀ a,S a→¬ r a a
 trans:∀ a b c,S a→S b→S c→r a b→r b c→r a c
theorem Ord.asymm {α:Type} {S:α→Prop} {r:α→α→Prop} (h:Ord S r) {a b:α} (ha:S a) (hb:S b) (h1:r a b):¬ r b a:=fun h2=>h.irrefl a ha (h.trans _ _ _ ha hb ha h1 h2)
theorem sorted_ext {α:Type} {S:α→Prop} {r:α→α→Prop} (hr:Ord S r):∀ {l m:List α},(∀ x ∈ l,S x)→(∀ x ∈ m,S x)→l.Pairwise r→m.Pairwise r→(∀ x,x ∈ l↔x ∈ m)→l=m:=by
 intro l
 induction l with
 | nil =>
  intro m _ _ _ _ h
  cases m with
  | nil=>rfl
  | cons y s=>exact absurd ((h y).2 List.mem_cons_self) (by simp)
 | cons x t ih =>
  intro m hl hm h1 h2 h
  cases m with
  | nil=>exact absurd ((h x).1 List.mem_cons_self) (by simp)
  | cons y s =>
   have hx:=hl x List.mem_cons_self
   have hy:=hm y List.mem_cons_self
   obtain ⟨p1,p2⟩:=List.pairwise_cons.1 h1
   obtain ⟨q1,q2⟩:=List.pairwise_cons.1 h2
   have hxy:x=y:=by
    rcases List.mem_cons.1 ((h x).1 List.mem_cons_self) with e|e
    ·exact e
    ·rcases List.mem_cons.1 ((h y).2 List.mem_cons_self) with e'|e'
     ·exact e'.symm
     ·exact absurd (q1 x e) (hr.asymm hx hy (p1 y e'))
   subst hxy
   congr 1
   refine ih (fun z hz=>hl z (List.mem_cons_of_mem _ hz)) (fun z hz=>hm z (List.mem_cons_of_mem _ hz)) p2 q2 fun z=>⟨fun hz=>?_,fun hz=>?_⟩
   ·rcases List.mem_cons.1 ((h z).1 (List.mem_cons_of_mem _ hz)) with e|e
    ·subst e;exact absurd (p1 z hz) (hr.irrefl z hx)
    ·exact e
   ·rcases List.mem_cons.1 ((h z).2 (List.mem_cons_of_mem _ hz)) with e|e
    ·subst e;exact absurd (q1 z hz) (hr.irrefl z hx)
    ·exact e
theorem strict_of_perm {α:Type} {r:α→α→Prop} {l m:List α} (hp:l.Perm m) (hs:m.Pairwise fun a b=>¬ r b a) (hd:l.Pairwise fun a b=>r a b∨r b a):m.Pairwise r:=by
 have hd':m.Pairwise fun a b=>r a b∨r b a:=(hp.pairwise_iff (fun h=>h.symm)).1 hd
 exact (hs.and hd').imp fun h=>h.2.resolve_right h.1
def ins {α:Type} (less:α→α→Bool) (c:α):List α→List α
 | []=>[c]
 | x :: r=>if less x c then x :: ins less c r else c :: x :: r
theorem mem_ins {α:Type} {less:α→α→Bool} {c:α} {l:List α} {y:α}:y ∈ ins less c l↔y=c∨y ∈ l:=by
 induction l with
 | nil=>simp [ins]
 | cons x r ih =>
  unfold ins
  split
  ·simp only [List.mem_cons,ih];exact ⟨fun h=>by rcases h with h|h|h <;> simp [h],fun h=>by rcases h with h|h|h <;> simp [h]⟩
  ·simp
theorem ins_perm {α:Type} {less:α→α→Bool} {c:α} {l:List α}:(ins less c l).Perm (c :: l):=by
 induction l with
 | nil=>exact List.Perm.refl _
 | cons x r ih =>
  unfold ins
  split
  ·exact (ih.cons x).trans (List.Perm.swap c x r)
  ·exact List.Perm.refl _
theorem ins_sorted {α:Type} {S:α→Prop} {less:α→α→Bool} (hr:Ord S fun a b=>less a b=true) {c:α} {l:List α} (hc:S c) (hS:∀ x ∈ l,S x) (ht:∀ x ∈ l,less x c=true∨less c x=true) (h:l.Pairwise fun a b=>less a b=true):(ins less c l).Pairwise fun a b=>less a b=true:=by
 induction l with
 | nil=>simp [ins]
 | cons x r ih =>
  obtain ⟨p1,p2⟩:=List.pairwise_cons.1 h
  unfold ins
  split
  ·rename_i hx
   refine List.pairwise_cons.2 ⟨fun y hy=>?_,ih (fun z hz=>hS z (List.mem_cons_of_mem _ hz)) (fun z hz=>ht z (List.mem_cons_of_mem _ hz)) p2⟩
   rcases mem_ins.1 hy with e|e
   ·rw [e];exact hx
   ·exact p1 y e
  ·rename_i hx
   have hcx:=(ht x List.mem_cons_self).resolve_left hx
   refine List.pairwise_cons.2 ⟨fun y hy=>?_,h⟩
   rcases List.mem_cons.1 hy with e|e
   ·rw [e];exact hcx
   ·exact hr.trans _ _ _ hc (hS x List.mem_cons_self) (hS y hy) hcx (p1 y e)
abbrev Str:=List UInt8
def cutM:Str→List Str
 | []=>[[]]
 | c :: r=>if c=47 then [] :: cutM r else match cutM r with
  | []=>[[c]]
  | x :: xs=>(c :: x) :: xs
def joinM:List Str→Str
 | []=>[]
 | [x]=>x
 | x :: y :: r=>x ++ 47 :: joinM (y :: r)
theorem cutM_ne (s:Str):cutM s≠[]:=by
 cases s with
 | nil=>simp [cutM]
 | cons c r =>
  unfold cutM
  split
  ·simp
  ·split <;> simp
theorem joinM_cons (x:Str) {l:List Str} (h:l≠[]):joinM (x :: l)=x ++ 47 :: joinM l:=by
 cases l with
 | nil=>exact absurd rfl h
 | cons y r=>rfl
theorem join_cut (s:Str):joinM (cutM s)=s:=by
 induction s with
 | nil=>rfl
 | cons c r ih =>
  unfold cutM
  split
  ·rename_i h
   rw [joinM_cons _ (cutM_ne r),ih,h];rfl
  ·cases e:cutM r with
   | nil=>exact absurd e (cutM_ne r)
   | cons x xs =>
    rw [e] at ih
    cases xs with
    | nil=>simp only [joinM] at *;rw [ih]
    | cons y ys=>simp only [joinM] at *;rw [← ih];rfl
theorem cutM_slash {s x:Str} (h:x ∈ cutM s):(47:UInt8) ∉ x:=by
 induction s generalizing x with
 | nil=>simp [cutM] at h;subst h;simp
 | cons c r ih =>
  unfold cutM at h
  split at h
  ·rcases List.mem_cons.1 h with rfl|h
   ·simp
   ·exact ih h
  ·rename_i hc
   split at h
   ·simp at h;subst h;simpa using fun e=>hc e.symm
   ·rename_i y ys e
    rcases List.mem_cons.1 h with rfl|h
    ·have:=@ih y (by rw [e];exact List.mem_cons_self)
     intro hm
     rcases List.mem_cons.1 hm with h1|h1
     ·exact hc h1.symm
     ·exact this h1
    ·exact ih (by rw [e];exact List.mem_cons_of_mem _ h)
theorem cut_one {x:Str} (h:(47:UInt8) ∉ x):cutM x=[x]:=by
 induction x with
 | nil=>rfl
 | cons c r ih =>
  have h1:c≠47:=fun e=>h (by rw [e];exact List.mem_cons_self)
  have h2:=ih (fun hm=>h (List.mem_cons_of_mem _ hm))
  unfold cutM
  rw [if_neg h1,h2]
theorem cut_app {x:Str} (h:(47:UInt8) ∉ x) (s:Str):cutM (x ++ 47 :: s)=x :: cutM s:=by
  induction x with
  | nil => rw [List.nil_append];conv=>lhs;unfold cutM
           rw [if_pos rfl]
  | cons c r ih =>
    have h1:c≠47:=fun e=>h (by rw [e];exact List.mem_cons_self)
    have h2:=ih (fun hm=>h (List.mem_cons_of_mem _ hm))
    rw [List.cons_append]
    conv=>lhs;unfold cutM
    rw [if_neg h1,h2]
theorem cut_join {l:List Str} (hne:l≠[]) (h:∀ x ∈ l,(47:UInt8) ∉ x):cutM (joinM l)=l:=by
 induction l with
 | nil=>exact absurd rfl hne
 | cons x r ih =>
  cases r with
  | nil=>exact cut_one (h x List.mem_cons_self)
  | cons y ys =>
   rw [joinM_cons _ (by simp),cut_app (h x List.mem_cons_self),ih (by simp) (fun z hz=>h z (List.mem_cons_of_mem _ hz))]
theorem cut_inj {a b:Str} (h:cutM a=cutM b):a=b:=by rw [← join_cut a,← join_cut b,h]
def parM (s:Str):Str:=joinM (cutM s).dropLast
def lastM (s:Str):Str:=(cutM s).getLast (cutM_ne s)
theorem join_snoc {l:List Str} (h:l≠[]) (x:Str):joinM (l ++ [x])=joinM l ++ 47 :: x:=by
 induction l with
 | nil=>exact absurd rfl h
 | cons y r ih =>
  cases r with
  | nil=>rfl
  | cons z zs=>rw [List.cons_append,joinM_cons _ (by simp),joinM_cons _ (by simp),ih (by simp)];simp
theorem lastM_slash (s:Str):(47:UInt8) ∉ lastM s:=cutM_slash (List.getLast_mem _)
theorem cut_split (s:Str):cutM s=(cutM s).dropLast ++ [lastM s]:=(List.dropLast_concat_getLast (cutM_ne s)).symm
theorem split_cases (s:Str):((cutM s).dropLast=[]∧s=lastM s∧parM s=[])∨((cutM s).dropLast≠[]∧s=parM s ++ 47 :: lastM s):=by
 by_cases h:(cutM s).dropLast=[]
 ·refine .inl ⟨h,?_,by unfold parM;rw [h];rfl⟩
  have:=cut_split s
  rw [h,List.nil_append] at this
  have:=congrArg joinM this
  rw [join_cut] at this
  exact this
 ·refine .inr ⟨h,?_⟩
  have:=congrArg joinM (cut_split s)
  rw [join_cut,join_snoc h] at this
  exact this
def underM (p q:Str):Bool:=if p=[] then !q.isEmpty else (p ++ [47]).isPrefixOf q
theorem cut_par {s:Str} (h:(cutM s).dropLast≠[]):cutM (parM s)=(cutM s).dropLast :=
 cut_join h fun x hx=>cutM_slash (List.dropLast_subset _ hx)
theorem under_nil (p:Str):underM p []=false:=by
 unfold underM
 split
 ·rfl
 ·cases p <;> simp_all
theorem under_slash {p u x:Str} (hp:p≠[]) (hx:(47:UInt8) ∉ x):underM p (u ++ 47 :: x)=true↔p=u∨underM p u=true:=by
 unfold underM
 rw [if_neg hp,if_neg hp]
 simp only [List.isPrefixOf_iff_prefix]
 constructor
 ·rintro ⟨r,h⟩
  rw [List.append_assoc,List.singleton_append] at h
  rcases List.append_eq_append_iff.1 h with ⟨a,h1,h2⟩|⟨a,h1,h2⟩
  ·
   cases a with
   | nil=>left;rw [List.append_nil] at h1;exact h1.symm
   | cons c a =>
    right
    rw [List.cons_append] at h2
    injection h2 with e1 e2
    exact ⟨a,by rw [h1,← e1];simp⟩
  ·cases a with
   | nil=>left;rw [List.append_nil] at h1;exact h1
   | cons c a =>
    exfalso
    rw [List.cons_append] at h2
    injection h2 with e1 e2
    exact hx (by rw [e2];simp)
 ·rintro (rfl|⟨r,h⟩)
  ·exact ⟨x,by simp⟩
  ·exact ⟨r ++ 47 :: x,by rw [← List.append_assoc,h]⟩
theorem under_one {p x:Str} (hp:p≠[]) (hx:(47:UInt8) ∉ x):underM p x=false:=by
 unfold underM
 rw [if_neg hp]
 cases h:(p ++ [47]).isPrefixOf x with
 | false=>rfl
 | true =>
  obtain ⟨r,hr⟩:=List.isPrefixOf_iff_prefix.1 h
  exact absurd (by rw [← hr];simp) hx
def partM (s:Str):Bool:=!s.isEmpty && !(s == [46]) && !(s == [46,46]) && !s.contains 0
def markM:Str:=[46,119,104,46]
def opqM:Str:=[46,119,104,46,46,119,104,46,46,111,112,113]
def markedM (s:Str):Bool:=markM.isPrefixOf s
def isM (s:Str):Bool :=
 (cutM s).all partM && (cutM s).dropLast.all (fun x=>decide (x.length≤251)) && decide ((lastM s).length≤if markedM (lastM s) then 255 else 251) && decide (s.length≤if markedM (lastM s) then 4096 else 4092)
structure Is (s:Str):Prop where
 part:∀ x ∈ cutM s,partM x=true
 short:∀ x ∈ (cutM s).dropLast,x.length≤251
 last:(lastM s).length≤if markedM (lastM s) then 255 else 251
 all:s.length≤if markedM (lastM s) then 4096 else 4092
theorem isM_iff {s:Str}:isM s=true↔Is s:=by
 unfold isM
 simp only [Bool.and_eq_true,List.all_eq_true,decide_eq_true_eq]
 exact ⟨fun ⟨⟨⟨a,b⟩,c⟩,d⟩=>⟨a,b,c,d⟩,fun ⟨a,b,c,d⟩=>⟨⟨⟨a,b⟩,c⟩,d⟩⟩
theorem part_ne {x:Str} (h:partM x=true):x≠[]:=by rintro rfl;cases h
theorem not_is_nil:isM []=false:=by decide
theorem is_ne {s:Str} (h:isM s=true):s≠[]:=by rintro rfl;rw [not_is_nil] at h;cases h
theorem lastM_mem (s:Str):lastM s ∈ cutM s:=List.getLast_mem _
theorem marked_len {x:Str} (h:markedM x=true):4≤x.length:=by
 unfold markedM at h
 obtain ⟨r,hr⟩:=List.isPrefixOf_iff_prefix.1 h
 rw [← hr];simp [markM]
theorem par_length {s:Str} (h:(cutM s).dropLast≠[]):(parM s).length + 1 + (lastM s).length=s.length:=by
 rcases split_cases s with ⟨h',_⟩|⟨_,e⟩
 ·exact absurd h' h
 ·have:=congrArg List.length e
  simp at this
  omega
theorem last_par {s:Str} (h:(cutM s).dropLast≠[]):lastM (parM s) ∈ (cutM s).dropLast:=by
 have:=lastM_mem (parM s)
 rwa [cut_par h] at this
theorem is_par {s:Str} (h:isM s=true):parM s=[]∨isM (parM s)=true:=by
 by_cases hd:(cutM s).dropLast=[]
 ·left;unfold parM;rw [hd];rfl
 ·right
  obtain ⟨h1,h2,h3,h4⟩:=isM_iff.1 h
  have hl:=par_length hd
  have hlast:=h2 _ (last_par hd)
  refine isM_iff.2 ⟨fun x hx=>?_,fun x hx=>?_,?_,?_⟩
  ·rw [cut_par hd] at hx;exact h1 x (List.dropLast_subset _ hx)
  ·rw [cut_par hd] at hx;exact h2 x (List.dropLast_subset _ hx)
  ·split <;> omega
  ·have:s.length≤4096:=by revert h4;split <;> omega
   have hne:1≤(lastM s).length:=by
    have:=part_ne (h1 _ (lastM_mem s))
    cases e:lastM s with
    | nil=>exact absurd e this
    | cons _ _=>simp
   have h5:(parM s).length≤4092:=by
    cases em:markedM (lastM s) with
    | true=>have:=marked_len em;omega
    | false=>rw [em] at h4;simp at h4;omega
   split <;> omega
theorem par_lt_len {s:Str} (h:isM s=true):(parM s).length<s.length:=by
 rcases split_cases s with ⟨hd,e,hp⟩|⟨hd,e⟩
 ·rw [hp];exact List.length_pos_iff.2 (is_ne h)
 ·have:=par_length hd;omega
theorem under_iffM {p q:Str} (h:isM q=true):underM p q=true↔p=parM q∨underM p (parM q)=true:=by
 by_cases hp:p=[]
 ·subst hp
  have hq:=is_ne h
  have e1:underM [] q=true:=by unfold underM;rw [if_pos rfl];cases q <;> simp_all
  rw [e1]
  simp only [true_iff]
  cases e:parM q with
  | nil=>exact .inl rfl
  | cons c r=>right;unfold underM;rw [if_pos rfl];rfl
 ·rcases split_cases q with ⟨hd,e,hpar⟩|⟨hd,e⟩
  ·rw [hpar,under_nil,e,under_one hp (lastM_slash q)]
   simp [hp]
  ·conv=>lhs;rw [e]
   exact under_slash hp (lastM_slash q)
def cmpS:Str→Str→Int
 | [],[]=>0
 | [],_ :: _ => -1
 | _ :: _,[]=>1
 | a :: r,b :: s=>if a<b then -1 else if b<a then 1 else cmpS r s
theorem cmpS_refl (a:Str):cmpS a a=0:=by
 induction a with
 | nil=>rfl
 | cons c r ih=>unfold cmpS;rw [if_neg (UInt8.lt_irrefl c),if_neg (UInt8.lt_irrefl c),ih]
theorem cmpS_anti (a b:Str):cmpS b a = - cmpS a b:=by
 induction a generalizing b with
 | nil=>cases b <;> rfl
 | cons c r ih =>
  cases b with
  | nil=>rfl
  | cons d s =>
   unfold cmpS
   by_cases h:c<d
   ·rw [if_pos h,if_neg (UInt8.lt_asymm h),if_pos h];rfl
   ·rw [if_neg h,if_neg h]
    by_cases h2:d<c
    ·rw [if_pos h2,if_pos h2]
    ·rw [if_neg h2,if_neg h2];exact ih s
theorem cmpS_eq {a b:Str} (h:cmpS a b=0):a=b:=by
 induction a generalizing b with
 | nil=>cases b with
  | nil=>rfl
  | cons _ _=>simp [cmpS] at h
 | cons c r ih =>
  cases b with
  | nil=>simp [cmpS] at h
  | cons d s =>
   unfold cmpS at h
   by_cases h1:c<d
   ·rw [if_pos h1] at h;cases h
   ·rw [if_neg h1] at h
    by_cases h2:d<c
    ·rw [if_pos h2] at h;cases h
    ·rw [if_neg h2] at h
     have:c=d:=UInt8.le_antisymm (UInt8.not_lt.1 h2) (UInt8.not_lt.1 h1)
     rw [this,ih h]
theorem cmpS_trans {a b c:Str} (h1:cmpS a b<0) (h2:cmpS b c<0):cmpS a c<0:=by
 induction a generalizing b c with
 | nil =>
  cases c with
  | nil=>cases b <;> simp [cmpS] at h1 h2
  | cons _ _=>simp [cmpS]
 | cons x r ih =>
  cases b with
  | nil=>simp [cmpS] at h1
  | cons y s =>
   cases c with
   | nil=>simp [cmpS] at h2
   | cons z t =>
    simp only [cmpS] at *
    by_cases hxy:x<y
    ·by_cases hyz:y<z
     ·rw [if_pos (UInt8.lt_trans hxy hyz)];decide
     ·rw [if_neg hyz] at h2
      by_cases hzy:z<y
      ·rw [if_pos hzy] at h2;simp at h2
      ·have:y=z:=UInt8.le_antisymm (UInt8.not_lt.1 hzy) (UInt8.not_lt.1 hyz)
       subst this;rw [if_pos hxy];decide
    ·rw [if_neg hxy] at h1
     by_cases hyx:y<x
     ·rw [if_pos hyx] at h1;simp at h1
     ·rw [if_neg hyx] at h1
      have:x=y:=UInt8.le_antisymm (UInt8.not_lt.1 hyx) (UInt8.not_lt.1 hxy)
      subst this
      by_cases hyz:x<z
      ·rw [if_pos hyz];decide
      ·rw [if_neg hyz] at h2 ⊢
       by_cases hzy:z<x
       ·rw [if_pos hzy] at h2;simp at h2
       ·rw [if_neg hzy] at h2 ⊢
        exact ih h1 h2
def cmpL:List Str→List Str→Int
 | [],[]=>0
 | [],_ :: _ => -1
 | _ :: _,[]=>1
 | a :: r,b :: s=>if cmpS a b<0 then -1 else if cmpS b a<0 then 1 else cmpL r s
theorem cmpL_refl (a:List Str):cmpL a a=0:=by
 induction a with
 | nil=>rfl
 | cons c r ih=>unfold cmpL;rw [cmpS_refl,if_neg (by decide),if_neg (by decide),ih]
theorem cmpL_anti (a b:List Str):cmpL b a = - cmpL a b:=by
 induction a generalizing b with
 | nil=>cases b <;> rfl
 | cons c r ih =>
  cases b with
  | nil=>rfl
  | cons d s =>
   unfold cmpL
   have:=cmpS_anti c d
   by_cases h:cmpS c d<0
   ·rw [if_pos h,if_neg (by omega),if_pos h];rfl
   ·rw [if_neg h,if_neg h]
    by_cases h2:cmpS d c<0
    ·rw [if_pos h2,if_pos h2]
    ·rw [if_neg h2,if_neg h2];exact ih s
theorem cmpL_eq {a b:List Str} (h:cmpL a b=0):a=b:=by
 induction a generalizing b with
 | nil=>cases b with
  | nil=>rfl
  | cons _ _=>simp [cmpL] at h
 | cons c r ih =>
  cases b with
  | nil=>simp [cmpL] at h
  | cons d s =>
   unfold cmpL at h
   have ha:=cmpS_anti c d
   by_cases h1:cmpS c d<0
   ·rw [if_pos h1] at h;cases h
   ·rw [if_neg h1] at h
    by_cases h2:cmpS d c<0
    ·rw [if_pos h2] at h;cases h
    ·rw [if_neg h2] at h
     have:c=d:=cmpS_eq (by omega)
     rw [this,ih h]
theorem cmpL_trans {a b c:List Str} (h1:cmpL a b<0) (h2:cmpL b c<0):cmpL a c<0:=by
 induction a generalizing b c with
 | nil =>
  cases c with
  | nil=>cases b <;> simp [cmpL] at h1 h2
  | cons _ _=>simp [cmpL]
 | cons x r ih =>
  cases b with
  | nil=>simp [cmpL] at h1
  | cons y s =>
   cases c with
   | nil=>simp [cmpL] at h2
   | cons z t =>
    simp only [cmpL] at *
    have a1:=cmpS_anti x y
    have a2:=cmpS_anti y z
    by_cases hxy:cmpS x y<0
    ·by_cases hyz:cmpS y z<0
     ·rw [if_pos (cmpS_trans hxy hyz)];decide
     ·rw [if_neg hyz] at h2
      by_cases hzy:cmpS z y<0
      ·rw [if_pos hzy] at h2;simp at h2
      ·have:y=z:=cmpS_eq (by omega)
       subst this;rw [if_pos hxy];decide
    ·rw [if_neg hxy] at h1
     by_cases hyx:cmpS y x<0
     ·rw [if_pos hyx] at h1;simp at h1
     ·rw [if_neg hyx] at h1
      have:x=y:=cmpS_eq (by omega)
      subst this
      by_cases hyz:cmpS x z<0
      ·rw [if_pos hyz];decide
      ·rw [if_neg hyz] at h2 ⊢
       by_cases hzy:cmpS z x<0
       ·rw [if_pos hzy] at h2;simp at h2
       ·rw [if_neg hzy] at h2 ⊢
        exact ih h1 h2
theorem cmpL_prefix (a:List Str) {b:List Str} (h:b≠[]):cmpL a (a ++ b)<0:=by
 induction a with
 | nil=>cases b with
  | nil=>exact absurd rfl h
  | cons _ _=>simp [cmpL]
 | cons c r ih=>rw [List.cons_append];unfold cmpL;rw [cmpS_refl,if_neg (by decide),if_neg (by decide)];exact ih
def partsM (s:Str):List Str:=if s=[] then [] else cutM s
def cmpM (a b:Str):Int:=cmpL (partsM a) (partsM b)
theorem parts_inj {a b:Str} (h:partsM a=partsM b):a=b:=by
 unfold partsM at h
 by_cases ha:a=[] <;> by_cases hb:b=[]
 ·rw [ha,hb]
 ·rw [if_pos ha,if_neg hb] at h;exact absurd h.symm (cutM_ne b)
 ·rw [if_neg ha,if_pos hb] at h;exact absurd h (cutM_ne a)
 ·rw [if_neg ha,if_neg hb] at h;exact cut_inj h
theorem cmpM_refl (a:Str):cmpM a a=0:=cmpL_refl _
theorem cmpM_anti (a b:Str):cmpM b a = - cmpM a b:=cmpL_anti _ _
theorem cmpM_eq {a b:Str} (h:cmpM a b=0):a=b:=parts_inj (cmpL_eq h)
theorem cmpM_trans {a b c:Str} (h1:cmpM a b<0) (h2:cmpM b c<0):cmpM a c<0:=cmpL_trans h1 h2
theorem par_cmp {s:Str} (h:isM s=true):cmpM (parM s) s<0:=by
 unfold cmpM
 have hs:partsM s=cutM s:=by unfold partsM;rw [if_neg (is_ne h)]
 rw [hs,cut_split s]
 have:partsM (parM s)=(cutM s).dropLast:=by
  by_cases hd:(cutM s).dropLast=[]
  ·have:parM s=[]:=by unfold parM;rw [hd];rfl
   rw [this,hd];rfl
  ·unfold partsM
   rcases is_par h with e|e
   ·exfalso
    have:=cut_par hd
    rw [e] at this
    have hm:([]:Str) ∈ (cutM s).dropLast:=by rw [← this];simp [cutM]
    exact part_ne ((isM_iff.1 h).part _ (List.dropLast_subset _ hm)) rfl
   ·rw [if_neg (is_ne e),cut_par hd]
 rw [this]
 exact cmpL_prefix _ (by simp)
def PS:Paths Str where
 root:=[]
 par:=parM
 under:=underM
 lt a b:=cmpM a b<0
 V s:=isM s=true
 dep:=List.length
 V_root:=by rw [not_is_nil];simp
 par_V:=is_par
 under_iff:=under_iffM
 under_root:=under_nil
 dep_lt:=par_lt_len
 lt_irrefl a _:=by rw [cmpM_refl];decide
 lt_trans _ _ _ _ _ _:=cmpM_trans
 lt_total a b _ _ hne:=by
  have:=cmpM_anti a b
  by_cases h:cmpM a b<0
  ·exact .inl h
  ·by_cases h2:cmpM b a<0
   ·exact .inr h2
   ·exact absurd (cmpM_eq (by omega)) hne
 par_lt h _:=par_cmp h
end Go.Proofs.Zt
end
section
namespace Go.Proofs.Zq
open Go.RowKit Go.Proofs.Zw.PrintWords Go.Proofs.Zw.PrintLast Go.Proofs.Zw.PrintMore
open Go.Proofs.YtjghikkboekonaaGreatDoor (GL)
attribute [local go_sem] max2_int min2_int max_two min_two pz35 pz36 max_four min_four
def cmp_Or_int.l0:Nat→Int→List Int→Int→Int→Option (Int)
 | 0,_,_,_,_=>none
 | k + 1,x3,x6,x7,x8=>if x8<x7 then (if 0≤x8 then (if x8<(x6.length:Int) then (if (rd x6 x8)=x3 then (cmp_Or_int.l0 k x3 x6 x7 (wrap64 (x8 + 1))) else (some (rd x6 x8))) else (none)) else (none)) else (some x3)
def cmp_Or_int.f (k:Nat) (l0:List Int):Option (Int):=cmp_Or_int.l0 k 0 l0 (l0.length:Int) 0
set_option maxHeartbeats 8000000 in
set_option maxRecDepth 100000 in
theorem cmp_Or_int.calls (k:Nat) (A0:Option Addr) (c0:Nat) (l0:List Int) (r:Int) (w:World) (hr0:Kd.C (Kd.int .i64) w A0 l0.length l0) (hc0:l0.length≤c0) (h:cmp_Or_int.f k l0=some r) :
  Calls Tryz.prog 72 #[.slice A0 l0.length c0] w fun e w'=>e=.returned (.int .i64 r)∧pz17 w w':=by
 have HR0:=pz4.mk hr0
 have HC0:=pz4.mk hc0
 clear hr0 hc0
 have H:(cmp_Or_int.l0 k 0 l0 (l0.length:Int) 0)=some r:=h
 clear h
 have H':=pz4.mk H
 clear H
 go_enter Tryz.func72,Tryz.ntmps72
 go_wp2
 go_loopg [8] k (fun kq v8 w'=>∃ (x8_1:Int),v8=.int .i64 x8_1∧pz4 (cmp_Or_int.l0 kq 0 l0 (l0.length:Int) x8_1=some r)∧pz4 (kq≤k)∧pz17 w w')
 case atStart=>exact ⟨(0),(by first|rfl|(simp;done)|(simp [*];done)),H',⟨Nat.le_refl _⟩,by repeat (first|exact pz17.refl _|apply pz17.step)⟩
 case round =>
  clear H'
  obtain ⟨x8_1,rfl,HA,HK1,⟨m1,rfl⟩⟩:=hrel
  cases gk with
  | zero=>exact absurd HA.out (by simp [cmp_Or_int.l0])
  | succ k1 =>
   have H:=HA.out
   clear HA
   simp only [cmp_Or_int.l0] at H
   by_cases c2:x8_1<(l0.length:Int)
   ·rw [if_pos c2] at H
    have c2b0:decide (x8_1<(l0.length:Int))=true:=decide_eq_true c2
    clear c2
    by_cases c3:0≤x8_1
    ·rw [if_pos c3] at H
     have c3b0:decide (0≤x8_1)=true:=decide_eq_true c3
     clear c3
     by_cases c4:x8_1<(l0.length:Int)
     ·rw [if_pos c4] at H
      have c4b0:decide (x8_1<(l0.length:Int))=true:=decide_eq_true c4
      clear c4
      by_cases c5:(rd l0 x8_1)=0
      ·rw [if_pos c5] at H
       have c5b0:((rd l0 x8_1) == 0)=true:=beq_iff_eq.mpr c5
       have c5b1:((rd l0 x8_1) != 0)=false:=bne_eq_false_iff_eq.mpr c5
       clear c5
       have H':=pz4.mk H
       clear H
       have p287:0≤(x8_1:Int):=of_decide_eq_true (by first|(with_reducible assumption)|assumption)
       have q287:x8_1<(l0.length:Int):=of_decide_eq_true (by first|(with_reducible assumption)|assumption)
       obtain ⟨ad287,e287,hx287_0⟩:=Kd.at_int HR0.out x8_1 p287 q287
       cases e287
       replace p287:=eq_true p287
       replace q287:=eq_true q287
       go_wp2
       go_roundg k1
       case measure=>have:=HK1.out;omega
       case rel=>exact ⟨(wrap64 (x8_1 + 1)),(by first|rfl|(simp;done)|(simp [*];done)),H',⟨by have:=HK1.out;omega⟩,by repeat (first|exact pz17.refl _|apply pz17.step)⟩
      ·rw [if_neg c5] at H
       have c5b0:((rd l0 x8_1) == 0)=false:=beq_eq_false_iff_ne.mpr c5
       have c5b1:((rd l0 x8_1) != 0)=true:=bne_iff_ne.mpr c5
       obtain rfl:=Option.some.inj H
       have p287:0≤(x8_1:Int):=of_decide_eq_true (by first|(with_reducible assumption)|assumption)
       have q287:x8_1<(l0.length:Int):=of_decide_eq_true (by first|(with_reducible assumption)|assumption)
       obtain ⟨ad287,e287,hx287_0⟩:=Kd.at_int HR0.out x8_1 p287 q287
       cases e287
       replace p287:=eq_true p287
       replace q287:=eq_true q287
       go_wp2
       go_ret
       exact ⟨by first|rfl|(simp;done)|(simp [*];done),by repeat (first|exact pz17.refl _|apply pz17.step)⟩
     ·rw [if_neg c4] at H
      exact absurd H (by simp)
    ·rw [if_neg c3] at H
     exact absurd H (by simp)
   ·rw [if_neg c2] at H
    have c2b0:decide (x8_1<(l0.length:Int))=false:=decide_eq_false c2
    clear c2
    obtain rfl:=Option.some.inj H
    go_wp2
    go_ret
    exact ⟨by first|rfl|(simp;done)|(simp [*];done),by repeat (first|exact pz17.refl _|apply pz17.step)⟩
end Go.Proofs.Zq
end
section
namespace Go.Proofs.Zq
open Go.RowKit Go.Proofs.YtjghikkboekonaaGreatDoor Go.Proofs.Zw.PrintWords Go.Proofs.Zw.PrintLast
theorem cmpS_lib:∀ a b:Str,Lib.compareBytes a b=Zt.cmpS a b
 | [],[]=>rfl
 | [],_ :: _=>rfl
 | _ :: _,[]=>rfl
 | a :: r,b :: s=>by simp only [Lib.compareBytes,Zt.cmpS,cmpS_lib r s]
theorem cut1_parts (s:Str):((cut1 47 s).2.2=true∧Zt.cutM s=(cut1 47 s).1 :: Zt.cutM (cut1 47 s).2.1)∨((cut1 47 s).2.2=false∧Zt.cutM s=[(cut1 47 s).1]∧(cut1 47 s).1=s):=by
 induction s with
 | nil=>exact .inr ⟨rfl,rfl,rfl⟩
 | cons c r ih =>
  unfold cut1
  by_cases h:c=47
  ·subst h
   left
   simp [Zt.cutM]
  ·have h':(c == 47)=false:=by simpa using h
   rw [h']
   simp only [Bool.false_eq_true,if_false]
   rcases ih with ⟨i1,i2⟩|⟨i1,i2,i3⟩
   ·left
    refine ⟨i1,?_⟩
    conv=>lhs;unfold Zt.cutM
    rw [if_neg h,i2]
   ·right
    refine ⟨i1,?_,by rw [i3]⟩
    conv=>lhs;unfold Zt.cutM
    rw [if_neg h,i2]
theorem count_parts (s:Str):s.count 47 + 1=(Zt.cutM s).length:=by
 induction s with
 | nil=>rfl
 | cons c r ih =>
  unfold Zt.cutM
  by_cases h:c=47
  ·subst h
   rw [if_pos rfl,List.count_cons_self,List.length_cons,ih]
  ·rw [if_neg h,List.count_cons_of_ne (fun e=>h (by simpa using e))]
   cases e:Zt.cutM r with
   | nil=>exact absurd e (Zt.cutM_ne r)
   | cons x xs=>rw [e] at ih;exact ih
theorem cmpS_vals (a b:Str):Zt.cmpS a b = -1∨Zt.cmpS a b=0∨Zt.cmpS a b=1:=by
 induction a generalizing b with
 | nil=>cases b <;> simp [Zt.cmpS]
 | cons c r ih =>
  cases b with
  | nil=>simp [Zt.cmpS]
  | cons d s=>unfold Zt.cmpS;split <;> (try split) <;> first|exact .inl rfl|exact .inr (.inr rfl)|exact ih s
theorem cmpL_short (p q:Str) (xs ys:List Str) (h:xs=[]∨ys=[]):Zt.cmpL (p :: xs) (q :: ys)=if Zt.cmpS p q=0 then Lib.compareInt xs.length ys.length else Zt.cmpS p q:=by
 have ha:=Zt.cmpS_anti p q
 unfold Zt.cmpL Lib.compareInt
 rcases cmpS_vals p q with e|e|e
 ·rw [e];simp
 ·rw [e] at ha ⊢
  rw [ha]
  simp only [Int.lt_irrefl,if_false,Int.neg_zero,if_true]
  rcases h with rfl|rfl
  ·cases ys with
   | nil=>simp [Zt.cmpL]
   | cons y r=>simp [Zt.cmpL]
  ·cases xs with
   | nil=>simp [Zt.cmpL]
   | cons y r=>simp [Zt.cmpL];omega
 ·rw [e] at ha ⊢
  rw [ha]
  simp
theorem cmpL_ne (p q:Str) (xs ys:List Str) (h:Zt.cmpS p q≠0):Zt.cmpL (p :: xs) (q :: ys)=Zt.cmpS p q:=by
 have ha:=Zt.cmpS_anti p q
 unfold Zt.cmpL
 rcases cmpS_vals p q with e|e|e
 ·rw [e];simp
 ·exact absurd e h
 ·rw [e] at ha ⊢
  rw [ha];simp
theorem cut1_head {s p r:Str} {m:Bool} (h:(m=true∧Zt.cutM s=p :: Zt.cutM r)∨(m=false∧Zt.cutM s=[p]∧p=s)):∃ xs,Zt.cutM s=p :: xs:=by
 rcases h with ⟨_,h⟩|⟨_,h,_⟩
 ·exact ⟨_,h⟩
 ·exact ⟨_,h⟩
theorem cmpL_on (p:Str) (xs ys:List Str):Zt.cmpL (p :: xs) (p :: ys)=Zt.cmpL xs ys:=by
 conv=>lhs;unfold Zt.cmpL
 rw [Zt.cmpS_refl,if_neg (by decide),if_neg (by decide)]
theorem cmpM_nil (y:Str):Zt.cmpM [] y=Lib.compareInt 0 (y.length:Nat):=by
 unfold Zt.cmpM Zt.partsM Lib.compareInt
 cases y with
 | nil=>rfl
 | cons c r =>
  rw [if_pos rfl,if_neg (by simp)]
  cases e:Zt.cutM (c :: r) with
  | nil=>exact absurd e (Zt.cutM_ne _)
  | cons x xs=>simp [Zt.cmpL]
theorem cmpM_nil' (y:Str):Zt.cmpM y []=Lib.compareInt (y.length:Nat) 0:=by
 unfold Zt.cmpM Zt.partsM Lib.compareInt
 cases y with
 | nil=>rfl
 | cons c r =>
  rw [if_pos rfl,if_neg (by simp)]
  cases e:Zt.cutM (c :: r) with
  | nil=>exact absurd e (Zt.cutM_ne _)
  | cons x xs=>simp [Zt.cmpL];omega
theorem cmpM_cons {x y:Str} (hx:x≠[]) (hy:y≠[]):Zt.cmpM x y=Zt.cmpL (Zt.cutM x) (Zt.cutM y):=by
 unfold Zt.cmpM Zt.partsM;rw [if_neg hx,if_neg hy]
theorem ints_new (w:World) (x y:Int) {T:TypeId} {fr:Nat×Nat}:Kd.C (Kd.int .i64) (w.alloc (.cells #[.int .i64 x,.int .i64 y] T fr)) (some ⟨w.heap.size,0,none⟩) 2 [x,y]:=by
 refine C_of_row (d:=Kd.int .i64) (enc:=fun z:Int=>[Value.int .i64 z]) (f:=id) (fun w x=>rfl) ?_ (by simp)
 rw [List.map_id]
 intro i z hz
 refine ⟨_,_,rfl,fun j u hu=>?_⟩
 have hj:j=0:=by
  cases j with
  | zero=>rfl
  | succ j=>simp at hu
 subst hj
 simp only [List.getElem?_cons_zero,Option.some.injEq] at hu
 subst hu
 show World.cell? _ ⟨w.heap.size,0 + i * 1 + 0,none⟩=_
 refine YtjghikkboekonaaGreatDoor.cell_new _ _ _ _ ?_
 match i,hz with
 | 0,hz=>simp at hz;subst hz;rfl
 | 1,hz=>simp at hz;subst hz;rfl
 | n + 2,hz=>simp at hz
theorem no_two {x y p q:Str} {ra rb:Str} (h1:Zt.cutM x=p :: Zt.cutM ra) (h2:Zt.cutM y=q :: Zt.cutM rb) (h:x=[]∨y=[]):False:=by
 rcases h with rfl|rfl
 ·have:=congrArg List.length h1
  have h3:=Zt.cutM_ne ra
  cases e:Zt.cutM ra with
  | nil=>exact h3 e
  | cons _ _=>rw [e] at this;simp [Zt.cutM] at this
 ·have:=congrArg List.length h2
  have h3:=Zt.cutM_ne rb
  cases e:Zt.cutM rb with
  | nil=>exact h3 e
  | cons _ _=>rw [e] at this;simp [Zt.cutM] at this
theorem or_two (x y:Int):cmp_Or_int.f 3 [x,y]=some (if x=0 then y else x):=by
 unfold cmp_Or_int.f
 simp only [cmp_Or_int.l0]
 have w1:wrap64 1=1:=by unfold wrap64;rfl
 have w2:wrap64 2=2:=by unfold wrap64;rfl
 by_cases h:x=0
 ·subst h
  by_cases h2:y=0
  ·subst h2;simp [rd,w1,w2]
  ·simp [rd,w1,w2,h2]
 ·simp [rd,h]
theorem cut1L_calls (w:World) (hg:GL w) (s:Str) (c:UInt8) (hs:s.length≤1000000000) :
  Calls Tryz.prog 68 #[S s,.string ⟨#[c]⟩] w fun e w'=>e=.returned (.tuple #[S (cut1 c s).1,S (cut1 c s).2.1,.bool (cut1 c s).2.2])∧pz17 w w':=by
 obtain ⟨m,hm⟩:=hg.max
 refine (Tryz.strings_Cut ⟨s.toArray⟩ ⟨#[c]⟩ m w (by rw [Lib.size_eq];simp;omega) hm).mono fun e w' ⟨he,n,hw⟩=>?_
 simp only [cut_one] at he
 exact ⟨he,⟨n,hw⟩⟩
theorem ret_i64' {a b:Int} (h:a=b):Ending.returned (.int .i64 a)=.returned (.int .i64 b):=by rw [h]
set_option maxHeartbeats 1000000 in
set_option maxRecDepth 100000 in
theorem compareL_calls (w:World) (hG:GL w) (a b:Str) (ha:a.length≤1000000000) (hb:b.length≤1000000000) :
  Calls Tryz.prog 37 #[S a,S b] w fun e w'=>e=.returned (.int .i64 (Zt.cmpM a b))∧Laid w w':=by
 have HA:=pH ha
 have HBL:=pH hb
 clear ha hb
 go_enter Tryz.func37,Tryz.ntmps37
 go_wp2
 go_loopg [0,1] (a.length + 1) (fun g v0 v1 wr=>∃ x y:Str,v0=S x∧v1=S y∧x.length<g∧Hid (x.length≤1000000000∧y.length≤1000000000)∧Hid (Zt.cmpM a b=Zt.cmpM x y)∧Hid (Laid w wr))
 case atStart=>exact ⟨a,b,rfl,rfl,Nat.lt_succ_self _,⟨HA.out,HBL.out⟩,rfl,Laid.refl _⟩
 case round =>
  obtain ⟨x,y,rfl,rfl,hxg,HL,HC,HB⟩:=hrel
  cases x with
  | nil =>
   go_wp2_with fail
   refine (Tryz.cmp_Compare_int _ _ _).mono ?_
   rintro e w1 ⟨rfl,rfl⟩
   go_wp2
   go_ret
   exact ⟨ret_i64' (by rw [HC.out,cmpM_nil]),HB.out⟩
  | cons xc xr =>
   cases y with
   | nil =>
    go_wp2_with fail
    refine (Tryz.cmp_Compare_int _ _ _).mono ?_
    rintro e w1 ⟨rfl,rfl⟩
    go_wp2
    go_ret
    exact ⟨ret_i64' (by rw [HC.out,cmpM_nil'];simp),HB.out⟩
   | cons yc yr =>
    have HC1:Hid (Zt.cmpM a b=Zt.cmpL (Zt.cutM (xc :: xr)) (Zt.cutM (yc :: yr))):=pH (HC.out.trans (cmpM_cons (by simp) (by simp)))
    have HX:=pH (cut1_parts (xc :: xr))
    have HY:=pH (cut1_parts (yc :: yr))
    have HXC:=pH (count_parts (xc :: xr))
    have HYC:=pH (count_parts (yc :: yr))
    have HLX:=pH (cut1_len2 47 (xc :: xr))
    have HLY:=pH (cut1_len2 47 (yc :: yr))
    go_wp2_with fail
    refine (cut1L_calls _ (hG.ext HB.out.below) (xc :: xr) 47 HL.out.1).mono ?_
    rintro e w1 ⟨rfl,hb1⟩
    have HB1:Hid (Laid w w1):=pH (HB.out.drawn hb1)
    clear hb1
    generalize cut1 47 (xc :: xr)=q at HX HLX
    obtain ⟨p,ra,ma⟩:=q
    dsimp only at HX HLX
    go_wp2_with fail
    refine (cut1L_calls _ (hG.ext HB1.out.below) (yc :: yr) 47 HL.out.2).mono ?_
    rintro e w2 ⟨rfl,hb1⟩
    have HB2:Hid (Laid w w2):=pH (HB1.out.drawn hb1)
    clear hb1
    generalize cut1 47 (yc :: yr)=q at HY HLY
    obtain ⟨q,rb,mb⟩:=q
    dsimp only at HY HLY
    go_wp2_with fail
    refine (Tryz.strings_Compare _ _ _).mono ?_
    rintro e w3 ⟨rfl,rfl⟩
    have HV:=pH (cmpS_vals p q)
    have HE:=pH (cmpS_lib p q)
    change Hid (Lib.compareBytes (⟨p.toArray⟩:ByteArray).data.toList (⟨q.toArray⟩:ByteArray).data.toList=_) at HE
    generalize Lib.compareBytes (⟨p.toArray⟩:ByteArray).data.toList (⟨q.toArray⟩:ByteArray).data.toList=c at HE
    by_cases hc:c=0
    ·subst hc
     have HPQ:Hid (p=q):=pH (Zt.cmpS_eq HE.out.symm)
     have hm:(ma=true∧mb=true)∨(ma=false∨mb=false):=by cases ma <;> cases mb <;> simp
     rcases hm with ⟨rfl,rfl⟩|hm
     ·have HC2:Hid (Zt.cmpM a b=Zt.cmpL (Zt.cutM ra) (Zt.cutM rb)):=pH (by
       rcases HX.out with ⟨_,h1⟩|⟨h1,_⟩
       ·rcases HY.out with ⟨_,h2⟩|⟨h2,_⟩
        ·rw [HC1.out,h1,h2,HPQ.out,cmpL_on]
        ·cases h2
       ·cases h1)
      have HLX2:Hid (ra.length<(xc :: xr).length):=pH (by
       rcases HX.out with ⟨_,h1⟩|⟨h1,_⟩
       ·have:=congrArg List.length (congrArg Zt.joinM h1)
        rw [Zt.join_cut,Zt.joinM_cons _ (Zt.cutM_ne _),Zt.join_cut] at this
        simp at this ⊢
        omega
       ·cases h1)
      have HRA:=pH (cut1_parts ra)
      have HRB:=pH (cut1_parts rb)
      have HRAC:=pH (count_parts ra)
      have HRBC:=pH (count_parts rb)
      have HLA:Hid (ra.length≤1000000000):=pH (by have:=HLX2.out;have:=HL.out;omega)
      have HLB:Hid (rb.length≤1000000000):=pH (by have:=HLY.out;have:=HL.out;omega)
      cases ra with
      | nil =>
       go_wp2_with fail
       refine (cut1L_calls _ (hG.ext HB2.out.below) ([]:Str) 47 HLA.out).mono ?_
       rintro e w4 ⟨rfl,hb1⟩
       have HB4:Hid (Laid w w4):=pH (HB2.out.drawn hb1)
       clear hb1
       generalize cut1 47 ([]:Str)=q at HRA
       obtain ⟨p2,ra2,ma2⟩:=q
       dsimp only at HRA
       go_wp2_with fail
       refine (cut1L_calls _ (hG.ext HB4.out.below) rb 47 HLB.out).mono ?_
       rintro e w5 ⟨rfl,hb1⟩
       have HB5:Hid (Laid w w5):=pH (HB4.out.drawn hb1)
       clear hb1
       generalize cut1 47 rb=q at HRB
       obtain ⟨q2,rb2,mb2⟩:=q
       dsimp only at HRB
       go_wp2_with fail
       refine (Tryz.strings_Compare _ _ _).mono ?_
       rintro e w6 ⟨rfl,rfl⟩
       have HV2:=pH (cmpS_vals p2 q2)
       have HE2:=pH (cmpS_lib p2 q2)
       change Hid (Lib.compareBytes (⟨p2.toArray⟩:ByteArray).data.toList (⟨q2.toArray⟩:ByteArray).data.toList=_) at HE2
       generalize Lib.compareBytes (⟨p2.toArray⟩:ByteArray).data.toList (⟨q2.toArray⟩:ByteArray).data.toList=c2 at HE2
       go_wp2_with fail
       refine (Tryz.strings_Count_one _ _ _).mono ?_
       rintro e w7 ⟨rfl,rfl⟩
       go_wp2_with fail
       refine (Tryz.strings_Count_one _ _ _).mono ?_
       rintro e w8 ⟨rfl,rfl⟩
       go_wp2_with fail
       refine (Tryz.cmp_Compare_int _ _ _).mono ?_
       rintro e w9 ⟨rfl,rfl⟩
       have HF:Hid (Zt.cmpM a b=if c2=0 then Lib.compareInt (Lib.countByte (⟨(([]:Str)).toArray⟩:ByteArray).data.toList 47:Nat) (Lib.countByte (⟨(rb).toArray⟩:ByteArray).data.toList 47:Nat) else c2):=pH (by
        have hsh:∀ xs ys,Zt.cutM ([]:Str)=p2 :: xs→Zt.cutM rb=q2 :: ys→xs=[]∨ys=[]→Zt.cmpM a b=if c2=0 then Lib.compareInt (Lib.countByte (⟨(([]:Str)).toArray⟩:ByteArray).data.toList 47:Nat) (Lib.countByte (⟨(rb).toArray⟩:ByteArray).data.toList 47:Nat) else c2:=by
         intro xs ys h1 h2 h3
         have k1:=HRAC.out
         have k2:=HRBC.out
         rw [h1] at k1
         rw [h2] at k2
         simp only [List.length_cons] at k1 k2
         rw [HC2.out,h1,h2,cmpL_short _ _ _ _ h3,← HE2.out]
         unfold Lib.countByte
         rw [show List.count 47 (⟨(([]:Str)).toArray⟩:ByteArray).data.toList=xs.length from by have:=k1;show List.count 47 (([]:Str))=_;omega,show List.count 47 (⟨(rb).toArray⟩:ByteArray).data.toList=ys.length from by show List.count 47 (rb)=_;omega]
        rcases HRA.out with ⟨_,h1⟩|⟨_,h1,_⟩ <;> rcases HRB.out with ⟨_,h2⟩|⟨_,h2,_⟩
        ·exfalso
         exact no_two h1 h2 (by simp)
        ·exact hsh _ _ h1 h2 (.inr rfl)
        ·exact hsh _ _ h1 h2 (.inl rfl)
        ·exact hsh _ _ h1 h2 (.inl rfl))
       generalize Lib.compareInt (Lib.countByte (⟨(([]:Str)).toArray⟩:ByteArray).data.toList 47:Nat) (Lib.countByte (⟨(rb).toArray⟩:ByteArray).data.toList 47:Nat)=c3 at HF
       obtain ⟨c4,HOR,HF4⟩:∃ c4,Hid (cmp_Or_int.f 3 [c2,c3]=some c4)∧Hid (Zt.cmpM a b=c4):=⟨_,or_two c2 c3,HF.out⟩
       clear HF
       go_wp2_with fail
       refine (cmp_Or_int.calls 3 _ _ [c2,c3] c4 _ ?hr (Nat.le_refl _) HOR.out).mono ?_
       case hr=>exact ints_new _ c2 c3
       rintro e w10 ⟨rfl,hd⟩
       go_wp2
       go_ret
       exact ⟨ret_i64' HF4.out.symm,(HB5.out.alloc _).drawn hd⟩
      | cons rc rr =>
       cases rb with
       | nil =>
        go_wp2_with fail
        refine (cut1L_calls _ (hG.ext HB2.out.below) (rc::rr) 47 HLA.out).mono ?_
        rintro e w4 ⟨rfl,hb1⟩
        have HB4:Hid (Laid w w4):=pH (HB2.out.drawn hb1)
        clear hb1
        generalize cut1 47 (rc::rr)=q at HRA
        obtain ⟨p2,ra2,ma2⟩:=q
        dsimp only at HRA
        go_wp2_with fail
        refine (cut1L_calls _ (hG.ext HB4.out.below) ([]:Str) 47 HLB.out).mono ?_
        rintro e w5 ⟨rfl,hb1⟩
        have HB5:Hid (Laid w w5):=pH (HB4.out.drawn hb1)
        clear hb1
        generalize cut1 47 ([]:Str)=q at HRB
        obtain ⟨q2,rb2,mb2⟩:=q
        dsimp only at HRB
        go_wp2_with fail
        refine (Tryz.strings_Compare _ _ _).mono ?_
        rintro e w6 ⟨rfl,rfl⟩
        have HV2:=pH (cmpS_vals p2 q2)
        have HE2:=pH (cmpS_lib p2 q2)
        change Hid (Lib.compareBytes (⟨p2.toArray⟩:ByteArray).data.toList (⟨q2.toArray⟩:ByteArray).data.toList=_) at HE2
        generalize Lib.compareBytes (⟨p2.toArray⟩:ByteArray).data.toList (⟨q2.toArray⟩:ByteArray).data.toList=c2 at HE2
        go_wp2_with fail
        refine (Tryz.strings_Count_one _ _ _).mono ?_
        rintro e w7 ⟨rfl,rfl⟩
        go_wp2_with fail
        refine (Tryz.strings_Count_one _ _ _).mono ?_
        rintro e w8 ⟨rfl,rfl⟩
        go_wp2_with fail
        refine (Tryz.cmp_Compare_int _ _ _).mono ?_
        rintro e w9 ⟨rfl,rfl⟩
        have HF:Hid (Zt.cmpM a b=if c2=0 then Lib.compareInt (Lib.countByte (⟨((rc::rr)).toArray⟩:ByteArray).data.toList 47:Nat) (Lib.countByte (⟨(([]:Str)).toArray⟩:ByteArray).data.toList 47:Nat) else c2):=pH (by
         have hsh:∀ xs ys,Zt.cutM (rc::rr)=p2 :: xs→Zt.cutM ([]:Str)=q2 :: ys→xs=[]∨ys=[]→Zt.cmpM a b=if c2=0 then Lib.compareInt (Lib.countByte (⟨((rc::rr)).toArray⟩:ByteArray).data.toList 47:Nat) (Lib.countByte (⟨(([]:Str)).toArray⟩:ByteArray).data.toList 47:Nat) else c2:=by
          intro xs ys h1 h2 h3
          have k1:=HRAC.out
          have k2:=HRBC.out
          rw [h1] at k1
          rw [h2] at k2
          simp only [List.length_cons] at k1 k2
          rw [HC2.out,h1,h2,cmpL_short _ _ _ _ h3,← HE2.out]
          unfold Lib.countByte
          rw [show List.count 47 (⟨((rc::rr)).toArray⟩:ByteArray).data.toList=xs.length from by have:=k1;show List.count 47 ((rc::rr))=_;omega,show List.count 47 (⟨(([]:Str)).toArray⟩:ByteArray).data.toList=ys.length from by show List.count 47 (([]:Str))=_;omega]
         rcases HRA.out with ⟨_,h1⟩|⟨_,h1,_⟩ <;> rcases HRB.out with ⟨_,h2⟩|⟨_,h2,_⟩
         ·exfalso
          exact no_two h1 h2 (by simp)
         ·exact hsh _ _ h1 h2 (.inr rfl)
         ·exact hsh _ _ h1 h2 (.inl rfl)
         ·exact hsh _ _ h1 h2 (.inl rfl))
        generalize Lib.compareInt (Lib.countByte (⟨((rc::rr)).toArray⟩:ByteArray).data.toList 47:Nat) (Lib.countByte (⟨(([]:Str)).toArray⟩:ByteArray).data.toList 47:Nat)=c3 at HF
        obtain ⟨c4,HOR,HF4⟩:∃ c4,Hid (cmp_Or_int.f 3 [c2,c3]=some c4)∧Hid (Zt.cmpM a b=c4):=⟨_,or_two c2 c3,HF.out⟩
        clear HF
        go_wp2_with fail
        refine (cmp_Or_int.calls 3 _ _ [c2,c3] c4 _ ?hr (Nat.le_refl _) HOR.out).mono ?_
        case hr=>exact ints_new _ c2 c3
        rintro e w10 ⟨rfl,hd⟩
        go_wp2
        go_ret
        exact ⟨ret_i64' HF4.out.symm,(HB5.out.alloc _).drawn hd⟩
       | cons sc sr =>
        cases gk with
        | zero=>omega
        | succ g1 =>
         go_wp2_with fail
         go_roundg g1
         case measure=>omega
         case rel=>exact ⟨rc :: rr,sc :: sr,rfl,rfl,by have:=HLX2.out;omega,⟨by have:=HLX2.out;have:=HL.out;omega,by have:=HLY.out;have:=HL.out;omega⟩,pH (HC2.out.trans (cmpM_cons (by simp) (by simp)).symm),HB2⟩
     ·have HC2:Hid (Zt.cmpM a b=Lib.compareInt ((xc :: xr).count 47:Nat) ((yc :: yr).count 47:Nat)):=pH (by
       have hsh:∀ xs ys,Zt.cutM (xc :: xr)=p :: xs→Zt.cutM (yc :: yr)=q :: ys→xs=[]∨ys=[]→Zt.cmpM a b=Lib.compareInt ((xc :: xr).count 47:Nat) ((yc :: yr).count 47:Nat):=by
        intro xs ys h1 h2 h3
        have k1:=HXC.out
        have k2:=HYC.out
        rw [h1] at k1
        rw [h2] at k2
        simp only [List.length_cons] at k1 k2
        rw [HC1.out,h1,h2,cmpL_short _ _ _ _ h3,← HE.out,if_pos rfl,show List.count 47 (xc :: xr)=xs.length from by omega,show List.count 47 (yc :: yr)=ys.length from by omega]
       rcases HX.out with ⟨m1,h1⟩|⟨m1,h1,_⟩ <;> rcases HY.out with ⟨m2,h2⟩|⟨m2,h2,_⟩
       ·exfalso
        rw [m1,m2] at hm
        simp at hm
       ·exact hsh _ _ h1 h2 (.inr rfl)
       ·exact hsh _ _ h1 h2 (.inl rfl)
       ·exact hsh _ _ h1 h2 (.inl rfl))
      cases ma <;> cases mb <;> first|(exfalso;rcases hm with h|h <;> exact Bool.noConfusion h)|skip
      all_goals
       go_wp2_with fail
       refine (Tryz.strings_Count_one _ _ _).mono ?_
       rintro e w4 ⟨rfl,rfl⟩
       go_wp2_with fail
       refine (Tryz.strings_Count_one _ _ _).mono ?_
       rintro e w5 ⟨rfl,rfl⟩
       go_wp2_with fail
       refine (Tryz.cmp_Compare_int _ _ _).mono ?_
       rintro e w6 ⟨rfl,rfl⟩
       go_wp2
       go_ret
       exact ⟨ret_i64' (by rw [HC2.out];rfl),HB2.out⟩
    ·have hcb:((c:Int) != 0)=true:=by simpa using hc
     go_wp2_with fail
     go_ret
     refine ⟨ret_i64' ?_,HB2.out⟩
     obtain ⟨xs,h1⟩:=cut1_head HX.out
     obtain ⟨ys,h2⟩:=cut1_head HY.out
     rw [HC1.out,h1,h2,cmpL_ne _ _ _ _ (by rw [← HE.out];exact hc),← HE.out]
theorem compare_calls (w:World) (hG:GL w) (a b:Str) (ha:a.length≤1000000000) (hb:b.length≤1000000000) :
  Calls Tryz.prog 37 #[S a,S b] w fun e w'=>e=.returned (.int .i64 (Zt.cmpM a b))∧Below w.heap.size w w' :=
 (compareL_calls w hG a b ha hb).mono fun _ _ ⟨h1,h2⟩=>⟨h1,h2.below⟩
def paths_Compare.f (a0 a1:ByteArray):Option Int:=if a0.size≤1000000000∧a1.size≤1000000000 then some (Zt.cmpM a0.data.toList a1.data.toList) else none
theorem paths_Compare.calls (a0 a1:ByteArray) (r:Int) (w:World) (hG:GL w) (h:paths_Compare.f a0 a1=some r) :
  Calls Tryz.prog 37 #[.string a0,.string a1] w fun e w'=>e=.returned (.int .i64 r)∧Below w.heap.size w w':=by
 unfold paths_Compare.f at h
 split at h
 ·rename_i hs
  cases h
  have:=compare_calls w hG a0.data.toList a1.data.toList hs.1 hs.2
  exact this
 ·cases h
theorem strs_new (w:World) (l:List ByteArray) (hl:l.length≤9223372036854775807):Kd.R Kd.string 9 (w.alloc (.cells (l.map Value.string).toArray 9)) w.heap.size (fun _=>True) (.slice (some ⟨w.heap.size,0,none⟩) l.length l.length) l:=by
 refine R_of_own (d:=Kd.string) (enc:=fun s:ByteArray=>[Value.string s]) (f:=id) (fun w base ok x=>rfl) (fun _=>rfl) ?_
 rw [List.map_id]
 have hf:flat (fun s:ByteArray=>[Value.string s]) l=l.map Value.string:=by
  unfold flat
  induction l with
  | nil=>rfl
  | cons x r ih=>simp only [List.flatMap_cons,List.map_cons,List.singleton_append];rw [ih (by simp at hl;omega)]
 refine ⟨by rw [hf];exact (List.length_map _).trans (Nat.mul_one _).symm,.inr ⟨w.heap.size,l.length,_,rfl,Nat.le_refl _,(MapKept.heap_alloc w _).1,Nat.le_refl _,by unfold maxLen;exact hl,by show _=l.length * 1;simp,?_⟩⟩
 rw [hf]
 show (List.take (l.length * 1) (l.map Value.string))=_
 exact List.take_of_length_le (by simp)
def strings_Split.f (a0 a1:ByteArray):Option (List ByteArray):=if a0.size<4294967281∧1≤a1.size∧(Lib.splitB a1 0 (Lib.countB a0 a1) a0).length=Lib.countB a0 a1 + 1∧Lib.countB a0 a1≤4294967281 then some (Lib.splitB a1 0 (Lib.countB a0 a1) a0) else none
theorem strings_Split.calls (a0 a1:ByteArray) (r:List ByteArray) (w:World) (hG:GL w) (h:strings_Split.f a0 a1=some r) :
  Calls Tryz.prog 142 #[.string a0,.string a1] w fun e w'=>∃ v0_:Value,e=.returned (v0_)∧Kd.R Kd.string 9 w' w.heap.size (fun _=>True) v0_ r∧Below w.heap.size w w':=by
 unfold strings_Split.f at h
 split at h
 ·rename_i hs
  cases h
  obtain ⟨m,hm⟩:=hG.max
  refine (Tryz.strings_Split a0 a1 m w hs.1 hm hs.2.1).mono fun e w' ⟨he,hw⟩=>⟨_,he,?_,?_⟩
  ·rw [hw,← hs.2.2.1]
   exact strs_new w _ (by rw [hs.2.2.1];omega)
  ·rw [hw];exact (Below.refl _ _).alloc (Nat.le_refl _) _
 ·cases h
end Go.Proofs.Zq
end
