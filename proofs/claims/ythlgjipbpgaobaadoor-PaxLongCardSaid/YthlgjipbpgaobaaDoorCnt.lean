/- A map from texts to counts that a call makes: what it holds, a look-up, a store. -/
import Derived.Test.YthlgjipbpgaobaaDoorBase
import Derived.Lib.Strings
import Derived.WalkArith
import Derived.Maps.OwnOps
import Derived.Maps.Ext
import Derived.Maps.Views
namespace Go.Proofs.YthlgjipbpgaobaaDoor
open Go.RowKit Go.WideMaps Go.Maps

theorem strLaw : Keyed Tryd.prog 9 := string_keyed Tryd.underlying9
theorem zeroInt (w : World) : (zeroValue 3).run Tryd.prog w = .ok (.int .i64 0) w := by kernel_rfl

/-- Block b is a map from texts to ints with at most n keys that counts as f tells. -/
def CntMap (w : World) (b n : Nat) (f : Str → Nat) : Prop :=
  ∃ D : DataW Unit, w.ownsMap Tryd.prog 9 (plainElem Tryd.prog 3) b n D ∧ IsMap D ∧ ∀ key : Str, D.atKey (.string key) (.lit (.int .i64 0)) = .lit (.int .i64 (f key))

theorem CntMap.made (w : World) : CntMap (w.alloc (.map #[] 0)) w.heap.size 0 (fun _ => 0) :=
  ⟨.map [], World.ownsMap_made _ _ _ _, isMap_empty, fun _ => rfl⟩

theorem CntMap.alloc {w : World} {b n : Nat} {f : Str → Nat} (h : CntMap w b n f) (o : Obj) : CntMap (w.alloc o) b n f :=
  let ⟨D, h1, h2, h3⟩ := h; ⟨D, h1.alloc o, h2, h3⟩
theorem CntMap.lt {w : World} {b n : Nat} {f : Str → Nat} (h : CntMap w b n f) : b < w.heap.size := let ⟨_, h1, _⟩ := h; h1.lt
theorem CntMap.ext {w w' : World} {b n : Nat} {f : Str → Nat} (h : CntMap w b n f) (hb : Below w.heap.size w w') : CntMap w' b n f :=
  let ⟨D, h1, h2, h3⟩ := h; ⟨D, h1.kept (row := none) ⟨hb.os, hb.tape, hb.output, hb.size, fun k hk _ => hb.block k hk⟩ (by simp), h2, h3⟩

theorem keyStr {s : Str} (h : s.length ≤ 1000000000) : keyOf Tryd.prog 9 (S s) = some (.string s) := by
  have := keyOf_string_mk (P := Tryd.prog) Tryd.underlying9 (s := ⟨s.toArray⟩) (by simp [Lib.size_eq]; unfold maxLen; omega)
  simpa using this

theorem CntMap.look {w : World} {b n : Nat} {f : Str → Nat} (h : CntMap w b n f) {s : Str} (hs : s.length ≤ 1000000000) :
    (Instr.lookup 58 (.map (some b)) (S s) false).run Tryd.prog w = .ok (.int .i64 (f s)) w := by
  obtain ⟨D, h1, h2, h3⟩ := h
  obtain ⟨c, hrun, hat, _⟩ := h1.lookup_int strLaw Tryd.underlying58 Tryd.underlying3 (zeroInt _) (keyStr hs)
  rw [hrun]
  rw [h3] at hat
  simp only [DataW.lit.injEq, Lit.int.injEq, true_and] at hat
  rw [hat]

theorem wf_nat {c : Nat} (h : c ≤ 9223372036854775807) : (Lit.int .i64 (c : Int)).wf = true := WalkArith.wf_i64 ⟨by omega, by omega⟩

theorem wpList_cnt_up {P : Program} (hP : P = Tryd.prog) {w : World} {ops : Array Oper} {rest : List Oper} {o : Oper} {a : Act} {Q : Exit → Act → World → Prop}
    (hg : o.guard = none) (m x v : Operand) (hop : o.op = Op.mapUpdate 58 m x v) (b n : Nat) (f : Str → Nat) (hm : a.eval m = .map (some b)) (hown : CntMap w b n f) (hn : n ≤ 1000000000)
    (s : Str) (c : Nat) (hx : a.eval x = S s) (hv : a.eval v = .int .i64 c) (hs : s.length ≤ 1000000000) (hc : c ≤ 1000000001)
    (f' : Str → Nat) (hf : ∀ key, f' key = if key == s then c else f key)
    (hK : ∀ w', CntMap w' b (n + 1) f' → w.grownBy w' (some b) → wpList P ops Q rest (a.put o.dst undef) w') :
    wpList P ops Q (o :: rest) a w := by
  subst hP
  obtain ⟨D, h1, h2, h3⟩ := hown
  refine wpList_mapUpdate_own _ hg m x v _ hop 9 3 strLaw Tryd.underlying58 _ b n D hm h1 (by unfold maxLen; omega) _ _ _ hx hv (keyStr hs) _ []
    (plainElem_int Tryd.underlying3 (wf_nat (by omega))) ?_
  intro w' h1' hg'
  refine hK w' ⟨_, h1', h2.put _ _, fun key => ?_⟩ hg'
  rw [hf key]
  by_cases hk : key = s
  · subst hk
    rw [atKey_put_same h2 (by trivial)]
    simp
  · rw [atKey_put_other (by simpa using hk), h3]
    have : (key == s) = false := by simpa using hk
    simp [this]

theorem grown_cell {w w' : World} {row : Option Nat} (hg : w.grownBy w' row) {a : Addr} {v : Value} (h : w.cell? a = some v) (hne : some a.block ≠ row) : w'.cell? a = some v :=
  (World.cell?_of_block (w := w) (hg.block a.block (World.block_lt_of_cell? w _ h) hne)).trans h

end Go.Proofs.YthlgjipbpgaobaaDoor
