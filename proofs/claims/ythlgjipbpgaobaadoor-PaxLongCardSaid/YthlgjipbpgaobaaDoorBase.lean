/- What is common to the walks of this seat: texts as lists of bytes, rows of flat elements in memory, and what the program's variables hold. -/
import Derived.Test.YthlgjipbpgaobaaDoorProg
import Derived.WalkKit
import Derived.WalkSpells
import Derived.WalkLawsBesides
import Derived.LoopTactic
import Derived.Lib.Hide
import Derived.Outline
import Derived.Deep.LoopGhost
import Derived.Deep.QuietTactic
import Derived.BigQuiet
import Derived.KernelRfl
import Derived.Lib.LaidTab
import Derived.Lib.ItoaNum
import Derived.MapKept
namespace Go.Proofs.YthlgjipbpgaobaaDoor
open Go.RowKit

/-- A text's bytes. -/
abbrev Str := List UInt8
/-- A text as a value. -/
abbrev S (l : Str) : Value := .string ⟨l.toArray⟩

/-- What the program's variables hold. -/
structure GL (w : World) : Prop where
  max : ∃ m, w.cell? ⟨0, 0, none⟩ = some (.int .i64 m)
  pow : Lib.TabIs Tryd.prog w "internal/strconv.uint64pow10" .u64 Lib.pow10Tab
  syn : ∃ tp p, w.var? Tryd.prog "strconv.ErrSyntax" = some #[.iface tp p]
  rng : ∃ tp p, w.var? Tryd.prog "strconv.ErrRange" = some #[.iface tp p]

theorem var_ext {P : Program} {w w' : World} {n : String} {cs : Array Value} (h : w.var? P n = some cs) (hb : Below w.heap.size w w') : w'.var? P n = some cs := by
  unfold World.var? at *
  cases hg : P.globalNamed n with
  | none => simp [hg] at h
  | some g =>
    simp only [hg, Option.bind_some] at h ⊢
    have hlt : g < w.heap.size := by
      rcases Nat.lt_or_ge g w.heap.size with h' | h'
      · exact h'
      · simp [Array.getElem?_eq_none h'] at h
    rw [hb.block g hlt]
    exact h

theorem cell_ext {w w' : World} {a : Addr} {v : Value} (hb : Below w.heap.size w w') (h : w.cell? a = some v) : w'.cell? a = some v :=
  (hb.cell (World.block_lt_of_cell? w _ h)).trans h

theorem GL.ext {w w' : World} (h : GL w) (hb : Below w.heap.size w w') : GL w' := by
  obtain ⟨⟨m, hm⟩, hp, ⟨t1, p1, h1⟩, ⟨t2, p2, h2⟩⟩ := h
  exact ⟨⟨m, cell_ext hb hm⟩, var_ext hp hb, ⟨t1, p1, var_ext h1 hb⟩, ⟨t2, p2, var_ext h2 hb⟩⟩

/-- A row of elements in memory: element i's cells stand at i * k. -/
def RowAt {α : Type} (enc : α → List Value) (k : Nat) (w : World) (a : Option Addr) (l : List α) : Prop :=
  ∀ i x, l[i]? = some x → ∃ b o, a = some ⟨b, o, none⟩ ∧ ∀ j u, (enc x)[j]? = some u → w.cell? ⟨b, o + i * k + j, none⟩ = some u

theorem RowAt.ext {α : Type} {enc : α → List Value} {k : Nat} {w w' : World} {a : Option Addr} {l : List α} (h : RowAt enc k w a l) (hb : Below w.heap.size w w') : RowAt enc k w' a l := by
  intro i x hx
  obtain ⟨b, o, ha, hc⟩ := h i x hx
  exact ⟨b, o, ha, fun j u hu => cell_ext hb (hc j u hu)⟩

theorem RowAt.nil {α : Type} (enc : α → List Value) (k : Nat) (w : World) (a : Option Addr) : RowAt enc k w a [] := fun i x h => by simp at h

/-- A pair's cells. -/
def prC (p : Str × Str) : List Value := [S p.1, S p.2]

theorem RowAt.pr {w : World} {a : Option Addr} {l : List (Str × Str)} (h : RowAt prC 2 w a l) {i : Nat} (hi : i < l.length) :
    ∃ b o, a = some ⟨b, o, none⟩ ∧ w.cell? ⟨b, o + i * 2, none⟩ = some (S (l[i]).1) ∧ w.cell? ⟨b, o + i * 2 + 1, none⟩ = some (S (l[i]).2) := by
  obtain ⟨b, o, ha, hc⟩ := h i _ (List.getElem?_eq_getElem hi)
  exact ⟨b, o, ha, hc 0 _ rfl, hc 1 _ rfl⟩

/-- A new block's cells. -/
theorem cell_new (w : World) (cs : Array Value) (T : TypeId) (fr : Nat × Nat) {j : Nat} {v : Value} (h : cs[j]? = some v) : (w.alloc (.cells cs T fr)).cell? ⟨w.heap.size, j, none⟩ = some v := by
  have hb : (w.alloc (.cells cs T fr)).heap[w.heap.size]? = some (.cells cs T fr) := (MapKept.heap_alloc w _).1
  unfold World.cell?
  rw [hb]
  simpa using h

theorem blk_new (w : World) (o : Obj) : (w.alloc o).heap[w.heap.size]? = some o := (MapKept.heap_alloc w o).1
theorem blk_lt {w : World} {b : Nat} {o : Obj} (h : w.heap[b]? = some o) : b < w.heap.size := by
  rcases Nat.lt_or_ge b w.heap.size with h' | h'
  · exact h'
  · simp [Array.getElem?_eq_none h'] at h
theorem blk_ext {w w' : World} {b : Nat} {o : Obj} (h : w.heap[b]? = some o) (hb : Below w.heap.size w w') : w'.heap[b]? = some o := (hb.block b (blk_lt h)).trans h
theorem blk_cell {w : World} {b : Nat} {cs : Array Value} {T : TypeId} {fr : Nat × Nat} (h : w.heap[b]? = some (.cells cs T fr)) (j : Nat) : w.cell? ⟨b, j, none⟩ = cs[j]? := by simp [World.cell?, h]
theorem blk_free {w : World} {b : Nat} {cs : Array Value} {T : TypeId} (h : w.heap[b]? = some (.cells cs T (0, 0))) (j : Nat) : w.frozen? ⟨b, j, none⟩ = false := by simp [World.frozen?, h]
theorem below_new (w : World) (o : Obj) : Below w.heap.size w (w.alloc o) := (Below.refl _ _).alloc (Nat.le_refl _) _
/-- From the start on, one step more. -/
theorem below_then {w w1 w2 : World} (h : Below w.heap.size w w1) (h2 : Below w1.heap.size w1 w2) : Below w.heap.size w w2 := h.trans (h2.mono h.size)

theorem heap_set {w : World} {b : Nat} {cs : Array Value} {T : TypeId} {fr : Nat × Nat} (h : w.heap[b]? = some (.cells cs T fr)) (j : Nat) (u : Value) :
    (w.setCell ⟨b, j, none⟩ u).heap[b]? = some (.cells (cs.setIfInBounds j u) T fr) := by
  simp only [World.setCell, Array.getElem?_modify, if_true, h]
  rfl
/-- Both cells of a block written. -/
theorem set_two {w : World} {b : Nat} {x0 x1 : Value} {T : TypeId} (h : w.heap[b]? = some (.cells #[x0, x1] T (0, 0))) (u0 u1 : Value) {w0 : World} (hB : w0.heap.size ≤ b) (hb : Below w0.heap.size w0 w) :
    ((w.setCell ⟨b, 0, none⟩ u0).setCell ⟨b, 1, none⟩ u1).heap[b]? = some (.cells #[u0, u1] T (0, 0)) ∧ Below w0.heap.size w0 ((w.setCell ⟨b, 0, none⟩ u0).setCell ⟨b, 1, none⟩ u1) :=
  ⟨heap_set (heap_set h 0 u0) 1 u1, (hb.setCell (p := ⟨b, 0, none⟩) hB u0).setCell (p := ⟨b, 1, none⟩) hB u1⟩

/-- A piece of a text. -/
theorem extract_S (l : Str) (a b : Nat) : (⟨l.toArray⟩ : ByteArray).extract a b = ⟨((l.drop a).take (b - a)).toArray⟩ := by
  rw [ByteArray.extract_mk]

theorem extract_end (l : Str) (a : Nat) : (⟨l.toArray⟩ : ByteArray).extract a l.length = ⟨(l.drop a).toArray⟩ := by
  rw [extract_S, List.take_of_length_le (by simp)]

theorem cell_new_at {w : World} {cs : List Value} {T : TypeId} {fr : Nat × Nat} {b j : Nat} {v : Value} (hb : b = w.heap.size) (h : cs[j]? = some v) : (w.alloc (.cells cs.toArray T fr)).cell? ⟨b, j, none⟩ = some v := by
  subst hb; exact cell_new _ _ _ _ (by simpa using h)

/-- Two texts, one behind the other. -/
theorem append_S (a b : Str) : (⟨a.toArray⟩ : ByteArray) ++ ⟨b.toArray⟩ = ⟨(a ++ b).toArray⟩ := by
  apply ByteArray.ext
  apply Array.ext'
  simp

theorem toList_S (l : Str) : (⟨l.toArray⟩ : ByteArray).toList = l := by rw [ByteArray.toList_eq]
theorem extract_take (l : Str) (n : Nat) : ((⟨l.toArray⟩ : ByteArray).extract 0 n).toList = l.take n := by
  rw [extract_S, toList_S]; simp
theorem below_drew {w w' : World} (h : Below w.drew.heap.size w.drew w') : Below w.heap.size w w' := ⟨h.os, h.tape, h.output, h.size, h.block⟩

/-- A byte of a text. -/
theorem bs_get (l : Str) (i : Nat) (h : i < (⟨l.toArray⟩ : ByteArray).size) : (⟨l.toArray⟩ : ByteArray)[i]'h = l[i]'h := rfl
attribute [go_sem] bs_get

/-- A row of bytes. -/
def byC (c : UInt8) : List Value := [.int .u8 c.toNat]

theorem RowAt.by {w : World} {a : Option Addr} {l : Str} (h : RowAt byC 1 w a l) {i : Nat} (hi : i < l.length) :
    ∃ b o, a = some ⟨b, o, none⟩ ∧ w.cell? ⟨b, o + i, none⟩ = some (.int .u8 (l[i]).toNat) := by
  obtain ⟨b, o, ha, hc⟩ := h i _ (List.getElem?_eq_getElem hi)
  have := hc 0 _ rfl
  simp only [Nat.mul_one, Nat.add_zero] at this
  exact ⟨b, o, ha, this⟩

end Go.Proofs.YthlgjipbpgaobaaDoor
