/- Rows of flat elements that a call makes by append; bytes as texts. -/
import Derived.Test.YthlgjipbpgaobaaDoorBase
import Derived.Laws.IdiomStrings
import Derived.Laws.BytesArg
namespace Go.Proofs.YthlgjipbpgaobaaDoor
open Go.RowKit

theorem add_at (b o j : Nat) : (⟨b, o, none⟩ : Addr).add j = ⟨b, o + j, none⟩ := by
  cases j with
  | zero => simp [Addr.add]
  | succ j => simp [Addr.add]

/-- The cells of all elements. -/
def flat {α : Type} (enc : α → List Value) (l : List α) : List Value := l.flatMap enc

theorem flat_length {α : Type} {enc : α → List Value} {k : Nat} (hk : ∀ x, (enc x).length = k) : ∀ l : List α, (flat enc l).length = l.length * k
  | [] => by simp [flat]
  | x :: r => by
    have := flat_length hk r
    simp only [flat, List.flatMap_cons, List.length_append, hk, List.length_cons, Nat.succ_mul] at *
    omega
theorem flat_at {α : Type} {enc : α → List Value} {k : Nat} (hk : ∀ x, (enc x).length = k) : ∀ (l : List α) (i j : Nat) (x : α) (u : Value), l[i]? = some x → (enc x)[j]? = some u → (flat enc l)[i * k + j]? = some u
  | [], i, _, _, _, h, _ => by simp at h
  | y :: r, 0, j, x, u, h, hu => by
    simp only [List.getElem?_cons_zero, Option.some.injEq] at h
    subst h
    have hj : j < (enc y).length := (List.getElem?_eq_some_iff.1 hu).1
    simp only [flat, List.flatMap_cons, Nat.zero_mul, Nat.zero_add]
    rw [List.getElem?_append_left hj]
    exact hu
  | y :: r, i + 1, j, x, u, h, hu => by
    simp only [List.getElem?_cons_succ] at h
    have ih := flat_at hk r i j x u h hu
    simp only [flat, List.flatMap_cons]
    rw [List.getElem?_append_right (by rw [hk]; simp only [Nat.succ_mul]; omega), hk, show (i + 1) * k + j - k = i * k + j from by simp only [Nat.succ_mul]; omega]
    exact ih
theorem flat_snoc {α : Type} (enc : α → List Value) (l : List α) (x : α) : flat enc (l ++ [x]) = flat enc l ++ enc x := by simp [flat]
theorem flat_append {α : Type} (enc : α → List Value) (l m : List α) : flat enc (l ++ m) = flat enc l ++ flat enc m := by simp [flat]

/-- A slice that the call has made by append (nil if it holds nothing): it owns its row, and holds these elements. -/
def Own {α : Type} (enc : α → List Value) (T k base : Nat) (w : World) (v : Value) (l : List α) : Prop := w.ownsRow base T k v l.length (flat enc l)

theorem Own.nil {α : Type} (enc : α → List Value) (T k base : Nat) (w : World) : Own enc T k base w (.slice none 0 0) [] := World.ownsRow_nil _ _ _ _

theorem Own.val {α : Type} {enc : α → List Value} {T k base : Nat} {w : World} {v : Value} {l : List α} (h : Own enc T k base w v l) :
    ∃ a cap, v = .slice a l.length cap ∧ (a = none → l = [] ∧ cap = 0) ∧ l.length ≤ cap := by
  rcases h.2 with ⟨hv, h0⟩ | ⟨g, cap, cur, hv, _, _, h1, _⟩
  · exact ⟨none, 0, by rw [hv, h0], fun _ => ⟨List.eq_nil_of_length_eq_zero h0, rfl⟩, by omega⟩
  · exact ⟨_, _, hv, (fun h => by cases h), h1⟩

theorem Own.row {α : Type} {enc : α → List Value} {T k base : Nat} {w : World} {a : Option Addr} {n cap : Nat} {l : List α} (hk : ∀ x, (enc x).length = k) (h : Own enc T k base w (.slice a n cap) l) : RowAt enc k w a l := by
  intro i x hx
  rcases h.2 with ⟨hv, h0⟩ | ⟨g, cap', cur, hv, hb, hg, h1, h2, h3, h4⟩
  · have := List.eq_nil_of_length_eq_zero h0
    rw [this] at hx
    simp at hx
  · cases hv
    refine ⟨g, 0, rfl, fun j u hu => ?_⟩
    have e := flat_at hk l i j x u hx hu
    have hg' : (Value.slice (some ⟨g, 0, none⟩) l.length cap).ownBlock = some g := rfl
    have := World.ownsRow.cells h hg' (i * k + j) u e
    rw [add_at, ← Nat.add_assoc] at this
    exact this

theorem Own.kept {α : Type} {enc : α → List Value} {T k base : Nat} {w w' : World} {v : Value} {l : List α} {row : Option Nat} (h : Own enc T k base w v l) (hg : w.grownBy w' row) (hne : v.ownBlock = none ∨ v.ownBlock ≠ row) : Own enc T k base w' v l := World.ownsRow.kept h hg hne
theorem Own.ext {α : Type} {enc : α → List Value} {T k base : Nat} {w w' : World} {v : Value} {l : List α} (h : Own enc T k base w v l) (hb : Below w.heap.size w w') : Own enc T k base w' v l := by
  refine World.ownsRow.kept h (row := none) ⟨hb.os, hb.tape, hb.output, hb.size, fun i hi _ => hb.block i hi⟩ ?_
  cases v.ownBlock <;> simp
theorem Own.alloc {α : Type} {enc : α → List Value} {T k base : Nat} {w : World} {v : Value} {l : List α} (h : Own enc T k base w v l) (o : Obj) : Own enc T k base (w.alloc o) v l := World.ownsRow.alloc h o

/-- An append of one element, which lies in a block of its own. -/
theorem wpList_append_one {α : Type} {P : Program} {enc : α → List Value} {w : World} {ops : Array Oper} {rest : List Oper} {o : Oper} {a : Act} {Q : Exit → Act → World → Prop} (hgd : o.guard = none) (s x : Operand) (t : TypeId)
    (ho : o.op = .call { callee := .builtin .append, args := #[s, x], argTypes := #[t, t] })
    (base T k bytes : Nat) (i : TypeInfo) (z : Value) (ht : P.underlying t = some (.slice T)) (hi : P.info? T = some i) (hz : i.zero = some z)
    (hsize : i.size = k) (hby : i.bytes = bytes) (hzs : z.cells.size = k) (hsz : 0 < k) (hk : ∀ x, (enc x).length = k) (h1 : ∀ x, ∀ u ∈ enc x, u.oneCell' = true)
    (v : Value) (l : List α) (hs : a.eval s = v) (hown : Own enc T k base w v l) (e : α) (b : Nat) (c : Nat) (hx : a.eval x = .slice (some ⟨b, 0, none⟩) 1 c) (hnews : ∀ j u, (enc e)[j]? = some u → w.cell? ⟨b, j, none⟩ = some u)
    (h63 : l.length + 1 ≤ maxLen) (hbytes : (l.length + 1) * bytes ≤ 140737488355328) (hbase : base ≤ w.heap.size)
    (h : ∀ v' w', Own enc T k base w' v' (l ++ [e]) → w.grownBy w' v.ownBlock → wpList P ops Q rest (a.put o.dst v') w') : wpList P ops Q (o :: rest) a w := by
  refine wpList_append_own w hgd s x t ho base T i z k bytes ht hi hz hsize hby hzs hsz v l.length (flat enc l) hs hown ⟨b, 0, none⟩ 1 c (enc e) hx (by rw [hk, Nat.one_mul]) (fun j u hu => by rw [add_at, Nat.zero_add]; exact hnews j u hu) (h1 e) h63 hbytes hbase ?_
  intro v' w' ho' hg' _
  refine h v' w' ?_ hg'
  unfold Own
  rw [flat_snoc, List.length_append]
  exact ho'

theorem prC_len (p : Str × Str) : (prC p).length = 2 := rfl
theorem prC_one (p : Str × Str) : ∀ u ∈ prC p, u.oneCell' = true := by intro u hu; simp [prC] at hu; rcases hu with rfl | rfl <;> rfl
theorem byC_len (c : UInt8) : (byC c).length = 1 := rfl
theorem byC_one (c : UInt8) : ∀ u ∈ byC c, u.oneCell' = true := by intro u hu; simp [byC] at hu; subst hu; rfl

/-- Bytes as a text. -/
theorem bytes_text {w : World} {a : Option Addr} {l : Str} (h : RowAt byC 1 w a l) (cap : Nat) (hn : a = none → l = []) :
    (convert 22 9 (.slice a l.length cap)).run Tryd.prog w = .ok (S l) w := by
  cases a with
  | none =>
    have := hn rfl
    subst this
    exact run_convert_bytes_nil w _ _ Tryd.underlying22 Tryd.underlying5 _ _ _ Tryd.underlying9
  | some a =>
    refine run_convert_bytes_back w _ _ _ a cap l Tryd.underlying22 Tryd.underlying5 Tryd.underlying9 fun j hj => ?_
    obtain ⟨b, o, ha, hc⟩ := h.by hj
    cases ha
    rw [add_at]
    exact hc

end Go.Proofs.YthlgjipbpgaobaaDoor
