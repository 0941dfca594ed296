/- An append of a whole row that came in, onto a row of the call's own. -/
import Derived.Test.YthlgjipbpgaobaaDoorOwn
import Derived.Laws.OwnMore
namespace Go.Proofs.YthlgjipbpgaobaaDoor
open Go.RowKit

theorem flat_get {α : Type} {enc : α → List Value} {k : Nat} (hk : ∀ x, (enc x).length = k) : ∀ (l : List α) (j : Nat) (u : Value), (flat enc l)[j]? = some u → ∃ i jj x, l[i]? = some x ∧ (enc x)[jj]? = some u ∧ j = i * k + jj
  | [], j, u, h => by simp [flat] at h
  | y :: r, j, u, h => by
    have e : flat enc (y :: r) = enc y ++ flat enc r := rfl
    rw [e] at h
    by_cases hj : j < k
    · rw [List.getElem?_append_left (by rw [hk]; exact hj)] at h
      exact ⟨0, j, y, rfl, h, by omega⟩
    · rw [List.getElem?_append_right (by rw [hk]; omega), hk] at h
      obtain ⟨i, jj, x, h1, h2, h3⟩ := flat_get hk r (j - k) u h
      exact ⟨i + 1, jj, x, h1, h2, by rw [Nat.succ_mul]; omega⟩
theorem add_any (a : Addr) (b o j : Nat) (h : a = ⟨b, o, none⟩) : a.add j = ⟨b, o + j, none⟩ := by subst h; exact add_at b o j

theorem run_append_row {α : Type} {P : Program} {enc : α → List Value} {w : World} (t ty : TypeId)
    (base T k bytes : Nat) (i : TypeInfo) (z : Value) (ht : P.underlying t = some (.slice T)) (hi : P.info? T = some i) (hz : i.zero = some z)
    (hsize : i.size = k) (hby : i.bytes = bytes) (hzs : z.cells.size = k) (hsz : 0 < k) (hk : ∀ x, (enc x).length = k) (h1 : ∀ x, ∀ u ∈ enc x, u.oneCell' = true)
    (v : Value) (l : List α) (hown : Own enc T k base w v l) (A : Option Addr) (c : Nat) (m : List α) (hr : RowAt enc k w A m) (hn : A = none → m = [])
    (h63 : l.length + m.length ≤ maxLen) (hbytes : (l.length + m.length) * bytes ≤ 140737488355328) (hbase : base ≤ w.heap.size) :
    ∃ v' w', (Builtin.append_ #[t, t] ty #[v, .slice A m.length c]).run P w = .ok v' w' ∧ Own enc T k base w' v' (l ++ m) ∧ w.grownBy w' v.ownBlock := by
  cases A with
  | none =>
    obtain rfl := hn rfl
    refine ⟨v, w, ?_, by rw [List.append_nil]; exact hown, World.grownBy.refl w _⟩
    rcases hown.2 with ⟨hv, h0⟩ | ⟨g, cap, cur, hv, _, _, hnc, _⟩
    · subst hv
      simp [Builtin.append_, run_underlying ht, sizeOf, typeInfo, hi, Builtin.lenOf, Builtin.firstCells]
    · subst hv
      simp [Builtin.append_, run_underlying ht, sizeOf, typeInfo, hi, Builtin.lenOf, Builtin.firstCells, hnc, storeCells]
  | some ad =>
    obtain ⟨v', w', hrun, h2, h3, _⟩ := run_append_own (P := P) w base t ty T i z k bytes ht hi hz hsize hby hzs hsz v l.length (flat enc l) hown ad m.length c (flat enc m) (flat_length hk m) (fun j u hu => by
      obtain ⟨i, jj, x, hx, hv, rfl⟩ := flat_get hk m j u hu
      obtain ⟨b, o, ha, hc⟩ := hr i x hx
      obtain rfl := Option.some.inj ha
      rw [add_at, ← Nat.add_assoc]
      exact hc jj u hv) (fun u hu => by
      obtain ⟨x, _, hx⟩ := List.mem_flatMap.1 hu
      exact h1 x u hx) h63 hbytes hbase
    refine ⟨v', w', hrun, ?_, h3⟩
    unfold Own
    rw [flat_append, List.length_append]
    exact h2

/-- In a region's list; the operation may bear a guard, if it is met. -/
theorem wpList_append_row {α : Type} {P : Program} {enc : α → List Value} {w : World} {ops : Array Oper} {rest : List Oper} {o : Oper} {a : Act} {Q : Exit → Act → World → Prop} (hw : Region.wanted o (yielded ops a.tmps) = true) (s x : Operand) (t : TypeId)
    (ho : o.op = .call { callee := .builtin .append, args := #[s, x], argTypes := #[t, t] })
    (base T k bytes : Nat) (i : TypeInfo) (z : Value) (ht : P.underlying t = some (.slice T)) (hi : P.info? T = some i) (hz : i.zero = some z)
    (hsize : i.size = k) (hby : i.bytes = bytes) (hzs : z.cells.size = k) (hsz : 0 < k) (hk : ∀ x, (enc x).length = k) (h1 : ∀ x, ∀ u ∈ enc x, u.oneCell' = true)
    (v : Value) (l : List α) (hs : a.eval s = v) (hown : Own enc T k base w v l) (A : Option Addr) (n c : Nat) (m : List α) (hx : a.eval x = .slice A n c) (hnm : n = m.length) (hr : RowAt enc k w A m) (hn : A = none → m = [])
    (h63 : l.length + m.length ≤ maxLen) (hbytes : (l.length + m.length) * bytes ≤ 140737488355328) (hbase : base ≤ w.heap.size)
    (h : ∀ v' w', Own enc T k base w' v' (l ++ m) → w.grownBy w' v.ownBlock → wpList P ops Q rest (a.put o.dst v') w') : wpList P ops Q (o :: rest) a w := by
  subst hnm
  obtain ⟨v', w', hrun, h2, h3⟩ := run_append_row (P := P) (enc := enc) (w := w) t o.type base T k bytes i z ht hi hz hsize hby hzs hsz hk h1 v l hown A c m hr hn h63 hbytes hbase
  unfold wpList
  rw [if_pos hw]
  refine Or.inl ?_
  unfold Oper.wp execOp
  simp only [ho, resolve, invoke, builtin, Sem.run_bind, Sem.run_pure, Result.andThen_ok, List.map_toArray, List.map_cons, List.map_nil, hs, hx, hrun]
  exact h v' w' h2 h3

/-- A literal row of nothing. -/
theorem own_empty {α : Type} (enc : α → List Value) {T : TypeId} (k base : Nat) (w : World) (hb : base ≤ w.heap.size) : Own enc T k base (w.alloc (.cells #[] T)) (.slice (some ⟨w.heap.size, 0, none⟩) 0 0) [] := by
  refine ⟨by simp [flat], .inr ⟨w.heap.size, 0, #[], rfl, hb, blk_new w _, Nat.le_refl _, Nat.zero_le _, by simp, by simp [flat]⟩⟩
end Go.Proofs.YthlgjipbpgaobaaDoor
