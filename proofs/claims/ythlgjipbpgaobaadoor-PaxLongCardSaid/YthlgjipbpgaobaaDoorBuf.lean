/- strings.Builder: copyCheck, WriteString, String at a builder that the call has made. -/
import Derived.Test.YthlgjipbpgaobaaDoorLib
import Derived.Test.YthlgjipbpgaobaaDoorOwn
import Derived.Lib.Builder
import Derived.Lib.AppendStr
import Derived.Lib.UnsafeStr
import Derived.Lib.MakeNoZero
import Derived.Laws.Externs
import Derived.Laws.IdiomCopy
namespace Go.Proofs.YthlgjipbpgaobaaDoor
open Go.RowKit

theorem infoByte : (Tryd.prog.info? 5).map (fun i => (i.zero, i.size, i.bytes)) = some (some (.int .u8 0), 1, 1) := by kernel_rfl
theorem sizeBuilder : (Tryd.prog.info? 47).map (·.size) = some 2 := by kernel_rfl
theorem liesBuilder : liesAt Tryd.prog Tryd.prog.depth 47 (2 / Tryd.prog.cellsOf 47) 0 47 1 = true := by kernel_rfl

set_option maxHeartbeats 1000000 in
set_option maxRecDepth 100000 in
theorem copyCheck_used (b : Nat) (w : World) (h0 : w.cell? ⟨b, 0, none⟩ = some (.pointer (some ⟨b, 0, none⟩))) :
    Calls Tryd.prog 27 #[.pointer (some ⟨b, 0, none⟩)] w fun e w' => e = .returned (.tuple #[]) ∧ w = w' := by
  obtain ⟨j, hj, _⟩ := Option.map_eq_some_iff.1 sizeBuilder
  go_enter Tryd.func27, Tryd.ntmps27
  go_wp2
  rw [Lib.run_neq_ptr_same w _ Tryd.underlying45 hj]
  go_wp2
  go_end0
  exact ⟨rfl, rfl⟩

set_option maxHeartbeats 1000000 in
set_option maxRecDepth 100000 in
theorem copyCheck_fresh (b : Nat) (w : World) (h0 : w.cell? ⟨b, 0, none⟩ = some (.pointer none)) (hsh : w.shape? b = some (47, 2)) (hfz : w.frozen? ⟨b, 0, none⟩ = false) :
    Calls Tryd.prog 27 #[.pointer (some ⟨b, 0, none⟩)] w fun e w' => e = .returned (.tuple #[]) ∧ w' = w.setCell ⟨b, 0, none⟩ (.pointer (some ⟨b, 0, none⟩)) := by
  obtain ⟨j, hj, hjs⟩ := Option.map_eq_some_iff.1 sizeBuilder
  go_enter Tryd.func27, Tryd.ntmps27
  go_wp2
  rw [Lib.run_to_unsafe w ⟨b, 0, none⟩ Tryd.underlying45 Tryd.underlying65 hj (by rw [hjs]; decide) hsh (Nat.zero_lt_succ 1)]
  simp only [Result.andThen]
  rw [Oper.upon_value]
  go_wp2
  rw [run_callFunc_extern Tryd.func35 (by kernel_rfl) (by kernel_rfl) (by kernel_rfl) (e := Extern.AbiNoEscape.same) (by kernel_rfl)]
  rw [Lib.run_noEscape]
  simp only [Result.andThen]
  rw [Oper.upon_value]
  go_wp2
  rw [Lib.run_from_unsafe w ⟨b, 0, none⟩ Tryd.underlying65 Tryd.underlying45 hj hsh liesBuilder]
  simp only [Result.andThen]
  rw [Oper.upon_value]
  go_wp2
  go_end0
  exact ⟨rfl, rfl⟩

theorem copyCheck_calls (B b : Nat) (bs : List Value) (w : World) (h : Lib.IsBuilder 47 5 B b bs w) :
    Calls Tryd.prog 27 #[.pointer (some ⟨b, 0, none⟩)] w fun e w' => e = .returned (.tuple #[]) ∧ (Lib.BuilderAt 47 5 B b (.pointer (some ⟨b, 0, none⟩)) bs w' ∧ Below B w w') := by
  rcases h with h | h
  · refine (copyCheck_fresh b w h.cell0 h.shape h.frozen0).mono ?_
    rintro e w' ⟨rfl, rfl⟩
    exact ⟨rfl, h.used _, (Below.refl B w).setCell (p := ⟨b, 0, none⟩) h.1 _⟩
  · refine (copyCheck_used b w h.cell0).mono ?_
    rintro e w' ⟨rfl, rfl⟩
    exact ⟨rfl, h, Below.refl B _⟩

set_option maxHeartbeats 2000000 in
set_option maxRecDepth 100000 in
theorem writeString_any (B b : Nat) (bs : List Value) (s : ByteArray) (w : World) (h : Lib.IsBuilder 47 5 B b bs w) (hlen : bs.length + s.size ≤ 140737488355328) (hBw : B ≤ w.heap.size) :
    Calls Tryd.prog 17 #[.pointer (some ⟨b, 0, none⟩), .string s] w fun e w' => e = .returned (.tuple #[.int .i64 s.size, .nilIface]) ∧ (Lib.BuilderAt 47 5 B b (.pointer (some ⟨b, 0, none⟩)) (bs ++ Lib.strCells s) w' ∧ Below B w w') := by
  obtain ⟨i0, hi, hz0, hz1, hz2⟩ := info_parts infoByte
  go_enter Tryd.func17, Tryd.ntmps17
  go_wp2_with (go_at_call 27; refine (copyCheck_calls B b bs _ h).mono ?_)
  rintro e w1 ⟨rfl, h1, hb1⟩
  obtain ⟨hB, v, hbk, hown, hne⟩ := h1
  have c0 : w1.cell? ⟨b, 0, none⟩ = some (.pointer (some ⟨b, 0, none⟩)) := by rw [Lib.cell_of_heap hbk]; rfl
  have c1 : w1.cell? ⟨b, 1, none⟩ = some v := by rw [Lib.cell_of_heap hbk]; rfl
  go_wp2_with (at_builtin; refine Lib.wpList_append_own_string _ rfl _ _ 22 9 rfl B 5 i0 Tryd.underlying22 Tryd.underlying9 hi hz0 hz1 hz2 _ _ _ rfl hown s rfl ?c3 ?c4 ?c5 ?_)
  case c3 => unfold maxLen; omega
  case c4 => omega
  case c5 => have := hb1.size; omega
  intro v' w2 hown' hgrow _
  have hlt : b < w1.heap.size := blk_lt hbk
  have hb2 : w2.heap[b]? = some (.cells #[.pointer (some ⟨b, 0, none⟩), v] 47 (0, 0)) := by
    rw [hgrow.block b hlt (fun e => hne e.symm)]
    exact hbk
  have d0 : w2.cell? ⟨b, 0, none⟩ = some (.pointer (some ⟨b, 0, none⟩)) := by rw [Lib.cell_of_heap hb2]; rfl
  have d1 : w2.cell? ⟨b, 1, none⟩ = some v := by rw [Lib.cell_of_heap hb2]; rfl
  have f1 : w2.frozen? ⟨b, 1, none⟩ = false := Lib.frozen_of_heap hb2 1
  obtain ⟨ao, n', cap, rfl⟩ : ∃ ao n' cap, v' = .slice ao n' cap := by
    rcases hown'.2 with ⟨hv, _⟩ | ⟨g, cap, cur, hv, _⟩
    · exact ⟨_, _, _, hv⟩
    · exact ⟨_, _, _, hv⟩
  go_wp2
  go_ret2
  refine ⟨rfl, ?_, ?_⟩
  · exact Lib.BuilderAt.put (T := 47) (e := 5) hB hb2 (bs' := bs ++ Lib.strCells s) (by simpa [Lib.strCells_length] using hown') (by decide)
  · exact (hb1.grown hgrow (by have := hb1.size; omega) (fun k hk => (hown.lt k hk).1)).setCell (p := ⟨b, 1, none⟩) hB _

/-- A builder that the call has made, and its text. -/
def Bld (B b : Nat) (l : Str) (w : World) : Prop := Lib.IsBuilder 47 5 B b (Lib.byteCells l) w

theorem Bld.fresh (w : World) : Bld w.heap.size w.heap.size [] (w.alloc (.cells #[.pointer none, .slice none 0 0] 47)) := Lib.fresh_isBuilder _ _ _

theorem bldAt_ext {T e : TypeId} {B b : Nat} {p : Value} {bs : List Value} {w w' : World} (h : Lib.BuilderAt T e B b p bs w) (hb : Below w.heap.size w w') : Lib.BuilderAt T e B b p bs w' := by
  obtain ⟨h1, v, h2, h3, h4⟩ := h
  refine ⟨h1, v, blk_ext h2 hb, World.ownsRow.kept h3 (row := none) ⟨hb.os, hb.tape, hb.output, hb.size, fun i hi _ => hb.block i hi⟩ ?_, h4⟩
  cases v.ownBlock <;> simp
theorem Bld.ext {B b : Nat} {l : Str} {w w' : World} (h : Bld B b l w) (hb : Below w.heap.size w w') : Bld B b l w' := by
  rcases h with h | h
  · exact .inl (bldAt_ext h hb)
  · exact .inr (bldAt_ext h hb)

theorem writeString_calls (B b : Nat) (l s : Str) (w : World) (h : Bld B b l w) (hlen : l.length + s.length ≤ 140737488355328) (hBw : B ≤ w.heap.size) :
    Calls Tryd.prog 17 #[.pointer (some ⟨b, 0, none⟩), S s] w fun e w' => (∃ n, e = .returned (.tuple #[.int .i64 n, .nilIface])) ∧ Bld B b (l ++ s) w' ∧ Below B w w' :=
  (writeString_any B b _ ⟨s.toArray⟩ w h (by rw [Lib.byteCells_length, Lib.size_eq]; exact hlen) hBw).mono fun e w' ⟨he, h1, h2⟩ => by
    refine ⟨⟨_, he⟩, .inr ?_, h2⟩
    have : Lib.byteCells l ++ Lib.strCells ⟨s.toArray⟩ = Lib.byteCells (l ++ s) := by simp [Lib.byteCells, Lib.strCells]
    rw [this] at h1
    exact h1
theorem builderString_calls (B b : Nat) (l : Str) (w : World) (h : Bld B b l w) (hBw : B ≤ w.heap.size) :
    Calls Tryd.prog 20 #[.pointer (some ⟨b, 0, none⟩)] w fun e w' => e = .returned (S l) ∧ Below B w w' :=
  Tryd.Builder_String_any B b l w h hBw

/-- A slice that reads as these elements. -/
def Sl {α : Type} (enc : α → List Value) (k : Nat) (w : World) (v : Value) (l : List α) : Prop :=
  ∃ a cap, v = .slice a l.length cap ∧ RowAt enc k w a l ∧ (a = none → l = []) ∧ l.length ≤ cap
theorem Sl.nil {α : Type} (enc : α → List Value) (k : Nat) (w : World) : Sl enc k w (.slice none 0 0) [] := ⟨none, 0, rfl, RowAt.nil _ _ _ _, fun _ => rfl, Nat.le_refl _⟩
theorem Sl.ext {α : Type} {enc : α → List Value} {k : Nat} {w w' : World} {v : Value} {l : List α} (h : Sl enc k w v l) (hb : Below w.heap.size w w') : Sl enc k w' v l :=
  let ⟨a, cap, h1, h2, h3, h4⟩ := h; ⟨a, cap, h1, h2.ext hb, h3, h4⟩
theorem Own.sl {α : Type} {enc : α → List Value} {T k base : Nat} {w : World} {v : Value} {l : List α} (hk : ∀ x, (enc x).length = k) (h : Own enc T k base w v l) : Sl enc k w v l := by
  obtain ⟨a, cap, rfl, h1, h2⟩ := h.val
  exact ⟨a, cap, rfl, h.row hk, fun e => (h1 e).1, h2⟩

/-- A text's bytes in a new row. -/
theorem text_bytes (w : World) (s : Str) :
    ∃ cap, (convert 9 22 (S s)).run Tryd.prog w = .ok (.slice (some ⟨w.heap.size, 0, none⟩) s.length cap) (Lib.bytesWorld w 5 ⟨s.toArray⟩) ∧
      Sl byC 1 (Lib.bytesWorld w 5 ⟨s.toArray⟩) (.slice (some ⟨w.heap.size, 0, none⟩) s.length cap) s := by
  refine ⟨_, Lib.run_convert_string_bytes w _ _ _ ⟨s.toArray⟩ Tryd.underlying9 Tryd.underlying22 Tryd.underlying5, ⟨_, _, rfl, ?_, (fun h => by cases h), ?_⟩⟩
  · intro i x hx
    refine ⟨_, _, rfl, fun j u hu => ?_⟩
    have hi : i < s.length := (List.getElem?_eq_some_iff.1 hx).1
    cases j with
    | zero =>
      simp only [byC, List.getElem?_cons_zero, Option.some.injEq] at hu
      subst hu
      have := Lib.bytesWorld_cell w 5 ⟨s.toArray⟩ i (by rw [Lib.size_eq]; exact hi)
      simp only [Nat.zero_add, Nat.mul_one, Nat.add_zero]
      rw [this]
      simp [List.getD, hx]
    | succ j => simp [byC] at hu
  · have := grownCap_ge w (ByteArray.size ⟨s.toArray⟩) 0 5
    rw [Lib.size_eq] at this ⊢
    exact this

end Go.Proofs.YthlgjipbpgaobaaDoor
