/- The library's contracts that the walks use, in one form: what is returned, and that what was there stands. -/
import Derived.Test.YthlgjipbpgaobaaDoorBase
import Derived.Test.YthlgjipbpgaobaaDoorPaxM
import Derived.Test.YthlgjipbpgaobaaDoorShelf
namespace Go.Proofs.YthlgjipbpgaobaaDoor
open Go.RowKit

theorem below_grow {B : Nat} {w : World} {k : Nat} {os : Array Obj} (h : B ≤ w.heap.size) : Below B w (Sort.grow (w.drewN k) os) := by
  refine ⟨rfl, rfl, rfl, by simp [Sort.grow], fun i hi => ?_⟩
  show (w.heap ++ os)[i]? = w.heap[i]?
  rw [Array.getElem?_append_left (by omega)]
theorem below_bytesWorld (w : World) (e : TypeId) (s : ByteArray) : Below w.heap.size w (Lib.bytesWorld w e s) :=
  ⟨rfl, rfl, rfl, by rw [Lib.bytesWorld_size]; omega, fun k hk => Lib.bytesWorld_at_old w e s k hk⟩

theorem itoaZ_calls (w : World) (hg : GL w) (n : Int) (h0 : -9223372036854775808 ≤ n) (hn : n ≤ 9223372036854775807) :
    Calls Tryd.prog 18 #[.int .i64 n] w fun e w' => e = .returned (S (Lib.itoa n)) ∧ Below w.heap.size w w' :=
  (Tryd.strconv_Itoa n h0 hn w hg.pow).mono fun e w' ⟨he, k, os, hw⟩ => by
    subst hw
    exact ⟨he, below_grow (Nat.le_refl _)⟩
theorem itoa_calls (w : World) (hg : GL w) (n : Nat) (hn : n ≤ 9223372036854775807) :
    Calls Tryd.prog 18 #[.int .i64 n] w fun e w' => e = .returned (S (dec n)) ∧ Below w.heap.size w w' :=
  (itoaZ_calls w hg n (by omega) (by omega)).mono fun e w' ⟨he, hb⟩ => by
    rw [Lib.itoa_nonneg] at he
    exact ⟨he, hb⟩

/-- What an error value is. -/
def someErr (v : Value) : Prop := ∃ x, v = .iface 71 x

theorem atoi_ok_calls (w : World) (s : Str) (hs : s.length ≤ 1000000000) (v : Int) (h : Lib.atoiAll s = .ok v) :
    Calls Tryd.prog 22 #[S s] w fun e w' => e = .returned (.tuple #[.int .i64 v, .nilIface]) ∧ Below w.heap.size w w' :=
  (Tryd.strconv_Atoi_ok ⟨s.toArray⟩ (by simp [Lib.size_eq]; omega) v (by simpa using h) w).mono fun e w' ⟨he, hw⟩ => by
    refine ⟨he, ?_⟩
    rcases hw with rfl | ⟨t, rfl⟩
    · exact Below.refl _ _
    · exact below_bytesWorld _ _ _
theorem atoi_bad_calls (w : World) (hg : GL w) (s : Str) (hs : s.length ≤ 1000000000) (h : ∀ v, Lib.atoiAll s ≠ .ok v) :
    Calls Tryd.prog 22 #[S s] w fun e w' => ∃ n x, e = .returned (.tuple #[.int .i64 n, .iface 71 x]) ∧ Below w.heap.size w w' := by
  obtain ⟨t1, p1, h1⟩ := hg.syn
  obtain ⟨t2, p2, h2⟩ := hg.rng
  rcases hc : Lib.atoiAll s with v | _ | _
  · exact absurd hc (h v)
  · exact (Tryd.strconv_Atoi_bad_var ⟨s.toArray⟩ (by simp [Lib.size_eq]; omega) (by intro v; simp [hc]) (by simp [hc]) t1 p1 w h1).mono fun e w' ⟨N, he, _, _, hb⟩ => ⟨_, _, he, hb⟩
  · exact (Tryd.strconv_Atoi_range_var ⟨s.toArray⟩ (by simp [Lib.size_eq]; omega) (by simpa using hc) t2 p2 w h2).mono fun e w' ⟨N, he, _, _, hb⟩ => ⟨_, _, he, hb⟩

theorem below_drewN (w : World) (n : Nat) : Below w.heap.size w (w.drewN n) := ⟨rfl, rfl, rfl, Nat.le_refl _, fun _ _ => rfl⟩

theorem cut1_calls (w : World) (hg : GL w) (s : Str) (c : UInt8) (hs : s.length ≤ 1000000000) :
    Calls Tryd.prog 21 #[S s, .string ⟨#[c]⟩] w fun e w' => e = .returned (.tuple #[S (cut1 c s).1, S (cut1 c s).2.1, .bool (cut1 c s).2.2]) ∧ Below w.heap.size w w' := by
  obtain ⟨m, hm⟩ := hg.max
  refine (Tryd.strings_Cut ⟨s.toArray⟩ ⟨#[c]⟩ m w (by simp [Lib.size_eq]; omega) hm).mono fun e w' ⟨he, n, hw⟩ => ?_
  subst hw
  simp only [cut_one] at he
  exact ⟨he, below_drewN _ _⟩

theorem cutSuffix_calls (w : World) (s p : Str) (hs : s.length ≤ 1000000000) :
    Calls Tryd.prog 23 #[S s, S p] w fun e w' => e = .returned (.tuple #[S (Lib.trimSuffix s p), .bool (Lib.hasSuffix s p)]) ∧ Below w.heap.size w w' :=
  (Tryd.strings_CutSuffix ⟨s.toArray⟩ ⟨p.toArray⟩ w (by simp [Lib.size_eq]; omega)).mono fun e w' ⟨he, hw⟩ => by
    subst hw; exact ⟨by simpa using he, Below.refl _ _⟩

theorem contains1_calls (w : World) (s : Str) (c : UInt8) :
    Calls Tryd.prog 24 #[S s, .string ⟨#[c]⟩] w fun e w' => e = .returned (.bool (s.contains c)) ∧ w = w' :=
  (Tryd.strings_Contains_one ⟨s.toArray⟩ c w).mono fun e w' ⟨he, hw⟩ => by
    subst hw; rw [indexByte_mem] at he; exact ⟨by simpa using he, rfl⟩

end Go.Proofs.YthlgjipbpgaobaaDoor
