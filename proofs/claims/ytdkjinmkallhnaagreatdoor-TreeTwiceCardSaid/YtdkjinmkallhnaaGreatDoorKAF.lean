/- A part of a proof of TreeTwiceCardSaid of this seat: what its walks and its laws lean on; joined by a program of this repo (wip/pack.py) out of the texts Stb2, XAttrM, QUntarAttrs1, QSlicesIndexFuncPairAtUntarAttrs1, XDelP, QUntarAttrs2, QSlicesInsertionSortCmpFuncPairAtUntarAttrs2, QSlicesSwapRangeCmpFuncPairAtUntarAttrs2. -/
import Derived.Test.YtdkjinmkallhnaaGreatDoorKAB
import Derived.Test.YtdkjinmkallhnaaGreatDoorKAC
import Derived.Test.YtdkjinmkallhnaaGreatDoorKAD
import Derived.Test.YtdkjinmkallhnaaGreatDoorKAE
section
namespace Go.Proofs.YtdkjinmkallhnaaGreatDoorT
theorem div_at {s t i : Nat} (h1 : s * t ≤ i) (h2 : i < s * t + s) : i / s = t := by
  refine Nat.div_eq_of_lt_le ?_ ?_
  · rw [Nat.mul_comm]; exact h1
  · rw [Nat.succ_mul, Nat.mul_comm]; exact h2
theorem div_below {s t i : Nat} (hs : 0 < s) (h : i < s * t) : i / s < t := by rw [Nat.div_lt_iff_lt_mul hs, Nat.mul_comm]; exact h
theorem div_above {s t i : Nat} (hs : 0 < s) (h : s * t ≤ i) : t ≤ i / s := by rw [Nat.le_div_iff_mul_le hs, Nat.mul_comm]; exact h
structure StA (f g : Nat → Dp) (s a n : Nat) : Prop where
  mixed : Mixed f g 0 n
  ord : BlkOrd g s 0 a
  apart : BlkApart g s 0 n
  rest : ∀ i, a ≤ i → g i = f i
theorem StA.start {f : Nat → Dp} {s n : Nat} (h : Fresh f 0 n) : StA f f s 0 n :=
  ⟨Mixed.refl _ _ _, fun i j _ _ hj _ => by omega, fun i j _ hj hd => h i j (Nat.zero_le _) (by
    rcases Nat.lt_or_ge i j with q | q
    · exact q
    · have := Nat.div_le_div_right (c := s) q; omega) hj, fun _ _ => rfl⟩
theorem StA.fresh {f g : Nat → Dp} {s a n b : Nat} (h : StA f g s a n) (hf : Fresh f 0 n) (hb : b ≤ n) : Fresh g a b := fun i j hi hij hj => by
  rw [h.rest i hi, h.rest j (by omega)]; exact hf i j (Nat.zero_le _) hij (by omega)
theorem StA.step {f g g' : Nat → Dp} {s t n b : Nat} (hs : 0 < s) (h : StA f g s (s * t) n) (hb : b ≤ s * t + s) (hab : s * t ≤ b) (hbn : b ≤ n) (hm : Merged g g' (s * t) b) : StA f g' s b n := by
  refine ⟨h.mixed.trans (hm.mixed.wider (Nat.zero_le _) hbn hab), fun i j hi hij hj hd => ?_, fun i j hi hj hd => ?_, fun i hi => (hm.mixed.out i (.inr hi)).trans (h.rest i (by omega))⟩
  · by_cases h1 : j < s * t
    · rw [hm.mixed.out i (.inl (by omega)), hm.mixed.out j (.inl h1)]
      exact h.ord i j hi hij h1 hd
    · have h2 : s * t ≤ i := by
        rcases Nat.lt_or_ge i (s * t) with q | q
        · have := div_below hs q
          have := div_above hs (show s * t ≤ j by omega)
          omega
        · exact q
      exact hm.ord i j h2 hij hj
  · have key : ∀ k, ∃ k', g' k = g k' ∧ k' / s = k / s ∧ (k < n → k' < n) := by
      intro k
      by_cases q : s * t ≤ k ∧ k < b
      · obtain ⟨k', q1, q2, q3⟩ := hm.mixed.mem q.1 q.2
        exact ⟨k', q3, by rw [div_at q1 (by omega), div_at q.1 (by omega)], fun _ => by omega⟩
      · exact ⟨k, hm.mixed.out k (by omega), rfl, id⟩
    obtain ⟨i', a1, a2, _⟩ := key i
    obtain ⟨j', b1, b2, b3⟩ := key j
    rw [a1, b1]
    exact h.apart i' j' (Nat.zero_le _) (b3 hj) (by omega)
structure StB (f g : Nat → Dp) (s a n : Nat) : Prop where
  mixed : Mixed f g 0 n
  done : BlkOrd g (2 * s) 0 a
  ord : BlkOrd g s a n
  apart2 : BlkApart g (2 * s) 0 n
  apart : BlkApart g s a n
theorem half_div {s i j : Nat} (hs : 0 < s) (h : i / (2 * s) < j / (2 * s)) : i / s < j / s := by
  rw [Nat.mul_comm, ← Nat.div_div_eq_div_mul, ← Nat.div_div_eq_div_mul] at h
  rcases Nat.lt_or_ge (i / s) (j / s) with q | q
  · exact q
  · have := Nat.div_le_div_right (c := 2) q; omega
theorem StB.start {f g : Nat → Dp} {s n : Nat} (hs : 0 < s) (h1 : Mixed f g 0 n) (h2 : BlkOrd g s 0 n) (h3 : BlkApart g s 0 n) : StB f g s 0 n :=
  ⟨h1, fun i j _ _ hj _ => by omega, h2, fun i j hi hj hd => h3 i j hi hj (half_div hs hd), h3⟩
theorem StB.parts {f g : Nat → Dp} {s t n b : Nat} (hs : 0 < s) (h : StB f g s (2 * s * t) n) (hb : b ≤ 2 * s * t + 2 * s) (hab : 2 * s * t + s < b) (hbn : b ≤ n) : Parts g (2 * s * t) (2 * s * t + s) b := by
  have e1 : 2 * s * t = s * (2 * t) := by rw [Nat.mul_comm 2 s, Nat.mul_assoc]
  have e2 : s * (2 * t) + s = s * (2 * t + 1) := by rw [Nat.mul_succ]
  refine ⟨fun i j hi hij hj => h.ord i j hi hij (by omega) ?_, fun i j hi hij hj => h.ord i j (by omega) hij (by omega) ?_, fun i j hi hm hj hb' => h.apart i j hi (by omega) ?_⟩
  · rw [e1] at hi hj; rw [div_at hi (by omega), div_at (t := 2 * t) (by omega) hj]
  · rw [e1, e2] at hi; rw [div_at hi (by rw [← e2]; omega), div_at (t := 2 * t + 1) (by omega) (by rw [← e2]; omega)]
  · rw [e1] at hi hm; rw [e1, e2] at hj
    rw [div_at hi (by omega), div_at hj (by rw [← e2]; omega)]; omega
theorem StB.step {f g g' : Nat → Dp} {s t n b : Nat} (hs : 0 < s) (h : StB f g s (2 * s * t) n) (hb : b ≤ 2 * s * t + 2 * s) (hab : 2 * s * t ≤ b) (hbn : b ≤ n) (hm : Merged g g' (2 * s * t) b) : StB f g' s b n := by
  have hs2 : 0 < 2 * s := by omega
  refine ⟨h.mixed.trans (hm.mixed.wider (Nat.zero_le _) hbn hab), fun i j hi hij hj hd => ?_, fun i j hi hij hj hd => ?_, fun i j hi hj hd => ?_, fun i j hi hj hd => ?_⟩
  · by_cases h1 : j < 2 * s * t
    · rw [hm.mixed.out i (.inl (by omega)), hm.mixed.out j (.inl h1)]
      exact h.done i j hi hij h1 hd
    · have h2 : 2 * s * t ≤ i := by
        rcases Nat.lt_or_ge i (2 * s * t) with q | q
        · have := div_below hs2 q
          have := div_above hs2 (show 2 * s * t ≤ j by omega)
          omega
        · exact q
      exact hm.ord i j h2 hij hj
  · rw [hm.mixed.out i (.inr hi), hm.mixed.out j (.inr (by omega))]
    exact h.ord i j (by omega) hij hj hd
  · have key : ∀ k, ∃ k', g' k = g k' ∧ k' / (2 * s) = k / (2 * s) ∧ (k < n → k' < n) := by
      intro k
      by_cases q : 2 * s * t ≤ k ∧ k < b
      · obtain ⟨k', q1, q2, q3⟩ := hm.mixed.mem q.1 q.2
        exact ⟨k', q3, by rw [div_at q1 (by omega), div_at q.1 (by omega)], fun _ => by omega⟩
      · exact ⟨k, hm.mixed.out k (by omega), rfl, id⟩
    obtain ⟨i', a1, a2, _⟩ := key i
    obtain ⟨j', b1, b2, b3⟩ := key j
    rw [a1, b1]
    exact h.apart2 i' j' (Nat.zero_le _) (b3 hj) (by omega)
  · have hij : i < j := by
      rcases Nat.lt_or_ge i j with q | q
      · exact q
      · have := Nat.div_le_div_right (c := s) q; omega
    rw [hm.mixed.out i (.inr hi), hm.mixed.out j (.inr (by omega))]
    exact h.apart i j (by omega) hj hd
theorem StB.last {f g : Nat → Dp} {s t n : Nat} (hs : 0 < s) (h : StB f g s (2 * s * t) n) (hn : n ≤ 2 * s * t + s) : BlkOrd g (2 * s) 0 n := by
  have e1 : 2 * s * t = s * (2 * t) := by rw [Nat.mul_comm 2 s, Nat.mul_assoc]
  intro i j hi hij hj hd
  by_cases h1 : j < 2 * s * t
  · exact h.done i j hi hij h1 hd
  · have h2 : 2 * s * t ≤ i := by
      rcases Nat.lt_or_ge i (2 * s * t) with q | q
      · have := div_below (show 0 < 2 * s by omega) q
        have := div_above (show 0 < 2 * s by omega) (show 2 * s * t ≤ j by omega)
        omega
      · exact q
    refine h.ord i j h2 hij hj ?_
    rw [e1] at h2 hn
    rw [div_at h2 (by omega), div_at (t := 2 * t) (by omega) (by omega)]
theorem blk_whole {g : Nat → Dp} {s n : Nat} (h : BlkOrd g s 0 n) (hn : n ≤ s) : InOrd lsD g 0 n := fun i j hi hij hj => h i j hi hij hj (by rw [Nat.div_eq_of_lt (by omega), Nat.div_eq_of_lt (by omega)])
def insP (p : Str × Str) : List (Str × Str) → List (Str × Str)
  | [] => [p]
  | x :: r => if cmpS p.1 x.1 < 0 then p :: x :: r else x :: insP p r
def sortP (l : List (Str × Str)) : List (Str × Str) := l.foldl (fun o p => insP p o) []
def insD (p : Dp) : List Dp → List Dp
  | [] => [p]
  | x :: r => if lsD p x = true then p :: x :: r else x :: insD p r
theorem insD_perm (p : Dp) : ∀ l, (insD p l).Perm (p :: l)
  | [] => List.Perm.refl _
  | x :: r => by
    unfold insD
    split
    · exact List.Perm.refl _
    · exact (List.Perm.cons _ (insD_perm p r)).trans (List.Perm.swap _ _ _)
theorem insD_sorted (p : Dp) : ∀ l, l.Pairwise (fun a b => lsD b a = false) → (insD p l).Pairwise (fun a b => lsD b a = false)
  | [], _ => by simp [insD]
  | x :: r, h => by
    unfold insD
    rw [List.pairwise_cons] at h
    split
    · rename_i hp
      refine List.pairwise_cons.2 ⟨fun y hy => ?_, List.pairwise_cons.2 h⟩
      rcases List.mem_cons.1 hy with e | e
      · rw [e]; exact lsD_weak.asymm _ _ hp
      · exact lsD_weak.trans _ _ _ (lsD_weak.asymm _ _ hp) (h.1 y e)
    · rename_i hp
      refine List.pairwise_cons.2 ⟨fun y hy => ?_, insD_sorted p r h.2⟩
      rcases List.mem_cons.1 ((insD_perm p r).mem_iff.1 hy) with e | e
      · rw [e]; simpa using hp
      · exact h.1 y e
theorem insD_fst (p : Dp) : ∀ l, (∀ x ∈ l, x.2 < p.2) → (insD p l).map (·.1) = insP p.1 (l.map (·.1))
  | [], _ => rfl
  | x :: r, h => by
    unfold insD
    simp only [List.map_cons, insP]
    have e := lsD_later (h x List.mem_cons_self)
    by_cases c : cmpS p.1.1 x.1.1 < 0
    · rw [if_pos c, if_pos (by rw [e]; exact decide_eq_true c)]; rfl
    · rw [if_neg c, if_neg (by rw [e, decide_eq_false c]; decide)]
      rw [List.map_cons, insD_fst p r fun y hy => h y (List.mem_cons_of_mem _ hy)]
theorem sortP_snoc (l : List (Str × Str)) (p : Str × Str) : sortP (l ++ [p]) = insP p (sortP l) := by simp [sortP]
theorem sorted_is {l : List (Str × Str)} : ∀ (d : List Dp), d.Perm l.zipIdx → d.Pairwise (fun a b => lsD b a = false) → d.map (·.1) = sortP l := by
  suffices h : ∃ d : List Dp, d.Perm l.zipIdx ∧ d.Pairwise (fun a b => lsD b a = false) ∧ d.map (·.1) = sortP l by
    obtain ⟨d0, h1, h2, h3⟩ := h
    intro d hd hs
    have hp : d.Perm d0 := hd.trans h1.symm
    have : d = d0 := by
      refine List.Perm.eq_of_pairwise (le := fun a b => lsD b a = false) (fun a b ha hb h1' h2' => ?_) hs h2 hp
      rcases lsD_tri a b with q | q | q
      · rw [q] at h2'; cases h2'
      · rw [q] at h1'; cases h1'
      · obtain ⟨x, i⟩ := a
        obtain ⟨y, j⟩ := b
        have m1 := hd.mem_iff.1 ha
        have m2 := h1.mem_iff.1 hb
        rw [List.mem_zipIdx_iff_getElem?] at m1 m2
        have : i = j := q.2
        subst this
        rw [m1] at m2
        cases m2; rfl
    rw [this]; exact h3
  generalize hn : l.length = n
  induction n generalizing l with
  | zero => rw [List.eq_nil_of_length_eq_zero hn]; exact ⟨[], List.Perm.refl _, List.Pairwise.nil, rfl⟩
  | succ n ih =>
    obtain ⟨l', p, rfl⟩ : ∃ l' p, l = l' ++ [p] := ⟨l.dropLast, l.getLast (by intro h; rw [h] at hn; simp at hn), by rw [List.dropLast_concat_getLast]⟩
    obtain ⟨d, h1, h2, h3⟩ := ih (l := l') (by simpa using hn)
    refine ⟨insD (p, l'.length) d, (insD_perm _ _).trans ?_, insD_sorted _ _ h2, ?_⟩
    · rw [List.zipIdx_append]
      refine (List.Perm.cons _ h1).trans ?_
      simp only [List.zipIdx_cons, List.zipIdx_nil, Nat.zero_add]
      exact (List.perm_append_comm (l₁ := [(p, l'.length)]) (l₂ := l'.zipIdx))
    · rw [insD_fst, h3, sortP_snoc]
      intro x hx
      have := h1.mem_iff.1 hx
      obtain ⟨y, i⟩ := x
      rw [List.mem_zipIdx_iff_getElem?] at this
      exact (List.getElem?_eq_some_iff.1 this).1
def zipF (l : List (Str × Str)) (i : Nat) : Dp := (l.getD i ([], []), i)
theorem zipF_list (l : List (Str × Str)) : (List.range' 0 (l.length - 0)).map (zipF l) = l.zipIdx := by
  rw [List.zipIdx_eq_zip_range', Nat.sub_zero]
  apply List.ext_getElem
  · simp
  · intro i h1 h2
    have h3 : i < l.length := by simpa using h1
    simp [zipF, List.getD_eq_getElem?_getD, h3]
theorem zipF_fresh (l : List (Str × Str)) (a b : Nat) : Fresh (zipF l) a b := fun _ _ _ h _ => h
theorem sort_end {l : List (Str × Str)} {g : Nat → Dp} (hm : Mixed (zipF l) g 0 l.length) (ho : InOrd lsD g 0 l.length) : (List.range l.length).map (fun i => (g i).1) = sortP l := by
  have hp := hm.perm
  rw [zipF_list] at hp
  have hs : ((List.range' 0 (l.length - 0)).map g).Pairwise fun a b => lsD b a = false := by
    rw [List.pairwise_map, Nat.sub_zero]
    refine List.pairwise_iff_getElem.2 fun i j h1 h2 hij => ?_
    simp only [List.getElem_range', Nat.zero_add, Nat.one_mul]
    exact ho i j (Nat.zero_le _) hij (by simpa using h2)
  rw [← sorted_is _ hp hs, List.map_map, Nat.sub_zero, ← List.range_eq_range']
  rfl
end Go.Proofs.YtdkjinmkallhnaaGreatDoorT
end
section
namespace Go.Proofs.YtdkjinmkallhnaaGreatDoorQ
open Go.RowKit Go.Proofs.YtdkjinmkallhnaaGreatDoor Go.Proofs.YtdkjinmkallhnaaGreatDoorW.PrintWords Go.Proofs.YtdkjinmkallhnaaGreatDoorW.PrintLast
open Go.Proofs.YtdkjinmkallhnaaGreatDoorT (sortP)
def isAttr (p : Str × Str) : Bool := ([83, 67, 72, 73, 76, 89, 46, 120, 97, 116, 116, 114, 46] : Str).isPrefixOf p.1
def attrsM (l : List (Str × Str)) : Str := if printOk (sortP (l.filter isAttr)) = true then printM (sortP (l.filter isAttr)) else []
end Go.Proofs.YtdkjinmkallhnaaGreatDoorQ
end
section
namespace Go.Proofs.YtdkjinmkallhnaaGreatDoorQ
open Go.RowKit Go.Proofs.YtdkjinmkallhnaaGreatDoorW.PrintWords Go.Proofs.YtdkjinmkallhnaaGreatDoorW.PrintLast Go.Proofs.YtdkjinmkallhnaaGreatDoorW.PrintMore
open Go.Proofs.YtdkjinmkallhnaaGreatDoor (GL)
attribute [local go_sem] max2_int min2_int max_two min_two max_three min_three max_four min_four
def pq13.f (a0_0 : ByteArray) (a0_1 : ByteArray) : Option (Bool) := (pq12.f a0_0 (⟨#[83, 67, 72, 73, 76, 89, 46, 120, 97, 116, 116, 114, 46]⟩ : ByteArray)).bind fun t197 => (some (!t197))
set_option maxHeartbeats 8000000 in
set_option maxRecDepth 100000 in
theorem pq13.calls (a0_0 : ByteArray) (a0_1 : ByteArray) (r : Bool) (w : World) (h : pq13.f a0_0 a0_1 = some r) :
  Calls Tryz.prog 142 #[.agg #[.string a0_0, .string a0_1]] w fun e w' => e = .returned (.bool r) ∧ Below w.heap.size w w' := by
 have hu110 := Tryz.underlying110
 have HB := Aside0.mk (Below.refl w.heap.size w)
 have H : ((pq12.f a0_0 (⟨#[83, 67, 72, 73, 76, 89, 46, 120, 97, 116, 116, 114, 46]⟩ : ByteArray)).bind fun t197 => (some (!t197))) = some r := h
 clear h
 replace H := Option.bind_eq_some_iff.mp H
 obtain ⟨t197, A20, H⟩ := H
 replace H : (some (!t197)) = some r := H
 have A2 := Aside0.mk A20
 clear A20
 obtain rfl := Option.some.inj H
 go_enter Tryz.func142, Tryz.ntmps142
 go_wp2_with (first | ((with_reducible refine gate_dst (N := 1) rfl ?_); refine box_event ?hg (N := 1) ?hd (cs := #[.string a0_0, .string a0_1]) (t := 110) ?hr ?_; (case hd => rfl); (case hg => rfl); (case hr => first | (go_simp; done) | (go_simp; rfl)); intro gb196 hg w3 hbox hb; have n0_ := Aside0.mk (below_step (by repeat (first | (with_reducible first | exact HB.out | apply below_alloc | apply pw_below_drewN | apply below_drew1) | exact HB.out)) hb); have n1_ := Aside0.mk (hbox); have n2_ := Aside0.mk ((by rw [hg]; exact (below_size (by repeat (first | (with_reducible first | exact HB.out | apply below_alloc | apply pw_below_drewN | apply below_drew1) | exact HB.out))) : w.heap.size ≤ gb196)); have n3_ := Aside0.mk ((by rw [hg]; exact (below_size (by repeat (first | (with_reducible first | exact HB.out | apply below_alloc | apply pw_below_drewN | apply below_drew1) | exact HB.out))) : w.heap.size ≤ gb196)); clear HB; have HB := n0_; have BK196 := n1_; have GW196 := n2_; have GE196 := n3_; clear n0_ n1_ n2_ n3_; clear hb hbox hg; have hcz4_0 : w3.cell? ⟨gb196, 0, none⟩ = some (.string a0_0) := (blk_cell BK196.out 0).trans rfl; have hcz4_1 : w3.cell? ⟨gb196, 1, none⟩ = some (.string a0_1) := (blk_cell BK196.out 1).trans rfl; have hfz4_0 := blk_frozen BK196.out 0; have hfz4_1 := blk_frozen BK196.out 1) | ((with_reducible refine gate_callee (f := 51) rfl ?_); refine goesL_ (some 5) rfl rfl Tryz.func51 (by kernel_rfl) rfl #[.string a0_0, .string (⟨#[83, 67, 72, 73, 76, 89, 46, 120, 97, 116, 116, 114, 46]⟩ : ByteArray)] rfl (by (try simp only [List.map_toArray, List.map_cons, List.map_nil]); first | done | rfl | (simp only [List.length_drop, List.length_take]; rfl)) ?_; (with_reducible refine (pq12.calls a0_0 (⟨#[83, 67, 72, 73, 76, 89, 46, 120, 97, 116, 116, 114, 46]⟩ : ByteArray) t197 _ A2.out).mono ?_); rintro e w' ⟨rfl, ⟨nd, rfl⟩⟩; refine ⟨_, rfl, ?_⟩))
 go_ret
 exact ⟨by first | rfl | (simp [errW_none, errW_some] <;> rfl) | (simp [*, errW_none, errW_some] <;> rfl), by repeat (first | (with_reducible first | exact HB.out | apply below_alloc | apply pw_below_drewN | apply below_drew1 | refine below_set ?_ GE196.out) | exact HB.out)⟩
end Go.Proofs.YtdkjinmkallhnaaGreatDoorQ
end
section
namespace Go.Proofs.YtdkjinmkallhnaaGreatDoorQ
open Go.RowKit Go.Proofs.YtdkjinmkallhnaaGreatDoorW.PrintWords Go.Proofs.YtdkjinmkallhnaaGreatDoorW.PrintLast Go.Proofs.YtdkjinmkallhnaaGreatDoorW.PrintMore
open Go.Proofs.YtdkjinmkallhnaaGreatDoor (GL)
attribute [local go_sem] max2_int min2_int max_two min_two max_three min_three max_four min_four
def pq9.l0 : Nat → List (S110) → Int → Int → Option (Int)
 | 0, _, _, _ => none
 | k + 1, x0, x7, x8 => if x8 < x7 then (if 0 ≤ x8 then (if x8 < (x0.length : Int) then ((pq13.f ((rd_T110 x0 x8).f0) ((rd_T110 x0 x8).f1)).bind fun t199 => (if t199 = true then (some x8) else (pq9.l0 k x0 x7 (wrap64 (x8 + 1))))) else (none)) else (none)) else (some (-1))
def pq9.f (k : Nat) (l0 : List (S110)) (a1 : Unit) : Option (Int) := pq9.l0 k l0 (l0.length : Int) 0
set_option maxHeartbeats 8000000 in
set_option maxRecDepth 100000 in
theorem pq9.calls (k : Nat) (A0 : Option Addr) (c0 : Nat) (l0 : List (S110)) (a1 : Unit) (r : Int) (w : World) (hr0 : Kd.C k110 w A0 l0.length l0) (hc0 : l0.length ≤ c0) (h : pq9.f k l0 a1 = some r) :
  Calls Tryz.prog 164 #[.slice A0 l0.length c0, .func (.func 142) #[] #[]] w fun e w' => e = .returned (.int .i64 r) ∧ Below w.heap.size w w' := by
 have hu110 := Tryz.underlying110
 have HR0 := Aside0.mk hr0
 have HC0 := Aside0.mk hc0
 clear hr0 hc0
 have HB := Aside0.mk (Below.refl w.heap.size w)
 have H : (pq9.l0 k l0 (l0.length : Int) 0) = some r := h
 clear h
 have H' := Aside0.mk H
 clear H
 go_enter Tryz.func164, Tryz.ntmps164
 go_wp2
 go_loopg [8] k (fun kq v8 w' => ∃ (x8_1 : Int), v8 = .int .i64 x8_1 ∧ Aside0 (pq9.l0 kq l0 (l0.length : Int) x8_1 = some r) ∧ Aside0 (kq ≤ k) ∧ Aside0 (Below w.heap.size w w'))
 case atStart => exact ⟨(0), (by first | rfl | (simp; done) | (simp [*]; done)), H', ⟨Nat.le_refl _⟩, ⟨by repeat (first | (with_reducible first | exact HB.out | apply below_alloc | apply pw_below_drewN | apply below_drew1) | exact HB.out)⟩⟩
 case round =>
  clear H'
  try clear p2
  obtain ⟨x8_1, rfl, HA, HK1, HB⟩ := hrel
  cases gk with
  | zero => exact absurd HA.out (by simp [pq9.l0])
  | succ k1 =>
   have H := HA.out
   clear HA
   simp only [pq9.l0] at H
   by_cases c3 : x8_1 < (l0.length : Int)
   ·rw [if_pos c3] at H
    have c3b0 : decide (x8_1 < (l0.length : Int)) = true := decide_eq_true c3
    clear c3
    by_cases c4 : 0 ≤ x8_1
    ·rw [if_pos c4] at H
     have c4b0 : decide (0 ≤ x8_1) = true := decide_eq_true c4
     clear c4
     by_cases c5 : x8_1 < (l0.length : Int)
     ·rw [if_pos c5] at H
      have c5b0 : decide (x8_1 < (l0.length : Int)) = true := decide_eq_true c5
      clear c5
      replace H := Option.bind_eq_some_iff.mp H
      obtain ⟨t199, A60, H⟩ := H
      replace H : (if t199 = true then (some x8_1) else (pq9.l0 k1 l0 (l0.length : Int) (wrap64 (x8_1 + 1)))) = some r := H
      have A6 := Aside0.mk A60
      clear A60
      by_cases c7 : t199 = true
      ·subst c7
       have H1 : (some x8_1) = some r := by rw [if_pos rfl] at H; exact H
       clear H
       have H := H1
       clear H1
       obtain rfl := Option.some.inj H
       have p198 : 0 ≤ (x8_1 : Int) := of_decide_eq_true (by first | (with_reducible assumption) | assumption)
       have q198 : x8_1 < (l0.length : Int) := of_decide_eq_true (by first | (with_reducible assumption) | assumption)
       obtain ⟨ad198, e198, hx198_0, hx198_1⟩ := at_T110 HR0.out x8_1 p198 q198
       cases e198
       replace hx198_0 := (HB.out.cell (World.block_lt_of_cell? w _ hx198_0)).trans hx198_0
       replace hx198_1 := (HB.out.cell (World.block_lt_of_cell? w _ hx198_1)).trans hx198_1
       replace p198 := eq_true p198
       replace q198 := eq_true q198
       go_wp2_with (first | (go_at_call 142; (with_reducible refine (pq13.calls ((rd_T110 l0 x8_1).f0) ((rd_T110 l0 x8_1).f1) true _ A6.out).mono ?_); rintro e w8 ⟨rfl, hb⟩; have n0_ := Aside0.mk (below_step (by repeat (first | (with_reducible first | exact HB.out | apply below_alloc | apply pw_below_drewN | apply below_drew1) | exact HB.out)) hb); clear HB; have HB := n0_; clear n0_; (try clear hb); (try clear hb2); (try clear hk); (try clear hi)))
       go_ret
       exact ⟨by first | rfl | (simp [errW_none, errW_some] <;> rfl) | (simp [*, errW_none, errW_some] <;> rfl), by repeat (first | (with_reducible first | exact HB.out | apply below_alloc | apply pw_below_drewN | apply below_drew1) | exact HB.out)⟩
      ·replace c7 := Bool.eq_false_iff.mpr c7
       subst c7
       have H1 : (pq9.l0 k1 l0 (l0.length : Int) (wrap64 (x8_1 + 1))) = some r := by rw [if_neg (show ¬ (false = true) by decide)] at H; exact H
       clear H
       have H := H1
       clear H1
       have H' := Aside0.mk H
       clear H
       have p198 : 0 ≤ (x8_1 : Int) := of_decide_eq_true (by first | (with_reducible assumption) | assumption)
       have q198 : x8_1 < (l0.length : Int) := of_decide_eq_true (by first | (with_reducible assumption) | assumption)
       obtain ⟨ad198, e198, hx198_0, hx198_1⟩ := at_T110 HR0.out x8_1 p198 q198
       cases e198
       replace hx198_0 := (HB.out.cell (World.block_lt_of_cell? w _ hx198_0)).trans hx198_0
       replace hx198_1 := (HB.out.cell (World.block_lt_of_cell? w _ hx198_1)).trans hx198_1
       replace p198 := eq_true p198
       replace q198 := eq_true q198
       go_wp2_with (first | (go_at_call 142; (with_reducible refine (pq13.calls ((rd_T110 l0 x8_1).f0) ((rd_T110 l0 x8_1).f1) false _ A6.out).mono ?_); rintro e w9 ⟨rfl, hb⟩; have n0_ := Aside0.mk (below_step (by repeat (first | (with_reducible first | exact HB.out | apply below_alloc | apply pw_below_drewN | apply below_drew1) | exact HB.out)) hb); clear HB; have HB := n0_; clear n0_; (try clear hb); (try clear hb2); (try clear hk); (try clear hi)))
       go_roundg k1
       case measure => have := HK1.out; omega
       case rel => exact ⟨(wrap64 (x8_1 + 1)), (by first | rfl | (simp; done) | (simp [*]; done)), H', ⟨by have := HK1.out; omega⟩, ⟨by repeat (first | (with_reducible first | exact HB.out | apply below_alloc | apply pw_below_drewN | apply below_drew1) | exact HB.out)⟩⟩
     ·rw [if_neg c5] at H
      exact absurd H (by simp)
    ·rw [if_neg c4] at H
     exact absurd H (by simp)
   ·rw [if_neg c3] at H
    have c3b0 : decide (x8_1 < (l0.length : Int)) = false := decide_eq_false c3
    clear c3
    obtain rfl := Option.some.inj H
    go_wp2
    go_ret
    exact ⟨by first | rfl | (simp [errW_none, errW_some] <;> rfl) | (simp [*, errW_none, errW_some] <;> rfl), by repeat (first | (with_reducible first | exact HB.out | apply below_alloc | apply pw_below_drewN | apply below_drew1) | exact HB.out)⟩
end Go.Proofs.YtdkjinmkallhnaaGreatDoorQ
end
section
namespace Go.Proofs.YtdkjinmkallhnaaGreatDoorQ
open Go.RowKit Go.Proofs.YtdkjinmkallhnaaGreatDoor Go.Proofs.YtdkjinmkallhnaaGreatDoorW.PrintWords Go.Proofs.YtdkjinmkallhnaaGreatDoorW.PrintLast Go.Proofs.YtdkjinmkallhnaaGreatDoorW.PrintMore
theorem del_f (p : Str × Str) : pq13.f (B p.1) (B p.2) = some (!isAttr p) := by
  unfold pq13.f
  rw [show (⟨#[83, 67, 72, 73, 76, 89, 46, 120, 97, 116, 116, 114, 46]⟩ : ByteArray) = B [83, 67, 72, 73, 76, 89, 46, 120, 97, 116, 116, 114, 46] from rfl, hp_f]
  rfl
theorem idx_l (l : List (Str × Str)) (hl : l.length ≤ 1000000000) : ∀ d i, i + d = l.length → (∀ x ∈ l.take i, isAttr x = true) →
    ∃ r : Int, Ev (fun k => pq9.l0 k (l.map ofPr) l.length i) r ∧ ((r = -1 ∧ ∀ x ∈ l, isAttr x = true) ∨ ∃ j, ∃ h : j < l.length, r = (j : Nat) ∧ (∀ x ∈ l.take j, isAttr x = true) ∧ isAttr l[j] = false) := by
  intro d
  induction d with
  | zero =>
    intro i hi h
    refine ⟨-1, Ev.step (f := fun _ => some (-1)) (fun k => ?_) (Ev.now _), .inl ⟨rfl, ?_⟩⟩
    · simp only [pq9.l0]; rw [if_neg (by omega)]
    · rwa [List.take_of_length_le (by omega)] at h
  | succ d ih =>
    intro i hi h
    have hlt : i < l.length := by omega
    have hrd : rd_T110 (l.map ofPr) (i : Int) = ofPr l[i] := by
      unfold rd_T110
      rw [show ((i : Nat) : Int).toNat = i from rfl, List.getD_eq_getElem?_getD]
      simp [hlt]
    have hd : pq13.f (ofPr l[i]).f0 (ofPr l[i]).f1 = some (!isAttr l[i]) := del_f l[i]
    cases ha : isAttr l[i] with
    | true =>
      obtain ⟨r, e, q⟩ := ih (i + 1) (by omega) (by
        intro x hx
        rw [List.take_succ_eq_append_getElem hlt] at hx
        rcases List.mem_append.1 hx with h1 | h1
        · exact h x h1
        · rw [List.mem_singleton.1 h1]; exact ha)
      refine ⟨r, Ev.step (fun k => ?_) e, q⟩
      simp only [pq9.l0, List.length_map]
      rw [if_pos (by omega), if_pos (by omega), if_pos (by omega), hrd, hd, ha]
      simp only [Option.bind_some]
      rw [if_neg (by decide), wrap_in (by omega) (by omega)]
      rfl
    | false =>
      refine ⟨(i : Nat), Ev.step (f := fun _ => some ((i : Nat) : Int)) (fun k => ?_) (Ev.now _), .inr ⟨i, hlt, rfl, h, ha⟩⟩
      simp only [pq9.l0, List.length_map]
      rw [if_pos (by omega), if_pos (by omega), if_pos (by omega), hrd, hd, ha]
      simp only [Option.bind_some]
      rw [if_pos (by decide)]
theorem idx_f (l : List (Str × Str)) (hl : l.length ≤ 1000000000) : ∃ (k : Nat) (r : Int), pq9.f k (l.map ofPr) () = some r ∧ ((r = -1 ∧ l.filter isAttr = l) ∨ ∃ j, ∃ h : j < l.length, r = (j : Nat) ∧ (l.take (j + 1)).filter isAttr = l.take j) := by
  obtain ⟨r, e, q⟩ := idx_l l hl l.length 0 (by omega) (fun x h => by simp at h)
  obtain ⟨k, hk⟩ := e.rounds
  refine ⟨k, r, ?_, ?_⟩
  · unfold pq9.f
    rw [List.length_map]; exact hk
  · rcases q with ⟨h1, h2⟩ | ⟨j, h, h1, h2, h3⟩
    · exact .inl ⟨h1, List.filter_eq_self.2 h2⟩
    · refine .inr ⟨j, h, h1, ?_⟩
      rw [List.take_succ_eq_append_getElem h, List.filter_append, List.filter_eq_self.2 h2]
      simp [h3]
theorem del_call (w : World) (p : Str × Str) : Calls Tryz.prog 142 #[.agg #[S p.1, S p.2]] w fun e w' => e = .returned (.bool (!isAttr p)) ∧ Below w.heap.size w w' := pq13.calls (B p.1) (B p.2) _ w (del_f p)
theorem del_call' (w : World) (p : Str × Str) (b : Bool) (h : isAttr p = b) : Calls Tryz.prog 142 #[.agg #[S p.1, S p.2]] w fun e w' => e = .returned (.bool (!b)) ∧ Below w.heap.size w w' := by subst h; exact del_call w p
def prZero : Array Value := #[S [], S []]
theorem prC_all (p : Str × Str) : (prC p).toArray.all (·.oneCell') = true := by simp [prC, Value.oneCell']
set_option maxRecDepth 100000 in
set_option maxHeartbeats 1000000 in
theorem delp_calls (w : World) (base g cap : Nat) (l : List (Str × Str)) (ho : Own prC 110 2 base w (.slice (some ⟨g, 0, none⟩) l.length cap) l) (hl : l.length ≤ 100000000) :
    Calls Tryz.prog 140 #[.slice (some ⟨g, 0, none⟩) l.length cap, .func (.func 142) #[] #[]] w fun e w' =>
      e = .returned (.slice (some ⟨g, 0, none⟩) (l.filter isAttr).length cap) ∧ Own prC 110 2 base w' (.slice (some ⟨g, 0, none⟩) (l.filter isAttr).length cap) (l.filter isAttr) ∧ w.grownBy w' (some g) := by
  obtain ⟨k, r, hf, hr⟩ := idx_f l (by omega)
  have HO := Lib.hid ho
  have HL := Lib.hid hl
  have HF := Lib.hid hf
  have HR := Lib.hid hr
  obtain ⟨cur, hbg, _, hlc, hcm, _, _⟩ := own_blk ho
  have HCM := Lib.hid hcm
  have HLC := Lib.hid hlc
  have HC : Hid (Kd.C k110 w (some ⟨g, 0, none⟩) (l.map ofPr).length (l.map ofPr)) := Lib.hid (pr_C (by rw [prs_back]; exact ho.row prC_len) (by rw [List.length_map]; omega))
  clear ho hl hf hr hcm hlc hbg
  have h110 := Tryz.underlying110
  go_enter Tryz.func140, Tryz.ntmps140
  go_wp2_with fail
  have hcall := pq9.calls k (some ⟨g, 0, none⟩) cap (l.map ofPr) () r w HC.out (by rw [List.length_map]; exact HLC.out) HF.out
  rw [List.length_map] at hcall
  refine hcall.mono ?_
  rintro e w1 ⟨rfl, hb1⟩
  have HB1 := Lib.hid hb1
  clear hb1 hcall HC HF
  rcases HR.out with ⟨hr1, hall⟩ | ⟨i0, hi0, hr1, hi1⟩
  · subst hr1
    have HALL := Lib.hid hall
    clear hall HR
    have hne : ((-1 : Int) == -1) = true := by decide
    go_wp2_with fail
    go_ret
    refine ⟨by rw [HALL.out]; rfl, by rw [HALL.out]; exact HO.out.ext HB1.out, ?_⟩
    have hb := HB1.out
    exact ⟨hb.os, hb.tape, hb.output, hb.size, fun k hk _ => hb.block k hk⟩
  · subst hr1
    have HI1 := Lib.hid hi1
    have HI0 := Lib.hid hi0
    have hne : ((i0 : Int) == -1) = false := by simp
    clear HR hi1
    have hlm := HL.out
    go_wp2_with fail
    clear hne
    have HO1 := Lib.hid (HO.out.ext HB1.out)
    have HG1 : Hid (w.grownBy w1 (some g)) := Lib.hid (by
      have hb := HB1.out
      exact ⟨hb.os, hb.tape, hb.output, hb.size, fun k hk _ => hb.block k hk⟩)
    go_loopg [5, 6] (l.length + 1) (fun gg v5 v6 wr => ∃ (i j : Nat) (xs : List (Str × Str)), v5 = .int .i64 i ∧ v6 = .int .i64 j ∧ l.length < gg + j ∧ j ≤ l.length ∧ i < j ∧ Hid (xs.length = l.length) ∧ Hid (xs.take i = (l.take j).filter isAttr) ∧ Hid (xs.drop j = l.drop j) ∧
      Hid (Own prC 110 2 base wr (.slice (some ⟨g, 0, none⟩) xs.length cap) xs) ∧ Hid (w.grownBy wr (some g)))
    case atStart => exact ⟨i0, i0 + 1, l, rfl, by go_num, by omega, by omega, by omega, Lib.hid rfl, Lib.hid HI1.out.symm, Lib.hid rfl, HO1, HG1⟩
    case round =>
      obtain ⟨i, j, xs, rfl, rfl, hgj, hjl, hij, HX, HT, HD, HOW, HG⟩ := hrel
      by_cases hj : j < l.length
      · cases gk with
        | zero => omega
        | succ g1 =>
          have hjx : j < xs.length := by rw [HX.out]; exact hj
          have hlies := own_lies prC_len HOW.out hjx
          have hxl : xs[j] = l[j] := by
            have : (xs.drop j)[0]? = (l.drop j)[0]? := by rw [HD.out]
            rw [List.getElem?_drop, List.getElem?_drop, Nat.add_zero, List.getElem?_eq_getElem hjx, List.getElem?_eq_getElem hj] at this
            exact Option.some.inj this
          rw [hxl] at hlies
          have HFI : Hid ((l.take (j + 1)).filter isAttr = (l.take j).filter isAttr ++ if isAttr l[j] = true then [l[j]] else []) := Lib.hid (by
            rw [List.take_succ_eq_append_getElem hj, List.filter_append]
            cases h : isAttr l[j] <;> simp [h])
          generalize hp : l[j] = p at hlies HFI
          have HLI := Lib.hid hlies
          have HPX : Hid (xs[j]'hjx = p) := Lib.hid (hxl.trans hp)
          clear hlies hxl hp
          go_wp2_with (first | ((with_reducible refine gate_dst (N := 25) rfl ?_); refine wpList_load_mid rfl 110 _ rfl g (j * 2) rfl (prC p) _ HLI.out h110 rfl rfl ?_; go_frame) | ((with_reducible refine gate_dst (N := 7) rfl ?_); refine box_event rfl (N := 7) rfl (cs := prZero) (t := 110) ?hr ?_; (case hr => first | (go_simp; done) | (go_simp; rfl)); intro g7 hg w7 hb2 hbl2; have HB7 := Lib.hid hb2; have HBL7 := Lib.hid hbl2; have HGE7 : Hid (wr.heap.size ≤ g7) := Lib.hid (by rw [hg]; exact Nat.le_refl _); clear hg hb2 hbl2; go_frame) | ((with_reducible refine gate_store (t := 110) (p := 7) rfl ?_); refine wpList_store_agg rfl rfl 110 _ _ rfl g7 (prC p).toArray rfl rfl 110 prZero HB7.out rfl rfl (prC_all _) ?_; intro w8 hb3 hg3; have HB8 := Lib.hid hb3; have HBL8 : Hid (Below wr.heap.size wr w8) := Lib.hid (HBL7.out.grown hg3 HBL7.out.size (fun j hj => by cases hj; exact HGE7.out)); clear hb3 hg3) | ((with_reducible refine gate_dst (N := 27) rfl ?_); refine wpList_load_agg rfl 110 _ rfl _ rfl (prC p) _ (lies_of HB8.out) h110 rfl rfl ?_; go_frame))
          cases hia : isAttr p with
          | false =>
            rw [hia] at HFI
            refine (del_call' _ p false hia).mono ?_
            rintro e w9 ⟨rfl, hb9⟩
            have HB9 : Hid (Below wr.heap.size wr w9) := Lib.hid (Go.Proofs.YtdkjinmkallhnaaGreatDoor.below_then HBL8.out hb9)
            clear hb9 hia
            have HTN : Hid (xs.take i = (l.take (j + 1)).filter isAttr) := Lib.hid (by rw [HFI.out, HT.out]; simp)
            have HDN : Hid (xs.drop (j + 1) = l.drop (j + 1)) := Lib.hid (by rw [← List.drop_drop, HD.out, List.drop_drop])
            have HOWN := Lib.hid (HOW.out.ext HB9.out)
            have HGN := Lib.hid (grown_below HG.out HB9.out)
            go_wp2_with fail
            go_roundg g1
            case measure => omega
            case rel => exact ⟨i, j + 1, xs, rfl, by go_num, by omega, by omega, by omega, HX, HTN, HDN, HOWN, HGN⟩
          | true =>
            rw [hia] at HFI
            refine (del_call' _ p true hia).mono ?_
            rintro e w9 ⟨rfl, hb9⟩
            have HB9 : Hid (Below wr.heap.size wr w9) := Lib.hid (Go.Proofs.YtdkjinmkallhnaaGreatDoor.below_then HBL8.out hb9)
            have HB89 := Lib.hid (blk_below HB8.out hb9)
            clear hb9 hia
            have hix : i < xs.length := by rw [HX.out]; omega
            have HTN : Hid ((xs.set i p).take (i + 1) = (l.take (j + 1)).filter isAttr) := Lib.hid (by
              rw [HFI.out, ← HT.out, List.take_succ_eq_append_getElem (by rw [List.length_set]; exact hix), List.getElem_set_self, List.take_set_of_le (Nat.le_refl _)]; rfl)
            have HDN : Hid ((xs.set i p).drop (j + 1) = l.drop (j + 1)) := Lib.hid (by rw [List.drop_set_of_lt (by omega), ← List.drop_drop, HD.out, List.drop_drop])
            have HXN : Hid ((xs.set i p).length = l.length) := Lib.hid (by rw [List.length_set]; exact HX.out)
            have HOW9 := Lib.hid (HOW.out.ext HB9.out)
            have hth := own_there HOW9.out (i * 2) 2 (by have := HLC.out; have := HX.out; omega)
            have HOWN := Lib.hid (own_put prC_len HOW9.out hix p)
            have HTH := Lib.hid hth
            clear hth hix
            have hil : i < l.length := by omega
            go_wp2_with (first | ((with_reducible refine gate_dst (N := 32) rfl ?_); refine wpList_load_agg rfl 110 _ rfl _ rfl (prC p) _ (lies_of HB89.out) h110 rfl rfl ?_; go_frame) | ((with_reducible refine gate_store (t := 110) (p := 33) rfl ?_); refine wpList_store_mid rfl 110 _ _ rfl g (i * 2) (prC p).toArray rfl rfl HTH.out rfl (prC_all _) ?_; have HG10 : Hid (w.grownBy (w9.setCells g (i * 2) (prC p)) (some g)) := Lib.hid (grown_trans' (grown_below HG.out HB9.out) (setCells_grown _ _ _ _)); change wpList _ _ _ _ _ (w9.setCells g (i * 2) (prC p)); generalize w9.setCells g (i * 2) (prC p) = w10 at HG10 HOWN ⊢))
            go_roundg g1
            case measure => omega
            case rel => exact ⟨i + 1, j + 1, xs.set i p, by go_num, by go_num, by omega, by omega, by omega, HXN, HTN, HDN, HOWN, HG10⟩
      · have he : j = l.length := by omega
        subst he
        have HTE : Hid (xs.take i = l.filter isAttr) := Lib.hid (by have := HT.out; rwa [List.take_of_length_le (Nat.le_refl _)] at this)
        have hcap : l.length ≤ cap := HLC.out
        have hcm := HCM.out
        unfold maxLen at hcm
        have hci : ¬ cap = i := by omega
        have hmax : HL.out = HL.out := rfl
        clear hmax
        have HIX : Hid (i ≤ xs.length) := Lib.hid (by rw [HX.out]; omega)
        have HFL : Hid ((l.filter isAttr).length = i) := Lib.hid (by rw [← HTE.out, List.length_take]; have := HIX.out; omega)
        have hth := own_there HOW.out (i * 2) ((l.length - i) * 2) (by omega)
        have hcl := fun ty => run_clear_row (P := Tryz.prog) wr 91 110 ty (.agg #[S [], S []]) Tryz.underlying91 (fun _ => by kernel_rfl) (by intro v hv; simp [Value.cells] at hv; rcases hv with rfl | rfl <;> rfl) g (i * 2) (l.length - i) (cap - i) (by omega) (by simpa [Value.cells] using hth)
        have HOWC := Lib.hid (own_cut prC_len HOW.out HIX.out (Builtin.zeroCells (Value.agg #[S [], S []]).cells (l.length - i)).toList (by rw [zero_cells]; show i * 2 + (l.length - i) * 2 ≤ cap * 2; omega))
        have HGC : Hid (w.grownBy (wr.setCells g (i * 2) (Builtin.zeroCells (Value.agg #[S [], S []]).cells (l.length - i)).toList) (some g)) := Lib.hid (grown_trans' HG.out (setCells_grown _ _ _ _))
        generalize (Builtin.zeroCells (Value.agg #[S [], S []]).cells (l.length - i)).toList = zs at hcl HOWC HGC
        clear hth
        go_wp2_with fail
        go_ret
        have hown := HOWC.out
        rw [HTE.out] at hown
        exact ⟨by rw [HFL.out]; rfl, hown, HGC.out⟩
end Go.Proofs.YtdkjinmkallhnaaGreatDoorQ
end
section
namespace Go.Proofs.YtdkjinmkallhnaaGreatDoorQ
open Go.RowKit Go.Proofs.YtdkjinmkallhnaaGreatDoorW.PrintWords Go.Proofs.YtdkjinmkallhnaaGreatDoorW.PrintLast Go.Proofs.YtdkjinmkallhnaaGreatDoorW.PrintMore
open Go.Proofs.YtdkjinmkallhnaaGreatDoor (GL)
attribute [local go_sem] max2_int min2_int max_two min_two max_three min_three max_four min_four
def pq14.f (a0_0 : ByteArray) (a0_1 : ByteArray) (a1_0 : ByteArray) (a1_1 : ByteArray) : Option (Int) := (strings_Compare.f a0_0 a1_0).bind fun t211 => (some t211)
set_option maxHeartbeats 8000000 in
set_option maxRecDepth 100000 in
theorem pq14.calls (a0_0 : ByteArray) (a0_1 : ByteArray) (a1_0 : ByteArray) (a1_1 : ByteArray) (r : Int) (w : World) (h : pq14.f a0_0 a0_1 a1_0 a1_1 = some r) :
  Calls Tryz.prog 144 #[.agg #[.string a0_0, .string a0_1], .agg #[.string a1_0, .string a1_1]] w fun e w' => e = .returned (.int .i64 r) ∧ Below w.heap.size w w' := by
 have hu110 := Tryz.underlying110
 have HB := Aside0.mk (Below.refl w.heap.size w)
 have H : ((strings_Compare.f a0_0 a1_0).bind fun t211 => (some t211)) = some r := h
 clear h
 replace H := Option.bind_eq_some_iff.mp H
 obtain ⟨t211, A30, H⟩ := H
 replace H : (some t211) = some r := H
 have A3 := Aside0.mk A30
 clear A30
 obtain rfl := Option.some.inj H
 go_enter Tryz.func144, Tryz.ntmps144
 go_wp2_with (first | ((with_reducible refine gate_dst (N := 2) rfl ?_); refine box_event ?hg (N := 2) ?hd (cs := #[.string a0_0, .string a0_1]) (t := 110) ?hr ?_; (case hd => rfl); (case hg => rfl); (case hr => first | (go_simp; done) | (go_simp; rfl)); intro gb209 hg w4 hbox hb; have n0_ := Aside0.mk (below_step (by repeat (first | (with_reducible first | exact HB.out | apply below_alloc | apply pw_below_drewN | apply below_drew1) | exact HB.out)) hb); have n1_ := Aside0.mk (hbox); have n2_ := Aside0.mk ((by rw [hg]; exact (below_size (by repeat (first | (with_reducible first | exact HB.out | apply below_alloc | apply pw_below_drewN | apply below_drew1) | exact HB.out))) : w.heap.size ≤ gb209)); have n3_ := Aside0.mk ((by rw [hg]; exact (below_size (by repeat (first | (with_reducible first | exact HB.out | apply below_alloc | apply pw_below_drewN | apply below_drew1) | exact HB.out))) : w.heap.size ≤ gb209)); clear HB; have HB := n0_; have BK209 := n1_; have GW209 := n2_; have GE209 := n3_; clear n0_ n1_ n2_ n3_; clear hb hbox hg) | ((with_reducible refine gate_dst (N := 3) rfl ?_); refine box_event ?hg (N := 3) ?hd (cs := #[.string a1_0, .string a1_1]) (t := 110) ?hr ?_; (case hd => rfl); (case hg => rfl); (case hr => first | (go_simp; done) | (go_simp; rfl)); intro gb210 hg w5 hbox hb; have n0_ := Aside0.mk (blk_below (g := gb209) (o := .cells #[.string a0_0, .string a0_1] 110 (0, 0)) (by (with_reducible repeat (first | refine blk_drewN ?_ _ | refine blk_drew ?_ | refine blk_alloc ?_ _)); exact BK209.out) hb); have n1_ := Aside0.mk (below_step (by repeat (first | (with_reducible first | exact HB.out | apply below_alloc | apply pw_below_drewN | apply below_drew1 | refine below_set ?_ GE209.out) | exact HB.out)) hb); have n2_ := Aside0.mk (hbox); have n3_ := Aside0.mk ((by rw [hg]; exact (below_size (by repeat (first | (with_reducible first | exact HB.out | apply below_alloc | apply pw_below_drewN | apply below_drew1 | refine below_set ?_ GE209.out) | exact HB.out))) : w.heap.size ≤ gb210)); have n4_ := Aside0.mk ((by rw [hg]; exact (below_size (by repeat (first | (with_reducible first | exact HB.out | apply below_alloc | apply pw_below_drewN | apply below_drew1 | refine below_set ?_ GE209.out) | exact HB.out))) : w.heap.size ≤ gb210)); have n5_ := Aside0.mk ((by rw [hg]; exact Nat.ne_of_lt (blk_lt (g := gb209) (o := .cells #[.string a0_0, .string a0_1] 110 (0, 0)) (by (with_reducible repeat (first | refine blk_drewN ?_ _ | refine blk_drew ?_ | refine blk_alloc ?_ _)); exact BK209.out)) : gb209 ≠ gb210)); have n6_ := Aside0.mk ((by rw [hg]; exact Nat.ne_of_gt (blk_lt (g := gb209) (o := .cells #[.string a0_0, .string a0_1] 110 (0, 0)) (by (with_reducible repeat (first | refine blk_drewN ?_ _ | refine blk_drew ?_ | refine blk_alloc ?_ _)); exact BK209.out)) : gb210 ≠ gb209)); clear BK209; clear HB; have BK209 := n0_; have HB := n1_; have BK210 := n2_; have GW210 := n3_; have GE210 := n4_; have NB209_210 := n5_; have NB210_209 := n6_; clear n0_ n1_ n2_ n3_ n4_ n5_ n6_; clear hb hbox hg; have hnb6 := NB209_210.out; have hnc6 := NB210_209.out; have hcz7_0 : w5.cell? ⟨gb209, 0, none⟩ = some (.string a0_0) := (blk_cell BK209.out 0).trans rfl; have hcz7_1 : w5.cell? ⟨gb209, 1, none⟩ = some (.string a0_1) := (blk_cell BK209.out 1).trans rfl; have hfz7_0 := blk_frozen BK209.out 0; have hfz7_1 := blk_frozen BK209.out 1; have hcz8_0 : w5.cell? ⟨gb210, 0, none⟩ = some (.string a1_0) := (blk_cell BK210.out 0).trans rfl; have hcz8_1 : w5.cell? ⟨gb210, 1, none⟩ = some (.string a1_1) := (blk_cell BK210.out 1).trans rfl; have hfz8_0 := blk_frozen BK210.out 0; have hfz8_1 := blk_frozen BK210.out 1) | ((with_reducible refine gate_callee (f := 60) rfl ?_); refine goesL_ (some 9) rfl rfl Tryz.func60 (by kernel_rfl) rfl #[.string a0_0, .string a1_0] rfl (by (try simp only [List.map_toArray, List.map_cons, List.map_nil]); first | done | rfl | (simp only [List.length_drop, List.length_take]; rfl)) ?_; (with_reducible refine (strings_Compare.calls a0_0 a1_0 t211 _ A3.out).mono ?_); rintro e w' ⟨rfl, ⟨nd, rfl⟩⟩; refine ⟨_, rfl, ?_⟩))
 go_ret
 exact ⟨by first | rfl | (simp [errW_none, errW_some] <;> rfl) | (simp [*, errW_none, errW_some] <;> rfl), by repeat (first | (with_reducible first | exact HB.out | apply below_alloc | apply pw_below_drewN | apply below_drew1 | refine below_set ?_ GE209.out | refine below_set ?_ GE210.out) | exact HB.out)⟩
end Go.Proofs.YtdkjinmkallhnaaGreatDoorQ
end
section
namespace Go.Proofs.YtdkjinmkallhnaaGreatDoorQ
open Go.RowKit Go.Proofs.YtdkjinmkallhnaaGreatDoorW.PrintWords Go.Proofs.YtdkjinmkallhnaaGreatDoorW.PrintLast Go.Proofs.YtdkjinmkallhnaaGreatDoorW.PrintMore
open Go.Proofs.YtdkjinmkallhnaaGreatDoor (GL)
attribute [local go_sem] max2_int min2_int max_two min_two max_three min_three max_four min_four
mutual
def pq0.l0 : Nat → List (S110) → Int → Int → Int → Option ((List (S110)))
 | 0, _, _, _, _ => none
 | k + 1, x0, x1, x2, x8 => if x8 < x2 then (pq0.l1 k x0 x1 x2 x8 x8) else (some x0)
def pq0.l1 : Nat → List (S110) → Int → Int → Int → Int → Option ((List (S110)))
 | 0, _, _, _, _, _ => none
 | k + 1, x0, x1, x2, x8, x9 => if x9 > x1 then (if 0 ≤ x9 then (if x9 < (x0.length : Int) then (if 0 ≤ (wrap64 (x9 - 1)) then (if (wrap64 (x9 - 1)) < (x0.length : Int) then ((pq14.f ((rd_T110 x0 x9).f0) ((rd_T110 x0 x9).f1) ((rd_T110 x0 (wrap64 (x9 - 1))).f0) ((rd_T110 x0 (wrap64 (x9 - 1))).f1)).bind fun t214 => (if t214 < 0 then (pq0.l1 k ((x0.set (x9 : Int).toNat (⟨(rd_T110 x0 (wrap64 (x9 - 1))).f0, (rd_T110 x0 (wrap64 (x9 - 1))).f1⟩ : S110)).set ((wrap64 (x9 - 1)) : Int).toNat (⟨(rd_T110 x0 x9).f0, (rd_T110 x0 x9).f1⟩ : S110)) x1 x2 x8 (wrap64 (x9 - 1))) else (pq0.l0 k x0 x1 x2 (wrap64 (x8 + 1))))) else (none)) else (none)) else (none)) else (none)) else (pq0.l0 k x0 x1 x2 (wrap64 (x8 + 1)))
end
def pq0.f (k : Nat) (l0 : List (S110)) (a1 : Int) (a2 : Int) (a3 : Unit) : Option ((List (S110))) := pq0.l0 k l0 a1 a2 (wrap64 (a1 + 1))
def pq0.T4 : Bool × List (List Nat × List Nat) := (true, [([], []), ([], []), ([0, 1], [0, 1]), ([2], [2]), ([3], [3]), ([3], [3]), ([3], [3]), ([5, 6, 3], [3, 5, 6]), ([7, 3], [3, 7]), ([3], [3]), ([3], [3]), ([10, 3], [3, 10]), ([9, 11, 3], [3, 9, 11]), ([12, 3], [3, 12]), ([4, 8, 13, 3, 3], [3, 4, 8, 13]), ([14, 3], [3, 14]), ([3, 15], [3, 15])])
def pq0.B4 : List Nat := [0, 0, 3, 7, 15, 15, 15, 111, 239, 15, 15, 1039, 3599, 7695, 16383, 32767, 65535]
theorem pq0.tab4 : rtab .any (opsOf Tryz.f175 4) = pq0.T4 := by kernel_rfl
theorem pq0.bits4 : waitsOk pq0.T4.2 pq0.B4 = true := by kernel_rfl
def pq0.T6 : Bool × List (List Nat × List Nat) := (true, [([], []), ([], []), ([], []), ([], []), ([3], [3]), ([], []), ([], []), ([6], [6]), ([5, 7], [5, 7]), ([8], [8]), ([], []), ([], []), ([10, 11], [10, 11]), ([12], [12]), ([0, 1, 0, 1, 5, 6, 7, 8, 9, 13], [0, 1]), ([14, 9, 0, 1, 5, 6, 7, 8, 9, 13], [9, 14]), ([2, 4, 0, 1, 2, 3, 4, 5, 6, 7, 8, 9, 10, 11, 12, 13, 14, 15], [2, 4]), ([16, 13, 15, 0, 1, 2, 3, 4, 5, 6, 7, 8, 9, 10, 11, 12, 13, 14, 15], [13, 16])])
def pq0.B6 : List Nat := [0, 0, 0, 0, 8, 0, 0, 64, 224, 480, 0, 0, 3072, 7168, 16355, 32739, 65535, 131071]
theorem pq0.tab6 : rtab .any (opsOf Tryz.f175 6) = pq0.T6 := by kernel_rfl
theorem pq0.bits6 : waitsOk pq0.T6.2 pq0.B6 = true := by kernel_rfl
set_option maxHeartbeats 8000000 in
set_option maxRecDepth 100000 in
theorem pq0.calls (k : Nat) (P0_ : Nat → Prop) (u9000_ : Value) (l0 : List (S110)) (a1 : Int) (a2 : Int) (a3 : Unit) (r : List (S110)) (w0 w : World) (hB : Below w0.heap.size w0 w) (ho0 : Kd.R k110 110 w w0.heap.size P0_ u9000_ l0) (h : pq0.f k l0 a1 a2 a3 = some r) :
  Calls Tryz.prog 175 #[u9000_, .int .i64 a1, .int .i64 a2, .func (.func 144) #[] #[]] w fun e w' => e = .returned (.tuple #[]) ∧ Kd.R k110 110 w' w0.heap.size (fun k_ => (P0_ k_ ∨ w.heap.size ≤ k_)) u9000_ r ∧ Below w0.heap.size w0 w' ∧ Kept w w' (fun k_ => P0_ k_) := by
 have hu110 := Tryz.underlying110
 have HO0 := Aside0.mk (show Kd.R k110 110 w w0.heap.size (fun k_ => (P0_ k_ ∨ w.heap.size ≤ k_)) u9000_ l0 from Kd.R_mono ho0 (fun k_ hk => (.inl hk)))
 have HK := Aside0.mk (Kept.refl w (fun k_ => P0_ k_))
 have HW0 := Aside0.mk hB.size
 have HB := Aside0.mk hB
 clear hB
 have H : (pq0.l0 k l0 a1 a2 (wrap64 (a1 + 1))) = some r := h
 clear h
 have H' := Aside0.mk H
 clear H
 go_enter Tryz.func175, Tryz.ntmps175
 go_wp2
 go_loopg [8] k (fun kq v8 w' => ∃ (x0_1 : List (S110)) (x8_1 : Int), v8 = .int .i64 x8_1 ∧ Aside0 (pq0.l0 kq x0_1 a1 a2 x8_1 = some r) ∧ Aside0 (kq ≤ k) ∧ Aside0 (Kd.R k110 110 w' w0.heap.size (fun k_ => (P0_ k_ ∨ w.heap.size ≤ k_)) u9000_ x0_1) ∧ Aside0 (Kept w w' (fun k_ => P0_ k_)) ∧ Aside0 (Below w0.heap.size w0 w'))
 case atStart => exact ⟨(l0), (wrap64 (a1 + 1)), (by first | rfl | (simp; done) | (simp [*]; done)), H', ⟨Nat.le_refl _⟩, ⟨by (with_reducible repeat (first | apply Kd.R_alloc | apply Kd.R_drewN | apply Kd.R_drew)); exact HO0.out⟩, ⟨by repeat (first | (with_reducible first | exact HK.out | apply Kept.alloc | apply Kept.drewN | apply Kept.drew) | exact HK.out)⟩, ⟨by repeat (first | (with_reducible first | exact HB.out | apply below_alloc | apply pw_below_drewN | apply below_drew1) | exact HB.out)⟩⟩
 case round =>
  clear H'
  try clear p2
  obtain ⟨x0_1, x8_1, rfl, HA, HK1, HO_0, HK, HB⟩ := hrel
  cases gk with
  | zero => exact absurd HA.out (by simp [pq0.l0])
  | succ k1 =>
   have H := HA.out
   clear HA
   simp only [pq0.l0] at H
   by_cases c5 : x8_1 < a2
   ·rw [if_pos c5] at H
    have c5b0 : decide (x8_1 < a2) = true := decide_eq_true c5
    clear c5
    have H' := Aside0.mk H
    clear H
    go_wp2
    go_loopg [9] k1 (fun kq v9 w' => ∃ (x0_2 : List (S110)) (x9_2 : Int), v9 = .int .i64 x9_2 ∧ Aside0 (pq0.l1 kq x0_2 a1 a2 x8_1 x9_2 = some r) ∧ Aside0 (kq ≤ k1) ∧ Aside0 (Kd.R k110 110 w' w0.heap.size (fun k_ => (P0_ k_ ∨ w.heap.size ≤ k_)) u9000_ x0_2) ∧ Aside0 (Kept w w' (fun k_ => P0_ k_)) ∧ Aside0 (Below w0.heap.size w0 w'))
    case atStart => exact ⟨(x0_1), (x8_1), (by first | rfl | (simp; done) | (simp [*]; done)), H', ⟨Nat.le_refl _⟩, ⟨by (with_reducible repeat (first | apply Kd.R_alloc | apply Kd.R_drewN | apply Kd.R_drew)); exact HO_0.out⟩, ⟨by repeat (first | (with_reducible first | exact HK.out | apply Kept.alloc | apply Kept.drewN | apply Kept.drew) | exact HK.out)⟩, ⟨by repeat (first | (with_reducible first | exact HB.out | apply below_alloc | apply pw_below_drewN | apply below_drew1) | exact HB.out)⟩⟩
    case round =>
     clear H'
     try clear p2
     try clear c5
     try clear c5b0
     try clear p2
     obtain ⟨x0_2, x9_2, rfl, HA, HK2, HO_0, HK, HB⟩ := hrel
     cases gk with
     | zero => exact absurd HA.out (by simp [pq0.l1])
     | succ k2 =>
      have H := HA.out
      clear HA
      simp only [pq0.l1] at H
      by_cases c6 : x9_2 > a1
      ·rw [if_pos c6] at H
       have c6b0 : decide (a1 < x9_2) = true := decide_eq_true c6
       clear c6
       by_cases c7 : 0 ≤ x9_2
       ·rw [if_pos c7] at H
        have c7b0 : decide (0 ≤ x9_2) = true := decide_eq_true c7
        clear c7
        by_cases c8 : x9_2 < (x0_2.length : Int)
        ·rw [if_pos c8] at H
         have c8b0 : decide (x9_2 < (x0_2.length : Int)) = true := decide_eq_true c8
         clear c8
         obtain ⟨ji9, hji9⟩ : ∃ j_ : Int, (wrap64 (x9_2 - 1)) = j_ := ⟨_, rfl⟩
         replace H : (if 0 ≤ (ji9) then (if (ji9) < (x0_2.length : Int) then ((pq14.f ((rd_T110 x0_2 x9_2).f0) ((rd_T110 x0_2 x9_2).f1) ((rd_T110 x0_2 (ji9)).f0) ((rd_T110 x0_2 (ji9)).f1)).bind fun t214 => (if t214 < 0 then (pq0.l1 k2 ((x0_2.set (x9_2 : Int).toNat (⟨(rd_T110 x0_2 (ji9)).f0, (rd_T110 x0_2 (ji9)).f1⟩ : S110)).set ((ji9) : Int).toNat (⟨(rd_T110 x0_2 x9_2).f0, (rd_T110 x0_2 x9_2).f1⟩ : S110)) a1 a2 x8_1 ji9) else (pq0.l0 k2 x0_2 a1 a2 (wrap64 (x8_1 + 1))))) else (none)) else (none)) = some r := by first | (rw [hji9] at H; exact H) | (simp only [hji9] at H ⊢; exact H)
         have hji9w : (IntKind.i64.wrap (x9_2 - 1)) = ji9 := (i64_w _).trans hji9
         by_cases c10 : 0 ≤ (ji9)
         ·rw [if_pos c10] at H
          have c10b0 : decide (0 ≤ (ji9)) = true := decide_eq_true c10
          clear c10
          by_cases c11 : (ji9) < (x0_2.length : Int)
          ·rw [if_pos c11] at H
           have c11b0 : decide ((ji9) < (x0_2.length : Int)) = true := decide_eq_true c11
           clear c11
           replace H := Option.bind_eq_some_iff.mp H
           obtain ⟨t214, A120, H⟩ := H
           replace H : (if t214 < 0 then (pq0.l1 k2 ((x0_2.set (x9_2 : Int).toNat (⟨(rd_T110 x0_2 (ji9)).f0, (rd_T110 x0_2 (ji9)).f1⟩ : S110)).set ((ji9) : Int).toNat (⟨(rd_T110 x0_2 x9_2).f0, (rd_T110 x0_2 x9_2).f1⟩ : S110)) a1 a2 x8_1 ji9) else (pq0.l0 k2 x0_2 a1 a2 (wrap64 (x8_1 + 1)))) = some r := H
           have A12 := Aside0.mk A120
           clear A120
           by_cases c13 : t214 < 0
           ·rw [if_pos c13] at H
            have c13b0 : decide (t214 < 0) = true := decide_eq_true c13
            clear c13
            obtain ⟨y217, hy217⟩ : ∃ y_ : List (S110), y_ = (x0_2.set (x9_2 : Int).toNat (⟨(rd_T110 x0_2 (ji9)).f0, (rd_T110 x0_2 (ji9)).f1⟩ : S110)) := ⟨_, rfl⟩
            replace H : (pq0.l1 k2 (y217.set ((ji9) : Int).toNat (⟨(rd_T110 x0_2 x9_2).f0, (rd_T110 x0_2 x9_2).f1⟩ : S110)) a1 a2 x8_1 ji9) = some r := by first | (rw [hy217]; with_reducible exact H) | (have H2_ := (Option.bind_some _ _).symm.trans H; rw [hy217]; with_reducible exact H2_) | (have H2_ := (Option.bind_some _ _).symm.trans H; with_reducible exact H2_) | with_reducible exact H | (rw [hy217]; exact H) | exact H
            have Ny217 := Aside0.mk hy217
            clear hy217
            obtain ⟨y218, hy218⟩ : ∃ y_ : List (S110), y_ = (y217.set ((ji9) : Int).toNat (⟨(rd_T110 x0_2 x9_2).f0, (rd_T110 x0_2 x9_2).f1⟩ : S110)) := ⟨_, rfl⟩
            replace H : (pq0.l1 k2 y218 a1 a2 x8_1 ji9) = some r := by first | (rw [hy218]; with_reducible exact H) | (have H2_ := (Option.bind_some _ _).symm.trans H; rw [hy218]; with_reducible exact H2_) | (have H2_ := (Option.bind_some _ _).symm.trans H; with_reducible exact H2_) | with_reducible exact H | (rw [hy218]; exact H) | exact H
            have Ny218 := Aside0.mk hy218
            clear hy218
            have H' := Aside0.mk H
            clear H
            try go_wp2
            have n0_ := Aside0.mk (Kd.R_drew HO_0.out)
            have n1_ := Aside0.mk (Kept.drew HK.out)
            have n2_ := Aside0.mk (below_drew1 HB.out)
            clear HO_0
            clear HK
            clear HB
            have HO_0 := n0_
            have HK := n1_
            have HB := n2_
            clear n0_ n1_ n2_
            obtain ⟨Ao17, co17, eo17⟩ := Kd.R_slice HO_0.out
            (first | subst eo17 | (injection eo17 with f1_ f2_ f3_; have f4_ := f1_.symm; have f5_ := f3_.symm; clear f1_ f2_ f3_; subst f4_; subst f5_))
            have p212 : 0 ≤ (x9_2 : Int) := of_decide_eq_true (by first | (with_reducible assumption) | assumption)
            have q212 : x9_2 < (x0_2.length : Int) := of_decide_eq_true (by first | (with_reducible assumption) | assumption)
            obtain ⟨ad212, e212, hx212_0, hx212_1⟩ := at_T110 (Kd.R_reads' HO_0.out).2.2 x9_2 p212 q212
            cases e212
            replace p212 := eq_true p212
            replace q212 := eq_true q212
            have p213 : 0 ≤ ((ji9) : Int) := of_decide_eq_true (by first | (with_reducible assumption) | assumption)
            have q213 : (ji9) < (x0_2.length : Int) := of_decide_eq_true (by first | (with_reducible assumption) | assumption)
            obtain ⟨ad213, e213, hx213_0, hx213_1⟩ := at_T110 (Kd.R_reads' HO_0.out).2.2 (ji9) p213 q213
            obtain rfl : ad212 = ad213 := (by injection e213)
            replace p213 := eq_true p213
            replace q213 := eq_true q213
            refine start_ (n := 17) (S := fun w' => w'.cell? (ad212.add ((x9_2).toNat * 2)) = some (.string ((rd_T110 x0_2 x9_2).f0)) ∧ w'.cell? ⟨(ad212.add ((x9_2).toNat * 2)).block, (ad212.add ((x9_2).toNat * 2)).off + 1, none⟩ = some (.string ((rd_T110 x0_2 x9_2).f1)) ∧ w'.cell? (ad212.add (((ji9)).toNat * 2)) = some (.string ((rd_T110 x0_2 (ji9)).f0)) ∧ w'.cell? ⟨(ad212.add (((ji9)).toNat * 2)).block, (ad212.add (((ji9)).toNat * 2)).off + 1, none⟩ = some (.string ((rd_T110 x0_2 (ji9)).f1))) (ds := []) #[false, false, false, false, false, false, false, false, false, false, false, false, false, false, false, false, false] (by kernel_rfl) rfl rfl ⟨hx212_0, hx212_1, hx213_0, hx213_1⟩ (fun hHeld => ?_); refine with_tabW pq0.tab4 pq0.bits4 (fun HT_ HW_ => ?_)
            generalize wr.drew = w16 at HO_0 HK HB hx212_0 hx212_1 hx213_0 hx213_1 hHeld ⊢
            refine pure_ (i := 0) (N := some 18) (v := ?_) (a' := ?_) #[true, false, false, false, false, false, false, false, false, false, false, false, false, false, false, false, false] rfl rfl (any_of HT_.out (by kernel_rfl)) (fun _ _ _ h => h) (Or.inl ⟨by rfl, ?_⟩) ?_ ?_
            rotate_left
            ·intro w'
             go_simp
             with_reducible rfl
            rotate_left
            ·simp only [Act.put, List.setIfInBounds_toArray, List.set_cons_zero, List.set_cons_succ, i64_w, i32_w]
             rfl
            refine pure_ (i := 1) (N := some 19) (v := ?_) (a' := ?_) #[true, true, false, false, false, false, false, false, false, false, false, false, false, false, false, false, false] rfl rfl (any_of HT_.out (by kernel_rfl)) (fun _ _ _ h => h) (Or.inl ⟨by rfl, ?_⟩) ?_ ?_
            rotate_left
            ·intro w'
             go_simp
             with_reducible rfl
            rotate_left
            ·simp only [Act.put, List.setIfInBounds_toArray, List.set_cons_zero, List.set_cons_succ, i64_w, i32_w]
             rfl
            refine pure_ (i := 2) (N := some 20) (v := ?_) (a' := ?_) #[true, true, true, false, false, false, false, false, false, false, false, false, false, false, false, false, false] rfl rfl (any_of HT_.out (by kernel_rfl)) (fun _ _ _ h => h) (Or.inl ⟨by rfl, ?_⟩) ?_ ?_
            rotate_left
            ·intro w'
             go_simp
             with_reducible rfl
            rotate_left
            ·simp only [Act.put, List.setIfInBounds_toArray, List.set_cons_zero, List.set_cons_succ, i64_w, i32_w]
             rfl
            refine pure_ (i := 3) (N := some 21) (v := ?_) (a' := ?_) #[true, true, true, true, false, false, false, false, false, false, false, false, false, false, false, false, false] rfl rfl (any_of HT_.out (by kernel_rfl)) (fun _ _ _ h => h) (Or.inl ⟨by rfl, ?_⟩) ?_ ?_
            rotate_left
            ·intro w'
             go_simp
             with_reducible rfl
            rotate_left
            ·simp only [Act.put, List.setIfInBounds_toArray, List.set_cons_zero, List.set_cons_succ, i64_w, i32_w]
             rfl
            refine pure_ (i := 4) (N := some 22) (v := ?_) (a' := ?_) #[true, true, true, true, true, false, false, false, false, false, false, false, false, false, false, false, false] rfl rfl (any_of HT_.out (by kernel_rfl)) (fun _ _ _ h => h) (Or.inl ⟨by rfl, ?_⟩) ?_ ?_
            rotate_left
            ·intro w'
             go_simp
             with_reducible rfl
            rotate_left
            ·simp only [Act.put, List.setIfInBounds_toArray, List.set_cons_zero, List.set_cons_succ, i64_w, i32_w]
             rfl
            refine pure_ (i := 5) (N := some 23) (v := ?_) (a' := ?_) #[true, true, true, true, true, true, false, false, false, false, false, false, false, false, false, false, false] rfl rfl (any_of HT_.out (by kernel_rfl)) (fun _ _ _ h => h) (Or.inl ⟨by rfl, ?_⟩) ?_ ?_
            rotate_left
            ·intro w'
             go_simp
             with_reducible rfl
            rotate_left
            ·simp only [Act.put, List.setIfInBounds_toArray, List.set_cons_zero, List.set_cons_succ, i64_w, i32_w]
             rfl
            refine pure_ (i := 6) (N := some 24) (v := ?_) (a' := ?_) #[true, true, true, true, true, true, true, false, false, false, false, false, false, false, false, false, false] rfl rfl (any_of HT_.out (by kernel_rfl)) (fun _ _ _ h => h) (Or.inl ⟨by rfl, ?_⟩) ?_ ?_
            rotate_left
            ·intro w'
             go_simp
             with_reducible rfl
            rotate_left
            ·simp only [Act.put, List.setIfInBounds_toArray, List.set_cons_zero, List.set_cons_succ, i64_w, i32_w]
             rfl
            refine pure_ (i := 7) (N := some 25) (v := ?_) (a' := ?_) #[true, true, true, true, true, true, true, true, false, false, false, false, false, false, false, false, false] rfl rfl (any_of HT_.out (by kernel_rfl)) (fun _ _ _ h => h) (Or.inl ⟨by rfl, ?_⟩) ?_ ?_
            rotate_left
            ·intro w'
             go_simp
             with_reducible rfl
            rotate_left
            ·simp only [Act.put, List.setIfInBounds_toArray, List.set_cons_zero, List.set_cons_succ, i64_w, i32_w]
             rfl
            refine pure_ (i := 9) (N := some 27) (v := ?_) (a' := ?_) #[true, true, true, true, true, true, true, true, false, true, false, false, false, false, false, false, false] rfl rfl (any_of HT_.out (by kernel_rfl)) (fun _ _ _ h => h) (Or.inl ⟨by rfl, ?_⟩) ?_ ?_
            rotate_left
            ·intro w'
             go_simp
             with_reducible rfl
            rotate_left
            ·simp only [Act.put, List.setIfInBounds_toArray, List.set_cons_zero, List.set_cons_succ, i64_w, i32_w]
             rfl
            refine pure_ (i := 10) (N := some 28) (v := ?_) (a' := ?_) #[true, true, true, true, true, true, true, true, false, true, true, false, false, false, false, false, false] rfl rfl (any_of HT_.out (by kernel_rfl)) (fun _ _ _ h => h) (Or.inl ⟨by rfl, ?_⟩) ?_ ?_
            rotate_left
            ·intro w'
             go_simp
             with_reducible rfl
            rotate_left
            ·simp only [Act.put, List.setIfInBounds_toArray, List.set_cons_zero, List.set_cons_succ, i64_w, i32_w]
             rfl
            refine pure_ (i := 11) (N := some 29) (v := ?_) (a' := ?_) #[true, true, true, true, true, true, true, true, false, true, true, true, false, false, false, false, false] rfl rfl (any_of HT_.out (by kernel_rfl)) (fun _ _ _ h => h) (Or.inl ⟨by rfl, ?_⟩) ?_ ?_
            rotate_left
            ·intro w'
             go_simp
             with_reducible rfl
            rotate_left
            ·simp only [Act.put, List.setIfInBounds_toArray, List.set_cons_zero, List.set_cons_succ, i64_w, i32_w]
             rfl
            refine pure_ (i := 12) (N := some 30) (v := ?_) (a' := ?_) #[true, true, true, true, true, true, true, true, false, true, true, true, true, false, false, false, false] rfl rfl (any_of HT_.out (by kernel_rfl)) (fun _ _ _ h => h) (Or.inl ⟨by rfl, ?_⟩) ?_ ?_
            rotate_left
            ·intro w'
             go_simp
             with_reducible rfl
            rotate_left
            ·simp only [Act.put, List.setIfInBounds_toArray, List.set_cons_zero, List.set_cons_succ, i64_w, i32_w]
             rfl
            refine take_ (i := 8) (N := some 26) (v := ?_) (a' := ?_) #[true, true, true, true, true, true, true, true, true, true, true, true, true, false, false, false, false] rfl rfl (take_ofW HT_.out HW_.out (by kernel_rfl)) (fun _ _ _ h => h) (Or.inl ⟨by rfl, ?_⟩) hHeld ?_ ?_
            rotate_left
            ·rintro w' ⟨s0, s1, s2, s3⟩
             go_simp
             with_reducible rfl
            rotate_left
            ·simp only [Act.put, List.setIfInBounds_toArray, List.set_cons_zero, List.set_cons_succ, i64_w, i32_w]
             rfl
            refine take_ (i := 13) (N := some 31) (v := ?_) (a' := ?_) #[true, true, true, true, true, true, true, true, true, true, true, true, true, true, false, false, false] rfl rfl (take_ofW HT_.out HW_.out (by kernel_rfl)) (fun _ _ _ h => h) (Or.inl ⟨by rfl, ?_⟩) hHeld ?_ ?_
            rotate_left
            ·rintro w' ⟨s0, s1, s2, s3⟩
             go_simp
             with_reducible rfl
            rotate_left
            ·simp only [Act.put, List.setIfInBounds_toArray, List.set_cons_zero, List.set_cons_succ, i64_w, i32_w]
             rfl
            refine one_ (i := 14) (N := some 32) #[true, true, true, true, true, true, true, true, true, true, true, true, true, true, true, false, false] rfl rfl (one_of HT_.out (by kernel_rfl)) (by decide) (fun K hK => ?_)
            refine goesV_ Tryz.func144 (by kernel_rfl) rfl #[.agg #[.string ((rd_T110 x0_2 x9_2).f0), .string ((rd_T110 x0_2 x9_2).f1)], .agg #[.string ((rd_T110 x0_2 (ji9)).f0), .string ((rd_T110 x0_2 (ji9)).f1)]] (by rfl) rfl ⟨_, rfl, rfl⟩ (by (try simp only [List.map_toArray, List.map_cons, List.map_nil]); first | done | (simp only [hji9]; rfl) | rfl | (simp only [List.length_drop, List.length_take]; rfl)) ?_
            with_reducible refine (pq14.calls ((rd_T110 x0_2 x9_2).f0) ((rd_T110 x0_2 x9_2).f1) ((rd_T110 x0_2 (ji9)).f0) ((rd_T110 x0_2 (ji9)).f1) t214 _ A12.out).mono ?_
            rintro e w18 ⟨rfl, hb⟩
            have HS0_ := (hb.cell (World.block_lt_of_cell? _ _ (hHeld.1))).trans (hHeld.1)
            have HS1_ := (hb.cell (World.block_lt_of_cell? _ _ (hHeld.2.1))).trans (hHeld.2.1)
            have HS2_ := (hb.cell (World.block_lt_of_cell? _ _ (hHeld.2.2.1))).trans (hHeld.2.2.1)
            have HS3_ := (hb.cell (World.block_lt_of_cell? _ _ (hHeld.2.2.2))).trans (hHeld.2.2.2)
            refine ⟨_, rfl, ?_⟩
            have n0_ := Aside0.mk (Kd.R_below (by (with_reducible repeat (first | apply Kd.R_alloc | apply Kd.R_drewN | apply Kd.R_drew)); exact HO_0.out) hb)
            have n1_ := Aside0.mk (Kept.below (S := (fun k_ => P0_ k_)) (by repeat (first | (with_reducible first | exact HK.out | apply Kept.alloc | apply Kept.drewN | apply Kept.drew) | exact HK.out)) hb)
            have n2_ := Aside0.mk (below_step (by repeat (first | (with_reducible first | exact HB.out | apply below_alloc | apply pw_below_drewN | apply below_drew1) | exact HB.out)) hb)
            clear HO_0
            clear HK
            clear HB
            have HO_0 := n0_
            have HK := n1_
            have HB := n2_
            clear n0_ n1_ n2_
            (try clear hb)
            (try clear hb2)
            (try clear hk)
            (try clear hi)
            refine hK.out _ _ ⟨HS0_, HS1_, HS2_, HS3_⟩ (fun hHeld => ?_)
            clear hK K
            refine norm_ (a' := ?_) ?_ ?_
            rotate_left
            ·show Act.put _ (some 32) _ = _
             simp only [Act.put, List.setIfInBounds_toArray, List.set_cons_zero, List.set_cons_succ, i64_w, i32_w]
             rfl
            refine pure_ (i := 15) (N := some 33) (v := ?_) (a' := ?_) #[true, true, true, true, true, true, true, true, true, true, true, true, true, true, true, true, false] rfl rfl (any_of HT_.out (by kernel_rfl)) (fun _ _ _ h => h) (Or.inl ⟨by rfl, ?_⟩) ?_ ?_
            rotate_left
            ·intro w'
             go_simp
             with_reducible rfl
            rotate_left
            ·simp only [Act.put, List.setIfInBounds_toArray, List.set_cons_zero, List.set_cons_succ, i64_w, i32_w]
             rfl
            refine pure_ (i := 16) (N := some 34) (v := ?_) (a' := ?_) #[true, true, true, true, true, true, true, true, true, true, true, true, true, true, true, true, true] rfl rfl (any_of HT_.out (by kernel_rfl)) (fun _ _ _ h => h) (Or.inl ⟨by rfl, ?_⟩) ?_ ?_
            rotate_left
            ·intro w'
             go_simp
             with_reducible rfl
            rotate_left
            ·simp only [Act.put, List.setIfInBounds_toArray, List.set_cons_zero, List.set_cons_succ, i64_w, i32_w]
             rfl
            refine done_ (done_of HT_.out (by kernel_rfl)) ?_
            try go_wp2
            have n0_ := Aside0.mk (Kd.R_drew HO_0.out)
            have n1_ := Aside0.mk (Kept.drew HK.out)
            have n2_ := Aside0.mk (below_drew1 HB.out)
            clear HO_0
            clear HK
            clear HB
            have HO_0 := n0_
            have HK := n1_
            have HB := n2_
            clear n0_ n1_ n2_
            have p215 : 0 ≤ ((ji9) : Int) := of_decide_eq_true (by first | (with_reducible assumption) | assumption)
            have q215 : (ji9) < (x0_2.length : Int) := of_decide_eq_true (by first | (with_reducible assumption) | assumption)
            obtain ⟨ad215, e215, hx215_0, hx215_1⟩ := at_T110 (Kd.R_reads' HO_0.out).2.2 (ji9) p215 q215
            obtain rfl : ad212 = ad215 := (by injection e215)
            replace p215 := eq_true p215
            replace q215 := eq_true q215
            have p216 : 0 ≤ (x9_2 : Int) := of_decide_eq_true (by first | (with_reducible assumption) | assumption)
            have q216 : x9_2 < (x0_2.length : Int) := of_decide_eq_true (by first | (with_reducible assumption) | assumption)
            obtain ⟨ad216, e216, hx216_0, hx216_1⟩ := at_T110 (Kd.R_reads' HO_0.out).2.2 x9_2 p216 q216
            obtain rfl : ad212 = ad216 := (by injection e216)
            replace p216 := eq_true p216
            replace q216 := eq_true q216
            have p14 : 0 ≤ (x9_2 : Int) := of_decide_eq_true (by first | (with_reducible assumption) | assumption)
            have q14 : (x9_2 : Int) < ((x0_2.length : Int) : Int) := of_decide_eq_true (by first | (with_reducible assumption) | assumption)
            obtain ⟨go14, co14, eo14, gb14, gl14, cl14, HG14⟩ := Kd.R_form HO_0.out (by omega)
            (first | cases eo14 | (injection eo14 with ea_ en_ ec_; (first | subst ea_ | (injection ea_ with ea_; subst ea_)); subst ec_; clear en_))
            have GB14 := Aside0.mk gb14
            have GG14 := Aside0.mk HG14
            clear gb14 gl14 HG14
            have HMgo14 := Aside0.mk (show (P0_ go14 ∨ w.heap.size ≤ go14) from (HO_0.out.1 _ rfl))
            (first | simp only [add_plain] at hx212_0 | skip)
            (first | simp only [add_plain] at hx212_1 | skip)
            (first | simp only [add_plain] at hx213_0 | skip)
            (first | simp only [add_plain] at hx213_1 | skip)
            (first | simp only [add_plain] at hx215_0 | skip)
            (first | simp only [add_plain] at hx215_1 | skip)
            (first | simp only [add_plain] at hx216_0 | skip)
            (first | simp only [add_plain] at hx216_1 | skip)
            obtain ⟨ce14, hcl14, hM14, hcc14, hfr14⟩ := Kd.R_elem HO_0.out z110 (x9_2 : Int) p14 q14
            obtain rfl := k110_openM hM14
            have hx14_0 : World.cell? _ ⟨go14, (x9_2 : Int).toNat * 2, none⟩ = some (.string ((rd_T110 x0_2 x9_2).f0)) := hcc14 0 _ rfl
            have hx14_1 : World.cell? _ ⟨go14, (x9_2 : Int).toNat * 2 + 1, none⟩ = some (.string ((rd_T110 x0_2 x9_2).f1)) := hcc14 1 _ rfl
            have hf14_0 : World.frozen? _ ⟨go14, (x9_2 : Int).toNat * 2, none⟩ = false := hfr14 0
            have hf14_1 : World.frozen? _ ⟨go14, (x9_2 : Int).toNat * 2 + 1, none⟩ = false := hfr14 1
            clear hcl14 hcc14 hfr14 hM14
            replace p14 := eq_true p14
            replace q14 := eq_true q14
            obtain ⟨ce20, hcl20, hM20, hcc20, hfr20⟩ := Kd.R_elem HO_0.out z110 (x9_2 : Int) (of_decide_eq_true (by first | (with_reducible assumption) | assumption)) (by have h_ : (x9_2 : Int) < ((x0_2.length : Int) : Int) := of_decide_eq_true (by first | (with_reducible assumption) | assumption); first | exact h_ | (have e_ := (Kd.R_reads' HO_0.out).1; omega) | simpa using h_)
            obtain rfl := k110_openM hM20
            have HP20 := (Kd.R_seg HO_0.out (x9_2 : Int) (of_decide_eq_true (by first | (with_reducible assumption) | assumption)) (by have h_ : (x9_2 : Int) < ((x0_2.length : Int) : Int) := of_decide_eq_true (by first | (with_reducible assumption) | assumption); first | exact h_ | (have e_ := (Kd.R_reads' HO_0.out).1; omega) | simpa using h_) (seg := [.string ((rd_T110 x0_2 (ji9)).f0), .string ((rd_T110 x0_2 (ji9)).f1)]) (j := 0) hcl20 hcc20 (show 2 ≤ 2 from by decide) (x' := (⟨(rd_T110 x0_2 (ji9)).f0, (rd_T110 x0_2 (ji9)).f1⟩ : S110)) (k110_mkM _ _ _ (⟨(rd_T110 x0_2 (ji9)).f0, (rd_T110 x0_2 (ji9)).f1⟩ : S110) ) (fun _ hk => hk)).1
            rw [← Ny217.out] at HP20
            have HQ20 := Aside0.mk HP20
            clear hcl20 hcc20 hfr20 hM20 HP20
            have p15 : 0 ≤ ((ji9) : Int) := of_decide_eq_true (by first | (with_reducible assumption) | assumption)
            have q15 : ((ji9) : Int) < ((x0_2.length : Int) : Int) := of_decide_eq_true (by first | (with_reducible assumption) | assumption)
            obtain ⟨ce15, hcl15, hM15, hcc15, hfr15⟩ := Kd.R_elem HQ20.out z110 ((ji9) : Int) p15 q15
            obtain rfl := k110_openM hM15
            have hx15_0 : World.cell? _ ⟨go14, ((ji9) : Int).toNat * 2, none⟩ = some (.string ((rd_T110 y217 (ji9)).f0)) := hcc15 0 _ rfl
            have hx15_1 : World.cell? _ ⟨go14, ((ji9) : Int).toNat * 2 + 1, none⟩ = some (.string ((rd_T110 y217 (ji9)).f1)) := hcc15 1 _ rfl
            have hf15_0 : World.frozen? _ ⟨go14, ((ji9) : Int).toNat * 2, none⟩ = false := hfr15 0
            have hf15_1 : World.frozen? _ ⟨go14, ((ji9) : Int).toNat * 2 + 1, none⟩ = false := hfr15 1
            clear hcl15 hcc15 hfr15 hM15
            replace p15 := eq_true p15
            replace q15 := eq_true q15
            obtain ⟨ce21, hcl21, hM21, hcc21, hfr21⟩ := Kd.R_elem HQ20.out z110 ((ji9) : Int) (of_decide_eq_true (by first | (with_reducible assumption) | assumption)) (by have h_ : ((ji9) : Int) < ((x0_2.length : Int) : Int) := of_decide_eq_true (by first | (with_reducible assumption) | assumption); first | exact h_ | (have e_ := (Kd.R_reads' HO_0.out).1; omega) | simpa using h_)
            obtain rfl := k110_openM hM21
            have HP21 := (Kd.R_seg HQ20.out ((ji9) : Int) (of_decide_eq_true (by first | (with_reducible assumption) | assumption)) (by have h_ : ((ji9) : Int) < ((x0_2.length : Int) : Int) := of_decide_eq_true (by first | (with_reducible assumption) | assumption); first | exact h_ | (have e_ := (Kd.R_reads' HO_0.out).1; omega) | simpa using h_) (seg := [.string ((rd_T110 x0_2 x9_2).f0), .string ((rd_T110 x0_2 x9_2).f1)]) (j := 0) hcl21 hcc21 (show 2 ≤ 2 from by decide) (x' := (⟨(rd_T110 x0_2 x9_2).f0, (rd_T110 x0_2 x9_2).f1⟩ : S110)) (k110_mkM _ _ _ (⟨(rd_T110 x0_2 x9_2).f0, (rd_T110 x0_2 x9_2).f1⟩ : S110) ) (fun _ hk => hk)).1
            rw [← Ny218.out] at HP21
            have HQ21 := Aside0.mk HP21
            clear hcl21 hcc21 hfr21 hM21 HP21
            refine start_ (n := 18) (S := fun w' => w'.cell? ⟨go14, (((ji9)).toNat * 2), none⟩ = some (.string ((rd_T110 x0_2 (ji9)).f0)) ∧ w'.cell? ⟨go14, (((ji9)).toNat * 2) + 1, none⟩ = some (.string ((rd_T110 x0_2 (ji9)).f1)) ∧ w'.cell? ⟨go14, ((x9_2).toNat * 2), none⟩ = some (.string ((rd_T110 x0_2 x9_2).f0)) ∧ w'.cell? ⟨go14, ((x9_2).toNat * 2) + 1, none⟩ = some (.string ((rd_T110 x0_2 x9_2).f1))) (ds := [15, 17]) #[false, false, false, false, false, false, false, false, false, false, false, false, false, false, false, false, false, false] (by kernel_rfl) rfl rfl ⟨hx215_0, hx215_1, hx216_0, hx216_1⟩ (fun hHeld => ?_); refine with_tabW pq0.tab6 pq0.bits6 (fun HT_ HW_ => ?_)
            generalize w18.drew = w19 at HO_0 HK HB GG14 HQ20 HQ21 hf14_0 hf14_1 hf15_0 hf15_1 hx14_0 hx14_1 hx15_0 hx15_1 hx212_0 hx212_1 hx213_0 hx213_1 hx215_0 hx215_1 hx216_0 hx216_1 hHeld ⊢
            refine pure_ (i := 0) (N := some 37) (v := ?_) (a' := ?_) #[true, false, false, false, false, false, false, false, false, false, false, false, false, false, false, false, false, false] rfl rfl (any_of HT_.out (by kernel_rfl)) (fun _ _ _ h => h) (Or.inl ⟨by rfl, ?_⟩) ?_ ?_
            rotate_left
            ·intro w'
             go_simp
             with_reducible rfl
            rotate_left
            ·simp only [Act.put, List.setIfInBounds_toArray, List.set_cons_zero, List.set_cons_succ, i64_w, i32_w]
             rfl
            refine pure_ (i := 1) (N := some 38) (v := ?_) (a' := ?_) #[true, true, false, false, false, false, false, false, false, false, false, false, false, false, false, false, false, false] rfl rfl (any_of HT_.out (by kernel_rfl)) (fun _ _ _ h => h) (Or.inl ⟨by rfl, ?_⟩) ?_ ?_
            rotate_left
            ·intro w'
             go_simp
             with_reducible rfl
            rotate_left
            ·simp only [Act.put, List.setIfInBounds_toArray, List.set_cons_zero, List.set_cons_succ, i64_w, i32_w]
             rfl
            refine pure_ (i := 2) (N := some 39) (v := ?_) (a' := ?_) #[true, true, true, false, false, false, false, false, false, false, false, false, false, false, false, false, false, false] rfl rfl (any_of HT_.out (by kernel_rfl)) (fun _ _ _ h => h) (Or.inl ⟨by rfl, ?_⟩) ?_ ?_
            rotate_left
            ·intro w'
             go_simp
             with_reducible rfl
            rotate_left
            ·simp only [Act.put, List.setIfInBounds_toArray, List.set_cons_zero, List.set_cons_succ, i64_w, i32_w]
             rfl
            refine pure_ (i := 3) (N := some 40) (v := ?_) (a' := ?_) #[true, true, true, true, false, false, false, false, false, false, false, false, false, false, false, false, false, false] rfl rfl (any_of HT_.out (by kernel_rfl)) (fun _ _ _ h => h) (Or.inl ⟨by rfl, ?_⟩) ?_ ?_
            rotate_left
            ·intro w'
             go_simp
             with_reducible rfl
            rotate_left
            ·simp only [Act.put, List.setIfInBounds_toArray, List.set_cons_zero, List.set_cons_succ, i64_w, i32_w]
             rfl
            refine pure_ (i := 4) (N := some 41) (v := ?_) (a' := ?_) #[true, true, true, true, true, false, false, false, false, false, false, false, false, false, false, false, false, false] rfl rfl (any_of HT_.out (by kernel_rfl)) (fun _ _ _ h => h) (Or.inl ⟨by rfl, ?_⟩) ?_ ?_
            rotate_left
            ·intro w'
             go_simp
             with_reducible rfl
            rotate_left
            ·simp only [Act.put, List.setIfInBounds_toArray, List.set_cons_zero, List.set_cons_succ, i64_w, i32_w]
             rfl
            refine pure_ (i := 5) (N := some 42) (v := ?_) (a' := ?_) #[true, true, true, true, true, true, false, false, false, false, false, false, false, false, false, false, false, false] rfl rfl (any_of HT_.out (by kernel_rfl)) (fun _ _ _ h => h) (Or.inl ⟨by rfl, ?_⟩) ?_ ?_
            rotate_left
            ·intro w'
             go_simp
             with_reducible rfl
            rotate_left
            ·simp only [Act.put, List.setIfInBounds_toArray, List.set_cons_zero, List.set_cons_succ, i64_w, i32_w]
             rfl
            refine pure_ (i := 6) (N := some 43) (v := ?_) (a' := ?_) #[true, true, true, true, true, true, true, false, false, false, false, false, false, false, false, false, false, false] rfl rfl (any_of HT_.out (by kernel_rfl)) (fun _ _ _ h => h) (Or.inl ⟨by rfl, ?_⟩) ?_ ?_
            rotate_left
            ·intro w'
             go_simp
             with_reducible rfl
            rotate_left
            ·simp only [Act.put, List.setIfInBounds_toArray, List.set_cons_zero, List.set_cons_succ, i64_w, i32_w]
             rfl
            refine pure_ (i := 7) (N := some 44) (v := ?_) (a' := ?_) #[true, true, true, true, true, true, true, true, false, false, false, false, false, false, false, false, false, false] rfl rfl (any_of HT_.out (by kernel_rfl)) (fun _ _ _ h => h) (Or.inl ⟨by rfl, ?_⟩) ?_ ?_
            rotate_left
            ·intro w'
             go_simp
             with_reducible rfl
            rotate_left
            ·simp only [Act.put, List.setIfInBounds_toArray, List.set_cons_zero, List.set_cons_succ, i64_w, i32_w]
             rfl
            refine pure_ (i := 8) (N := some 45) (v := ?_) (a' := ?_) #[true, true, true, true, true, true, true, true, true, false, false, false, false, false, false, false, false, false] rfl rfl (any_of HT_.out (by kernel_rfl)) (fun _ _ _ h => h) (Or.inl ⟨by rfl, ?_⟩) ?_ ?_
            rotate_left
            ·intro w'
             go_simp
             with_reducible rfl
            rotate_left
            ·simp only [Act.put, List.setIfInBounds_toArray, List.set_cons_zero, List.set_cons_succ, i64_w, i32_w]
             rfl
            refine pure_ (i := 10) (N := some 47) (v := ?_) (a' := ?_) #[true, true, true, true, true, true, true, true, true, false, true, false, false, false, false, false, false, false] rfl rfl (any_of HT_.out (by kernel_rfl)) (fun _ _ _ h => h) (Or.inl ⟨by rfl, ?_⟩) ?_ ?_
            rotate_left
            ·intro w'
             go_simp
             with_reducible rfl
            rotate_left
            ·simp only [Act.put, List.setIfInBounds_toArray, List.set_cons_zero, List.set_cons_succ, i64_w, i32_w]
             rfl
            refine pure_ (i := 11) (N := some 48) (v := ?_) (a' := ?_) #[true, true, true, true, true, true, true, true, true, false, true, true, false, false, false, false, false, false] rfl rfl (any_of HT_.out (by kernel_rfl)) (fun _ _ _ h => h) (Or.inl ⟨by rfl, ?_⟩) ?_ ?_
            rotate_left
            ·intro w'
             go_simp
             with_reducible rfl
            rotate_left
            ·simp only [Act.put, List.setIfInBounds_toArray, List.set_cons_zero, List.set_cons_succ, i64_w, i32_w]
             rfl
            refine pure_ (i := 12) (N := some 49) (v := ?_) (a' := ?_) #[true, true, true, true, true, true, true, true, true, false, true, true, true, false, false, false, false, false] rfl rfl (any_of HT_.out (by kernel_rfl)) (fun _ _ _ h => h) (Or.inl ⟨by rfl, ?_⟩) ?_ ?_
            rotate_left
            ·intro w'
             go_simp
             with_reducible rfl
            rotate_left
            ·simp only [Act.put, List.setIfInBounds_toArray, List.set_cons_zero, List.set_cons_succ, i64_w, i32_w]
             rfl
            refine take_ (i := 9) (N := some 46) (v := ?_) (a' := ?_) #[true, true, true, true, true, true, true, true, true, true, true, true, true, false, false, false, false, false] rfl rfl (take_ofW HT_.out HW_.out (by kernel_rfl)) (fun _ _ _ h => h) (Or.inl ⟨by rfl, ?_⟩) hHeld ?_ ?_
            rotate_left
            ·rintro w' ⟨s0, s1, s2, s3⟩
             go_simp
             with_reducible rfl
            rotate_left
            ·simp only [Act.put, List.setIfInBounds_toArray, List.set_cons_zero, List.set_cons_succ, i64_w, i32_w]
             rfl
            refine take_ (i := 13) (N := some 50) (v := ?_) (a' := ?_) #[true, true, true, true, true, true, true, true, true, true, true, true, true, true, false, false, false, false] rfl rfl (take_ofW HT_.out HW_.out (by kernel_rfl)) (fun _ _ _ h => h) (Or.inl ⟨by rfl, ?_⟩) hHeld ?_ ?_
            rotate_left
            ·rintro w' ⟨s0, s1, s2, s3⟩
             go_simp
             with_reducible rfl
            rotate_left
            ·simp only [Act.put, List.setIfInBounds_toArray, List.set_cons_zero, List.set_cons_succ, i64_w, i32_w]
             rfl
            refine pure_ (i := 14) (N := some 51) (v := ?_) (a' := ?_) #[true, true, true, true, true, true, true, true, true, true, true, true, true, true, true, false, false, false] rfl rfl (any_of HT_.out (by kernel_rfl)) (fun _ _ _ h => h) (Or.inl ⟨by rfl, ?_⟩) ?_ ?_
            rotate_left
            ·intro w'
             go_simp
             with_reducible rfl
            rotate_left
            ·simp only [Act.put, List.setIfInBounds_toArray, List.set_cons_zero, List.set_cons_succ, i64_w, i32_w]
             rfl
            refine last_ (i := 15) (N := none) #[true, true, true, true, true, true, true, true, true, true, true, true, true, true, true, true, false, false] rfl rfl (one_of HT_.out (by kernel_rfl)) (by decide) (fun K hK => ?_)
            refine skip_ (w1 := ?_) (by rfl) rfl ?_ ?_
            rotate_left
            ·go_simp
             rfl
            refine hK.out _ _ ?_
            clear hK K
            refine pure_ (i := 16) (N := some 52) (v := ?_) (a' := ?_) #[true, true, true, true, true, true, true, true, true, true, true, true, true, true, true, true, true, false] rfl rfl (any_of HT_.out (by kernel_rfl)) (fun _ _ _ h => h) (Or.inl ⟨by rfl, ?_⟩) ?_ ?_
            rotate_left
            ·intro w'
             go_simp
             with_reducible rfl
            rotate_left
            ·simp only [Act.put, List.setIfInBounds_toArray, List.set_cons_zero, List.set_cons_succ, i64_w, i32_w]
             rfl
            obtain ⟨vy14_0_0, hy14_0_0⟩ := cell?_setCell_some (p := ⟨go14, ((x9_2).toNat * 2), none⟩) (x := (.string ((rd_T110 x0_2 (ji9)).f0))) hx215_0
            have hz14_0 := blk_frozen GG14.out ((((ji9)).toNat * 2))
            obtain ⟨vy14_1_0, hy14_1_0⟩ := cell?_setCell_some (p := ⟨go14, ((x9_2).toNat * 2), none⟩) (x := (.string ((rd_T110 x0_2 (ji9)).f0))) hx215_1
            obtain ⟨vy14_1_1, hy14_1_1⟩ := cell?_setCell_some (p := ⟨go14, ((x9_2).toNat * 2) + 1, none⟩) (x := (.string ((rd_T110 x0_2 (ji9)).f1))) hy14_1_0
            clear hy14_1_0
            have hz14_1 := blk_frozen GG14.out ((((ji9)).toNat * 2) + 1)
            refine last_ (i := 17) (N := none) #[true, true, true, true, true, true, true, true, true, true, true, true, true, true, true, true, true, true] rfl rfl (one_of HT_.out (by kernel_rfl)) (by decide) (fun K hK => ?_)
            refine skip_ (w1 := ?_) (by rfl) rfl ?_ ?_
            rotate_left
            ·go_simp
             rfl
            refine hK.out _ _ ?_
            clear hK K
            refine done_ (done_of HT_.out (by kernel_rfl)) ?_
            try go_wp2
            go_roundg k2
            case measure => have := HK1.out; have := HK2.out; omega
            case rel => exact ⟨(y218), (ji9), (by first | rfl | (simp; done) | (simp only [← hji9] <;> (first | rfl | simp)) | (simp [*]; done)), H', ⟨by have := HK1.out; have := HK2.out; omega⟩, ⟨by (with_reducible repeat (first | apply Kd.R_alloc | apply Kd.R_drewN | apply Kd.R_drew)); exact HQ21.out⟩, ⟨by repeat (first | (with_reducible first | exact HK.out | apply Kept.alloc | apply Kept.drewN | apply Kept.drew | refine Kept.setCell ?_ HMgo14.out _ | refine Kept.setCell ?_ HMgo14.out _ | refine Kept.setCell ?_ HMgo14.out _ | refine Kept.setCell ?_ HMgo14.out _) | exact HK.out)⟩, ⟨by repeat (first | (with_reducible first | exact HB.out | apply below_alloc | apply pw_below_drewN | apply below_drew1 | refine below_set ?_ GB14.out | refine below_set ?_ GB14.out | refine below_set ?_ GB14.out | refine below_set ?_ GB14.out) | exact HB.out)⟩⟩
           ·rw [if_neg c13] at H
            have c13b0 : decide (t214 < 0) = false := decide_eq_false c13
            clear c13
            have H' := Aside0.mk H
            clear H
            try go_wp2
            have n0_ := Aside0.mk (Kd.R_drew HO_0.out)
            have n1_ := Aside0.mk (Kept.drew HK.out)
            have n2_ := Aside0.mk (below_drew1 HB.out)
            clear HO_0
            clear HK
            clear HB
            have HO_0 := n0_
            have HK := n1_
            have HB := n2_
            clear n0_ n1_ n2_
            obtain ⟨Ao23, co23, eo23⟩ := Kd.R_slice HO_0.out
            (first | subst eo23 | (injection eo23 with f1_ f2_ f3_; have f4_ := f1_.symm; have f5_ := f3_.symm; clear f1_ f2_ f3_; subst f4_; subst f5_))
            have p212 : 0 ≤ (x9_2 : Int) := of_decide_eq_true (by first | (with_reducible assumption) | assumption)
            have q212 : x9_2 < (x0_2.length : Int) := of_decide_eq_true (by first | (with_reducible assumption) | assumption)
            obtain ⟨ad212, e212, hx212_0, hx212_1⟩ := at_T110 (Kd.R_reads' HO_0.out).2.2 x9_2 p212 q212
            cases e212
            replace p212 := eq_true p212
            replace q212 := eq_true q212
            have p213 : 0 ≤ ((ji9) : Int) := of_decide_eq_true (by first | (with_reducible assumption) | assumption)
            have q213 : (ji9) < (x0_2.length : Int) := of_decide_eq_true (by first | (with_reducible assumption) | assumption)
            obtain ⟨ad213, e213, hx213_0, hx213_1⟩ := at_T110 (Kd.R_reads' HO_0.out).2.2 (ji9) p213 q213
            obtain rfl : ad212 = ad213 := (by injection e213)
            replace p213 := eq_true p213
            replace q213 := eq_true q213
            refine start_ (n := 17) (S := fun w' => w'.cell? (ad212.add ((x9_2).toNat * 2)) = some (.string ((rd_T110 x0_2 x9_2).f0)) ∧ w'.cell? ⟨(ad212.add ((x9_2).toNat * 2)).block, (ad212.add ((x9_2).toNat * 2)).off + 1, none⟩ = some (.string ((rd_T110 x0_2 x9_2).f1)) ∧ w'.cell? (ad212.add (((ji9)).toNat * 2)) = some (.string ((rd_T110 x0_2 (ji9)).f0)) ∧ w'.cell? ⟨(ad212.add (((ji9)).toNat * 2)).block, (ad212.add (((ji9)).toNat * 2)).off + 1, none⟩ = some (.string ((rd_T110 x0_2 (ji9)).f1))) (ds := []) #[false, false, false, false, false, false, false, false, false, false, false, false, false, false, false, false, false] (by kernel_rfl) rfl rfl ⟨hx212_0, hx212_1, hx213_0, hx213_1⟩ (fun hHeld => ?_); refine with_tabW pq0.tab4 pq0.bits4 (fun HT_ HW_ => ?_)
            generalize wr.drew = w22 at HO_0 HK HB hx212_0 hx212_1 hx213_0 hx213_1 hHeld ⊢
            refine pure_ (i := 0) (N := some 18) (v := ?_) (a' := ?_) #[true, false, false, false, false, false, false, false, false, false, false, false, false, false, false, false, false] rfl rfl (any_of HT_.out (by kernel_rfl)) (fun _ _ _ h => h) (Or.inl ⟨by rfl, ?_⟩) ?_ ?_
            rotate_left
            ·intro w'
             go_simp
             with_reducible rfl
            rotate_left
            ·simp only [Act.put, List.setIfInBounds_toArray, List.set_cons_zero, List.set_cons_succ, i64_w, i32_w]
             rfl
            refine pure_ (i := 1) (N := some 19) (v := ?_) (a' := ?_) #[true, true, false, false, false, false, false, false, false, false, false, false, false, false, false, false, false] rfl rfl (any_of HT_.out (by kernel_rfl)) (fun _ _ _ h => h) (Or.inl ⟨by rfl, ?_⟩) ?_ ?_
            rotate_left
            ·intro w'
             go_simp
             with_reducible rfl
            rotate_left
            ·simp only [Act.put, List.setIfInBounds_toArray, List.set_cons_zero, List.set_cons_succ, i64_w, i32_w]
             rfl
            refine pure_ (i := 2) (N := some 20) (v := ?_) (a' := ?_) #[true, true, true, false, false, false, false, false, false, false, false, false, false, false, false, false, false] rfl rfl (any_of HT_.out (by kernel_rfl)) (fun _ _ _ h => h) (Or.inl ⟨by rfl, ?_⟩) ?_ ?_
            rotate_left
            ·intro w'
             go_simp
             with_reducible rfl
            rotate_left
            ·simp only [Act.put, List.setIfInBounds_toArray, List.set_cons_zero, List.set_cons_succ, i64_w, i32_w]
             rfl
            refine pure_ (i := 3) (N := some 21) (v := ?_) (a' := ?_) #[true, true, true, true, false, false, false, false, false, false, false, false, false, false, false, false, false] rfl rfl (any_of HT_.out (by kernel_rfl)) (fun _ _ _ h => h) (Or.inl ⟨by rfl, ?_⟩) ?_ ?_
            rotate_left
            ·intro w'
             go_simp
             with_reducible rfl
            rotate_left
            ·simp only [Act.put, List.setIfInBounds_toArray, List.set_cons_zero, List.set_cons_succ, i64_w, i32_w]
             rfl
            refine pure_ (i := 4) (N := some 22) (v := ?_) (a' := ?_) #[true, true, true, true, true, false, false, false, false, false, false, false, false, false, false, false, false] rfl rfl (any_of HT_.out (by kernel_rfl)) (fun _ _ _ h => h) (Or.inl ⟨by rfl, ?_⟩) ?_ ?_
            rotate_left
            ·intro w'
             go_simp
             with_reducible rfl
            rotate_left
            ·simp only [Act.put, List.setIfInBounds_toArray, List.set_cons_zero, List.set_cons_succ, i64_w, i32_w]
             rfl
            refine pure_ (i := 5) (N := some 23) (v := ?_) (a' := ?_) #[true, true, true, true, true, true, false, false, false, false, false, false, false, false, false, false, false] rfl rfl (any_of HT_.out (by kernel_rfl)) (fun _ _ _ h => h) (Or.inl ⟨by rfl, ?_⟩) ?_ ?_
            rotate_left
            ·intro w'
             go_simp
             with_reducible rfl
            rotate_left
            ·simp only [Act.put, List.setIfInBounds_toArray, List.set_cons_zero, List.set_cons_succ, i64_w, i32_w]
             rfl
            refine pure_ (i := 6) (N := some 24) (v := ?_) (a' := ?_) #[true, true, true, true, true, true, true, false, false, false, false, false, false, false, false, false, false] rfl rfl (any_of HT_.out (by kernel_rfl)) (fun _ _ _ h => h) (Or.inl ⟨by rfl, ?_⟩) ?_ ?_
            rotate_left
            ·intro w'
             go_simp
             with_reducible rfl
            rotate_left
            ·simp only [Act.put, List.setIfInBounds_toArray, List.set_cons_zero, List.set_cons_succ, i64_w, i32_w]
             rfl
            refine pure_ (i := 7) (N := some 25) (v := ?_) (a' := ?_) #[true, true, true, true, true, true, true, true, false, false, false, false, false, false, false, false, false] rfl rfl (any_of HT_.out (by kernel_rfl)) (fun _ _ _ h => h) (Or.inl ⟨by rfl, ?_⟩) ?_ ?_
            rotate_left
            ·intro w'
             go_simp
             with_reducible rfl
            rotate_left
            ·simp only [Act.put, List.setIfInBounds_toArray, List.set_cons_zero, List.set_cons_succ, i64_w, i32_w]
             rfl
            refine pure_ (i := 9) (N := some 27) (v := ?_) (a' := ?_) #[true, true, true, true, true, true, true, true, false, true, false, false, false, false, false, false, false] rfl rfl (any_of HT_.out (by kernel_rfl)) (fun _ _ _ h => h) (Or.inl ⟨by rfl, ?_⟩) ?_ ?_
            rotate_left
            ·intro w'
             go_simp
             with_reducible rfl
            rotate_left
            ·simp only [Act.put, List.setIfInBounds_toArray, List.set_cons_zero, List.set_cons_succ, i64_w, i32_w]
             rfl
            refine pure_ (i := 10) (N := some 28) (v := ?_) (a' := ?_) #[true, true, true, true, true, true, true, true, false, true, true, false, false, false, false, false, false] rfl rfl (any_of HT_.out (by kernel_rfl)) (fun _ _ _ h => h) (Or.inl ⟨by rfl, ?_⟩) ?_ ?_
            rotate_left
            ·intro w'
             go_simp
             with_reducible rfl
            rotate_left
            ·simp only [Act.put, List.setIfInBounds_toArray, List.set_cons_zero, List.set_cons_succ, i64_w, i32_w]
             rfl
            refine pure_ (i := 11) (N := some 29) (v := ?_) (a' := ?_) #[true, true, true, true, true, true, true, true, false, true, true, true, false, false, false, false, false] rfl rfl (any_of HT_.out (by kernel_rfl)) (fun _ _ _ h => h) (Or.inl ⟨by rfl, ?_⟩) ?_ ?_
            rotate_left
            ·intro w'
             go_simp
             with_reducible rfl
            rotate_left
            ·simp only [Act.put, List.setIfInBounds_toArray, List.set_cons_zero, List.set_cons_succ, i64_w, i32_w]
             rfl
            refine pure_ (i := 12) (N := some 30) (v := ?_) (a' := ?_) #[true, true, true, true, true, true, true, true, false, true, true, true, true, false, false, false, false] rfl rfl (any_of HT_.out (by kernel_rfl)) (fun _ _ _ h => h) (Or.inl ⟨by rfl, ?_⟩) ?_ ?_
            rotate_left
            ·intro w'
             go_simp
             with_reducible rfl
            rotate_left
            ·simp only [Act.put, List.setIfInBounds_toArray, List.set_cons_zero, List.set_cons_succ, i64_w, i32_w]
             rfl
            refine take_ (i := 8) (N := some 26) (v := ?_) (a' := ?_) #[true, true, true, true, true, true, true, true, true, true, true, true, true, false, false, false, false] rfl rfl (take_ofW HT_.out HW_.out (by kernel_rfl)) (fun _ _ _ h => h) (Or.inl ⟨by rfl, ?_⟩) hHeld ?_ ?_
            rotate_left
            ·rintro w' ⟨s0, s1, s2, s3⟩
             go_simp
             with_reducible rfl
            rotate_left
            ·simp only [Act.put, List.setIfInBounds_toArray, List.set_cons_zero, List.set_cons_succ, i64_w, i32_w]
             rfl
            refine take_ (i := 13) (N := some 31) (v := ?_) (a' := ?_) #[true, true, true, true, true, true, true, true, true, true, true, true, true, true, false, false, false] rfl rfl (take_ofW HT_.out HW_.out (by kernel_rfl)) (fun _ _ _ h => h) (Or.inl ⟨by rfl, ?_⟩) hHeld ?_ ?_
            rotate_left
            ·rintro w' ⟨s0, s1, s2, s3⟩
             go_simp
             with_reducible rfl
            rotate_left
            ·simp only [Act.put, List.setIfInBounds_toArray, List.set_cons_zero, List.set_cons_succ, i64_w, i32_w]
             rfl
            refine one_ (i := 14) (N := some 32) #[true, true, true, true, true, true, true, true, true, true, true, true, true, true, true, false, false] rfl rfl (one_of HT_.out (by kernel_rfl)) (by decide) (fun K hK => ?_)
            refine goesV_ Tryz.func144 (by kernel_rfl) rfl #[.agg #[.string ((rd_T110 x0_2 x9_2).f0), .string ((rd_T110 x0_2 x9_2).f1)], .agg #[.string ((rd_T110 x0_2 (ji9)).f0), .string ((rd_T110 x0_2 (ji9)).f1)]] (by rfl) rfl ⟨_, rfl, rfl⟩ (by (try simp only [List.map_toArray, List.map_cons, List.map_nil]); first | done | (simp only [hji9]; rfl) | rfl | (simp only [List.length_drop, List.length_take]; rfl)) ?_
            with_reducible refine (pq14.calls ((rd_T110 x0_2 x9_2).f0) ((rd_T110 x0_2 x9_2).f1) ((rd_T110 x0_2 (ji9)).f0) ((rd_T110 x0_2 (ji9)).f1) t214 _ A12.out).mono ?_
            rintro e w24 ⟨rfl, hb⟩
            have HS0_ := (hb.cell (World.block_lt_of_cell? _ _ (hHeld.1))).trans (hHeld.1)
            have HS1_ := (hb.cell (World.block_lt_of_cell? _ _ (hHeld.2.1))).trans (hHeld.2.1)
            have HS2_ := (hb.cell (World.block_lt_of_cell? _ _ (hHeld.2.2.1))).trans (hHeld.2.2.1)
            have HS3_ := (hb.cell (World.block_lt_of_cell? _ _ (hHeld.2.2.2))).trans (hHeld.2.2.2)
            refine ⟨_, rfl, ?_⟩
            have n0_ := Aside0.mk (Kd.R_below (by (with_reducible repeat (first | apply Kd.R_alloc | apply Kd.R_drewN | apply Kd.R_drew)); exact HO_0.out) hb)
            have n1_ := Aside0.mk (Kept.below (S := (fun k_ => P0_ k_)) (by repeat (first | (with_reducible first | exact HK.out | apply Kept.alloc | apply Kept.drewN | apply Kept.drew) | exact HK.out)) hb)
            have n2_ := Aside0.mk (below_step (by repeat (first | (with_reducible first | exact HB.out | apply below_alloc | apply pw_below_drewN | apply below_drew1) | exact HB.out)) hb)
            clear HO_0
            clear HK
            clear HB
            have HO_0 := n0_
            have HK := n1_
            have HB := n2_
            clear n0_ n1_ n2_
            (try clear hb)
            (try clear hb2)
            (try clear hk)
            (try clear hi)
            refine hK.out _ _ ⟨HS0_, HS1_, HS2_, HS3_⟩ (fun hHeld => ?_)
            clear hK K
            refine norm_ (a' := ?_) ?_ ?_
            rotate_left
            ·show Act.put _ (some 32) _ = _
             simp only [Act.put, List.setIfInBounds_toArray, List.set_cons_zero, List.set_cons_succ, i64_w, i32_w]
             rfl
            refine pure_ (i := 15) (N := some 33) (v := ?_) (a' := ?_) #[true, true, true, true, true, true, true, true, true, true, true, true, true, true, true, true, false] rfl rfl (any_of HT_.out (by kernel_rfl)) (fun _ _ _ h => h) (Or.inl ⟨by rfl, ?_⟩) ?_ ?_
            rotate_left
            ·intro w'
             go_simp
             with_reducible rfl
            rotate_left
            ·simp only [Act.put, List.setIfInBounds_toArray, List.set_cons_zero, List.set_cons_succ, i64_w, i32_w]
             rfl
            refine pure_ (i := 16) (N := some 34) (v := ?_) (a' := ?_) #[true, true, true, true, true, true, true, true, true, true, true, true, true, true, true, true, true] rfl rfl (any_of HT_.out (by kernel_rfl)) (fun _ _ _ h => h) (Or.inl ⟨by rfl, ?_⟩) ?_ ?_
            rotate_left
            ·intro w'
             go_simp
             with_reducible rfl
            rotate_left
            ·simp only [Act.put, List.setIfInBounds_toArray, List.set_cons_zero, List.set_cons_succ, i64_w, i32_w]
             rfl
            refine done_ (done_of HT_.out (by kernel_rfl)) ?_
            try go_wp2
            go_roundg k2
            case measure => have := HK1.out; have := HK2.out; omega
            case rel => exact ⟨(x0_2), (wrap64 (x8_1 + 1)), (by first | rfl | (simp; done) | (simp [*]; done)), H', ⟨by have := HK1.out; have := HK2.out; omega⟩, ⟨by (with_reducible repeat (first | apply Kd.R_alloc | apply Kd.R_drewN | apply Kd.R_drew)); exact HO_0.out⟩, ⟨by repeat (first | (with_reducible first | exact HK.out | apply Kept.alloc | apply Kept.drewN | apply Kept.drew) | exact HK.out)⟩, ⟨by repeat (first | (with_reducible first | exact HB.out | apply below_alloc | apply pw_below_drewN | apply below_drew1) | exact HB.out)⟩⟩
          ·rw [if_neg c11] at H
           exact absurd H (by simp)
         ·rw [if_neg c10] at H
          exact absurd H (by simp)
        ·rw [if_neg c8] at H
         exact absurd H (by simp)
       ·rw [if_neg c7] at H
        exact absurd H (by simp)
      ·rw [if_neg c6] at H
       have c6b0 : decide (a1 < x9_2) = false := decide_eq_false c6
       clear c6
       have H' := Aside0.mk H
       clear H
       try go_wp2
       have n0_ := Aside0.mk (Kd.R_drew HO_0.out)
       have n1_ := Aside0.mk (Kept.drew HK.out)
       have n2_ := Aside0.mk (below_drew1 HB.out)
       clear HO_0
       clear HK
       clear HB
       have HO_0 := n0_
       have HK := n1_
       have HB := n2_
       clear n0_ n1_ n2_
       refine start_ (n := 17) (S := fun w' => True) (ds := []) #[false, false, false, false, false, false, false, false, false, false, false, false, false, false, false, false, false] (by kernel_rfl) rfl rfl trivial (fun hHeld => ?_); refine with_tabW pq0.tab4 pq0.bits4 (fun HT_ HW_ => ?_)
       generalize wr.drew = w25 at HO_0 HK HB hHeld ⊢
       refine pure_ (i := 0) (N := some 18) (v := ?_) (a' := ?_) #[true, false, false, false, false, false, false, false, false, false, false, false, false, false, false, false, false] rfl rfl (any_of HT_.out (by kernel_rfl)) (fun _ _ _ h => h) (Or.inl ⟨by rfl, ?_⟩) ?_ ?_
       rotate_left
       ·intro w'
        go_simp
        with_reducible rfl
       rotate_left
       ·simp only [Act.put, List.setIfInBounds_toArray, List.set_cons_zero, List.set_cons_succ, i64_w, i32_w]
        rfl
       refine pure_ (i := 1) (N := some 19) (v := ?_) (a' := ?_) #[true, true, false, false, false, false, false, false, false, false, false, false, false, false, false, false, false] rfl rfl (any_of HT_.out (by kernel_rfl)) (fun _ _ _ h => h) (Or.inl ⟨by rfl, ?_⟩) ?_ ?_
       rotate_left
       ·intro w'
        go_simp
        with_reducible rfl
       rotate_left
       ·simp only [Act.put, List.setIfInBounds_toArray, List.set_cons_zero, List.set_cons_succ, i64_w, i32_w]
        rfl
       refine pure_ (i := 2) (N := some 20) (v := ?_) (a' := ?_) #[true, true, true, false, false, false, false, false, false, false, false, false, false, false, false, false, false] rfl rfl (any_of HT_.out (by kernel_rfl)) (fun _ _ _ h => h) (Or.inl ⟨by rfl, ?_⟩) ?_ ?_
       rotate_left
       ·intro w'
        go_simp
        with_reducible rfl
       rotate_left
       ·simp only [Act.put, List.setIfInBounds_toArray, List.set_cons_zero, List.set_cons_succ, i64_w, i32_w]
        rfl
       refine pure_ (i := 3) (N := some 21) (v := ?_) (a' := ?_) #[true, true, true, true, false, false, false, false, false, false, false, false, false, false, false, false, false] rfl rfl (any_of HT_.out (by kernel_rfl)) (fun _ _ _ h => h) (Or.inl ⟨by rfl, ?_⟩) ?_ ?_
       rotate_left
       ·intro w'
        go_simp
        with_reducible rfl
       rotate_left
       ·simp only [Act.put, List.setIfInBounds_toArray, List.set_cons_zero, List.set_cons_succ, i64_w, i32_w]
        rfl
       refine pure_ (i := 4) (N := some 22) (v := undef) (a' := ?_) #[true, true, true, true, true, false, false, false, false, false, false, false, false, false, false, false, false] rfl rfl (any_of HT_.out (by kernel_rfl)) (fun _ _ _ h => h) (Or.inr ⟨by rfl, rfl⟩) ?_ ?_
       rotate_left
       ·simp only [Act.put, List.setIfInBounds_toArray, List.set_cons_zero, List.set_cons_succ, i64_w, i32_w]
        rfl
       refine pure_ (i := 5) (N := some 23) (v := undef) (a' := ?_) #[true, true, true, true, true, true, false, false, false, false, false, false, false, false, false, false, false] rfl rfl (any_of HT_.out (by kernel_rfl)) (fun _ _ _ h => h) (Or.inr ⟨by rfl, rfl⟩) ?_ ?_
       rotate_left
       ·simp only [Act.put, List.setIfInBounds_toArray, List.set_cons_zero, List.set_cons_succ, i64_w, i32_w]
        rfl
       refine pure_ (i := 6) (N := some 24) (v := undef) (a' := ?_) #[true, true, true, true, true, true, true, false, false, false, false, false, false, false, false, false, false] rfl rfl (any_of HT_.out (by kernel_rfl)) (fun _ _ _ h => h) (Or.inr ⟨by rfl, rfl⟩) ?_ ?_
       rotate_left
       ·simp only [Act.put, List.setIfInBounds_toArray, List.set_cons_zero, List.set_cons_succ, i64_w, i32_w]
        rfl
       refine pure_ (i := 7) (N := some 25) (v := undef) (a' := ?_) #[true, true, true, true, true, true, true, true, false, false, false, false, false, false, false, false, false] rfl rfl (any_of HT_.out (by kernel_rfl)) (fun _ _ _ h => h) (Or.inr ⟨by rfl, rfl⟩) ?_ ?_
       rotate_left
       ·simp only [Act.put, List.setIfInBounds_toArray, List.set_cons_zero, List.set_cons_succ, i64_w, i32_w]
        rfl
       refine pure_ (i := 8) (N := some 26) (v := undef) (a' := ?_) #[true, true, true, true, true, true, true, true, true, false, false, false, false, false, false, false, false] rfl rfl (any_of HT_.out (by kernel_rfl)) (fun _ _ _ h => h) (Or.inr ⟨by rfl, rfl⟩) ?_ ?_
       rotate_left
       ·simp only [Act.put, List.setIfInBounds_toArray, List.set_cons_zero, List.set_cons_succ, i64_w, i32_w]
        rfl
       refine pure_ (i := 9) (N := some 27) (v := undef) (a' := ?_) #[true, true, true, true, true, true, true, true, true, true, false, false, false, false, false, false, false] rfl rfl (any_of HT_.out (by kernel_rfl)) (fun _ _ _ h => h) (Or.inr ⟨by rfl, rfl⟩) ?_ ?_
       rotate_left
       ·simp only [Act.put, List.setIfInBounds_toArray, List.set_cons_zero, List.set_cons_succ, i64_w, i32_w]
        rfl
       refine pure_ (i := 10) (N := some 28) (v := undef) (a' := ?_) #[true, true, true, true, true, true, true, true, true, true, true, false, false, false, false, false, false] rfl rfl (any_of HT_.out (by kernel_rfl)) (fun _ _ _ h => h) (Or.inr ⟨by rfl, rfl⟩) ?_ ?_
       rotate_left
       ·simp only [Act.put, List.setIfInBounds_toArray, List.set_cons_zero, List.set_cons_succ, i64_w, i32_w]
        rfl
       refine pure_ (i := 11) (N := some 29) (v := undef) (a' := ?_) #[true, true, true, true, true, true, true, true, true, true, true, true, false, false, false, false, false] rfl rfl (any_of HT_.out (by kernel_rfl)) (fun _ _ _ h => h) (Or.inr ⟨by rfl, rfl⟩) ?_ ?_
       rotate_left
       ·simp only [Act.put, List.setIfInBounds_toArray, List.set_cons_zero, List.set_cons_succ, i64_w, i32_w]
        rfl
       refine pure_ (i := 12) (N := some 30) (v := undef) (a' := ?_) #[true, true, true, true, true, true, true, true, true, true, true, true, true, false, false, false, false] rfl rfl (any_of HT_.out (by kernel_rfl)) (fun _ _ _ h => h) (Or.inr ⟨by rfl, rfl⟩) ?_ ?_
       rotate_left
       ·simp only [Act.put, List.setIfInBounds_toArray, List.set_cons_zero, List.set_cons_succ, i64_w, i32_w]
        rfl
       refine pure_ (i := 13) (N := some 31) (v := undef) (a' := ?_) #[true, true, true, true, true, true, true, true, true, true, true, true, true, true, false, false, false] rfl rfl (any_of HT_.out (by kernel_rfl)) (fun _ _ _ h => h) (Or.inr ⟨by rfl, rfl⟩) ?_ ?_
       rotate_left
       ·simp only [Act.put, List.setIfInBounds_toArray, List.set_cons_zero, List.set_cons_succ, i64_w, i32_w]
        rfl
       refine pure_ (i := 14) (N := some 32) (v := undef) (a' := ?_) #[true, true, true, true, true, true, true, true, true, true, true, true, true, true, true, false, false] rfl rfl (any_of HT_.out (by kernel_rfl)) (fun _ _ _ h => h) (Or.inr ⟨by rfl, rfl⟩) ?_ ?_
       rotate_left
       ·simp only [Act.put, List.setIfInBounds_toArray, List.set_cons_zero, List.set_cons_succ, i64_w, i32_w]
        rfl
       refine pure_ (i := 15) (N := some 33) (v := undef) (a' := ?_) #[true, true, true, true, true, true, true, true, true, true, true, true, true, true, true, true, false] rfl rfl (any_of HT_.out (by kernel_rfl)) (fun _ _ _ h => h) (Or.inr ⟨by rfl, rfl⟩) ?_ ?_
       rotate_left
       ·simp only [Act.put, List.setIfInBounds_toArray, List.set_cons_zero, List.set_cons_succ, i64_w, i32_w]
        rfl
       refine pure_ (i := 16) (N := some 34) (v := ?_) (a' := ?_) #[true, true, true, true, true, true, true, true, true, true, true, true, true, true, true, true, true] rfl rfl (any_of HT_.out (by kernel_rfl)) (fun _ _ _ h => h) (Or.inl ⟨by rfl, ?_⟩) ?_ ?_
       rotate_left
       ·intro w'
        go_simp
        with_reducible rfl
       rotate_left
       ·simp only [Act.put, List.setIfInBounds_toArray, List.set_cons_zero, List.set_cons_succ, i64_w, i32_w]
        rfl
       refine done_ (done_of HT_.out (by kernel_rfl)) ?_
       try go_wp2
       go_roundg k2
       case measure => have := HK1.out; have := HK2.out; omega
       case rel => exact ⟨(x0_2), (wrap64 (x8_1 + 1)), (by first | rfl | (simp; done) | (simp [*]; done)), H', ⟨by have := HK1.out; have := HK2.out; omega⟩, ⟨by (with_reducible repeat (first | apply Kd.R_alloc | apply Kd.R_drewN | apply Kd.R_drew)); exact HO_0.out⟩, ⟨by repeat (first | (with_reducible first | exact HK.out | apply Kept.alloc | apply Kept.drewN | apply Kept.drew) | exact HK.out)⟩, ⟨by repeat (first | (with_reducible first | exact HB.out | apply below_alloc | apply pw_below_drewN | apply below_drew1) | exact HB.out)⟩⟩
   ·rw [if_neg c5] at H
    have c5b0 : decide (x8_1 < a2) = false := decide_eq_false c5
    clear c5
    obtain rfl := Option.some.inj H
    go_wp2
    first | go_end0 | ((try simp only [Exit.inBlock, Exit.then]); refine bodyPost_ret (results_none rfl _ _ _) rfl ?_)
    exact ⟨by first | rfl | (simp [errW_none, errW_some] <;> rfl) | (simp [*, errW_none, errW_some] <;> rfl), by (with_reducible repeat (first | apply Kd.R_alloc | apply Kd.R_drewN | apply Kd.R_drew)); exact HO_0.out, by repeat (first | (with_reducible first | exact HB.out | apply below_alloc | apply pw_below_drewN | apply below_drew1) | exact HB.out), by repeat (first | (with_reducible first | exact HK.out | apply Kept.alloc | apply Kept.drewN | apply Kept.drew) | exact HK.out)⟩
end Go.Proofs.YtdkjinmkallhnaaGreatDoorQ
end
section
namespace Go.Proofs.YtdkjinmkallhnaaGreatDoorQ
open Go.RowKit Go.Proofs.YtdkjinmkallhnaaGreatDoorW.PrintWords Go.Proofs.YtdkjinmkallhnaaGreatDoorW.PrintLast Go.Proofs.YtdkjinmkallhnaaGreatDoorW.PrintMore
open Go.Proofs.YtdkjinmkallhnaaGreatDoor (GL)
attribute [local go_sem] max2_int min2_int max_two min_two max_three min_three max_four min_four
def pq3.l0 : Nat → List (S110) → Int → Int → Int → Int → Option ((List (S110)))
 | 0, _, _, _, _, _ => none
 | k + 1, x0, x1, x2, x3, x10 => if x10 < x3 then (if 0 ≤ (wrap64 (x2 + x10)) then (if (wrap64 (x2 + x10)) < (x0.length : Int) then (if 0 ≤ (wrap64 (x1 + x10)) then (if (wrap64 (x1 + x10)) < (x0.length : Int) then (pq3.l0 k ((x0.set ((wrap64 (x1 + x10)) : Int).toNat (⟨(rd_T110 x0 (wrap64 (x2 + x10))).f0, (rd_T110 x0 (wrap64 (x2 + x10))).f1⟩ : S110)).set ((wrap64 (x2 + x10)) : Int).toNat (⟨(rd_T110 x0 (wrap64 (x1 + x10))).f0, (rd_T110 x0 (wrap64 (x1 + x10))).f1⟩ : S110)) x1 x2 x3 (wrap64 (x10 + 1))) else (none)) else (none)) else (none)) else (none)) else (some x0)
def pq3.f (k : Nat) (l0 : List (S110)) (a1 : Int) (a2 : Int) (a3 : Int) (a4 : Unit) : Option ((List (S110))) := pq3.l0 k l0 a1 a2 a3 0
def pq3.T3 : Bool × List (List Nat × List Nat) := (true, [([], []), ([], []), ([], []), ([1, 2], [1, 2]), ([], []), ([], []), ([], []), ([5, 6], [5, 6]), ([], []), ([], []), ([], []), ([9, 10], [9, 10]), ([8, 11], [8, 11]), ([12], [12]), ([], []), ([], []), ([], []), ([15, 16], [15, 16]), ([14, 17], [14, 17]), ([18], [18]), ([0, 3, 0, 1, 2, 3, 8, 9, 10, 11, 12, 13, 19], [0, 3]), ([20, 13, 0, 1, 2, 3, 8, 9, 10, 11, 12, 13, 19], [13, 20]), ([4, 7, 0, 1, 2, 3, 4, 5, 6, 7, 8, 9, 10, 11, 12, 13, 14, 15, 16, 17, 18, 19, 20, 21], [4, 7]), ([22, 19, 21, 0, 1, 2, 3, 4, 5, 6, 7, 8, 9, 10, 11, 12, 13, 14, 15, 16, 17, 18, 19, 20, 21], [19, 22])])
def pq3.B3 : List Nat := [0, 0, 0, 6, 0, 0, 0, 96, 0, 0, 0, 1536, 3840, 7936, 0, 0, 0, 98304, 245760, 507904, 1048335, 2096911, 4194303, 8388607]
theorem pq3.tab3 : rtab .any (opsOf Tryz.f196 3) = pq3.T3 := by kernel_rfl
theorem pq3.bits3 : waitsOk pq3.T3.2 pq3.B3 = true := by kernel_rfl
set_option maxHeartbeats 8000000 in
set_option maxRecDepth 100000 in
theorem pq3.calls (k : Nat) (P0_ : Nat → Prop) (u9000_ : Value) (l0 : List (S110)) (a1 : Int) (a2 : Int) (a3 : Int) (a4 : Unit) (r : List (S110)) (w0 w : World) (hB : Below w0.heap.size w0 w) (ho0 : Kd.R k110 110 w w0.heap.size P0_ u9000_ l0) (h : pq3.f k l0 a1 a2 a3 a4 = some r) :
  Calls Tryz.prog 196 #[u9000_, .int .i64 a1, .int .i64 a2, .int .i64 a3, .func (.func 144) #[] #[]] w fun e w' => e = .returned (.tuple #[]) ∧ Kd.R k110 110 w' w0.heap.size (fun k_ => (P0_ k_ ∨ w.heap.size ≤ k_)) u9000_ r ∧ Below w0.heap.size w0 w' ∧ Kept w w' (fun k_ => P0_ k_) := by
 have hu110 := Tryz.underlying110
 have HO0 := Aside0.mk (show Kd.R k110 110 w w0.heap.size (fun k_ => (P0_ k_ ∨ w.heap.size ≤ k_)) u9000_ l0 from Kd.R_mono ho0 (fun k_ hk => (.inl hk)))
 have HK := Aside0.mk (Kept.refl w (fun k_ => P0_ k_))
 have HW0 := Aside0.mk hB.size
 have HB := Aside0.mk hB
 clear hB
 have H : (pq3.l0 k l0 a1 a2 a3 0) = some r := h
 clear h
 have H' := Aside0.mk H
 clear H
 go_enter Tryz.func196, Tryz.ntmps196
 go_wp2
 go_loopg [10] k (fun kq v10 w' => ∃ (x0_1 : List (S110)) (x10_1 : Int), v10 = .int .i64 x10_1 ∧ Aside0 (pq3.l0 kq x0_1 a1 a2 a3 x10_1 = some r) ∧ Aside0 (kq ≤ k) ∧ Aside0 (Kd.R k110 110 w' w0.heap.size (fun k_ => (P0_ k_ ∨ w.heap.size ≤ k_)) u9000_ x0_1) ∧ Aside0 (Kept w w' (fun k_ => P0_ k_)) ∧ Aside0 (Below w0.heap.size w0 w'))
 case atStart => exact ⟨(l0), (0), (by first | rfl | (simp; done) | (simp [*]; done)), H', ⟨Nat.le_refl _⟩, ⟨by (with_reducible repeat (first | apply Kd.R_alloc | apply Kd.R_drewN | apply Kd.R_drew)); exact HO0.out⟩, ⟨by repeat (first | (with_reducible first | exact HK.out | apply Kept.alloc | apply Kept.drewN | apply Kept.drew) | exact HK.out)⟩, ⟨by repeat (first | (with_reducible first | exact HB.out | apply below_alloc | apply pw_below_drewN | apply below_drew1) | exact HB.out)⟩⟩
 case round =>
  clear H'
  try clear c1
  try clear p2
  obtain ⟨x0_1, x10_1, rfl, HA, HK1, HO_0, HK, HB⟩ := hrel
  cases gk with
  | zero => exact absurd HA.out (by simp [pq3.l0])
  | succ k1 =>
   have H := HA.out
   clear HA
   simp only [pq3.l0] at H
   by_cases c6 : x10_1 < a3
   ·rw [if_pos c6] at H
    have c6b0 : decide (x10_1 < a3) = true := decide_eq_true c6
    clear c6
    obtain ⟨ji7, hji7⟩ : ∃ j_ : Int, (wrap64 (a2 + x10_1)) = j_ := ⟨_, rfl⟩
    replace H : (if 0 ≤ (ji7) then (if (ji7) < (x0_1.length : Int) then (if 0 ≤ (wrap64 (a1 + x10_1)) then (if (wrap64 (a1 + x10_1)) < (x0_1.length : Int) then (pq3.l0 k1 ((x0_1.set ((wrap64 (a1 + x10_1)) : Int).toNat (⟨(rd_T110 x0_1 (ji7)).f0, (rd_T110 x0_1 (ji7)).f1⟩ : S110)).set ((ji7) : Int).toNat (⟨(rd_T110 x0_1 (wrap64 (a1 + x10_1))).f0, (rd_T110 x0_1 (wrap64 (a1 + x10_1))).f1⟩ : S110)) a1 a2 a3 (wrap64 (x10_1 + 1))) else (none)) else (none)) else (none)) else (none)) = some r := by first | (rw [hji7] at H; exact H) | (simp only [hji7] at H ⊢; exact H)
    have hji7w : (IntKind.i64.wrap (a2 + x10_1)) = ji7 := (i64_w _).trans hji7
    by_cases c8 : 0 ≤ (ji7)
    ·rw [if_pos c8] at H
     have c8b0 : decide (0 ≤ (ji7)) = true := decide_eq_true c8
     clear c8
     by_cases c9 : (ji7) < (x0_1.length : Int)
     ·rw [if_pos c9] at H
      have c9b0 : decide ((ji7) < (x0_1.length : Int)) = true := decide_eq_true c9
      clear c9
      obtain ⟨ji10, hji10⟩ : ∃ j_ : Int, (wrap64 (a1 + x10_1)) = j_ := ⟨_, rfl⟩
      replace H : (if 0 ≤ (ji10) then (if (ji10) < (x0_1.length : Int) then (pq3.l0 k1 ((x0_1.set ((ji10) : Int).toNat (⟨(rd_T110 x0_1 (ji7)).f0, (rd_T110 x0_1 (ji7)).f1⟩ : S110)).set ((ji7) : Int).toNat (⟨(rd_T110 x0_1 (ji10)).f0, (rd_T110 x0_1 (ji10)).f1⟩ : S110)) a1 a2 a3 (wrap64 (x10_1 + 1))) else (none)) else (none)) = some r := by first | (rw [hji10] at H; exact H) | (simp only [hji10] at H ⊢; exact H)
      have hji10w : (IntKind.i64.wrap (a1 + x10_1)) = ji10 := (i64_w _).trans hji10
      by_cases c11 : 0 ≤ (ji10)
      ·rw [if_pos c11] at H
       have c11b0 : decide (0 ≤ (ji10)) = true := decide_eq_true c11
       clear c11
       by_cases c12 : (ji10) < (x0_1.length : Int)
       ·rw [if_pos c12] at H
        have c12b0 : decide ((ji10) < (x0_1.length : Int)) = true := decide_eq_true c12
        clear c12
        obtain ⟨y221, hy221⟩ : ∃ y_ : List (S110), y_ = (x0_1.set ((ji10) : Int).toNat (⟨(rd_T110 x0_1 (ji7)).f0, (rd_T110 x0_1 (ji7)).f1⟩ : S110)) := ⟨_, rfl⟩
        replace H : (pq3.l0 k1 (y221.set ((ji7) : Int).toNat (⟨(rd_T110 x0_1 (ji10)).f0, (rd_T110 x0_1 (ji10)).f1⟩ : S110)) a1 a2 a3 (wrap64 (x10_1 + 1))) = some r := by first | (rw [hy221]; with_reducible exact H) | (have H2_ := (Option.bind_some _ _).symm.trans H; rw [hy221]; with_reducible exact H2_) | (have H2_ := (Option.bind_some _ _).symm.trans H; with_reducible exact H2_) | with_reducible exact H | (rw [hy221]; exact H) | exact H
        have Ny221 := Aside0.mk hy221
        clear hy221
        obtain ⟨y222, hy222⟩ : ∃ y_ : List (S110), y_ = (y221.set ((ji7) : Int).toNat (⟨(rd_T110 x0_1 (ji10)).f0, (rd_T110 x0_1 (ji10)).f1⟩ : S110)) := ⟨_, rfl⟩
        replace H : (pq3.l0 k1 y222 a1 a2 a3 (wrap64 (x10_1 + 1))) = some r := by first | (rw [hy222]; with_reducible exact H) | (have H2_ := (Option.bind_some _ _).symm.trans H; rw [hy222]; with_reducible exact H2_) | (have H2_ := (Option.bind_some _ _).symm.trans H; with_reducible exact H2_) | with_reducible exact H | (rw [hy222]; exact H) | exact H
        have Ny222 := Aside0.mk hy222
        clear hy222
        have H' := Aside0.mk H
        clear H
        try go_wp2
        have n0_ := Aside0.mk (Kd.R_drew HO_0.out)
        have n1_ := Aside0.mk (Kept.drew HK.out)
        have n2_ := Aside0.mk (below_drew1 HB.out)
        clear HO_0
        clear HK
        clear HB
        have HO_0 := n0_
        have HK := n1_
        have HB := n2_
        clear n0_ n1_ n2_
        obtain ⟨Ao16, co16, eo16⟩ := Kd.R_slice HO_0.out
        (first | subst eo16 | (injection eo16 with f1_ f2_ f3_; have f4_ := f1_.symm; have f5_ := f3_.symm; clear f1_ f2_ f3_; subst f4_; subst f5_))
        have p219 : 0 ≤ ((ji7) : Int) := of_decide_eq_true (by first | (with_reducible assumption) | assumption)
        have q219 : (ji7) < (x0_1.length : Int) := of_decide_eq_true (by first | (with_reducible assumption) | assumption)
        obtain ⟨ad219, e219, hx219_0, hx219_1⟩ := at_T110 (Kd.R_reads' HO_0.out).2.2 (ji7) p219 q219
        cases e219
        replace p219 := eq_true p219
        replace q219 := eq_true q219
        have p220 : 0 ≤ ((ji10) : Int) := of_decide_eq_true (by first | (with_reducible assumption) | assumption)
        have q220 : (ji10) < (x0_1.length : Int) := of_decide_eq_true (by first | (with_reducible assumption) | assumption)
        obtain ⟨ad220, e220, hx220_0, hx220_1⟩ := at_T110 (Kd.R_reads' HO_0.out).2.2 (ji10) p220 q220
        obtain rfl : ad219 = ad220 := (by injection e220)
        replace p220 := eq_true p220
        replace q220 := eq_true q220
        have p13 : 0 ≤ ((ji10) : Int) := of_decide_eq_true (by first | (with_reducible assumption) | assumption)
        have q13 : ((ji10) : Int) < ((x0_1.length : Int) : Int) := of_decide_eq_true (by first | (with_reducible assumption) | assumption)
        obtain ⟨go13, co13, eo13, gb13, gl13, cl13, HG13⟩ := Kd.R_form HO_0.out (by omega)
        (first | cases eo13 | (injection eo13 with ea_ en_ ec_; (first | subst ea_ | (injection ea_ with ea_; subst ea_)); subst ec_; clear en_))
        have GB13 := Aside0.mk gb13
        have GG13 := Aside0.mk HG13
        clear gb13 gl13 HG13
        have HMgo13 := Aside0.mk (show (P0_ go13 ∨ w.heap.size ≤ go13) from (HO_0.out.1 _ rfl))
        (first | simp only [add_plain] at hx219_0 | skip)
        (first | simp only [add_plain] at hx219_1 | skip)
        (first | simp only [add_plain] at hx220_0 | skip)
        (first | simp only [add_plain] at hx220_1 | skip)
        obtain ⟨ce13, hcl13, hM13, hcc13, hfr13⟩ := Kd.R_elem HO_0.out z110 ((ji10) : Int) p13 q13
        obtain rfl := k110_openM hM13
        have hx13_0 : World.cell? _ ⟨go13, ((ji10) : Int).toNat * 2, none⟩ = some (.string ((rd_T110 x0_1 (ji10)).f0)) := hcc13 0 _ rfl
        have hx13_1 : World.cell? _ ⟨go13, ((ji10) : Int).toNat * 2 + 1, none⟩ = some (.string ((rd_T110 x0_1 (ji10)).f1)) := hcc13 1 _ rfl
        have hf13_0 : World.frozen? _ ⟨go13, ((ji10) : Int).toNat * 2, none⟩ = false := hfr13 0
        have hf13_1 : World.frozen? _ ⟨go13, ((ji10) : Int).toNat * 2 + 1, none⟩ = false := hfr13 1
        clear hcl13 hcc13 hfr13 hM13
        replace p13 := eq_true p13
        replace q13 := eq_true q13
        obtain ⟨ce17, hcl17, hM17, hcc17, hfr17⟩ := Kd.R_elem HO_0.out z110 ((ji10) : Int) (of_decide_eq_true (by first | (with_reducible assumption) | assumption)) (by have h_ : ((ji10) : Int) < ((x0_1.length : Int) : Int) := of_decide_eq_true (by first | (with_reducible assumption) | assumption); first | exact h_ | (have e_ := (Kd.R_reads' HO_0.out).1; omega) | simpa using h_)
        obtain rfl := k110_openM hM17
        have HP17 := (Kd.R_seg HO_0.out ((ji10) : Int) (of_decide_eq_true (by first | (with_reducible assumption) | assumption)) (by have h_ : ((ji10) : Int) < ((x0_1.length : Int) : Int) := of_decide_eq_true (by first | (with_reducible assumption) | assumption); first | exact h_ | (have e_ := (Kd.R_reads' HO_0.out).1; omega) | simpa using h_) (seg := [.string ((rd_T110 x0_1 (ji7)).f0), .string ((rd_T110 x0_1 (ji7)).f1)]) (j := 0) hcl17 hcc17 (show 2 ≤ 2 from by decide) (x' := (⟨(rd_T110 x0_1 (ji7)).f0, (rd_T110 x0_1 (ji7)).f1⟩ : S110)) (k110_mkM _ _ _ (⟨(rd_T110 x0_1 (ji7)).f0, (rd_T110 x0_1 (ji7)).f1⟩ : S110) ) (fun _ hk => hk)).1
        rw [← Ny221.out] at HP17
        have HQ17 := Aside0.mk HP17
        clear hcl17 hcc17 hfr17 hM17 HP17
        have p14 : 0 ≤ ((ji7) : Int) := of_decide_eq_true (by first | (with_reducible assumption) | assumption)
        have q14 : ((ji7) : Int) < ((x0_1.length : Int) : Int) := of_decide_eq_true (by first | (with_reducible assumption) | assumption)
        obtain ⟨ce14, hcl14, hM14, hcc14, hfr14⟩ := Kd.R_elem HQ17.out z110 ((ji7) : Int) p14 q14
        obtain rfl := k110_openM hM14
        have hx14_0 : World.cell? _ ⟨go13, ((ji7) : Int).toNat * 2, none⟩ = some (.string ((rd_T110 y221 (ji7)).f0)) := hcc14 0 _ rfl
        have hx14_1 : World.cell? _ ⟨go13, ((ji7) : Int).toNat * 2 + 1, none⟩ = some (.string ((rd_T110 y221 (ji7)).f1)) := hcc14 1 _ rfl
        have hf14_0 : World.frozen? _ ⟨go13, ((ji7) : Int).toNat * 2, none⟩ = false := hfr14 0
        have hf14_1 : World.frozen? _ ⟨go13, ((ji7) : Int).toNat * 2 + 1, none⟩ = false := hfr14 1
        clear hcl14 hcc14 hfr14 hM14
        replace p14 := eq_true p14
        replace q14 := eq_true q14
        obtain ⟨ce18, hcl18, hM18, hcc18, hfr18⟩ := Kd.R_elem HQ17.out z110 ((ji7) : Int) (of_decide_eq_true (by first | (with_reducible assumption) | assumption)) (by have h_ : ((ji7) : Int) < ((x0_1.length : Int) : Int) := of_decide_eq_true (by first | (with_reducible assumption) | assumption); first | exact h_ | (have e_ := (Kd.R_reads' HO_0.out).1; omega) | simpa using h_)
        obtain rfl := k110_openM hM18
        have HP18 := (Kd.R_seg HQ17.out ((ji7) : Int) (of_decide_eq_true (by first | (with_reducible assumption) | assumption)) (by have h_ : ((ji7) : Int) < ((x0_1.length : Int) : Int) := of_decide_eq_true (by first | (with_reducible assumption) | assumption); first | exact h_ | (have e_ := (Kd.R_reads' HO_0.out).1; omega) | simpa using h_) (seg := [.string ((rd_T110 x0_1 (ji10)).f0), .string ((rd_T110 x0_1 (ji10)).f1)]) (j := 0) hcl18 hcc18 (show 2 ≤ 2 from by decide) (x' := (⟨(rd_T110 x0_1 (ji10)).f0, (rd_T110 x0_1 (ji10)).f1⟩ : S110)) (k110_mkM _ _ _ (⟨(rd_T110 x0_1 (ji10)).f0, (rd_T110 x0_1 (ji10)).f1⟩ : S110) ) (fun _ hk => hk)).1
        rw [← Ny222.out] at HP18
        have HQ18 := Aside0.mk HP18
        clear hcl18 hcc18 hfr18 hM18 HP18
        refine start_ (n := 24) (S := fun w' => w'.cell? ⟨go13, (((ji7)).toNat * 2), none⟩ = some (.string ((rd_T110 x0_1 (ji7)).f0)) ∧ w'.cell? ⟨go13, (((ji7)).toNat * 2) + 1, none⟩ = some (.string ((rd_T110 x0_1 (ji7)).f1)) ∧ w'.cell? ⟨go13, (((ji10)).toNat * 2), none⟩ = some (.string ((rd_T110 x0_1 (ji10)).f0)) ∧ w'.cell? ⟨go13, (((ji10)).toNat * 2) + 1, none⟩ = some (.string ((rd_T110 x0_1 (ji10)).f1))) (ds := [21, 23]) #[false, false, false, false, false, false, false, false, false, false, false, false, false, false, false, false, false, false, false, false, false, false, false, false] (by kernel_rfl) rfl rfl ⟨hx219_0, hx219_1, hx220_0, hx220_1⟩ (fun hHeld => ?_); refine with_tabW pq3.tab3 pq3.bits3 (fun HT_ HW_ => ?_)
        generalize wr.drew = w15 at HO_0 HK HB GG13 HQ17 HQ18 hf13_0 hf13_1 hf14_0 hf14_1 hx13_0 hx13_1 hx14_0 hx14_1 hx219_0 hx219_1 hx220_0 hx220_1 hHeld ⊢
        refine pure_ (i := 0) (N := some 16) (v := ?_) (a' := ?_) #[true, false, false, false, false, false, false, false, false, false, false, false, false, false, false, false, false, false, false, false, false, false, false, false] rfl rfl (any_of HT_.out (by kernel_rfl)) (fun _ _ _ h => h) (Or.inl ⟨by rfl, ?_⟩) ?_ ?_
        rotate_left
        ·intro w'
         go_simp
         with_reducible rfl
        rotate_left
        ·simp only [Act.put, List.setIfInBounds_toArray, List.set_cons_zero, List.set_cons_succ, i64_w, i32_w]
         rfl
        refine pure_ (i := 1) (N := some 17) (v := ?_) (a' := ?_) #[true, true, false, false, false, false, false, false, false, false, false, false, false, false, false, false, false, false, false, false, false, false, false, false] rfl rfl (any_of HT_.out (by kernel_rfl)) (fun _ _ _ h => h) (Or.inl ⟨by rfl, ?_⟩) ?_ ?_
        rotate_left
        ·intro w'
         go_simp
         with_reducible rfl
        rotate_left
        ·simp only [Act.put, List.setIfInBounds_toArray, List.set_cons_zero, List.set_cons_succ, i64_w, i32_w]
         rfl
        refine pure_ (i := 2) (N := some 18) (v := ?_) (a' := ?_) #[true, true, true, false, false, false, false, false, false, false, false, false, false, false, false, false, false, false, false, false, false, false, false, false] rfl rfl (any_of HT_.out (by kernel_rfl)) (fun _ _ _ h => h) (Or.inl ⟨by rfl, ?_⟩) ?_ ?_
        rotate_left
        ·intro w'
         go_simp
         with_reducible rfl
        rotate_left
        ·simp only [Act.put, List.setIfInBounds_toArray, List.set_cons_zero, List.set_cons_succ, i64_w, i32_w]
         rfl
        refine pure_ (i := 3) (N := some 19) (v := ?_) (a' := ?_) #[true, true, true, true, false, false, false, false, false, false, false, false, false, false, false, false, false, false, false, false, false, false, false, false] rfl rfl (any_of HT_.out (by kernel_rfl)) (fun _ _ _ h => h) (Or.inl ⟨by rfl, ?_⟩) ?_ ?_
        rotate_left
        ·intro w'
         go_simp
         with_reducible rfl
        rotate_left
        ·simp only [Act.put, List.setIfInBounds_toArray, List.set_cons_zero, List.set_cons_succ, i64_w, i32_w]
         rfl
        refine pure_ (i := 4) (N := some 20) (v := ?_) (a' := ?_) #[true, true, true, true, true, false, false, false, false, false, false, false, false, false, false, false, false, false, false, false, false, false, false, false] rfl rfl (any_of HT_.out (by kernel_rfl)) (fun _ _ _ h => h) (Or.inl ⟨by rfl, ?_⟩) ?_ ?_
        rotate_left
        ·intro w'
         go_simp
         with_reducible rfl
        rotate_left
        ·simp only [Act.put, List.setIfInBounds_toArray, List.set_cons_zero, List.set_cons_succ, i64_w, i32_w]
         rfl
        refine pure_ (i := 5) (N := some 21) (v := ?_) (a' := ?_) #[true, true, true, true, true, true, false, false, false, false, false, false, false, false, false, false, false, false, false, false, false, false, false, false] rfl rfl (any_of HT_.out (by kernel_rfl)) (fun _ _ _ h => h) (Or.inl ⟨by rfl, ?_⟩) ?_ ?_
        rotate_left
        ·intro w'
         go_simp
         with_reducible rfl
        rotate_left
        ·simp only [Act.put, List.setIfInBounds_toArray, List.set_cons_zero, List.set_cons_succ, i64_w, i32_w]
         rfl
        refine pure_ (i := 6) (N := some 22) (v := ?_) (a' := ?_) #[true, true, true, true, true, true, true, false, false, false, false, false, false, false, false, false, false, false, false, false, false, false, false, false] rfl rfl (any_of HT_.out (by kernel_rfl)) (fun _ _ _ h => h) (Or.inl ⟨by rfl, ?_⟩) ?_ ?_
        rotate_left
        ·intro w'
         go_simp
         with_reducible rfl
        rotate_left
        ·simp only [Act.put, List.setIfInBounds_toArray, List.set_cons_zero, List.set_cons_succ, i64_w, i32_w]
         rfl
        refine pure_ (i := 7) (N := some 23) (v := ?_) (a' := ?_) #[true, true, true, true, true, true, true, true, false, false, false, false, false, false, false, false, false, false, false, false, false, false, false, false] rfl rfl (any_of HT_.out (by kernel_rfl)) (fun _ _ _ h => h) (Or.inl ⟨by rfl, ?_⟩) ?_ ?_
        rotate_left
        ·intro w'
         go_simp
         with_reducible rfl
        rotate_left
        ·simp only [Act.put, List.setIfInBounds_toArray, List.set_cons_zero, List.set_cons_succ, i64_w, i32_w]
         rfl
        refine pure_ (i := 8) (N := some 24) (v := ?_) (a' := ?_) #[true, true, true, true, true, true, true, true, true, false, false, false, false, false, false, false, false, false, false, false, false, false, false, false] rfl rfl (any_of HT_.out (by kernel_rfl)) (fun _ _ _ h => h) (Or.inl ⟨by rfl, ?_⟩) ?_ ?_
        rotate_left
        ·intro w'
         go_simp
         with_reducible rfl
        rotate_left
        ·simp only [Act.put, List.setIfInBounds_toArray, List.set_cons_zero, List.set_cons_succ, i64_w, i32_w]
         rfl
        refine pure_ (i := 9) (N := some 25) (v := ?_) (a' := ?_) #[true, true, true, true, true, true, true, true, true, true, false, false, false, false, false, false, false, false, false, false, false, false, false, false] rfl rfl (any_of HT_.out (by kernel_rfl)) (fun _ _ _ h => h) (Or.inl ⟨by rfl, ?_⟩) ?_ ?_
        rotate_left
        ·intro w'
         go_simp
         with_reducible rfl
        rotate_left
        ·simp only [Act.put, List.setIfInBounds_toArray, List.set_cons_zero, List.set_cons_succ, i64_w, i32_w]
         rfl
        refine pure_ (i := 10) (N := some 26) (v := ?_) (a' := ?_) #[true, true, true, true, true, true, true, true, true, true, true, false, false, false, false, false, false, false, false, false, false, false, false, false] rfl rfl (any_of HT_.out (by kernel_rfl)) (fun _ _ _ h => h) (Or.inl ⟨by rfl, ?_⟩) ?_ ?_
        rotate_left
        ·intro w'
         go_simp
         with_reducible rfl
        rotate_left
        ·simp only [Act.put, List.setIfInBounds_toArray, List.set_cons_zero, List.set_cons_succ, i64_w, i32_w]
         rfl
        refine pure_ (i := 11) (N := some 27) (v := ?_) (a' := ?_) #[true, true, true, true, true, true, true, true, true, true, true, true, false, false, false, false, false, false, false, false, false, false, false, false] rfl rfl (any_of HT_.out (by kernel_rfl)) (fun _ _ _ h => h) (Or.inl ⟨by rfl, ?_⟩) ?_ ?_
        rotate_left
        ·intro w'
         go_simp
         with_reducible rfl
        rotate_left
        ·simp only [Act.put, List.setIfInBounds_toArray, List.set_cons_zero, List.set_cons_succ, i64_w, i32_w]
         rfl
        refine pure_ (i := 12) (N := some 28) (v := ?_) (a' := ?_) #[true, true, true, true, true, true, true, true, true, true, true, true, true, false, false, false, false, false, false, false, false, false, false, false] rfl rfl (any_of HT_.out (by kernel_rfl)) (fun _ _ _ h => h) (Or.inl ⟨by rfl, ?_⟩) ?_ ?_
        rotate_left
        ·intro w'
         go_simp
         with_reducible rfl
        rotate_left
        ·simp only [Act.put, List.setIfInBounds_toArray, List.set_cons_zero, List.set_cons_succ, i64_w, i32_w]
         rfl
        refine pure_ (i := 14) (N := some 30) (v := ?_) (a' := ?_) #[true, true, true, true, true, true, true, true, true, true, true, true, true, false, true, false, false, false, false, false, false, false, false, false] rfl rfl (any_of HT_.out (by kernel_rfl)) (fun _ _ _ h => h) (Or.inl ⟨by rfl, ?_⟩) ?_ ?_
        rotate_left
        ·intro w'
         go_simp
         with_reducible rfl
        rotate_left
        ·simp only [Act.put, List.setIfInBounds_toArray, List.set_cons_zero, List.set_cons_succ, i64_w, i32_w]
         rfl
        refine pure_ (i := 15) (N := some 31) (v := ?_) (a' := ?_) #[true, true, true, true, true, true, true, true, true, true, true, true, true, false, true, true, false, false, false, false, false, false, false, false] rfl rfl (any_of HT_.out (by kernel_rfl)) (fun _ _ _ h => h) (Or.inl ⟨by rfl, ?_⟩) ?_ ?_
        rotate_left
        ·intro w'
         go_simp
         with_reducible rfl
        rotate_left
        ·simp only [Act.put, List.setIfInBounds_toArray, List.set_cons_zero, List.set_cons_succ, i64_w, i32_w]
         rfl
        refine pure_ (i := 16) (N := some 32) (v := ?_) (a' := ?_) #[true, true, true, true, true, true, true, true, true, true, true, true, true, false, true, true, true, false, false, false, false, false, false, false] rfl rfl (any_of HT_.out (by kernel_rfl)) (fun _ _ _ h => h) (Or.inl ⟨by rfl, ?_⟩) ?_ ?_
        rotate_left
        ·intro w'
         go_simp
         with_reducible rfl
        rotate_left
        ·simp only [Act.put, List.setIfInBounds_toArray, List.set_cons_zero, List.set_cons_succ, i64_w, i32_w]
         rfl
        refine pure_ (i := 17) (N := some 33) (v := ?_) (a' := ?_) #[true, true, true, true, true, true, true, true, true, true, true, true, true, false, true, true, true, true, false, false, false, false, false, false] rfl rfl (any_of HT_.out (by kernel_rfl)) (fun _ _ _ h => h) (Or.inl ⟨by rfl, ?_⟩) ?_ ?_
        rotate_left
        ·intro w'
         go_simp
         with_reducible rfl
        rotate_left
        ·simp only [Act.put, List.setIfInBounds_toArray, List.set_cons_zero, List.set_cons_succ, i64_w, i32_w]
         rfl
        refine pure_ (i := 18) (N := some 34) (v := ?_) (a' := ?_) #[true, true, true, true, true, true, true, true, true, true, true, true, true, false, true, true, true, true, true, false, false, false, false, false] rfl rfl (any_of HT_.out (by kernel_rfl)) (fun _ _ _ h => h) (Or.inl ⟨by rfl, ?_⟩) ?_ ?_
        rotate_left
        ·intro w'
         go_simp
         with_reducible rfl
        rotate_left
        ·simp only [Act.put, List.setIfInBounds_toArray, List.set_cons_zero, List.set_cons_succ, i64_w, i32_w]
         rfl
        refine take_ (i := 13) (N := some 29) (v := ?_) (a' := ?_) #[true, true, true, true, true, true, true, true, true, true, true, true, true, true, true, true, true, true, true, false, false, false, false, false] rfl rfl (take_ofW HT_.out HW_.out (by kernel_rfl)) (fun _ _ _ h => h) (Or.inl ⟨by rfl, ?_⟩) hHeld ?_ ?_
        rotate_left
        ·rintro w' ⟨s0, s1, s2, s3⟩
         go_simp
         with_reducible rfl
        rotate_left
        ·simp only [Act.put, List.setIfInBounds_toArray, List.set_cons_zero, List.set_cons_succ, i64_w, i32_w]
         rfl
        refine take_ (i := 19) (N := some 35) (v := ?_) (a' := ?_) #[true, true, true, true, true, true, true, true, true, true, true, true, true, true, true, true, true, true, true, true, false, false, false, false] rfl rfl (take_ofW HT_.out HW_.out (by kernel_rfl)) (fun _ _ _ h => h) (Or.inl ⟨by rfl, ?_⟩) hHeld ?_ ?_
        rotate_left
        ·rintro w' ⟨s0, s1, s2, s3⟩
         go_simp
         with_reducible rfl
        rotate_left
        ·simp only [Act.put, List.setIfInBounds_toArray, List.set_cons_zero, List.set_cons_succ, i64_w, i32_w]
         rfl
        refine pure_ (i := 20) (N := some 36) (v := ?_) (a' := ?_) #[true, true, true, true, true, true, true, true, true, true, true, true, true, true, true, true, true, true, true, true, true, false, false, false] rfl rfl (any_of HT_.out (by kernel_rfl)) (fun _ _ _ h => h) (Or.inl ⟨by rfl, ?_⟩) ?_ ?_
        rotate_left
        ·intro w'
         go_simp
         with_reducible rfl
        rotate_left
        ·simp only [Act.put, List.setIfInBounds_toArray, List.set_cons_zero, List.set_cons_succ, i64_w, i32_w]
         rfl
        refine last_ (i := 21) (N := none) #[true, true, true, true, true, true, true, true, true, true, true, true, true, true, true, true, true, true, true, true, true, true, false, false] rfl rfl (one_of HT_.out (by kernel_rfl)) (by decide) (fun K hK => ?_)
        refine skip_ (w1 := ?_) (by rfl) rfl ?_ ?_
        rotate_left
        ·go_simp
         rfl
        refine hK.out _ _ ?_
        clear hK K
        refine pure_ (i := 22) (N := some 37) (v := ?_) (a' := ?_) #[true, true, true, true, true, true, true, true, true, true, true, true, true, true, true, true, true, true, true, true, true, true, true, false] rfl rfl (any_of HT_.out (by kernel_rfl)) (fun _ _ _ h => h) (Or.inl ⟨by rfl, ?_⟩) ?_ ?_
        rotate_left
        ·intro w'
         go_simp
         with_reducible rfl
        rotate_left
        ·simp only [Act.put, List.setIfInBounds_toArray, List.set_cons_zero, List.set_cons_succ, i64_w, i32_w]
         rfl
        obtain ⟨vy13_0_0, hy13_0_0⟩ := cell?_setCell_some (p := ⟨go13, (((ji10)).toNat * 2), none⟩) (x := (.string ((rd_T110 x0_1 (ji7)).f0))) hx219_0
        have hz13_0 := blk_frozen GG13.out ((((ji7)).toNat * 2))
        obtain ⟨vy13_1_0, hy13_1_0⟩ := cell?_setCell_some (p := ⟨go13, (((ji10)).toNat * 2), none⟩) (x := (.string ((rd_T110 x0_1 (ji7)).f0))) hx219_1
        obtain ⟨vy13_1_1, hy13_1_1⟩ := cell?_setCell_some (p := ⟨go13, (((ji10)).toNat * 2) + 1, none⟩) (x := (.string ((rd_T110 x0_1 (ji7)).f1))) hy13_1_0
        clear hy13_1_0
        have hz13_1 := blk_frozen GG13.out ((((ji7)).toNat * 2) + 1)
        refine last_ (i := 23) (N := none) #[true, true, true, true, true, true, true, true, true, true, true, true, true, true, true, true, true, true, true, true, true, true, true, true] rfl rfl (one_of HT_.out (by kernel_rfl)) (by decide) (fun K hK => ?_)
        refine skip_ (w1 := ?_) (by rfl) rfl ?_ ?_
        rotate_left
        ·go_simp
         rfl
        refine hK.out _ _ ?_
        clear hK K
        refine done_ (done_of HT_.out (by kernel_rfl)) ?_
        try go_wp2
        go_roundg k1
        case measure => have := HK1.out; omega
        case rel => exact ⟨(y222), (wrap64 (x10_1 + 1)), (by first | rfl | (simp; done) | (simp [*]; done)), H', ⟨by have := HK1.out; omega⟩, ⟨by (with_reducible repeat (first | apply Kd.R_alloc | apply Kd.R_drewN | apply Kd.R_drew)); exact HQ18.out⟩, ⟨by repeat (first | (with_reducible first | exact HK.out | apply Kept.alloc | apply Kept.drewN | apply Kept.drew | refine Kept.setCell ?_ HMgo13.out _ | refine Kept.setCell ?_ HMgo13.out _ | refine Kept.setCell ?_ HMgo13.out _ | refine Kept.setCell ?_ HMgo13.out _) | exact HK.out)⟩, ⟨by repeat (first | (with_reducible first | exact HB.out | apply below_alloc | apply pw_below_drewN | apply below_drew1 | refine below_set ?_ GB13.out | refine below_set ?_ GB13.out | refine below_set ?_ GB13.out | refine below_set ?_ GB13.out) | exact HB.out)⟩⟩
       ·rw [if_neg c12] at H
        exact absurd H (by simp)
      ·rw [if_neg c11] at H
       exact absurd H (by simp)
     ·rw [if_neg c9] at H
      exact absurd H (by simp)
    ·rw [if_neg c8] at H
     exact absurd H (by simp)
   ·rw [if_neg c6] at H
    have c6b0 : decide (x10_1 < a3) = false := decide_eq_false c6
    clear c6
    obtain rfl := Option.some.inj H
    go_wp2
    first | go_end0 | ((try simp only [Exit.inBlock, Exit.then]); refine bodyPost_ret (results_none rfl _ _ _) rfl ?_)
    exact ⟨by first | rfl | (simp [errW_none, errW_some] <;> rfl) | (simp [*, errW_none, errW_some] <;> rfl), by (with_reducible repeat (first | apply Kd.R_alloc | apply Kd.R_drewN | apply Kd.R_drew)); exact HO_0.out, by repeat (first | (with_reducible first | exact HB.out | apply below_alloc | apply pw_below_drewN | apply below_drew1) | exact HB.out), by repeat (first | (with_reducible first | exact HK.out | apply Kept.alloc | apply Kept.drewN | apply Kept.drew) | exact HK.out)⟩
end Go.Proofs.YtdkjinmkallhnaaGreatDoorQ
end
