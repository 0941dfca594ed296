/- What a row of law 07 gives a walk, and what a walk gives a row: the laid variables, texts and rows opened, the argument read again. -/
import Derived.Test.YthlgjipbpgaobaaDoorCards
import Derived.Test.YthlgjipbpgaobaaDoorTie
import Derived.Test.YthlgjipbpgaobaaDoorBase
import Derived.Test.YthlgjipbpgaobaaDoorPaxM
import Derived.ProofKit
import Derived.OpenShut
import Derived.Below
import Derived.ChangeSame
import Derived.Carry
import Derived.Deep.DeepHandedRow
import Derived.Deep.DeepWitnessRowRef
import Derived.Deep.SlicePairs
import Derived.Stop.LaidErr
import Derived.Lib.LaidTab
import Derived.Shelf.Vars
namespace Go.Proofs.YthlgjipbpgaobaaDoor
open Go.ChangeShapes Go.WideShapes Go.ChangeAt Go.RowKit Go.WideElems

theorem own : ownKnob Tryd.prog.godebug = none := by kernel_rfl
theorem laidOut : laidOutB Tryd.prog = true := by kernel_rfl
theorem star : "*" ++ "errors.errorString" = "*errors.errorString" := by decide
theorem rowErr (u : TypeId) (h : Tryd.prog.typeName? 3 u = some "*errors.errorString") : u = 97 :=
  typeName_ptr_named (nm := "errors.errorString") (by rw [star]; kernel_rfl) (by kernel_rfl) (by decide) u (by rw [star]; exact h)

/-- What the row's list says of the variables. -/
theorem gl_of {W : World} (hL : laidMetH Tryd.prog Rows.paxParsesRow.laid W) (hsh : W.ShapedOpen Tryd.prog) : GL W := by
  have h0 : laidMet Tryd.prog (("math/bits.deBruijn32tab", Rows.laid_math_bits_deBruijn32tab) :: ("math/bits.deBruijn64tab", Rows.laid_math_bits_deBruijn64tab) :: ("internal/strconv.uint64pow10", Lib.tabData .u64 Lib.pow10Tab) :: ("strconv.ErrRange", Rows.laid_strconv_ErrRange) :: ("strconv.ErrSyntax", Rows.laid_strconv_ErrSyntax) :: []) W := hL
  have h2 := h0.tail.tail
  have h3 := h2.tail
  have h4 := h3.tail
  obtain ⟨a1, s1, hv1, _⟩ := laid_sentinel h3 (g := 2) (ti := 49) (tp := 97) (te := 99) (by kernel_rfl) (by kernel_rfl) Tryd.underlying49 rowErr Tryd.underlying97 Tryd.underlying99 rfl rfl Tryd.underlying9 (by kernel_rfl) (by kernel_rfl)
  obtain ⟨a2, s2, hv2, _⟩ := laid_sentinel h4 (g := 1) (ti := 49) (tp := 97) (te := 99) (by kernel_rfl) (by kernel_rfl) Tryd.underlying49 rowErr Tryd.underlying97 Tryd.underlying99 rfl rfl Tryd.underlying9 (by kernel_rfl) (by kernel_rfl)
  exact {
    max := cell_of_shapedOpen_int (t := 3) (zero := #[.int .i64 0]) hsh (of_decide_eq_true (by kernel_rfl)) (by kernel_rfl) rfl (by kernel_rfl) (by kernel_rfl) Tryd.underlying3
    pow := Lib.tabIs_of_head (g := 3) (by kernel_rfl) (by kernel_rfl) Tryd.underlying89 Tryd.underlying75 (by kernel_rfl) (by kernel_rfl) h2
    syn := ⟨_, _, hv2⟩
    rng := ⟨_, _, hv1⟩ }

section
variable {H : Type} {enc : TypeId × Value → H}

theorem plus_plain (b o n : Nat) : (⟨b, o, none⟩ : Addr).add n = ⟨b, o + n, none⟩ := by
  unfold Addr.add
  split
  · rename_i h; subst h; rfl
  · rfl
theorem spot_in {W : World} {a : Addr} {n : Nat} {u v : Value} (h0 : W.cell? (a.add 0) = some u) (h : W.cell? (a.add n) = some v) : ∃ b o, a = ⟨b, o, none⟩ ∧ W.cell? ⟨b, o + n, none⟩ = some v := by
  obtain ⟨b, o, sp⟩ := a
  obtain rfl : sp = none := by simpa [Addr.add] using World.cell?_spot h0
  exact ⟨b, o, rfl, by rwa [plus_plain] at h⟩

/-- Bytes that came in. -/
theorem bytes_in {W : World} {base : Nat} {v : Value} {d : DataW H} {p : List MemPlace} (hv : Value.okWide Tryd.prog W .any base 22 v) (h : DataW.Trod enc Tryd.prog W 0 (fun _ => true) true 22 v d p) :
    ∃ (a : Option Addr) (s : Str) (cap : Nat), v = .slice a s.length cap ∧ RowAt byC 1 W a s ∧ (a = none → s = []) ∧ s.length ≤ cap ∧ cap ≤ maxLen := by
  obtain ⟨a0, len0, cap0, rfl⟩ := okWide_slice Tryd.underlying22 hv
  obtain ⟨fuel, hf⟩ := h
  rcases open_ints Tryd.underlying22 Tryd.underlying5 (by kernel_rfl) hf with ⟨hcs, _⟩ | ⟨a, len, cap, zs, hcs, _, hl, hm, hz, _, hcell, hwz⟩
  · simp [Value.cells] at hcs
    obtain ⟨rfl, rfl, rfl⟩ := hcs
    exact ⟨none, [], 0, rfl, fun i x h => by simp at h, fun _ => rfl, Nat.le_refl _, Nat.zero_le _⟩
  · simp [Value.cells] at hcs
    obtain ⟨rfl, rfl, rfl⟩ := hcs
    simp only [if_true] at hz
    have hlen : ((zs.take len0).map fun z => UInt8.ofNat z.toNat).length = len0 := by simp; omega
    refine ⟨some a, (zs.take len0).map fun z => UInt8.ofNat z.toNat, cap0, by rw [hlen], ?_, (fun h => by cases h), by rw [hlen]; exact hl, hm⟩
    intro i x hx
    have hi : i < len0 := by
      have := (List.getElem?_eq_some_iff.1 hx).1
      rw [hlen] at this; exact this
    have hiz : i < zs.length := by omega
    have hx' : x = UInt8.ofNat (zs[i]).toNat := by
      rw [List.getElem?_map, List.getElem?_take_of_lt hi, List.getElem?_eq_getElem hiz] at hx
      exact (Option.some.inj hx).symm
    have hw := hwz (zs[i]) (List.getElem_mem hiz)
    have h00 := hcell 0 (by omega)
    have hc := hcell i hiz
    have hd : zs.getD i 0 = zs[i] := by simp [List.getD, hiz]
    rw [hd] at hc
    generalize zs[i] = z at hx' hw hc
    have h0 : 0 ≤ z ∧ z ≤ 255 := by
      simp only [Lit.wf, Bool.and_eq_true, decide_eq_true_eq] at hw
      exact hw
    have e : ((x.toNat : Nat) : Int) = z := by
      rw [hx', UInt8.toNat_ofNat_of_lt' (by show z.toNat < 256; omega)]; omega
    obtain ⟨b, o, rfl, hc2⟩ := spot_in h00 hc
    refine ⟨b, o, rfl, fun j u hu => ?_⟩
    match j, hu with
    | 0, hu =>
      simp only [byC, List.getElem?_cons_zero, Option.some.injEq] at hu
      subst hu
      rw [e]
      simpa using hc2
    | j + 1, hu => simp [byC] at hu

/-- Pairs that came in. -/
theorem pairs_in {W : World} {base : Nat} {v : Value} {d : DataW H} {p : List MemPlace} (hv : Value.okWide Tryd.prog W .any base 24 v) (h : DataW.Trod enc Tryd.prog W 0 (fun _ => true) true 24 v d p) :
    ∃ (a : Option Addr) (l : List (Str × Str)) (cap : Nat), v = .slice a l.length cap ∧ RowAt prC 2 W a l ∧ (a = none → l = []) ∧ l.length ≤ cap ∧ cap ≤ maxLen ∧ bulk l ≤ 13 * Rows.uptoBulk d := by
  obtain ⟨a0, len0, cap0, rfl⟩ := okWide_slice Tryd.underlying24 hv
  obtain ⟨fuel, hf⟩ := h
  rcases Deep.open_slice_pairs Tryd.underlying24 Tryd.underlying33 (by kernel_rfl) rfl rfl (by kernel_rfl) (by kernel_rfl) hf with ⟨hcs, _⟩ | ⟨a, len, cap, m, n, V0, V1, D0, D1, P0, P1, hcs, _, hl, hm, hmm, hx, hcell⟩
  · simp [Value.cells] at hcs
    obtain ⟨rfl, rfl, rfl⟩ := hcs
    exact ⟨none, [], 0, rfl, fun i x h => by simp at h, fun _ => rfl, Nat.le_refl _, Nat.zero_le _, Nat.zero_le _⟩
  · simp [Value.cells] at hcs
    obtain ⟨rfl, rfl, rfl⟩ := hcs
    simp only [if_true] at hmm
    subst hmm
    let K : Nat → Str := fun i => match V0 i with | .string s => s.data.toList | _ => []
    let V : Nat → Str := fun i => match V1 i with | .string s => s.data.toList | _ => []
    have hKV : ∀ i, i < m → V0 i = S (K i) ∧ V1 i = S (V i) ∧ D0 i = .lit (.string (K i)) ∧ D1 i = .lit (.string (V i)) := by
      intro i hi
      obtain ⟨_, _, t0, t1⟩ := hcell i hi
      obtain ⟨s0, e0, x0⟩ := DataW.trod_string Tryd.underlying9 t0
      obtain ⟨s1, e1, x1⟩ := DataW.trod_string Tryd.underlying9 t1
      simp only [List.cons.injEq, and_true] at e0 e1
      simp only [Prod.mk.injEq] at x0 x1
      have k0 : K i = s0.data.toList := by show (match V0 i with | .string s => s.data.toList | _ => []) = _; rw [e0]
      have k1 : V i = s1.data.toList := by show (match V1 i with | .string s => s.data.toList | _ => []) = _; rw [e1]
      refine ⟨?_, ?_, ?_, ?_⟩
      · rw [e0, k0]
      · rw [e1, k1]
      · rw [x0.1.1, k0]
      · rw [x1.1.1, k1]
    have hlen : ((List.range len0).map fun i => (K i, V i)).length = len0 := by simp
    refine ⟨some a, (List.range len0).map fun i => (K i, V i), m, by rw [hlen], ?_, (fun h => by cases h), by rw [hlen]; exact hl, hm, ?_⟩
    · intro i x hx
      have hi : i < len0 := by
        have := (List.getElem?_eq_some_iff.1 hx).1
        rw [hlen] at this; exact this
      have hx' : x = (K i, V i) := by
        rw [List.getElem?_map, List.getElem?_range hi] at hx
        exact (Option.some.inj hx).symm
      obtain ⟨c0, c1, _, _⟩ := hcell i (by omega)
      obtain ⟨e0, e1, _, _⟩ := hKV i (by omega)
      have c00 := (hcell 0 (by omega)).1
      rw [Nat.zero_mul] at c00
      obtain ⟨b, o, rfl, c0'⟩ := spot_in c00 c0
      rw [plus_plain] at c1
      rw [e0] at c0'
      rw [e1] at c1
      refine ⟨b, o, rfl, fun j u hu => ?_⟩
      subst hx'
      match j, hu with
      | 0, hu => simp only [prC, List.getElem?_cons_zero, Option.some.injEq] at hu; subst hu; exact c0'
      | 1, hu => simp [prC] at hu; subst hu; simpa [Nat.add_assoc] using c1
      | j + 2, hu => simp [prC] at hu
    · have hd := congrArg Prod.fst hx
      simp only at hd
      rw [hd]
      simp only [Rows.uptoBulk]
      have : ∀ (is : List Nat), (∀ i ∈ is, i < m) → bulk (is.map fun i => (K i, V i)) ≤ 13 * Rows.uptoBulkAll (is.map fun i => DataW.agg [D0 i, D1 i]) := by
        intro is
        induction is with
        | nil => intro _; exact Nat.le_refl _
        | cons i is ih =>
          intro hi
          have ih := ih (fun j hj => hi j (List.mem_cons_of_mem _ hj))
          obtain ⟨_, _, e2, e3⟩ := hKV i (hi i (List.mem_cons_self ..))
          simp only [bulk, List.map_cons, List.sum_cons, Rows.uptoBulkAll, Rows.uptoBulk, e2, e3] at ih ⊢
          omega
      have := this (List.range len0) (fun i hi => by have := List.mem_range.1 hi; omega)
      omega

/-- Arguments, read again in a world that has grown. -/
theorem again_all {W W' : World} (hb : Below W.heap.size W W') {sp : Nat → Bool} : ∀ {ts : List TypeId} {vs : List Value} {ds : List (DataW H)} {ps : List MemPlace}, (∀ t ∈ ts, Tryd.prog.readableRec t = true ∧ t < Tryd.prog.types.size) →
    DataW.TrodAll enc Tryd.prog W 0 (fun _ => true) true ts vs ds ps → (∀ x ∈ ps, x.block < W.heap.size) → (∀ x ∈ ps, sp x.block = true) → DataW.TrodAll enc Tryd.prog W' 0 sp true ts vs ds ps
  | [], [], [], _, _, h, _, _ => h
  | [], _ :: _, _, _, _, h, _, _ => h.elim
  | [], [], _ :: _, _, _, h, _, _ => h.elim
  | _ :: _, [], _, _, _, h, _, _ => h.elim
  | _ :: _, _ :: _, [], _, _, h, _, _ => h.elim
  | t :: ts, v :: vs, d :: ds, ps, ht, h, hlt, hsp => by
    obtain ⟨p, q, h1, h2, rfl⟩ := h
    have hr := ht t (List.mem_cons_self ..)
    exact ⟨p, q, Trod_stays laidOut hr.1 hr.2 h1 (fun x hx => hb.same (hlt x (List.mem_append_left _ hx))) (fun x hx => hsp x (List.mem_append_left _ hx)),
      again_all hb (fun t h => ht t (List.mem_cons_of_mem _ h)) h2 (fun x hx => hlt x (List.mem_append_right _ hx)) (fun x hx => hsp x (List.mem_append_right _ hx)), rfl⟩

/-- THE ROW's END: the law returned true and below the store's old size nothing has turned. -/
theorem law_post {f : Func} {s : ChangeSpec} {apart fresh handsOn again : Bool} {W W' : World} {args : Array Value} {ds gs : List (DataW H)} {before : List MemPlace} (hs : s.vars = []) (hf : f.resultTypes = #[4])
    (hfn : s.fn H ds = { results := [.lit (.bool true)], args := ds }) (ht : ∀ t ∈ f.params.toList, Tryd.prog.readableRec t = true ∧ t < Tryd.prog.types.size)
    (hW : DataW.Whole enc Tryd.prog f.params.toList s.vars apart W args.toList ds gs before) (hb : Below W.heap.size W W') :
    s.post enc Tryd.prog f apart fresh handsOn again W args (.bool true) W' := by
  obtain ⟨p, q, hA, hV, rfl, hz, hn⟩ := id hW
  have hlt : ∀ x ∈ p ++ q, x.block < W.heap.size := fun x hx => hW.lt x hx
  rw [hs] at hV
  obtain ⟨rfl, rfl⟩ := trodVars_none hV
  have hA' : DataW.TrodAll enc Tryd.prog W 0 (fun _ => true) true f.params.toList args.toList ds p := hA
  have hold : ∀ x ∈ p ++ [], (fun b => decide (b < W.heap.size)) x.block = true := fun x hx => by simpa using hlt x hx
  have hargs : ∀ sp : Nat → Bool, (∀ x ∈ p ++ [], sp x.block = true) → DataW.TrodAll enc Tryd.prog W' 0 sp true f.params.toList args.toList (s.fn H (ds ++ [])).args p := fun sp hsp => by
    rw [List.append_nil, hfn]
    exact again_all hb ht hA' (fun x hx => hlt x (List.mem_append_left _ hx)) (fun x hx => hsp x (List.mem_append_left _ hx))
  have hres : ∀ (b : Nat) (sp : Nat → Bool) (hd : Bool), DataW.TrodAll enc Tryd.prog W' b sp hd f.resultTypes.toList ((Value.bool true).resultList f.resultTypes.size) (s.fn H (ds ++ [])).results [] := fun b sp hd => by
    rw [List.append_nil, hfn, hf]
    exact trodAll_mk1 (shut_bool Tryd.underlying4 _)
  have hvars : ∀ sp : Nat → Bool, DataW.TrodVars enc Tryd.prog W' sp s.vars (s.fn H (ds ++ [])).vars [] := fun sp => by
    rw [List.append_nil, hfn, hs]; rfl
  refine ⟨ds, [], p ++ [], [], p, [], hW, hres _ _ _, hargs _ hold, hvars _, World.keptBut_mono (fun x hx => ⟨hx, ?_⟩) (hb.frame (· ∈ p ++ [])), fun _ => ?_⟩
  · exact Or.inr (by simpa using hx)
  · refine ⟨?_, _, _, ([] ++ p) ++ [], ⟨[] ++ p, [], trodAll_append (hargs _ (fun _ _ => rfl)) (hres _ _ _), hvars _, rfl, ?_, ?_⟩, ?_⟩
    · exact ok_one hf rfl (okWide_bool_mk Tryd.underlying4 _)
    · intro b off hp
      have hin : MemPlace.cell b off ∈ p ++ [] := by simpa using hp
      rw [hb.frozen (hlt _ hin)]
      exact hz b off hin
    · intro ha
      simpa using hn ha
    · intro x hx _
      simpa using hx
end

/-! ### A start that fits -/
/-- A table's cells. -/
def tabCells : DataW Unit → Array Value
  | .agg l => (l.map fun d => match d with | .lit (.int k z) => Value.int k z | _ => Value.int .u8 0).toArray
  | _ => #[]
abbrev synS : ByteArray := { data := #[105, 110, 118, 97, 108, 105, 100, 32, 115, 121, 110, 116, 97, 120] }
abbrev rngS : ByteArray := { data := #[118, 97, 108, 117, 101, 32, 111, 117, 116, 32, 111, 102, 32, 114, 97, 110, 103, 101] }
/-- So many blocks has the settled world. -/
noncomputable def low : Nat := (World.holding Tryd.prog default ⟨#[], #[], []⟩).heap.size
/-- A variable's cells, put in. -/
def putVar (cs : Array Value) : Obj → Obj
  | .cells _ t frozen => .cells cs t frozen
  | o => o
/-- The settled world with the listed variables laid, and a block for each sentinel. -/
noncomputable def laidWorld (os : Os) : World :=
  let w0 := World.holding Tryd.prog os ⟨#[.cells #[.string rngS] 99, .cells #[.string synS] 99], #[], []⟩
  { w0 with heap := ((((w0.heap.modify 4 (putVar (tabCells Rows.laid_math_bits_deBruijn32tab))).modify 5 (putVar (tabCells Rows.laid_math_bits_deBruijn64tab))).modify 3 (putVar (tabCells Rows.laid_internal_strconv_uint64pow10))).modify 2
      (putVar #[.iface 97 (.pointer (some ⟨low, 0, none⟩))])).modify 1 (putVar #[.iface 97 (.pointer (some ⟨low + 1, 0, none⟩))]) }
theorem laid_met (os : Os) (args : Array Value) : laidMet Tryd.prog Rows.paxParsesRow.laid ((laidWorld os).forCall (fun _ _ => 0) ⟨#[], args, []⟩).memory :=
  laidMet_of_run' 8 (by kernel_rfl) (by kernel_rfl)

end Go.Proofs.YthlgjipbpgaobaaDoor
