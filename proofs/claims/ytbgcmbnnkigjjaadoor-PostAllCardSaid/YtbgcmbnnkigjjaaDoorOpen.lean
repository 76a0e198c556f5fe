/- Arguments opened: a data row read as a row of a kind. -/
import Derived.Test.YtbgcmbnnkigjjaaDoorPostO
import Derived.Test.YtbgcmbnnkigjjaaDoorRows
import Derived.Deep.Slices
import Derived.OpenShut
namespace Go.Proofs.YtbgcmbnnkigjjaaDoor.OpenK
open Go.RowKit Go.WideShapes Go.Deep Go.Proofs.YtbgcmbnnkigjjaaDoor.PP Go.Proofs.YtbgcmbnnkigjjaaDoorW.PrintWords
set_option linter.unusedVariables false
set_option linter.unusedSimpArgs false
/-- What the data of a type is read as. -/
def Opens {α : Type} (d : Kd α) (Q : α → Prop) (P : Program) (t : TypeId) (n : Nat) : Prop :=
  ∀ {H : Type} {enc : TypeId × Value → H} {w : World} {base : Nat} {spare : Nat → Bool} {held : Bool} {cs : List Value} {x : DataW H × List MemPlace}, DataW.trod enc P w base spare held n t cs = some x → ∃ a, d.K w a cs ∧ Q a
theorem opens_int {P : Program} {t : TypeId} {k : IntKind} (ht : P.underlying t = some (.int k)) (n : Nat) : Opens (Kd.int k) (fun a => (Lit.int k a).wf = true) P t n := by
  intro H enc w base spare held cs x h
  obtain ⟨a, rfl, _, hw⟩ := DataW.trod_int ht h
  exact ⟨a, rfl, hw⟩
theorem opens_string {P : Program} {t : TypeId} (ht : P.underlying t = some .string) (n : Nat) : Opens Kd.string (fun a => a.size ≤ maxLen) P t n := by
  intro H enc w base spare held cs x h
  obtain ⟨a, rfl, _, hw⟩ := DataW.trod_string ht h
  exact ⟨a, rfl, hw⟩
theorem addr_add (a : Addr) (i j : Nat) : (a.add i).add j = a.add (i + j) := by
  unfold Addr.add
  by_cases h : i = 0
  · subst h
    simp
  · by_cases h2 : j = 0
    · subst h2
      simp
    · simp [h, h2, Nat.add_assoc]
theorem opens_row {α : Type} [Inhabited α] {d : Kd α} {Q : α → Prop} {P : Program} {t e : TypeId} (ht : P.underlying t = some (.slice e)) (hc : P.cellsOf e = d.sz) (n : Nat) (he : ∀ m, m < n → Opens d Q P e m)
    {H : Type} {enc : TypeId × Value → H} {w : World} {base : Nat} {spare : Nat → Bool} {held : Bool} {cs : List Value} {x : DataW H × List MemPlace} (h : DataW.trod enc P w base spare held n t cs = some x) :
    ∃ (A : Option Addr) (c : Nat) (xs : List α), cs = [.slice A xs.length c] ∧ xs.length ≤ c ∧ d.C w A xs.length xs ∧ ∀ a ∈ xs, Q a := by
  rcases DataW.trod_slice ht h with ⟨rfl, _⟩ | ⟨a, len, cap, elems, rest, m, rfl, rfl, _, hb, hl, hm, hlen, hel, _, _⟩
  · exact ⟨none, 0, [], rfl, Nat.le_refl _, ⟨rfl, by simp, fun q => absurd q (by simp)⟩, fun a q => by cases q⟩
  · have key : ∀ i, i < len → ∃ y : α, Q y ∧ ∃ c : List Value, c.length = d.sz ∧ d.K w y c ∧ ∀ j u, c[j]? = some u → w.cell? (a.add (i * d.sz + j)) = some u := by
      intro i hi
      have h1 := hel i hi
      rw [List.getElem?_eq_getElem (by omega)] at h1
      obtain ⟨c, h2, h3⟩ := Option.bind_eq_some_iff.1 h1
      obtain ⟨y, hy, hq⟩ := he m (by omega) h3
      obtain ⟨_, hcl, hcell⟩ := World.cells?_some h2
      refine ⟨y, hq, c, d.K_len hy, hy, fun j u hj => ?_⟩
      have hjl : j < c.length := (List.getElem?_eq_some_iff.1 hj).1
      have h4 := hcell j (by omega)
      rw [hj] at h4
      rw [← h4, hc]
      rw [addr_add]
    obtain ⟨f, hf⟩ := choose_lt key
    have hlen' : ((List.range len).map f).length = len := by simp
    refine ⟨some a, cap, (List.range len).map f, by rw [hlen'], by rw [hlen']; exact hl, ⟨rfl, ?_, fun _ => ⟨a, rfl, ?_⟩⟩, ?_⟩
    · rw [hlen']
      have := hm
      unfold maxLen at this
      omega
    · intro j p hj
      rw [List.getElem?_map] at hj
      have hjl : j < len := by
        rcases Nat.lt_or_ge j len with q | q
        · exact q
        · rw [List.getElem?_eq_none (by simpa using q)] at hj
          cases hj
      rw [List.getElem?_range hjl] at hj
      obtain rfl := Option.some.inj hj
      exact (hf j hjl).2
    · intro y hy
      obtain ⟨j, hj, rfl⟩ := List.mem_map.1 hy
      exact (hf j (List.mem_range.1 hj)).1
theorem opens_slice {α : Type} [Inhabited α] {d : Kd α} {Q : α → Prop} {P : Program} {t e : TypeId} (ht : P.underlying t = some (.slice e)) (hc : P.cellsOf e = d.sz) (n : Nat) (he : ∀ m, m < n → Opens d Q P e m) (e' : Nat) :
    Opens (Kd.slice e' d) (fun xs => ∀ a ∈ xs, Q a) P t n := by
  intro H enc w base spare held cs x h
  obtain ⟨A, c, xs, rfl, h1, h2, h3⟩ := opens_row ht hc n he h
  exact ⟨xs, ⟨A, c, rfl, h1, h2⟩, h3⟩
/-- A value of a slice type. -/
theorem row_value {α : Type} [Inhabited α] {d : Kd α} {Q : α → Prop} {P : Program} {t e : TypeId} (ht : P.underlying t = some (.slice e)) (hc : P.cellsOf e = d.sz) (he : ∀ m, Opens d Q P e m)
    {H : Type} {enc : TypeId × Value → H} {w : World} {base : Nat} {spare : Nat → Bool} {held : Bool} {r : Reach} {b0 : Nat} {v : Value} {y : DataW H} {ps : List MemPlace} (hv : Value.okWide P w r b0 t v) (h : DataW.Trod enc P w base spare held t v y ps) :
    ∃ (A : Option Addr) (c : Nat) (xs : List α), v = .slice A xs.length c ∧ xs.length ≤ c ∧ d.C w A xs.length xs ∧ ∀ a ∈ xs, Q a := by
  obtain ⟨a, len, cap, rfl⟩ := okWide_slice ht hv
  obtain ⟨n, hn⟩ := h
  obtain ⟨A, c, xs, hcs, h1, h2, h3⟩ := opens_row ht hc n (fun m _ => he m) hn
  simp only [Value.cells] at hcs
  exact ⟨A, c, xs, by simpa using hcs, h1, h2, h3⟩
theorem wf_i64 {n : Int} (h : (Lit.int .i64 n).wf = true) : -9223372036854775808 ≤ n ∧ n ≤ 9223372036854775807 := by
  simp [Lit.wf, IntKind.min, IntKind.max, IntKind.signed, IntKind.bits] at h
  omega
/-! ### a condition -/
instance : Inhabited S24 := ⟨z24⟩
theorem opens_cond : ∀ n, Opens k24 (fun _ => True) Tryd.prog 24 n := by
  intro n
  induction n using Nat.strongRecOn with
  | _ n ih =>
    intro H enc w base spare held cs x h
    obtain ⟨xs, m, rfl, _, hl, hlen, hf⟩ := DataW.trod_struct Tryd.underlying24 h
    have hc : Tryd.prog.cellsOf 24 = 5 := by kernel_rfl
    rw [hc] at hl
    obtain ⟨c0, c1, c2, c3, c4, rfl⟩ : ∃ c0 c1 c2 c3 c4, cs = [c0, c1, c2, c3, c4] := by
      match cs, hl with
      | [c0, c1, c2, c3, c4], _ => exact ⟨c0, c1, c2, c3, c4, rfl⟩
    have g0 : DataW.trod enc Tryd.prog w base spare held m 3 (List.take (Tryd.prog.cellsOf 3) (List.drop 0 [c0, c1, c2, c3, c4])) = xs[0]? := hf 0 _ rfl
    have g1 : DataW.trod enc Tryd.prog w base spare held m 3 (List.take (Tryd.prog.cellsOf 3) (List.drop 1 [c0, c1, c2, c3, c4])) = xs[1]? := hf 1 _ rfl
    have g2 : DataW.trod enc Tryd.prog w base spare held m 9 (List.take (Tryd.prog.cellsOf 9) (List.drop 2 [c0, c1, c2, c3, c4])) = xs[2]? := hf 2 _ rfl
    have g3 : DataW.trod enc Tryd.prog w base spare held m 3 (List.take (Tryd.prog.cellsOf 3) (List.drop 3 [c0, c1, c2, c3, c4])) = xs[3]? := hf 3 _ rfl
    have g4 : DataW.trod enc Tryd.prog w base spare held m 22 (List.take (Tryd.prog.cellsOf 22) (List.drop 4 [c0, c1, c2, c3, c4])) = xs[4]? := hf 4 _ rfl
    rw [List.getElem?_eq_getElem (by rw [hlen]; decide)] at g0 g1 g2 g3 g4
    have d3 : Tryd.prog.cellsOf 3 = 1 := by kernel_rfl
    have d9 : Tryd.prog.cellsOf 9 = 1 := by kernel_rfl
    have d22 : Tryd.prog.cellsOf 22 = 1 := by kernel_rfl
    simp only [d3, d9, d22, List.drop_zero, List.drop_succ_cons, List.take_succ_cons, List.take_zero] at g0 g1 g2 g3 g4
    obtain ⟨f0, e0, _, _⟩ := DataW.trod_int Tryd.underlying3 g0
    obtain ⟨f1, e1, _, _⟩ := DataW.trod_int Tryd.underlying3 g1
    obtain ⟨f2, e2, _, _⟩ := DataW.trod_string Tryd.underlying9 g2
    obtain ⟨f3, e3, _, _⟩ := DataW.trod_int Tryd.underlying3 g3
    obtain ⟨A, c, f4, e4, h1, h2, _⟩ := opens_row (d := k24) (Q := fun _ => True) Tryd.underlying22 (by rw [hc]; rfl) m (fun q hq => ih q (by omega)) g4
    obtain rfl := List.singleton_inj.1 e0
    obtain rfl := List.singleton_inj.1 e1
    obtain rfl := List.singleton_inj.1 e2
    obtain rfl := List.singleton_inj.1 e3
    obtain rfl := List.singleton_inj.1 e4
    exact ⟨⟨f0, f1, f2, f3, f4⟩, k24_mk w ⟨f0, f1, f2, f3, f4⟩ h1 h2, trivial⟩
theorem open_cond {H : Type} {enc : TypeId × Value → H} {w : World} {base : Nat} {spare : Nat → Bool} {held : Bool} {r : Reach} {b0 : Nat} {v : Value} {y : DataW H} {ps : List MemPlace} (hv : Value.okWide Tryd.prog w r b0 24 v) (h : DataW.Trod enc Tryd.prog w base spare held 24 v y ps) :
    ∃ (x : S24) (A : Option Addr) (c : Nat), v = .agg #[.int .i64 x.f0, .int .i64 x.f1, .string x.f2, .int .i64 x.f3, .slice A x.f4.length c] ∧ x.f4.length ≤ c ∧ k24.C w A x.f4.length x.f4 := by
  obtain ⟨cs, rfl, hs⟩ := Go.WideShapes.okWide_struct Tryd.underlying24 hv
  obtain ⟨n, hn⟩ := h
  obtain ⟨x, hx, _⟩ := opens_cond n hn
  obtain ⟨A, c, e, h1, h2⟩ := k24_open hx
  refine ⟨x, A, c, ?_, h1, h2⟩
  congr 1
  apply Array.ext'
  simpa [Value.cells] using e
/-! ### an outcome -/
theorem opens_ints (n : Nat) : Opens (Kd.slice 3 (Kd.int .i64)) (fun xs => ∀ a ∈ xs, (Lit.int .i64 a).wf = true) Tryd.prog 28 n :=
  opens_slice Tryd.underlying28 (by kernel_rfl) n (fun m _ => opens_int Tryd.underlying3 m) 3
theorem open_out {H : Type} {enc : TypeId × Value → H} {w : World} {base : Nat} {spare : Nat → Bool} {held : Bool} {r : Reach} {b0 : Nat} {v : Value} {y : DataW H} {ps : List MemPlace} (hv : Value.okWide Tryd.prog w r b0 30 v) (h : DataW.Trod enc Tryd.prog w base spare held 30 v y ps) :
    ∃ (A B : Option Addr) (c d : Nat) (xs : List (List Int)) (ys : List Int), v = .agg #[.slice A xs.length c, .slice B ys.length d] ∧ xs.length ≤ c ∧ ys.length ≤ d ∧ (Kd.slice 3 (Kd.int .i64)).C w A xs.length xs ∧ (Kd.int .i64).C w B ys.length ys ∧
      (∀ o ∈ xs, ∀ a ∈ o, (Lit.int .i64 a).wf = true) ∧ ∀ a ∈ ys, (Lit.int .i64 a).wf = true := by
  obtain ⟨cs, rfl, hs⟩ := Go.WideShapes.okWide_struct Tryd.underlying30 hv
  obtain ⟨n, hn⟩ := h
  obtain ⟨zs, m, rfl, _, hl, hlen, hf⟩ := DataW.trod_struct Tryd.underlying30 hn
  have hc : Tryd.prog.cellsOf 30 = 2 := by kernel_rfl
  obtain ⟨c0, c1, rfl⟩ : ∃ c0 c1, cs = #[c0, c1] := by
    rw [hc] at hs
    obtain ⟨l⟩ := cs
    match l, hs with
    | [c0, c1], _ => exact ⟨c0, c1, rfl⟩
  have g0 : DataW.trod enc Tryd.prog w base spare held m 27 (List.take (Tryd.prog.cellsOf 27) (List.drop 0 [c0, c1])) = zs[0]? := hf 0 _ rfl
  have g1 : DataW.trod enc Tryd.prog w base spare held m 28 (List.take (Tryd.prog.cellsOf 28) (List.drop 1 [c0, c1])) = zs[1]? := hf 1 _ rfl
  rw [List.getElem?_eq_getElem (by rw [hlen]; decide)] at g0 g1
  have d27 : Tryd.prog.cellsOf 27 = 1 := by kernel_rfl
  have d28 : Tryd.prog.cellsOf 28 = 1 := by kernel_rfl
  simp only [d27, d28, List.drop_zero, List.drop_succ_cons, List.take_succ_cons, List.take_zero] at g0 g1
  obtain ⟨A, c, xs, e0, h1, h2, h3⟩ := opens_row (d := Kd.slice 3 (Kd.int .i64)) Tryd.underlying27 (by kernel_rfl) m (fun q _ => opens_ints q) g0
  obtain ⟨B, d, ys, e1, i1, i2, i3⟩ := opens_row (d := Kd.int .i64) Tryd.underlying28 (by kernel_rfl) m (fun q _ => opens_int Tryd.underlying3 q) g1
  obtain rfl := List.singleton_inj.1 e0
  obtain rfl := List.singleton_inj.1 e1
  exact ⟨A, B, c, d, xs, ys, rfl, h1, i1, h2, i2, h3, i3⟩
end Go.Proofs.YtbgcmbnnkigjjaaDoor.OpenK
