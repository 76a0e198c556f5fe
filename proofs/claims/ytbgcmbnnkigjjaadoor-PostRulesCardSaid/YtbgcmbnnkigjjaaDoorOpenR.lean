/- Arguments opened: a data row read as a row of a kind. -/
import Derived.Test.YtbgcmbnnkigjjaaDoorPRx12
import Derived.Test.YtbgcmbnnkigjjaaDoorRows
import Derived.Deep.Slices
import Derived.OpenShut
namespace Go.Proofs.YtbgcmbnnkigjjaaDoor.OpenK
open Go.RowKit Go.WideShapes Go.Deep Go.Proofs.YtbgcmbnnkigjjaaDoor.PR Go.Proofs.YtbgcmbnnkigjjaaDoorW.PrintWords
set_option linter.unusedVariables false
set_option linter.unusedSimpArgs false
/-- What the data of a type is read as. -/
def Opens {α : Type} (d : Kd α) (Q : α → Prop) (P : Program) (t : TypeId) (n : Nat) : Prop :=
  ∀ {H : Type} {enc : TypeId × Value → H} {w : World} {base : Nat} {spare : Nat → Bool} {held : Bool} {cs : List Value} {x : DataW H × List MemPlace}, DataW.trod enc P w base spare held n t cs = some x → ∃ a, d.K w a cs ∧ Q a
theorem opens_int {P : Program} {t : TypeId} {k : IntKind} (ht : P.underlying t = some (.int k)) (n : Nat) : Opens (Kd.int k) (fun a => (Lit.int k a).wf = true) P t n := by
  intro H enc w base spare held cs x h
  obtain ⟨a, rfl, _, hw⟩ := DataW.trod_int ht h
  exact ⟨a, rfl, hw⟩
theorem opens_string {P : Program} {t : TypeId} (ht : P.underlying t = some .string) (n : Nat) : Opens Kd.string (fun a => a.size ≤ maxLen) P t n := by
  intro H enc w base spare held cs x h
  obtain ⟨a, rfl, _, hw⟩ := DataW.trod_string ht h
  exact ⟨a, rfl, hw⟩
theorem addr_add (a : Addr) (i j : Nat) : (a.add i).add j = a.add (i + j) := by
  unfold Addr.add
  by_cases h : i = 0
  · subst h
    simp
  · by_cases h2 : j = 0
    · subst h2
      simp
    · simp [h, h2, Nat.add_assoc]
theorem opens_row {α : Type} [Inhabited α] {d : Kd α} {Q : α → Prop} {P : Program} {t e : TypeId} (ht : P.underlying t = some (.slice e)) (hc : P.cellsOf e = d.sz) (n : Nat) (he : ∀ m, m < n → Opens d Q P e m)
    {H : Type} {enc : TypeId × Value → H} {w : World} {base : Nat} {spare : Nat → Bool} {held : Bool} {cs : List Value} {x : DataW H × List MemPlace} (h : DataW.trod enc P w base spare held n t cs = some x) :
    ∃ (A : Option Addr) (c : Nat) (xs : List α), cs = [.slice A xs.length c] ∧ xs.length ≤ c ∧ d.C w A xs.length xs ∧ ∀ a ∈ xs, Q a := by
  rcases DataW.trod_slice ht h with ⟨rfl, _⟩ | ⟨a, len, cap, elems, rest, m, rfl, rfl, _, hb, hl, hm, hlen, hel, _, _⟩
  · exact ⟨none, 0, [], rfl, Nat.le_refl _, ⟨rfl, by simp, fun q => absurd q (by simp)⟩, fun a q => by cases q⟩
  · have key : ∀ i, i < len → ∃ y : α, Q y ∧ ∃ c : List Value, c.length = d.sz ∧ d.K w y c ∧ ∀ j u, c[j]? = some u → w.cell? (a.add (i * d.sz + j)) = some u := by
      intro i hi
      have h1 := hel i hi
      rw [List.getElem?_eq_getElem (by omega)] at h1
      obtain ⟨c, h2, h3⟩ := Option.bind_eq_some_iff.1 h1
      obtain ⟨y, hy, hq⟩ := he m (by omega) h3
      obtain ⟨_, hcl, hcell⟩ := World.cells?_some h2
      refine ⟨y, hq, c, d.K_len hy, hy, fun j u hj => ?_⟩
      have hjl : j < c.length := (List.getElem?_eq_some_iff.1 hj).1
      have h4 := hcell j (by omega)
      rw [hj] at h4
      rw [← h4, hc]
      rw [addr_add]
    obtain ⟨f, hf⟩ := choose_lt key
    have hlen' : ((List.range len).map f).length = len := by simp
    refine ⟨some a, cap, (List.range len).map f, by rw [hlen'], by rw [hlen']; exact hl, ⟨rfl, ?_, fun _ => ⟨a, rfl, ?_⟩⟩, ?_⟩
    · rw [hlen']
      have := hm
      unfold maxLen at this
      omega
    · intro j p hj
      rw [List.getElem?_map] at hj
      have hjl : j < len := by
        rcases Nat.lt_or_ge j len with q | q
        · exact q
        · rw [List.getElem?_eq_none (by simpa using q)] at hj
          cases hj
      rw [List.getElem?_range hjl] at hj
      obtain rfl := Option.some.inj hj
      exact (hf j hjl).2
    · intro y hy
      obtain ⟨j, hj, rfl⟩ := List.mem_map.1 hy
      exact (hf j (List.mem_range.1 hj)).1
theorem opens_slice {α : Type} [Inhabited α] {d : Kd α} {Q : α → Prop} {P : Program} {t e : TypeId} (ht : P.underlying t = some (.slice e)) (hc : P.cellsOf e = d.sz) (n : Nat) (he : ∀ m, m < n → Opens d Q P e m) (e' : Nat) :
    Opens (Kd.slice e' d) (fun xs => ∀ a ∈ xs, Q a) P t n := by
  intro H enc w base spare held cs x h
  obtain ⟨A, c, xs, rfl, h1, h2, h3⟩ := opens_row ht hc n he h
  exact ⟨xs, ⟨A, c, rfl, h1, h2⟩, h3⟩
/-- A value of a slice type. -/
theorem row_value {α : Type} [Inhabited α] {d : Kd α} {Q : α → Prop} {P : Program} {t e : TypeId} (ht : P.underlying t = some (.slice e)) (hc : P.cellsOf e = d.sz) (he : ∀ m, Opens d Q P e m)
    {H : Type} {enc : TypeId × Value → H} {w : World} {base : Nat} {spare : Nat → Bool} {held : Bool} {r : Reach} {b0 : Nat} {v : Value} {y : DataW H} {ps : List MemPlace} (hv : Value.okWide P w r b0 t v) (h : DataW.Trod enc P w base spare held t v y ps) :
    ∃ (A : Option Addr) (c : Nat) (xs : List α), v = .slice A xs.length c ∧ xs.length ≤ c ∧ d.C w A xs.length xs ∧ ∀ a ∈ xs, Q a := by
  obtain ⟨a, len, cap, rfl⟩ := okWide_slice ht hv
  obtain ⟨n, hn⟩ := h
  obtain ⟨A, c, xs, hcs, h1, h2, h3⟩ := opens_row ht hc n (fun m _ => he m) hn
  simp only [Value.cells] at hcs
  exact ⟨A, c, xs, by simpa using hcs, h1, h2, h3⟩
theorem wf_i64 {n : Int} (h : (Lit.int .i64 n).wf = true) : -9223372036854775808 ≤ n ∧ n ≤ 9223372036854775807 := by
  simp [Lit.wf, IntKind.min, IntKind.max, IntKind.signed, IntKind.bits] at h
  omega
end Go.Proofs.YtbgcmbnnkigjjaaDoor.OpenK
