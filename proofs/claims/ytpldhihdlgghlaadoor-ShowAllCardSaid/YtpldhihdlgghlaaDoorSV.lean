/- Arguments opened: a data row read as a row of a kind. -/
import Derived.Test.YtpldhihdlgghlaaDoorSU
import Derived.Test.YtpldhihdlgghlaaDoorRows
import Derived.Deep.Slices
import Derived.OpenShut
namespace Go.Proofs.YtpldhihdlgghlaaDoor.OpenK
open Go.RowKit Go.WideShapes Go.Deep Go.Proofs.YtpldhihdlgghlaaDoor.PS Go.Proofs.YtpldhihdlgghlaaDoorW.PrintWords
set_option linter.unusedVariables false
set_option linter.unusedSimpArgs false
/-- What the data of a type is read as. -/
def Opens {α : Type} (d : Kd α) (Q : α → Prop) (P : Program) (t : TypeId) (n : Nat) : Prop :=
  ∀ {H : Type} {enc : TypeId × Value → H} {w : World} {base : Nat} {spare : Nat → Bool} {held : Bool} {cs : List Value} {x : DataW H × List MemPlace}, DataW.trod enc P w base spare held n t cs = some x → ∃ a, d.K w a cs ∧ Q a
theorem addr_add (a : Addr) (i j : Nat) : (a.add i).add j = a.add (i + j) := by
  unfold Addr.add
  by_cases h : i = 0
  · subst h
    simp
  · by_cases h2 : j = 0
    · subst h2
      simp
    · simp [h, h2, Nat.add_assoc]
theorem opens_row {α : Type} [Inhabited α] {d : Kd α} {Q : α → Prop} {P : Program} {t e : TypeId} (ht : P.underlying t = some (.slice e)) (hc : P.cellsOf e = d.sz) (n : Nat) (he : ∀ m, m < n → Opens d Q P e m)
    {H : Type} {enc : TypeId × Value → H} {w : World} {base : Nat} {spare : Nat → Bool} {held : Bool} {cs : List Value} {x : DataW H × List MemPlace} (h : DataW.trod enc P w base spare held n t cs = some x) :
    ∃ (A : Option Addr) (c : Nat) (xs : List α), cs = [.slice A xs.length c] ∧ xs.length ≤ c ∧ d.C w A xs.length xs ∧ ∀ a ∈ xs, Q a := by
  rcases DataW.trod_slice ht h with ⟨rfl, _⟩ | ⟨a, len, cap, elems, rest, m, rfl, rfl, _, hb, hl, hm, hlen, hel, _, _⟩
  · exact ⟨none, 0, [], rfl, Nat.le_refl _, ⟨rfl, by simp, fun q => absurd q (by simp)⟩, fun a q => by cases q⟩
  · have key : ∀ i, i < len → ∃ y : α, Q y ∧ ∃ c : List Value, c.length = d.sz ∧ d.K w y c ∧ ∀ j u, c[j]? = some u → w.cell? (a.add (i * d.sz + j)) = some u := by
      intro i hi
      have h1 := hel i hi
      rw [List.getElem?_eq_getElem (by omega)] at h1
      obtain ⟨c, h2, h3⟩ := Option.bind_eq_some_iff.1 h1
      obtain ⟨y, hy, hq⟩ := he m (by omega) h3
      obtain ⟨_, hcl, hcell⟩ := World.cells?_some h2
      refine ⟨y, hq, c, d.K_len hy, hy, fun j u hj => ?_⟩
      have hjl : j < c.length := (List.getElem?_eq_some_iff.1 hj).1
      have h4 := hcell j (by omega)
      rw [hj] at h4
      rw [← h4, hc]
      rw [addr_add]
    obtain ⟨f, hf⟩ := choose_lt key
    have hlen' : ((List.range len).map f).length = len := by simp
    refine ⟨some a, cap, (List.range len).map f, by rw [hlen'], by rw [hlen']; exact hl, ⟨rfl, ?_, fun _ => ⟨a, rfl, ?_⟩⟩, ?_⟩
    · rw [hlen']
      have := hm
      unfold maxLen at this
      omega
    · intro j p hj
      rw [List.getElem?_map] at hj
      have hjl : j < len := by
        rcases Nat.lt_or_ge j len with q | q
        · exact q
        · rw [List.getElem?_eq_none (by simpa using q)] at hj
          cases hj
      rw [List.getElem?_range hjl] at hj
      obtain rfl := Option.some.inj hj
      exact (hf j hjl).2
    · intro y hy
      obtain ⟨j, hj, rfl⟩ := List.mem_map.1 hy
      exact (hf j (List.mem_range.1 hj)).1
theorem opens_slice {α : Type} [Inhabited α] {d : Kd α} {Q : α → Prop} {P : Program} {t e : TypeId} (ht : P.underlying t = some (.slice e)) (hc : P.cellsOf e = d.sz) (n : Nat) (he : ∀ m, m < n → Opens d Q P e m) (e' : Nat) :
    Opens (Kd.slice e' d) (fun xs => ∀ a ∈ xs, Q a) P t n := by
  intro H enc w base spare held cs x h
  obtain ⟨A, c, xs, rfl, h1, h2, h3⟩ := opens_row ht hc n he h
  exact ⟨xs, ⟨A, c, rfl, h1, h2⟩, h3⟩
theorem wf_i64 {n : Int} (h : (Lit.int .i64 n).wf = true) : -9223372036854775808 ≤ n ∧ n ≤ 9223372036854775807 := by
  simp [Lit.wf, IntKind.min, IntKind.max, IntKind.signed, IntKind.bits] at h
  omega
/-! ### what is read of the arguments -/
theorem re_mk {f0 f1 : Int} {f2 : ByteArray} {f3 : List S31} (h : R64 f1) (q : ∀ x ∈ f3, ∀ j, RE j x) : ∀ j, RE j ⟨f0, f1, f2, f3⟩
  | 0 => trivial
  | j + 1 => ⟨h, fun x hx => q x hx j⟩
theorem rc_mk {f0 f1 : Int} {f2 : ByteArray} {f3 : Int} {f4 : List S26} (h : R64 f1) (h3 : R64 f3) (q : ∀ x ∈ f4, ∀ j, RC j x) : ∀ j, RC j ⟨f0, f1, f2, f3, f4⟩
  | 0 => trivial
  | j + 1 => ⟨h, h3, fun x hx => q x hx j⟩
/-- What is known of a statement's numbers. -/
def QS (s : S45) : Prop := (∀ x ∈ s.f4, ∀ j, RE j x) ∧ ∀ j, RS j s.f5 ∧ RS j s.f6
theorem rs_of {l : List S45} (h : ∀ s ∈ l, QS s) : ∀ j, RS j l
  | 0 => trivial
  | j + 1 => fun s hs => ⟨fun x hx => (h s hs).1 x hx 13, (h s hs).2 j⟩
instance : Inhabited S31 := ⟨z31⟩
theorem opens_expr : ∀ n, Opens k31 (fun e => ∀ j, RE j e) Tryd.prog 31 n := by
  intro n
  induction n using Nat.strongRecOn with
  | _ n ih =>
    intro H enc w base spare held cs x h
    obtain ⟨xs, m, rfl, _, hl, hlen, hf⟩ := DataW.trod_struct Tryd.underlying31 h
    have hc : Tryd.prog.cellsOf 31 = 4 := by kernel_rfl
    rw [hc] at hl
    obtain ⟨c0, c1, c2, c3, rfl⟩ : ∃ c0 c1 c2 c3, cs = [c0, c1, c2, c3] := by
      match cs, hl with
      | [c0, c1, c2, c3], _ => exact ⟨c0, c1, c2, c3, rfl⟩
    have g0 : DataW.trod enc Tryd.prog w base spare held m 3 (List.take (Tryd.prog.cellsOf 3) (List.drop 0 [c0, c1, c2, c3])) = xs[0]? := hf 0 _ rfl
    have g1 : DataW.trod enc Tryd.prog w base spare held m 3 (List.take (Tryd.prog.cellsOf 3) (List.drop 1 [c0, c1, c2, c3])) = xs[1]? := hf 1 _ rfl
    have g2 : DataW.trod enc Tryd.prog w base spare held m 9 (List.take (Tryd.prog.cellsOf 9) (List.drop 2 [c0, c1, c2, c3])) = xs[2]? := hf 2 _ rfl
    have g3 : DataW.trod enc Tryd.prog w base spare held m 29 (List.take (Tryd.prog.cellsOf 29) (List.drop 3 [c0, c1, c2, c3])) = xs[3]? := hf 3 _ rfl
    rw [List.getElem?_eq_getElem (by rw [hlen]; decide)] at g0 g1 g2 g3
    have d3 : Tryd.prog.cellsOf 3 = 1 := by kernel_rfl
    have d9 : Tryd.prog.cellsOf 9 = 1 := by kernel_rfl
    have d29 : Tryd.prog.cellsOf 29 = 1 := by kernel_rfl
    simp only [d3, d9, d29, List.drop_zero, List.drop_succ_cons, List.take_succ_cons, List.take_zero] at g0 g1 g2 g3
    obtain ⟨f0, e0, _, w0⟩ := DataW.trod_int Tryd.underlying3 g0
    obtain ⟨f1, e1, _, w1⟩ := DataW.trod_int Tryd.underlying3 g1
    obtain ⟨f2, e2, _, _⟩ := DataW.trod_string Tryd.underlying9 g2
    obtain ⟨A3, b3, f3, e3, h3, i3, q3⟩ := opens_row (d := k31) (Q := (fun e => ∀ j, RE j e)) Tryd.underlying29 (by rw [hc]; rfl) m (fun q hq => ih q (by omega)) g3
    obtain rfl := List.singleton_inj.1 e0
    obtain rfl := List.singleton_inj.1 e1
    obtain rfl := List.singleton_inj.1 e2
    obtain rfl := List.singleton_inj.1 e3
    exact ⟨⟨f0, f1, f2, f3⟩, k31_mk w ⟨f0, f1, f2, f3⟩ h3 i3, re_mk (wf_i64 w1) q3⟩
instance : Inhabited S26 := ⟨z26⟩
theorem opens_cond : ∀ n, Opens k26 (fun e => ∀ j, RC j e) Tryd.prog 26 n := by
  intro n
  induction n using Nat.strongRecOn with
  | _ n ih =>
    intro H enc w base spare held cs x h
    obtain ⟨xs, m, rfl, _, hl, hlen, hf⟩ := DataW.trod_struct Tryd.underlying26 h
    have hc : Tryd.prog.cellsOf 26 = 5 := by kernel_rfl
    rw [hc] at hl
    obtain ⟨c0, c1, c2, c3, c4, rfl⟩ : ∃ c0 c1 c2 c3 c4, cs = [c0, c1, c2, c3, c4] := by
      match cs, hl with
      | [c0, c1, c2, c3, c4], _ => exact ⟨c0, c1, c2, c3, c4, rfl⟩
    have g0 : DataW.trod enc Tryd.prog w base spare held m 3 (List.take (Tryd.prog.cellsOf 3) (List.drop 0 [c0, c1, c2, c3, c4])) = xs[0]? := hf 0 _ rfl
    have g1 : DataW.trod enc Tryd.prog w base spare held m 3 (List.take (Tryd.prog.cellsOf 3) (List.drop 1 [c0, c1, c2, c3, c4])) = xs[1]? := hf 1 _ rfl
    have g2 : DataW.trod enc Tryd.prog w base spare held m 9 (List.take (Tryd.prog.cellsOf 9) (List.drop 2 [c0, c1, c2, c3, c4])) = xs[2]? := hf 2 _ rfl
    have g3 : DataW.trod enc Tryd.prog w base spare held m 3 (List.take (Tryd.prog.cellsOf 3) (List.drop 3 [c0, c1, c2, c3, c4])) = xs[3]? := hf 3 _ rfl
    have g4 : DataW.trod enc Tryd.prog w base spare held m 24 (List.take (Tryd.prog.cellsOf 24) (List.drop 4 [c0, c1, c2, c3, c4])) = xs[4]? := hf 4 _ rfl
    rw [List.getElem?_eq_getElem (by rw [hlen]; decide)] at g0 g1 g2 g3 g4
    have d3 : Tryd.prog.cellsOf 3 = 1 := by kernel_rfl
    have d9 : Tryd.prog.cellsOf 9 = 1 := by kernel_rfl
    have d24 : Tryd.prog.cellsOf 24 = 1 := by kernel_rfl
    simp only [d3, d9, d24, List.drop_zero, List.drop_succ_cons, List.take_succ_cons, List.take_zero] at g0 g1 g2 g3 g4
    obtain ⟨f0, e0, _, w0⟩ := DataW.trod_int Tryd.underlying3 g0
    obtain ⟨f1, e1, _, w1⟩ := DataW.trod_int Tryd.underlying3 g1
    obtain ⟨f2, e2, _, _⟩ := DataW.trod_string Tryd.underlying9 g2
    obtain ⟨f3, e3, _, w3⟩ := DataW.trod_int Tryd.underlying3 g3
    obtain ⟨A4, b4, f4, e4, h4, i4, q4⟩ := opens_row (d := k26) (Q := (fun e => ∀ j, RC j e)) Tryd.underlying24 (by rw [hc]; rfl) m (fun q hq => ih q (by omega)) g4
    obtain rfl := List.singleton_inj.1 e0
    obtain rfl := List.singleton_inj.1 e1
    obtain rfl := List.singleton_inj.1 e2
    obtain rfl := List.singleton_inj.1 e3
    obtain rfl := List.singleton_inj.1 e4
    exact ⟨⟨f0, f1, f2, f3, f4⟩, k26_mk w ⟨f0, f1, f2, f3, f4⟩ h4 i4, rc_mk (wf_i64 w1) (wf_i64 w3) q4⟩
instance : Inhabited S45 := ⟨z45⟩
theorem opens_stmt : ∀ n, Opens k45 QS Tryd.prog 45 n := by
  intro n
  induction n using Nat.strongRecOn with
  | _ n ih =>
    intro H enc w base spare held cs x h
    obtain ⟨xs, m, rfl, _, hl, hlen, hf⟩ := DataW.trod_struct Tryd.underlying45 h
    have hc : Tryd.prog.cellsOf 45 = 7 := by kernel_rfl
    rw [hc] at hl
    obtain ⟨c0, c1, c2, c3, c4, c5, c6, rfl⟩ : ∃ c0 c1 c2 c3 c4 c5 c6, cs = [c0, c1, c2, c3, c4, c5, c6] := by
      match cs, hl with
      | [c0, c1, c2, c3, c4, c5, c6], _ => exact ⟨c0, c1, c2, c3, c4, c5, c6, rfl⟩
    have g0 : DataW.trod enc Tryd.prog w base spare held m 3 (List.take (Tryd.prog.cellsOf 3) (List.drop 0 [c0, c1, c2, c3, c4, c5, c6])) = xs[0]? := hf 0 _ rfl
    have g1 : DataW.trod enc Tryd.prog w base spare held m 3 (List.take (Tryd.prog.cellsOf 3) (List.drop 1 [c0, c1, c2, c3, c4, c5, c6])) = xs[1]? := hf 1 _ rfl
    have g2 : DataW.trod enc Tryd.prog w base spare held m 9 (List.take (Tryd.prog.cellsOf 9) (List.drop 2 [c0, c1, c2, c3, c4, c5, c6])) = xs[2]? := hf 2 _ rfl
    have g3 : DataW.trod enc Tryd.prog w base spare held m 9 (List.take (Tryd.prog.cellsOf 9) (List.drop 3 [c0, c1, c2, c3, c4, c5, c6])) = xs[3]? := hf 3 _ rfl
    have g4 : DataW.trod enc Tryd.prog w base spare held m 29 (List.take (Tryd.prog.cellsOf 29) (List.drop 4 [c0, c1, c2, c3, c4, c5, c6])) = xs[4]? := hf 4 _ rfl
    have g5 : DataW.trod enc Tryd.prog w base spare held m 43 (List.take (Tryd.prog.cellsOf 43) (List.drop 5 [c0, c1, c2, c3, c4, c5, c6])) = xs[5]? := hf 5 _ rfl
    have g6 : DataW.trod enc Tryd.prog w base spare held m 43 (List.take (Tryd.prog.cellsOf 43) (List.drop 6 [c0, c1, c2, c3, c4, c5, c6])) = xs[6]? := hf 6 _ rfl
    rw [List.getElem?_eq_getElem (by rw [hlen]; decide)] at g0 g1 g2 g3 g4 g5 g6
    have d3 : Tryd.prog.cellsOf 3 = 1 := by kernel_rfl
    have d9 : Tryd.prog.cellsOf 9 = 1 := by kernel_rfl
    have d29 : Tryd.prog.cellsOf 29 = 1 := by kernel_rfl
    have d43 : Tryd.prog.cellsOf 43 = 1 := by kernel_rfl
    simp only [d3, d9, d29, d43, List.drop_zero, List.drop_succ_cons, List.take_succ_cons, List.take_zero] at g0 g1 g2 g3 g4 g5 g6
    obtain ⟨f0, e0, _, w0⟩ := DataW.trod_int Tryd.underlying3 g0
    obtain ⟨f1, e1, _, w1⟩ := DataW.trod_int Tryd.underlying3 g1
    obtain ⟨f2, e2, _, _⟩ := DataW.trod_string Tryd.underlying9 g2
    obtain ⟨f3, e3, _, _⟩ := DataW.trod_string Tryd.underlying9 g3
    obtain ⟨A4, b4, f4, e4, h4, i4, q4⟩ := opens_row (d := k31) (Q := (fun e => ∀ j, RE j e)) Tryd.underlying29 (by kernel_rfl) m (fun q hq => opens_expr q) g4
    obtain ⟨A5, b5, f5, e5, h5, i5, q5⟩ := opens_row (d := k45) (Q := QS) Tryd.underlying43 (by rw [hc]; rfl) m (fun q hq => ih q (by omega)) g5
    obtain ⟨A6, b6, f6, e6, h6, i6, q6⟩ := opens_row (d := k45) (Q := QS) Tryd.underlying43 (by rw [hc]; rfl) m (fun q hq => ih q (by omega)) g6
    obtain rfl := List.singleton_inj.1 e0
    obtain rfl := List.singleton_inj.1 e1
    obtain rfl := List.singleton_inj.1 e2
    obtain rfl := List.singleton_inj.1 e3
    obtain rfl := List.singleton_inj.1 e4
    obtain rfl := List.singleton_inj.1 e5
    obtain rfl := List.singleton_inj.1 e6
    exact ⟨⟨f0, f1, f2, f3, f4, f5, f6⟩, k45_mk w ⟨f0, f1, f2, f3, f4, f5, f6⟩ h4 i4 h5 i5 h6 i6, ⟨q4, fun j => ⟨rs_of q5 j, rs_of q6 j⟩⟩⟩
instance : Inhabited S42 := ⟨z42⟩
theorem opens_cell : ∀ n, Opens k42 (fun x => R64 x.f1) Tryd.prog 42 n := by
  intro n
  intro H enc w base spare held cs x h
  obtain ⟨xs, m, rfl, _, hl, hlen, hf⟩ := DataW.trod_struct Tryd.underlying42 h
  have hc : Tryd.prog.cellsOf 42 = 2 := by kernel_rfl
  rw [hc] at hl
  obtain ⟨c0, c1, rfl⟩ : ∃ c0 c1, cs = [c0, c1] := by
    match cs, hl with
    | [c0, c1], _ => exact ⟨c0, c1, rfl⟩
  have g0 : DataW.trod enc Tryd.prog w base spare held m 9 (List.take (Tryd.prog.cellsOf 9) (List.drop 0 [c0, c1])) = xs[0]? := hf 0 _ rfl
  have g1 : DataW.trod enc Tryd.prog w base spare held m 3 (List.take (Tryd.prog.cellsOf 3) (List.drop 1 [c0, c1])) = xs[1]? := hf 1 _ rfl
  rw [List.getElem?_eq_getElem (by rw [hlen]; decide)] at g0 g1
  have d3 : Tryd.prog.cellsOf 3 = 1 := by kernel_rfl
  have d9 : Tryd.prog.cellsOf 9 = 1 := by kernel_rfl
  simp only [d3, d9, List.drop_zero, List.drop_succ_cons, List.take_succ_cons, List.take_zero] at g0 g1
  obtain ⟨f0, e0, _, _⟩ := DataW.trod_string Tryd.underlying9 g0
  obtain ⟨f1, e1, _, w1⟩ := DataW.trod_int Tryd.underlying3 g1
  obtain rfl := List.singleton_inj.1 e0
  obtain rfl := List.singleton_inj.1 e1
  exact ⟨⟨f0, f1⟩, k42_mk w ⟨f0, f1⟩ , wf_i64 w1⟩
theorem open_expr {H : Type} {enc : TypeId × Value → H} {w : World} {base : Nat} {spare : Nat → Bool} {held : Bool} {r : Reach} {b0 : Nat} {v : Value} {y : DataW H} {ps : List MemPlace} (hv : Value.okWide Tryd.prog w r b0 31 v) (h : DataW.Trod enc Tryd.prog w base spare held 31 v y ps) :
    ∃ (x : S31) (A : Option Addr) (c : Nat), v = .agg #[.int .i64 x.f0, .int .i64 x.f1, .string x.f2, .slice A x.f3.length c] ∧ x.f3.length ≤ c ∧ k31.C w A x.f3.length x.f3 ∧ (fun e => ∀ j, RE j e) x := by
  obtain ⟨cs, rfl, hs⟩ := Go.WideShapes.okWide_struct Tryd.underlying31 hv
  obtain ⟨n, hn⟩ := h
  obtain ⟨x, hx, q⟩ := opens_expr n hn
  obtain ⟨A, c, e, h1, h2⟩ := k31_open hx
  refine ⟨x, A, c, ?_, h1, h2, q⟩
  congr 1
  apply Array.ext'
  simpa [Value.cells] using e
theorem open_cond {H : Type} {enc : TypeId × Value → H} {w : World} {base : Nat} {spare : Nat → Bool} {held : Bool} {r : Reach} {b0 : Nat} {v : Value} {y : DataW H} {ps : List MemPlace} (hv : Value.okWide Tryd.prog w r b0 26 v) (h : DataW.Trod enc Tryd.prog w base spare held 26 v y ps) :
    ∃ (x : S26) (A : Option Addr) (c : Nat), v = .agg #[.int .i64 x.f0, .int .i64 x.f1, .string x.f2, .int .i64 x.f3, .slice A x.f4.length c] ∧ x.f4.length ≤ c ∧ k26.C w A x.f4.length x.f4 ∧ (fun e => ∀ j, RC j e) x := by
  obtain ⟨cs, rfl, hs⟩ := Go.WideShapes.okWide_struct Tryd.underlying26 hv
  obtain ⟨n, hn⟩ := h
  obtain ⟨x, hx, q⟩ := opens_cond n hn
  obtain ⟨A, c, e, h1, h2⟩ := k26_open hx
  refine ⟨x, A, c, ?_, h1, h2, q⟩
  congr 1
  apply Array.ext'
  simpa [Value.cells] using e
theorem opens_stmts (n : Nat) : Opens (Kd.slice 45 k45) (fun l => ∀ s ∈ l, QS s) Tryd.prog 43 n :=
  opens_slice Tryd.underlying43 (by kernel_rfl) n (fun m _ => opens_stmt m) 45
theorem open_prog {H : Type} {enc : TypeId × Value → H} {w : World} {base : Nat} {spare : Nat → Bool} {held : Bool} {r : Reach} {b0 : Nat} {v : Value} {y : DataW H} {ps : List MemPlace} (hv : Value.okWide Tryd.prog w r b0 28 v) (h : DataW.Trod enc Tryd.prog w base spare held 28 v y ps) :
    ∃ (nm : ByteArray) (vals : Int) (AI : Option Addr) (cI : Nat) (li : List S42) (AT : Option Addr) (cT : Nat) (lt : List (List S45)) (ask : Int) (x : S26) (AC : Option Addr) (cC : Nat), v = .agg #[.string nm, .int .i64 vals, .slice AI li.length cI, .slice AT lt.length cT, .int .i64 ask, .int .i64 x.f0, .int .i64 x.f1, .string x.f2, .int .i64 x.f3, .slice AC x.f4.length cC] ∧
      li.length ≤ cI ∧ k42.C w AI li.length li ∧ lt.length ≤ cT ∧ (Kd.slice 45 k45).C w AT lt.length lt ∧ x.f4.length ≤ cC ∧ k26.C w AC x.f4.length x.f4 ∧ R64 vals ∧ (∀ a ∈ li, R64 a.f1) ∧ (∀ t ∈ lt, ∀ j, RS j t) ∧ ∀ j, RC j x := by
  obtain ⟨cs, rfl, hs⟩ := Go.WideShapes.okWide_struct Tryd.underlying28 hv
  obtain ⟨n, hn⟩ := h
  obtain ⟨zs, m, rfl, _, hl, hlen, hf⟩ := DataW.trod_struct Tryd.underlying28 hn
  have hc : Tryd.prog.cellsOf 28 = 10 := by kernel_rfl
  obtain ⟨c0, c1, c2, c3, c4, c5, c6, c7, c8, c9, rfl⟩ : ∃ c0 c1 c2 c3 c4 c5 c6 c7 c8 c9, cs = #[c0, c1, c2, c3, c4, c5, c6, c7, c8, c9] := by
    rw [hc] at hs
    obtain ⟨l⟩ := cs
    match l, hs with
    | [c0, c1, c2, c3, c4, c5, c6, c7, c8, c9], _ => exact ⟨c0, c1, c2, c3, c4, c5, c6, c7, c8, c9, rfl⟩
  have g0 : DataW.trod enc Tryd.prog w base spare held m 9 (List.take (Tryd.prog.cellsOf 9) (List.drop 0 [c0, c1, c2, c3, c4, c5, c6, c7, c8, c9])) = zs[0]? := hf 0 _ rfl
  have g1 : DataW.trod enc Tryd.prog w base spare held m 3 (List.take (Tryd.prog.cellsOf 3) (List.drop 1 [c0, c1, c2, c3, c4, c5, c6, c7, c8, c9])) = zs[1]? := hf 1 _ rfl
  have g2 : DataW.trod enc Tryd.prog w base spare held m 22 (List.take (Tryd.prog.cellsOf 22) (List.drop 2 [c0, c1, c2, c3, c4, c5, c6, c7, c8, c9])) = zs[2]? := hf 2 _ rfl
  have g3 : DataW.trod enc Tryd.prog w base spare held m 23 (List.take (Tryd.prog.cellsOf 23) (List.drop 3 [c0, c1, c2, c3, c4, c5, c6, c7, c8, c9])) = zs[3]? := hf 3 _ rfl
  have g4 : DataW.trod enc Tryd.prog w base spare held m 3 (List.take (Tryd.prog.cellsOf 3) (List.drop 4 [c0, c1, c2, c3, c4, c5, c6, c7, c8, c9])) = zs[4]? := hf 4 _ rfl
  have g5 : DataW.trod enc Tryd.prog w base spare held m 26 (List.take (Tryd.prog.cellsOf 26) (List.drop 5 [c0, c1, c2, c3, c4, c5, c6, c7, c8, c9])) = zs[5]? := hf 5 _ rfl
  rw [List.getElem?_eq_getElem (by rw [hlen]; decide)] at g0 g1 g2 g3 g4 g5
  have d3 : Tryd.prog.cellsOf 3 = 1 := by kernel_rfl
  have d9 : Tryd.prog.cellsOf 9 = 1 := by kernel_rfl
  have d22 : Tryd.prog.cellsOf 22 = 1 := by kernel_rfl
  have d23 : Tryd.prog.cellsOf 23 = 1 := by kernel_rfl
  have d26 : Tryd.prog.cellsOf 26 = 5 := by kernel_rfl
  simp only [d3, d9, d22, d23, d26, List.drop_zero, List.drop_succ_cons, List.take_succ_cons, List.take_zero] at g0 g1 g2 g3 g4 g5
  obtain ⟨f0, e0, _, _⟩ := DataW.trod_string Tryd.underlying9 g0
  obtain ⟨f1, e1, _, w1⟩ := DataW.trod_int Tryd.underlying3 g1
  obtain ⟨A2, b2, f2, e2, h2, i2, q2⟩ := opens_row (d := k42) (Q := (fun x => R64 x.f1)) Tryd.underlying22 (by kernel_rfl) m (fun q _ => opens_cell q) g2
  obtain ⟨A3, b3, f3, e3, h3, i3, q3⟩ := opens_row (d := Kd.slice 45 k45) (Q := (fun l => ∀ s ∈ l, QS s)) Tryd.underlying23 (by kernel_rfl) m (fun q _ => opens_stmts q) g3
  obtain ⟨f4, e4, _, _⟩ := DataW.trod_int Tryd.underlying3 g4
  obtain ⟨x, hx, q5⟩ := opens_cond m g5
  obtain ⟨A5, b5, e5, h5, i5⟩ := k26_open hx
  obtain rfl := List.singleton_inj.1 e0
  obtain rfl := List.singleton_inj.1 e1
  obtain rfl := List.singleton_inj.1 e2
  obtain rfl := List.singleton_inj.1 e3
  obtain rfl := List.singleton_inj.1 e4
  simp only [List.cons.injEq, and_true] at e5
  obtain ⟨rfl, rfl, rfl, rfl, rfl⟩ := e5
  exact ⟨f0, f1, A2, b2, f2, A3, b3, f3, f4, x, A5, b5, rfl, h2, i2, h3, i3, h5, i5, wf_i64 w1, q2, fun t ht j => rs_of (q3 t ht) j, q5⟩
end Go.Proofs.YtpldhihdlgghlaaDoor.OpenK
