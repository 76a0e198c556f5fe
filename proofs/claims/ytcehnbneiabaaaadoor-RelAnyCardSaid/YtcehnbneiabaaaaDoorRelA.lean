/- The document's functions of relations, two loops each: in both, in either, in one alone, turned about, kept. -/
import Derived.Test.YtcehnbneiabaaaaDoorRelC
import Derived.Test.YtcehnbneiabaaaaDoorBitsR
import Derived.Test.YtcehnbneiabaaaaDoorPRx15
import Derived.Test.YtcehnbneiabaaaaDoorPRx16
import Derived.Test.YtcehnbneiabaaaaDoorPRx17
namespace Go.Proofs.YtcehnbneiabaaaaDoor.PR
open Go.RowKit Go.Proofs.YtcehnbneiabaaaaDoorW.PrintWords Go.Proofs.YtcehnbneiabaaaaDoorW.PrintLast Go.Proofs.YtcehnbneiabaaaaDoorW.PrintMore
set_option linter.unusedVariables false
set_option linter.unusedSimpArgs false

theorem atB_prs {r : List Int} (h : Us r) {x y : Nat} (hx : x < r.length) : atB r (x : Int) (y : Int) = prs r x y := by
  unfold atB prs
  have : decide (0 ≤ (x : Int) ∧ (x : Int) < (r.length : Int)) = true := by simp; omega
  rw [this, hasB_nat (h.at_ _), Bool.true_and]
theorem mem_if {c : Bool} {x y : Nat × Nat} : y ∈ (if c = true then [x] else []) ↔ c = true ∧ y = x := by
  cases c <;> simp
theorem loop2_puts (L0 : Nat → List Int → Int → Option (List Int)) (L1 : Nat → List Int → Int → Int → Option (List Int)) (n : Nat) (hn : n ≤ 64) (c : Nat → Nat → List (Nat × Nat))
    (hc : ∀ x y, x < n → y < n → ∀ v ∈ c x y, v.1 < n ∧ v.2 < 64)
    (h0 : ∀ o x R, x < n → Ev (fun k => L1 k o (x : Int) 0) R → Ev (fun k => L0 k o (x : Int)) R)
    (h00 : ∀ o, Ev (fun k => L0 k o (n : Int)) o)
    (h1 : ∀ o x y R, x < n → y < n → Ok n o → Ev (fun k => L1 k (putsL (c x y) o) (x : Int) ((y + 1 : Nat) : Int)) R → Ev (fun k => L1 k o (x : Int) (y : Int)) R)
    (h2 : ∀ o x R, x < n → Ev (fun k => L0 k o ((x + 1 : Nat) : Int)) R → Ev (fun k => L1 k o (x : Int) (n : Int)) R) :
    Ev (fun k => L0 k (List.replicate n 0) 0) (putsL ((List.range n).flatMap fun x => (List.range n).flatMap (c x)) (List.replicate n 0)) := by
  refine loop_puts0 (fun k o x => L0 k o x) n n (fun x => (List.range n).flatMap (c x)) ?_ ?_ _ _ (Ok.zeros n) (h00 _)
  · intro x hx v hv
    obtain ⟨y, hy, hv⟩ := List.mem_flatMap.mp hv
    exact hc x y hx (List.mem_range.mp hy) v hv
  · intro o x R hx ho h
    refine h0 o x R hx (loop_puts0 (fun k o y => L1 k o (x : Int) y) n n (c x) (fun y hy => hc x y hx hy) (fun o y R hy ho h => h1 o x y R hx hy ho h) o R ho ?_)
    exact h2 _ x R hx h
theorem is_loop2 (n : Nat) (c : Nat → Nat → List (Nat × Nat)) (hc : ∀ x y, x < n → y < n → ∀ v ∈ c x y, v.1 < n ∧ v.2 < 64) (S : Nat → Nat → Bool)
    (hS : ∀ p q, p < n → (S p q = true ↔ ∃ x, x < n ∧ ∃ y, y < n ∧ (p, q) ∈ c x y)) : Is (putsL ((List.range n).flatMap fun x => (List.range n).flatMap (c x)) (List.replicate n 0)) n S := by
  have all := puts_zeros ((List.range n).flatMap fun x => (List.range n).flatMap (c x)) n (fun v hv => by
    obtain ⟨x, hx, hv⟩ := List.mem_flatMap.mp hv
    obtain ⟨y, hy, hv⟩ := List.mem_flatMap.mp hv
    exact hc x y (List.mem_range.mp hx) (List.mem_range.mp hy) v hv)
  refine ⟨all.1, all.2.1, fun p hp q => (all.2.2 p hp q).trans ?_⟩
  rw [Bool.eq_iff_iff, hS p q hp]
  simp only [decide_eq_true_eq, List.mem_flatMap, List.mem_range]
/-! two -/
def two (kind : Int) (p q : Bool) : Bool := if kind = 0 then p && q else if kind = 1 then p || q else p && !q
theorem refTwo_got {a b : List Int} (ha : Us a) (hb : Us b) (kind : Int) (hk : kind = 0 ∨ kind = 1 ∨ kind = 2) : Got (fun k => witheref1_Two.f k a b kind) (both a b) a.length (fun p q => two kind (prs a p q) (prs b p q)) := by
  unfold witheref1_Two.f
  have bad : Ev (fun k => witheref1_Two.j0 k a b kind true) [] := Ev.step (fun k => by simp only [witheref1_Two.j0]; rfl) (ev_if (show true = true from rfl) (Ev.now _))
  cases hc : both a b with
  | false =>
    refine ⟨[], ?_, fun h => (by cases h), fun _ => rfl⟩
    refine Ev.bind (refMay_f ha) (ev_ite (fun h1 => Ev.bind (refMay_f hb) (ev_ite (fun h2 => ?_) (fun _ => bad))) (fun _ => bad))
    have : ((a.length : Int) != (b.length : Int)) = true := by
      simp [both, h1, h2] at hc
      simp
      omega
    rw [this]
    exact bad
  | true =>
    obtain ⟨h1, h2, h3⟩ := (both_iff a b).mp hc
    have hn := may_len h1
    have hcc : ∀ x y, x < a.length → y < a.length → ∀ v ∈ (if two kind (prs a x y) (prs b x y) = true then [(x, y)] else []), v.1 < a.length ∧ v.2 < 64 := by
      intro x y hx hy v hv
      obtain ⟨_, rfl⟩ := mem_if.mp hv
      exact ⟨hx, by show y < 64; omega⟩
    refine ⟨_, Ev.bind (refMay_f ha) (ev_if h1 (Ev.bind (refMay_f hb) (ev_if h2 ?_))), fun _ => is_loop2 a.length (fun x y => if two kind (prs a x y) (prs b x y) = true then [(x, y)] else []) hcc _ ?_, fun h => (by cases h)⟩
    · rw [show ((a.length : Int) != (b.length : Int)) = false by simp; omega]
      refine Ev.step (fun k => by simp only [witheref1_Two.j0]; rfl) (ev_else (show ¬ (false = true) by decide) (ev_if (by omega) (ev_if (by omega) ?_)))
      refine loop2_puts (fun k o x => witheref1_Two.l0 k a b kind o x) (fun k o x y => witheref1_Two.l1 k a b kind o x y) a.length hn _ hcc ?_ ?_ ?_ ?_
      · intro o x R hx h
        exact Ev.step (fun k => by simp only [witheref1_Two.l0]; rfl) (ev_if (by omega) h)
      · intro o
        exact Ev.step (fun k => by simp only [witheref1_Two.l0]; rfl) (ev_else (by omega) (Ev.now _))
      · intro o x y R hx hy ho h
        have ht : two kind (prs a x y) (prs b x y) = true → Ev (fun k => witheref1_Two.l1 k a b kind (o.set ((x : Int)).toNat (bits .or .u64 (rd o (x : Int)) (oneI (y : Int)))) (x : Int) ((y + 1 : Nat) : Int)) R := fun e => by
          rw [if_pos e] at h
          exact h
        have hf : two kind (prs a x y) (prs b x y) = false → Ev (fun k => witheref1_Two.l1 k a b kind o (x : Int) ((y + 1 : Nat) : Int)) R := fun e => by
          rw [if_neg (by rw [e]; decide)] at h
          exact h
        clear h
        have hl := ho.1
        refine Ev.step (fun k => by simp only [witheref1_Two.l1]; rfl) (ev_if (by omega) (ev_bind0 (refAt_f ha _ _) (ev_bind0 (refAt_f hb _ _) ?_)))
        rw [atB_prs ha hx, atB_prs hb (by omega), w64 (by omega) (by omega)]
        rw [show ((y : Int) + 1) = ((y + 1 : Nat) : Int) by omega]
        rcases hk with rfl | rfl | rfl <;> cases e1 : prs a x y <;> cases e2 : prs b x y <;> rw [e1, e2] at ht hf <;>
          repeat (first | exact hf (by decide) | exact Ev.bind (refPut_f (ho.2.at_ _) _) (ht (by decide)) | refine ev_if (by first | decide | omega) ?_ | refine ev_else (by first | decide | omega) ?_)
      · intro o x R hx h
        refine Ev.step (fun k => by simp only [witheref1_Two.l1]; rfl) (ev_else (by omega) ?_)
        rw [w64 (by omega) (by omega)]
        exact h
    · intro p q hp
      constructor
      · intro h
        have hq : q < a.length := by
          by_cases hq : q < a.length
          · exact hq
          · have e1 : prs a p q = false := by
              cases e : prs a p q with
              | false => rfl
              | true => exact absurd (prs_in h1 e).2 hq
            have e2 : prs b p q = false := by
              cases e : prs b p q with
              | false => rfl
              | true => exact absurd (prs_in h2 e).2 (by omega)
            rw [e1, e2] at h
            unfold two at h
            split at h
            · cases h
            · split at h <;> cases h
        exact ⟨p, hp, q, hq, mem_if.mpr ⟨h, rfl⟩⟩
      · rintro ⟨x, hx, y, hy, h⟩
        obtain ⟨h, e⟩ := mem_if.mp h
        cases e
        exact h
theorem refBack_got {a : List Int} (ha : Us a) : Got (fun k => witheref1_Back.f k a) (mayB a) a.length (fun p q => prs a q p) := by
  unfold witheref1_Back.f
  cases hc : mayB a with
  | false => exact ⟨[], Ev.bind (refMay_f ha) (ev_else (by rw [hc]; simp) (Ev.now _)), fun h => (by cases h), fun _ => rfl⟩
  | true =>
    have hn := may_len hc
    have hcc : ∀ x y, x < a.length → y < a.length → ∀ v ∈ (if prs a x y = true then [(y, x)] else []), v.1 < a.length ∧ v.2 < 64 := by
      intro x y hx hy v hv
      obtain ⟨_, rfl⟩ := mem_if.mp hv
      exact ⟨hy, by show x < 64; omega⟩
    refine ⟨_, Ev.bind (refMay_f ha) (ev_if hc (ev_if (by omega) (ev_if (by omega) ?_))), fun _ => is_loop2 a.length (fun x y => if prs a x y = true then [(y, x)] else []) hcc _ ?_, fun h => (by cases h)⟩
    · refine loop2_puts (fun k o x => witheref1_Back.l0 k a o x) (fun k o x y => witheref1_Back.l1 k a o x y) a.length hn _ hcc ?_ ?_ ?_ ?_
      · intro o x R hx h
        exact Ev.step (fun k => by simp only [witheref1_Back.l0]; rfl) (ev_if (by omega) h)
      · intro o
        exact Ev.step (fun k => by simp only [witheref1_Back.l0]; rfl) (ev_else (by omega) (Ev.now _))
      · intro o x y R hx hy ho h
        have hl := ho.1
        refine Ev.step (fun k => by simp only [witheref1_Back.l1]; rfl) (ev_if (by omega) (ev_bind0 (refAt_f ha _ _) ?_))
        rw [atB_prs ha hx, w64 (by omega) (by omega)]
        cases e1 : prs a x y with
        | false =>
          rw [if_neg (by rw [e1]; simp)] at h
          exact ev_else (by decide) h
        | true =>
          rw [if_pos e1] at h
          exact ev_if rfl (ev_if (by omega) (ev_if (by omega) (Ev.bind (refPut_f (ho.2.at_ _) _) h)))
      · intro o x R hx h
        refine Ev.step (fun k => by simp only [witheref1_Back.l1]; rfl) (ev_else (by omega) ?_)
        rw [w64 (by omega) (by omega)]
        exact h
    · intro p q hp
      constructor
      · intro h
        exact ⟨q, (prs_in hc h).1, p, hp, mem_if.mpr ⟨h, rfl⟩⟩
      · rintro ⟨x, hx, y, hy, h⟩
        obtain ⟨h, e⟩ := mem_if.mp h
        cases e
        exact h
theorem refKeep_got {a : List Int} (ha : Us a) {s : Int} (hs : U s) : Got (fun k => witheref1_Keep.f k a s) (mayB a) a.length (fun p q => prs a p q && (tb s p && tb s q)) := by
  unfold witheref1_Keep.f
  cases hc : mayB a with
  | false => exact ⟨[], Ev.bind (refMay_f ha) (ev_else (by rw [hc]; simp) (Ev.now _)), fun h => (by cases h), fun _ => rfl⟩
  | true =>
    have hn := may_len hc
    have hcc : ∀ x y, x < a.length → y < a.length → ∀ v ∈ (if (prs a x y && (tb s x && tb s y)) = true then [(x, y)] else []), v.1 < a.length ∧ v.2 < 64 := by
      intro x y hx hy v hv
      obtain ⟨_, rfl⟩ := mem_if.mp hv
      exact ⟨hx, by show y < 64; omega⟩
    refine ⟨_, Ev.bind (refMay_f ha) (ev_if hc (ev_if (by omega) (ev_if (by omega) ?_))), fun _ => is_loop2 a.length (fun x y => if (prs a x y && (tb s x && tb s y)) = true then [(x, y)] else []) hcc _ ?_, fun h => (by cases h)⟩
    · refine loop2_puts (fun k o x => witheref1_Keep.l0 k a s o x) (fun k o x y => witheref1_Keep.l1 k a s o x y) a.length hn _ hcc ?_ ?_ ?_ ?_
      · intro o x R hx h
        exact Ev.step (fun k => by simp only [witheref1_Keep.l0]; rfl) (ev_if (by omega) h)
      · intro o
        exact Ev.step (fun k => by simp only [witheref1_Keep.l0]; rfl) (ev_else (by omega) (Ev.now _))
      · intro o x y R hx hy ho h
        have hl := ho.1
        refine Ev.step (fun k => by simp only [witheref1_Keep.l1]; rfl) (ev_if (by omega) (ev_bind0 (refAt_f ha _ _) ?_))
        rw [atB_prs ha hx, w64 (by omega) (by omega)]
        cases e1 : prs a x y with
        | false =>
          rw [if_neg (by rw [e1]; simp)] at h
          exact ev_else (by decide) h
        | true =>
          refine ev_if rfl (ev_bind0 (refHas_f hs _) ?_)
          rw [hasB_nat hs]
          cases e2 : tb s x with
          | false =>
            rw [if_neg (by rw [e1, e2]; simp)] at h
            exact ev_else (by decide) h
          | true =>
            refine ev_if rfl (ev_bind0 (refHas_f hs _) ?_)
            rw [hasB_nat hs]
            cases e3 : tb s y with
            | false =>
              rw [if_neg (by rw [e1, e2, e3]; simp)] at h
              exact ev_else (by decide) h
            | true =>
              rw [if_pos (by rw [e1, e2, e3]; simp)] at h
              exact ev_if rfl (ev_if (by omega) (ev_if (by omega) (Ev.bind (refPut_f (ho.2.at_ _) _) h)))
      · intro o x R hx h
        refine Ev.step (fun k => by simp only [witheref1_Keep.l1]; rfl) (ev_else (by omega) ?_)
        rw [w64 (by omega) (by omega)]
        exact h
    · intro p q hp
      constructor
      · intro h
        exact ⟨p, hp, q, (prs_in hc ((Bool.and_eq_true _ _).mp h).1).2, mem_if.mpr ⟨h, rfl⟩⟩
      · rintro ⟨x, hx, y, hy, h⟩
        obtain ⟨h, e⟩ := mem_if.mp h
        cases e
        exact h
end Go.Proofs.YtcehnbneiabaaaaDoor.PR
