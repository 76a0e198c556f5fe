/- The tree that begun makes, cell by cell; the looker's small functions (lts): walked by hand. -/
import Derived.Test.YtlpdcdkjmcpfdaaDoorTL
import Derived.Test.YtlpdcdkjmcpfdaaDoorTM
namespace Go.Proofs.YtlpdcdkjmcpfdaaDoor.PT
open Go.RowKit Go.Proofs.YtlpdcdkjmcpfdaaDoorW.PrintWords Go.Proofs.YtlpdcdkjmcpfdaaDoorW.PrintLast Go.Proofs.YtlpdcdkjmcpfdaaDoorW.PrintMore
set_option linter.unusedVariables false
set_option linter.unusedSimpArgs false
attribute [local go_sem] cell_set_some
/-- The cells of the nodes of the tree that begun makes. -/
structure NC (w : World) (b o : Nat) (B0 : Option Addr) (b0 : Nat) (B1 : Option Addr) (b1 : Nat) (ar2 : Addr) (b2 : Nat) (ar3 : Addr) (b3 : Nat) : Prop where
  n0 : w.cell? ⟨b, o, none⟩ = some (.int .i64 (-1))
  n1 : w.cell? ⟨b, o + 1, none⟩ = some (.int .i64 (-1))
  n2 : w.cell? ⟨b, o + 2, none⟩ = some (.int .i64 3)
  n3 : w.cell? ⟨b, o + 3, none⟩ = some (.int .i64 0)
  n4 : w.cell? ⟨b, o + 4, none⟩ = some (.int .i64 0)
  n5 : w.cell? ⟨b, o + 5, none⟩ = some (.int .i64 0)
  n6 : w.cell? ⟨b, o + 6, none⟩ = some (.bool false)
  n7 : w.cell? ⟨b, o + 7, none⟩ = some (.bool false)
  n8 : w.cell? ⟨b, o + 8, none⟩ = some (.slice B0 0 b0)
  n9 : w.cell? ⟨b, o + 9, none⟩ = some (.int .i64 0)
  n10 : w.cell? ⟨b, o + 10, none⟩ = some (.int .i64 (-1))
  n11 : w.cell? ⟨b, o + 11, none⟩ = some (.int .i64 1)
  n12 : w.cell? ⟨b, o + 12, none⟩ = some (.int .i64 0)
  n13 : w.cell? ⟨b, o + 13, none⟩ = some (.int .i64 0)
  n14 : w.cell? ⟨b, o + 14, none⟩ = some (.int .i64 0)
  n15 : w.cell? ⟨b, o + 15, none⟩ = some (.bool false)
  n16 : w.cell? ⟨b, o + 16, none⟩ = some (.bool false)
  n17 : w.cell? ⟨b, o + 17, none⟩ = some (.slice B1 0 b1)
  n18 : w.cell? ⟨b, o + 18, none⟩ = some (.int .i64 0)
  n19 : w.cell? ⟨b, o + 19, none⟩ = some (.int .i64 1)
  n20 : w.cell? ⟨b, o + 20, none⟩ = some (.int .i64 2)
  n21 : w.cell? ⟨b, o + 21, none⟩ = some (.int .i64 0)
  n22 : w.cell? ⟨b, o + 22, none⟩ = some (.int .i64 4)
  n23 : w.cell? ⟨b, o + 23, none⟩ = some (.int .i64 0)
  n24 : w.cell? ⟨b, o + 24, none⟩ = some (.bool false)
  n25 : w.cell? ⟨b, o + 25, none⟩ = some (.bool true)
  n26 : w.cell? ⟨b, o + 26, none⟩ = some (.slice (some ar2) 1 b2)
  n27 : w.cell? ⟨b, o + 27, none⟩ = some (.int .i64 0)
  n28 : w.cell? ⟨b, o + 28, none⟩ = some (.int .i64 1)
  n29 : w.cell? ⟨b, o + 29, none⟩ = some (.int .i64 2)
  n30 : w.cell? ⟨b, o + 30, none⟩ = some (.int .i64 0)
  n31 : w.cell? ⟨b, o + 31, none⟩ = some (.int .i64 4)
  n32 : w.cell? ⟨b, o + 32, none⟩ = some (.int .i64 1)
  n33 : w.cell? ⟨b, o + 33, none⟩ = some (.bool false)
  n34 : w.cell? ⟨b, o + 34, none⟩ = some (.bool true)
  n35 : w.cell? ⟨b, o + 35, none⟩ = some (.slice (some ar3) 1 b3)
  r2 : w.cell? ar2 = some (.int .i64 0)
  r3 : w.cell? ar3 = some (.int .i64 1)
theorem NC.below {w w1 : World} {b o : Nat} {B0 : Option Addr} {b0 : Nat} {B1 : Option Addr} {b1 : Nat} {ar2 : Addr} {b2 : Nat} {ar3 : Addr} {b3 : Nat} (h : NC w b o B0 b0 B1 b1 ar2 b2 ar3 b3) (hb : Below w.heap.size w w1) : NC w1 b o B0 b0 B1 b1 ar2 b2 ar3 b3 :=
  ⟨cell_below h.n0 hb, cell_below h.n1 hb, cell_below h.n2 hb, cell_below h.n3 hb, cell_below h.n4 hb, cell_below h.n5 hb, cell_below h.n6 hb, cell_below h.n7 hb, cell_below h.n8 hb, cell_below h.n9 hb, cell_below h.n10 hb, cell_below h.n11 hb, cell_below h.n12 hb, cell_below h.n13 hb, cell_below h.n14 hb, cell_below h.n15 hb, cell_below h.n16 hb, cell_below h.n17 hb, cell_below h.n18 hb, cell_below h.n19 hb, cell_below h.n20 hb, cell_below h.n21 hb, cell_below h.n22 hb, cell_below h.n23 hb, cell_below h.n24 hb, cell_below h.n25 hb, cell_below h.n26 hb, cell_below h.n27 hb, cell_below h.n28 hb, cell_below h.n29 hb, cell_below h.n30 hb, cell_below h.n31 hb, cell_below h.n32 hb, cell_below h.n33 hb, cell_below h.n34 hb, cell_below h.n35 hb, cell_below h.r2 hb, cell_below h.r3 hb⟩
theorem spot_of {w : World} {a : Addr} {v : Value} (h : w.cell? a = some v) : a.spot = none := by
  unfold World.cell? at h
  split at h
  · split at h
    · simp at h
    · rename_i hs
      cases e : a.spot with
      | none => rfl
      | some s => simp [e] at hs
  · simp at h
theorem NC.of {w : World} {A : Option Addr} (h : Kd.C k53 w A 4 nodes0) : ∃ b o B0 b0 B1 b1 ar2 b2 ar3 b3, A = some ⟨b, o, none⟩ ∧ NC w b o B0 b0 B1 b1 ar2 b2 ar3 b3 := by
  obtain ⟨ad0, B0, b0, h0, e0_0, e0_1, e0_2, e0_3, e0_4, e0_5, e0_6, e0_7, e0_8, _, g0⟩ := at_T53 h 0 (by decide) (by decide)
  obtain ⟨ad1, B1, b1, h1, e1_0, e1_1, e1_2, e1_3, e1_4, e1_5, e1_6, e1_7, e1_8, _, g1⟩ := at_T53 h 1 (by decide) (by decide)
  obtain ⟨ad2, B2, b2, h2, e2_0, e2_1, e2_2, e2_3, e2_4, e2_5, e2_6, e2_7, e2_8, _, g2⟩ := at_T53 h 2 (by decide) (by decide)
  obtain ⟨ad3, B3, b3, h3, e3_0, e3_1, e3_2, e3_3, e3_4, e3_5, e3_6, e3_7, e3_8, _, g3⟩ := at_T53 h 3 (by decide) (by decide)
  subst h0
  cases h1
  cases h2
  cases h3
  obtain ⟨ar2, cc2, q2, _, hK2, hc2⟩ := Kd.C_get g2 0 0 (by decide) (by decide)
  subst q2
  have hK2_ : cc2 = [.int .i64 0] := hK2
  subst hK2_
  have r2 := hc2 0 _ rfl
  obtain ⟨ar3, cc3, q3, _, hK3, hc3⟩ := Kd.C_get g3 0 0 (by decide) (by decide)
  subst q3
  have hK3_ : cc3 = [.int .i64 1] := hK3
  subst hK3_
  have r3 := hc3 0 _ rfl
  have hs := spot_of (a := ad0) e0_0
  obtain ⟨b, o, s⟩ := ad0
  cases hs
  exact ⟨b, o, B0, b0, B1, b1, ar2, b2, ar3, b3, rfl, e0_0, e0_1, e0_2, e0_3, e0_4, e0_5, e0_6, e0_7, e0_8, e1_0, e1_1, e1_2, e1_3, e1_4, e1_5, e1_6, e1_7, e1_8, e2_0, e2_1, e2_2, e2_3, e2_4, e2_5, e2_6, e2_7, e2_8, e3_0, e3_1, e3_2, e3_3, e3_4, e3_5, e3_6, e3_7, e3_8, r2, r3⟩

end Go.Proofs.YtlpdcdkjmcpfdaaDoor.PT
