import Derived.Test.YtbgcmbnnkigjjaaDoorPPx20
/- PostOrder's region: what is known wherever it stands, whichever of its three calls and three new boxes have been. -/
namespace Go.Proofs.YtbgcmbnnkigjjaaDoor.PP
open Go.RowKit Go.Proofs.YtbgcmbnnkigjjaaDoorW.PrintWords Go.Proofs.YtbgcmbnnkigjjaaDoorW.PrintLast Go.Proofs.YtbgcmbnnkigjjaaDoorW.PrintMore
set_option linter.unusedVariables false
set_option linter.unusedSimpArgs false
structure PJ (w : World) (b1 b2 b3 : Nat) (A1 A2 A3 : Array Value) (z1 z2 : Value) (t1 : List ByteArray) (t2 : List (List ByteArray)) (p1 p2 p3 : List (List Int)) (q1 q2 q3 : List Int) (e1 e2 e3 f1 f2 f3 : Bool) (x1 y1 x2 y2 x3 y3 : Value) (g1 g2 g3 : Nat) (W : World) : Prop where
  r0 : Kd.R Kd.string 9 W w.heap.size (fun _ => True) z1 t1
  n0 : Kd.N (Kd.slice 9 Kd.string) 25 W w.heap.size (fun k => some k ≠ (z1 : Value).ownBlock ∧ (e1 = true → some k ≠ (x1 : Value).ownBlock ∧ some k ≠ (y1 : Value).ownBlock) ∧ (e2 = true → some k ≠ (x2 : Value).ownBlock ∧ some k ≠ (y2 : Value).ownBlock) ∧ (e3 = true → some k ≠ (x3 : Value).ownBlock ∧ some k ≠ (y3 : Value).ownBlock) ∧ k ≠ b1 ∧ k ≠ b2 ∧ k ≠ b3 ∧ (f1 = true → k ≠ g1) ∧ (f2 = true → k ≠ g2) ∧ (f3 = true → k ≠ g3)) z2 t2
  n1 : e1 = true → Kd.N (Kd.slice 3 (Kd.int .i64)) 28 W w.heap.size (fun k => some k ≠ (z1 : Value).ownBlock ∧ some k ≠ (z2 : Value).ownBlock ∧ some k ≠ (y1 : Value).ownBlock ∧ (e2 = true → some k ≠ (x2 : Value).ownBlock ∧ some k ≠ (y2 : Value).ownBlock) ∧ (e3 = true → some k ≠ (x3 : Value).ownBlock ∧ some k ≠ (y3 : Value).ownBlock) ∧ k ≠ b1 ∧ k ≠ b2 ∧ k ≠ b3 ∧ (f1 = true → k ≠ g1) ∧ (f2 = true → k ≠ g2) ∧ (f3 = true → k ≠ g3)) x1 p1
  m1 : e1 = true → Kd.R (Kd.int .i64) 3 W w.heap.size (fun k => (e2 = true → some k ≠ (y2 : Value).ownBlock) ∧ (e3 = true → some k ≠ (y3 : Value).ownBlock)) y1 q1
  k1 : W.heap[b1]? = some (.cells A1 41 (0, 0))
  c1 : f1 = true → W.heap[g1]? = some (.cells #[.slice none 0 0, .slice none 0 0] 30 (0, 0))
  s1 : f1 = true → w.heap.size ≤ g1
  d11 : f1 = true → b1 ≠ g1
  d21 : f1 = true → b2 ≠ g1
  d31 : f1 = true → b3 ≠ g1
  n2 : e2 = true → Kd.N (Kd.slice 3 (Kd.int .i64)) 28 W w.heap.size (fun k => some k ≠ (z1 : Value).ownBlock ∧ some k ≠ (z2 : Value).ownBlock ∧ (e1 = true → some k ≠ (x1 : Value).ownBlock ∧ some k ≠ (y1 : Value).ownBlock) ∧ some k ≠ (y2 : Value).ownBlock ∧ (e3 = true → some k ≠ (x3 : Value).ownBlock ∧ some k ≠ (y3 : Value).ownBlock) ∧ k ≠ b1 ∧ k ≠ b2 ∧ k ≠ b3 ∧ (f1 = true → k ≠ g1) ∧ (f2 = true → k ≠ g2) ∧ (f3 = true → k ≠ g3)) x2 p2
  m2 : e2 = true → Kd.R (Kd.int .i64) 3 W w.heap.size (fun k => (e1 = true → some k ≠ (y1 : Value).ownBlock) ∧ (e3 = true → some k ≠ (y3 : Value).ownBlock)) y2 q2
  k2 : W.heap[b2]? = some (.cells A2 41 (0, 0))
  c2 : f2 = true → W.heap[g2]? = some (.cells #[.slice none 0 0, .slice none 0 0] 30 (0, 0))
  s2 : f2 = true → w.heap.size ≤ g2
  d12 : f2 = true → b1 ≠ g2
  d22 : f2 = true → b2 ≠ g2
  d32 : f2 = true → b3 ≠ g2
  n3 : e3 = true → Kd.N (Kd.slice 3 (Kd.int .i64)) 28 W w.heap.size (fun k => some k ≠ (z1 : Value).ownBlock ∧ some k ≠ (z2 : Value).ownBlock ∧ (e1 = true → some k ≠ (x1 : Value).ownBlock ∧ some k ≠ (y1 : Value).ownBlock) ∧ (e2 = true → some k ≠ (x2 : Value).ownBlock ∧ some k ≠ (y2 : Value).ownBlock) ∧ some k ≠ (y3 : Value).ownBlock ∧ k ≠ b1 ∧ k ≠ b2 ∧ k ≠ b3 ∧ (f1 = true → k ≠ g1) ∧ (f2 = true → k ≠ g2) ∧ (f3 = true → k ≠ g3)) x3 p3
  m3 : e3 = true → Kd.R (Kd.int .i64) 3 W w.heap.size (fun k => (e1 = true → some k ≠ (y1 : Value).ownBlock) ∧ (e2 = true → some k ≠ (y2 : Value).ownBlock)) y3 q3
  k3 : W.heap[b3]? = some (.cells A3 41 (0, 0))
  c3 : f3 = true → W.heap[g3]? = some (.cells #[.slice none 0 0, .slice none 0 0] 30 (0, 0))
  s3 : f3 = true → w.heap.size ≤ g3
  d13 : f3 = true → b1 ≠ g3
  d23 : f3 = true → b2 ≠ g3
  d33 : f3 = true → b3 ≠ g3
  h12 : f1 = true → f2 = true → g1 ≠ g2
  h13 : f1 = true → f3 = true → g1 ≠ g3
  h23 : f2 = true → f3 = true → g2 ≠ g3
  hb : Below w.heap.size w W
variable {w : World} {b1 b2 b3 : Nat} {A1 A2 A3 : Array Value} {z1 z2 : Value} {t1 : List ByteArray} {t2 : List (List ByteArray)} {p1 p2 p3 : List (List Int)} {q1 q2 q3 : List Int} {e1 e2 e3 f1 f2 f3 : Bool} {x1 y1 x2 y2 x3 y3 : Value} {g1 g2 g3 : Nat} {W W1 : World}
theorem PJ.alloc1 {g : Nat} (h : PJ w b1 b2 b3 A1 A2 A3 z1 z2 t1 t2 p1 p2 p3 q1 q2 q3 e1 e2 e3 false f2 f3 x1 y1 x2 y2 x3 y3 g1 g2 g3 W) (hg : g = W.heap.size) (hbox : W1.heap[g]? = some (.cells #[.slice none 0 0, .slice none 0 0] 30 (0, 0))) (hb : Below W.heap.size W W1) : PJ w b1 b2 b3 A1 A2 A3 z1 z2 t1 t2 p1 p2 p3 q1 q2 q3 e1 e2 e3 true f2 f3 x1 y1 x2 y2 x3 y3 g g2 g3 W1 where
  r0 := Kd.R_below h.r0 hb
  n0 := Kd.N_mono (Kd.N_below (Kd.N_elderB (h.n0) g (Nat.le_of_eq hg.symm)) hb) (fun k hk => by obtain ⟨Z1, O1, O2, O3, B1, B2, B3, G1, G2, G3⟩ := hk.1; exact ⟨Z1, O1, O2, O3, B1, B2, B3, fun _ => hk.2, G2, G3⟩)
  n1 := fun a => Kd.N_mono (Kd.N_below (Kd.N_elderB (h.n1 a) g (Nat.le_of_eq hg.symm)) hb) (fun k hk => by obtain ⟨Z1, Z2, Y, O2, O3, B1, B2, B3, G1, G2, G3⟩ := hk.1; exact ⟨Z1, Z2, Y, O2, O3, B1, B2, B3, fun _ => hk.2, G2, G3⟩)
  m1 := fun a => Kd.R_below (h.m1 a) hb
  k1 := blk_below h.k1 hb
  c1 := fun _ => hbox
  s1 := fun _ => by have := below_size h.hb; omega
  d11 := fun _ => by have := blk_lt h.k1; omega
  d21 := fun _ => by have := blk_lt h.k2; omega
  d31 := fun _ => by have := blk_lt h.k3; omega
  n2 := fun a => Kd.N_mono (Kd.N_below (Kd.N_elderB (h.n2 a) g (Nat.le_of_eq hg.symm)) hb) (fun k hk => by obtain ⟨Z1, Z2, O1, Y, O3, B1, B2, B3, G1, G2, G3⟩ := hk.1; exact ⟨Z1, Z2, O1, Y, O3, B1, B2, B3, fun _ => hk.2, G2, G3⟩)
  m2 := fun a => Kd.R_below (h.m2 a) hb
  k2 := blk_below h.k2 hb
  c2 := fun a => blk_below (h.c2 a) hb
  s2 := h.s2
  d12 := h.d12
  d22 := h.d22
  d32 := h.d32
  n3 := fun a => Kd.N_mono (Kd.N_below (Kd.N_elderB (h.n3 a) g (Nat.le_of_eq hg.symm)) hb) (fun k hk => by obtain ⟨Z1, Z2, O1, O2, Y, B1, B2, B3, G1, G2, G3⟩ := hk.1; exact ⟨Z1, Z2, O1, O2, Y, B1, B2, B3, fun _ => hk.2, G2, G3⟩)
  m3 := fun a => Kd.R_below (h.m3 a) hb
  k3 := blk_below h.k3 hb
  c3 := fun a => blk_below (h.c3 a) hb
  s3 := h.s3
  d13 := h.d13
  d23 := h.d23
  d33 := h.d33
  h12 := fun _ u => by have := blk_lt (h.c2 u); omega
  h13 := fun _ u => by have := blk_lt (h.c3 u); omega
  h23 := h.h23
  hb := below_step h.hb hb
theorem PJ.alloc2 {g : Nat} (h : PJ w b1 b2 b3 A1 A2 A3 z1 z2 t1 t2 p1 p2 p3 q1 q2 q3 e1 e2 e3 f1 false f3 x1 y1 x2 y2 x3 y3 g1 g2 g3 W) (hg : g = W.heap.size) (hbox : W1.heap[g]? = some (.cells #[.slice none 0 0, .slice none 0 0] 30 (0, 0))) (hb : Below W.heap.size W W1) : PJ w b1 b2 b3 A1 A2 A3 z1 z2 t1 t2 p1 p2 p3 q1 q2 q3 e1 e2 e3 f1 true f3 x1 y1 x2 y2 x3 y3 g1 g g3 W1 where
  r0 := Kd.R_below h.r0 hb
  n0 := Kd.N_mono (Kd.N_below (Kd.N_elderB (h.n0) g (Nat.le_of_eq hg.symm)) hb) (fun k hk => by obtain ⟨Z1, O1, O2, O3, B1, B2, B3, G1, G2, G3⟩ := hk.1; exact ⟨Z1, O1, O2, O3, B1, B2, B3, G1, fun _ => hk.2, G3⟩)
  n1 := fun a => Kd.N_mono (Kd.N_below (Kd.N_elderB (h.n1 a) g (Nat.le_of_eq hg.symm)) hb) (fun k hk => by obtain ⟨Z1, Z2, Y, O2, O3, B1, B2, B3, G1, G2, G3⟩ := hk.1; exact ⟨Z1, Z2, Y, O2, O3, B1, B2, B3, G1, fun _ => hk.2, G3⟩)
  m1 := fun a => Kd.R_below (h.m1 a) hb
  k1 := blk_below h.k1 hb
  c1 := fun a => blk_below (h.c1 a) hb
  s1 := h.s1
  d11 := h.d11
  d21 := h.d21
  d31 := h.d31
  n2 := fun a => Kd.N_mono (Kd.N_below (Kd.N_elderB (h.n2 a) g (Nat.le_of_eq hg.symm)) hb) (fun k hk => by obtain ⟨Z1, Z2, O1, Y, O3, B1, B2, B3, G1, G2, G3⟩ := hk.1; exact ⟨Z1, Z2, O1, Y, O3, B1, B2, B3, G1, fun _ => hk.2, G3⟩)
  m2 := fun a => Kd.R_below (h.m2 a) hb
  k2 := blk_below h.k2 hb
  c2 := fun _ => hbox
  s2 := fun _ => by have := below_size h.hb; omega
  d12 := fun _ => by have := blk_lt h.k1; omega
  d22 := fun _ => by have := blk_lt h.k2; omega
  d32 := fun _ => by have := blk_lt h.k3; omega
  n3 := fun a => Kd.N_mono (Kd.N_below (Kd.N_elderB (h.n3 a) g (Nat.le_of_eq hg.symm)) hb) (fun k hk => by obtain ⟨Z1, Z2, O1, O2, Y, B1, B2, B3, G1, G2, G3⟩ := hk.1; exact ⟨Z1, Z2, O1, O2, Y, B1, B2, B3, G1, fun _ => hk.2, G3⟩)
  m3 := fun a => Kd.R_below (h.m3 a) hb
  k3 := blk_below h.k3 hb
  c3 := fun a => blk_below (h.c3 a) hb
  s3 := h.s3
  d13 := h.d13
  d23 := h.d23
  d33 := h.d33
  h12 := fun u _ => by have := blk_lt (h.c1 u); omega
  h13 := h.h13
  h23 := fun _ u => by have := blk_lt (h.c3 u); omega
  hb := below_step h.hb hb
theorem PJ.alloc3 {g : Nat} (h : PJ w b1 b2 b3 A1 A2 A3 z1 z2 t1 t2 p1 p2 p3 q1 q2 q3 e1 e2 e3 f1 f2 false x1 y1 x2 y2 x3 y3 g1 g2 g3 W) (hg : g = W.heap.size) (hbox : W1.heap[g]? = some (.cells #[.slice none 0 0, .slice none 0 0] 30 (0, 0))) (hb : Below W.heap.size W W1) : PJ w b1 b2 b3 A1 A2 A3 z1 z2 t1 t2 p1 p2 p3 q1 q2 q3 e1 e2 e3 f1 f2 true x1 y1 x2 y2 x3 y3 g1 g2 g W1 where
  r0 := Kd.R_below h.r0 hb
  n0 := Kd.N_mono (Kd.N_below (Kd.N_elderB (h.n0) g (Nat.le_of_eq hg.symm)) hb) (fun k hk => by obtain ⟨Z1, O1, O2, O3, B1, B2, B3, G1, G2, G3⟩ := hk.1; exact ⟨Z1, O1, O2, O3, B1, B2, B3, G1, G2, fun _ => hk.2⟩)
  n1 := fun a => Kd.N_mono (Kd.N_below (Kd.N_elderB (h.n1 a) g (Nat.le_of_eq hg.symm)) hb) (fun k hk => by obtain ⟨Z1, Z2, Y, O2, O3, B1, B2, B3, G1, G2, G3⟩ := hk.1; exact ⟨Z1, Z2, Y, O2, O3, B1, B2, B3, G1, G2, fun _ => hk.2⟩)
  m1 := fun a => Kd.R_below (h.m1 a) hb
  k1 := blk_below h.k1 hb
  c1 := fun a => blk_below (h.c1 a) hb
  s1 := h.s1
  d11 := h.d11
  d21 := h.d21
  d31 := h.d31
  n2 := fun a => Kd.N_mono (Kd.N_below (Kd.N_elderB (h.n2 a) g (Nat.le_of_eq hg.symm)) hb) (fun k hk => by obtain ⟨Z1, Z2, O1, Y, O3, B1, B2, B3, G1, G2, G3⟩ := hk.1; exact ⟨Z1, Z2, O1, Y, O3, B1, B2, B3, G1, G2, fun _ => hk.2⟩)
  m2 := fun a => Kd.R_below (h.m2 a) hb
  k2 := blk_below h.k2 hb
  c2 := fun a => blk_below (h.c2 a) hb
  s2 := h.s2
  d12 := h.d12
  d22 := h.d22
  d32 := h.d32
  n3 := fun a => Kd.N_mono (Kd.N_below (Kd.N_elderB (h.n3 a) g (Nat.le_of_eq hg.symm)) hb) (fun k hk => by obtain ⟨Z1, Z2, O1, O2, Y, B1, B2, B3, G1, G2, G3⟩ := hk.1; exact ⟨Z1, Z2, O1, O2, Y, B1, B2, B3, G1, G2, fun _ => hk.2⟩)
  m3 := fun a => Kd.R_below (h.m3 a) hb
  k3 := blk_below h.k3 hb
  c3 := fun _ => hbox
  s3 := fun _ => by have := below_size h.hb; omega
  d13 := fun _ => by have := blk_lt h.k1; omega
  d23 := fun _ => by have := blk_lt h.k2; omega
  d33 := fun _ => by have := blk_lt h.k3; omega
  h12 := h.h12
  h13 := fun u _ => by have := blk_lt (h.c1 u); omega
  h23 := fun u _ => by have := blk_lt (h.c2 u); omega
  hb := below_step h.hb hb
theorem PJ.call1 {x y : Value} (h : PJ w b1 b2 b3 A1 A2 A3 z1 z2 t1 t2 p1 p2 p3 q1 q2 q3 false e2 e3 f1 f2 f3 x1 y1 x2 y2 x3 y3 g1 g2 g3 W) (ho0 : Kd.N (Kd.slice 3 (Kd.int .i64)) 28 W1 W.heap.size (fun k_ => (W.heap.size ≤ k_) ∧ some k_ ≠ (y : Value).ownBlock) x p1) (ho1 : Kd.R (Kd.int .i64) 3 W1 W.heap.size (fun k_ => (W.heap.size ≤ k_)) y q1) (hb : Below W.heap.size W W1) : PJ w b1 b2 b3 A1 A2 A3 z1 z2 t1 t2 p1 p2 p3 q1 q2 q3 true e2 e3 f1 f2 f3 x y x2 y2 x3 y3 g1 g2 g3 W1 where
  r0 := Kd.R_below h.r0 hb
  n0 := Kd.N_mono (Kd.N_told (Kd.N_told (Kd.N_old (h.n0) hb) (Kd.N_base ho0)) (Kd.R_base ho1)) (fun k hk => by obtain ⟨Z1, O1, O2, O3, B1, B2, B3, G1, G2, G3⟩ := hk.1.1.1; exact ⟨Z1, fun _ => ⟨hk.1.1.2, hk.1.2⟩, O2, O3, B1, B2, B3, G1, G2, G3⟩)
  n1 := fun _ => Kd.N_lower (Kd.N_mono ho0 (fun k hk => ⟨Kd.fresh' (Kd.R_lt h.r0) k hk.1, Kd.fresh' (Kd.N_lt h.n0) k hk.1, hk.2, fun a => ⟨Kd.fresh' (Kd.N_lt (h.n2 a)) k hk.1, Kd.fresh' (Kd.R_lt (h.m2 a)) k hk.1⟩, fun a => ⟨Kd.fresh' (Kd.N_lt (h.n3 a)) k hk.1, Kd.fresh' (Kd.R_lt (h.m3 a)) k hk.1⟩, Kd.freshB h.k1 k hk.1, Kd.freshB h.k2 k hk.1, Kd.freshB h.k3 k hk.1, fun a => Kd.freshB (h.c1 a) k hk.1, fun a => Kd.freshB (h.c2 a) k hk.1, fun a => Kd.freshB (h.c3 a) k hk.1⟩)) (below_size h.hb)
  m1 := fun _ => Kd.R_lower (Kd.R_mono ho1 (fun k hk => ⟨fun a => Kd.fresh' (Kd.R_lt (h.m2 a)) k hk, fun a => Kd.fresh' (Kd.R_lt (h.m3 a)) k hk⟩)) (below_size h.hb)
  k1 := blk_below h.k1 hb
  c1 := fun a => blk_below (h.c1 a) hb
  s1 := h.s1
  d11 := h.d11
  d21 := h.d21
  d31 := h.d31
  n2 := fun a => Kd.N_mono (Kd.N_told (Kd.N_told (Kd.N_old (h.n2 a) hb) (Kd.N_base ho0)) (Kd.R_base ho1)) (fun k hk => by obtain ⟨Z1, Z2, O1, Y, O3, B1, B2, B3, G1, G2, G3⟩ := hk.1.1.1; exact ⟨Z1, Z2, fun _ => ⟨hk.1.1.2, hk.1.2⟩, Y, O3, B1, B2, B3, G1, G2, G3⟩)
  m2 := fun a => Kd.R_mono (Kd.R_told (Kd.R_old (h.m2 a) hb) (Kd.R_base ho1)) (fun k hk => by obtain ⟨O0, O2⟩ := hk.1.1; exact ⟨fun _ => hk.1.2, O2⟩)
  k2 := blk_below h.k2 hb
  c2 := fun a => blk_below (h.c2 a) hb
  s2 := h.s2
  d12 := h.d12
  d22 := h.d22
  d32 := h.d32
  n3 := fun a => Kd.N_mono (Kd.N_told (Kd.N_told (Kd.N_old (h.n3 a) hb) (Kd.N_base ho0)) (Kd.R_base ho1)) (fun k hk => by obtain ⟨Z1, Z2, O1, O2, Y, B1, B2, B3, G1, G2, G3⟩ := hk.1.1.1; exact ⟨Z1, Z2, fun _ => ⟨hk.1.1.2, hk.1.2⟩, O2, Y, B1, B2, B3, G1, G2, G3⟩)
  m3 := fun a => Kd.R_mono (Kd.R_told (Kd.R_old (h.m3 a) hb) (Kd.R_base ho1)) (fun k hk => by obtain ⟨O0, O1⟩ := hk.1.1; exact ⟨fun _ => hk.1.2, O1⟩)
  k3 := blk_below h.k3 hb
  c3 := fun a => blk_below (h.c3 a) hb
  s3 := h.s3
  d13 := h.d13
  d23 := h.d23
  d33 := h.d33
  h12 := h.h12
  h13 := h.h13
  h23 := h.h23
  hb := below_step h.hb hb
theorem PJ.call2 {x y : Value} (h : PJ w b1 b2 b3 A1 A2 A3 z1 z2 t1 t2 p1 p2 p3 q1 q2 q3 e1 false e3 f1 f2 f3 x1 y1 x2 y2 x3 y3 g1 g2 g3 W) (ho0 : Kd.N (Kd.slice 3 (Kd.int .i64)) 28 W1 W.heap.size (fun k_ => (W.heap.size ≤ k_) ∧ some k_ ≠ (y : Value).ownBlock) x p2) (ho1 : Kd.R (Kd.int .i64) 3 W1 W.heap.size (fun k_ => (W.heap.size ≤ k_)) y q2) (hb : Below W.heap.size W W1) : PJ w b1 b2 b3 A1 A2 A3 z1 z2 t1 t2 p1 p2 p3 q1 q2 q3 e1 true e3 f1 f2 f3 x1 y1 x y x3 y3 g1 g2 g3 W1 where
  r0 := Kd.R_below h.r0 hb
  n0 := Kd.N_mono (Kd.N_told (Kd.N_told (Kd.N_old (h.n0) hb) (Kd.N_base ho0)) (Kd.R_base ho1)) (fun k hk => by obtain ⟨Z1, O1, O2, O3, B1, B2, B3, G1, G2, G3⟩ := hk.1.1.1; exact ⟨Z1, O1, fun _ => ⟨hk.1.1.2, hk.1.2⟩, O3, B1, B2, B3, G1, G2, G3⟩)
  n1 := fun a => Kd.N_mono (Kd.N_told (Kd.N_told (Kd.N_old (h.n1 a) hb) (Kd.N_base ho0)) (Kd.R_base ho1)) (fun k hk => by obtain ⟨Z1, Z2, Y, O2, O3, B1, B2, B3, G1, G2, G3⟩ := hk.1.1.1; exact ⟨Z1, Z2, Y, fun _ => ⟨hk.1.1.2, hk.1.2⟩, O3, B1, B2, B3, G1, G2, G3⟩)
  m1 := fun a => Kd.R_mono (Kd.R_told (Kd.R_old (h.m1 a) hb) (Kd.R_base ho1)) (fun k hk => by obtain ⟨O1, O2⟩ := hk.1.1; exact ⟨fun _ => hk.1.2, O2⟩)
  k1 := blk_below h.k1 hb
  c1 := fun a => blk_below (h.c1 a) hb
  s1 := h.s1
  d11 := h.d11
  d21 := h.d21
  d31 := h.d31
  n2 := fun _ => Kd.N_lower (Kd.N_mono ho0 (fun k hk => ⟨Kd.fresh' (Kd.R_lt h.r0) k hk.1, Kd.fresh' (Kd.N_lt h.n0) k hk.1, fun a => ⟨Kd.fresh' (Kd.N_lt (h.n1 a)) k hk.1, Kd.fresh' (Kd.R_lt (h.m1 a)) k hk.1⟩, hk.2, fun a => ⟨Kd.fresh' (Kd.N_lt (h.n3 a)) k hk.1, Kd.fresh' (Kd.R_lt (h.m3 a)) k hk.1⟩, Kd.freshB h.k1 k hk.1, Kd.freshB h.k2 k hk.1, Kd.freshB h.k3 k hk.1, fun a => Kd.freshB (h.c1 a) k hk.1, fun a => Kd.freshB (h.c2 a) k hk.1, fun a => Kd.freshB (h.c3 a) k hk.1⟩)) (below_size h.hb)
  m2 := fun _ => Kd.R_lower (Kd.R_mono ho1 (fun k hk => ⟨fun a => Kd.fresh' (Kd.R_lt (h.m1 a)) k hk, fun a => Kd.fresh' (Kd.R_lt (h.m3 a)) k hk⟩)) (below_size h.hb)
  k2 := blk_below h.k2 hb
  c2 := fun a => blk_below (h.c2 a) hb
  s2 := h.s2
  d12 := h.d12
  d22 := h.d22
  d32 := h.d32
  n3 := fun a => Kd.N_mono (Kd.N_told (Kd.N_told (Kd.N_old (h.n3 a) hb) (Kd.N_base ho0)) (Kd.R_base ho1)) (fun k hk => by obtain ⟨Z1, Z2, O1, O2, Y, B1, B2, B3, G1, G2, G3⟩ := hk.1.1.1; exact ⟨Z1, Z2, O1, fun _ => ⟨hk.1.1.2, hk.1.2⟩, Y, B1, B2, B3, G1, G2, G3⟩)
  m3 := fun a => Kd.R_mono (Kd.R_told (Kd.R_old (h.m3 a) hb) (Kd.R_base ho1)) (fun k hk => by obtain ⟨O0, O1⟩ := hk.1.1; exact ⟨O0, fun _ => hk.1.2⟩)
  k3 := blk_below h.k3 hb
  c3 := fun a => blk_below (h.c3 a) hb
  s3 := h.s3
  d13 := h.d13
  d23 := h.d23
  d33 := h.d33
  h12 := h.h12
  h13 := h.h13
  h23 := h.h23
  hb := below_step h.hb hb
theorem PJ.call3 {x y : Value} (h : PJ w b1 b2 b3 A1 A2 A3 z1 z2 t1 t2 p1 p2 p3 q1 q2 q3 e1 e2 false f1 f2 f3 x1 y1 x2 y2 x3 y3 g1 g2 g3 W) (ho0 : Kd.N (Kd.slice 3 (Kd.int .i64)) 28 W1 W.heap.size (fun k_ => (W.heap.size ≤ k_) ∧ some k_ ≠ (y : Value).ownBlock) x p3) (ho1 : Kd.R (Kd.int .i64) 3 W1 W.heap.size (fun k_ => (W.heap.size ≤ k_)) y q3) (hb : Below W.heap.size W W1) : PJ w b1 b2 b3 A1 A2 A3 z1 z2 t1 t2 p1 p2 p3 q1 q2 q3 e1 e2 true f1 f2 f3 x1 y1 x2 y2 x y g1 g2 g3 W1 where
  r0 := Kd.R_below h.r0 hb
  n0 := Kd.N_mono (Kd.N_told (Kd.N_told (Kd.N_old (h.n0) hb) (Kd.N_base ho0)) (Kd.R_base ho1)) (fun k hk => by obtain ⟨Z1, O1, O2, O3, B1, B2, B3, G1, G2, G3⟩ := hk.1.1.1; exact ⟨Z1, O1, O2, fun _ => ⟨hk.1.1.2, hk.1.2⟩, B1, B2, B3, G1, G2, G3⟩)
  n1 := fun a => Kd.N_mono (Kd.N_told (Kd.N_told (Kd.N_old (h.n1 a) hb) (Kd.N_base ho0)) (Kd.R_base ho1)) (fun k hk => by obtain ⟨Z1, Z2, Y, O2, O3, B1, B2, B3, G1, G2, G3⟩ := hk.1.1.1; exact ⟨Z1, Z2, Y, O2, fun _ => ⟨hk.1.1.2, hk.1.2⟩, B1, B2, B3, G1, G2, G3⟩)
  m1 := fun a => Kd.R_mono (Kd.R_told (Kd.R_old (h.m1 a) hb) (Kd.R_base ho1)) (fun k hk => by obtain ⟨O1, O2⟩ := hk.1.1; exact ⟨O1, fun _ => hk.1.2⟩)
  k1 := blk_below h.k1 hb
  c1 := fun a => blk_below (h.c1 a) hb
  s1 := h.s1
  d11 := h.d11
  d21 := h.d21
  d31 := h.d31
  n2 := fun a => Kd.N_mono (Kd.N_told (Kd.N_told (Kd.N_old (h.n2 a) hb) (Kd.N_base ho0)) (Kd.R_base ho1)) (fun k hk => by obtain ⟨Z1, Z2, O1, Y, O3, B1, B2, B3, G1, G2, G3⟩ := hk.1.1.1; exact ⟨Z1, Z2, O1, Y, fun _ => ⟨hk.1.1.2, hk.1.2⟩, B1, B2, B3, G1, G2, G3⟩)
  m2 := fun a => Kd.R_mono (Kd.R_told (Kd.R_old (h.m2 a) hb) (Kd.R_base ho1)) (fun k hk => by obtain ⟨O0, O2⟩ := hk.1.1; exact ⟨O0, fun _ => hk.1.2⟩)
  k2 := blk_below h.k2 hb
  c2 := fun a => blk_below (h.c2 a) hb
  s2 := h.s2
  d12 := h.d12
  d22 := h.d22
  d32 := h.d32
  n3 := fun _ => Kd.N_lower (Kd.N_mono ho0 (fun k hk => ⟨Kd.fresh' (Kd.R_lt h.r0) k hk.1, Kd.fresh' (Kd.N_lt h.n0) k hk.1, fun a => ⟨Kd.fresh' (Kd.N_lt (h.n1 a)) k hk.1, Kd.fresh' (Kd.R_lt (h.m1 a)) k hk.1⟩, fun a => ⟨Kd.fresh' (Kd.N_lt (h.n2 a)) k hk.1, Kd.fresh' (Kd.R_lt (h.m2 a)) k hk.1⟩, hk.2, Kd.freshB h.k1 k hk.1, Kd.freshB h.k2 k hk.1, Kd.freshB h.k3 k hk.1, fun a => Kd.freshB (h.c1 a) k hk.1, fun a => Kd.freshB (h.c2 a) k hk.1, fun a => Kd.freshB (h.c3 a) k hk.1⟩)) (below_size h.hb)
  m3 := fun _ => Kd.R_lower (Kd.R_mono ho1 (fun k hk => ⟨fun a => Kd.fresh' (Kd.R_lt (h.m1 a)) k hk, fun a => Kd.fresh' (Kd.R_lt (h.m2 a)) k hk⟩)) (below_size h.hb)
  k3 := blk_below h.k3 hb
  c3 := fun a => blk_below (h.c3 a) hb
  s3 := h.s3
  d13 := h.d13
  d23 := h.d23
  d33 := h.d33
  h12 := h.h12
  h13 := h.h13
  h23 := h.h23
  hb := below_step h.hb hb
variable {a0_0 a0_1 a0_2 a0_3 a0_4 a0_5 a1_0 a1_1 a1_2 a1_3 a1_4 a1_5 a2_0 a2_1 a2_2 a2_3 a2_4 a2_5 : Int}
theorem PJ.held (h : PJ w b1 b2 b3 #[.int .u8 a0_0, .int .u8 a0_1, .int .u8 a0_2, .int .u8 a0_3, .int .u8 a0_4, .int .u8 a0_5] #[.int .u8 a1_0, .int .u8 a1_1, .int .u8 a1_2, .int .u8 a1_3, .int .u8 a1_4, .int .u8 a1_5] #[.int .u8 a2_0, .int .u8 a2_1, .int .u8 a2_2, .int .u8 a2_3, .int .u8 a2_4, .int .u8 a2_5] z1 z2 t1 t2 p1 p2 p3 q1 q2 q3 e1 e2 e3 f1 f2 f3 x1 y1 x2 y2 x3 y3 g1 g2 g3 W) : W.cell? ⟨b1, 0, none⟩ = some (.int .u8 a0_0) ∧ W.cell? ⟨b1, 1, none⟩ = some (.int .u8 a0_1) ∧ W.cell? ⟨b1, 2, none⟩ = some (.int .u8 a0_2) ∧ W.cell? ⟨b1, 3, none⟩ = some (.int .u8 a0_3) ∧ W.cell? ⟨b1, 4, none⟩ = some (.int .u8 a0_4) ∧ W.cell? ⟨b1, 5, none⟩ = some (.int .u8 a0_5) ∧ W.cell? ⟨b2, 0, none⟩ = some (.int .u8 a1_0) ∧ W.cell? ⟨b2, 1, none⟩ = some (.int .u8 a1_1) ∧ W.cell? ⟨b2, 2, none⟩ = some (.int .u8 a1_2) ∧ W.cell? ⟨b2, 3, none⟩ = some (.int .u8 a1_3) ∧ W.cell? ⟨b2, 4, none⟩ = some (.int .u8 a1_4) ∧ W.cell? ⟨b2, 5, none⟩ = some (.int .u8 a1_5) ∧ W.cell? ⟨b3, 0, none⟩ = some (.int .u8 a2_0) ∧ W.cell? ⟨b3, 1, none⟩ = some (.int .u8 a2_1) ∧ W.cell? ⟨b3, 2, none⟩ = some (.int .u8 a2_2) ∧ W.cell? ⟨b3, 3, none⟩ = some (.int .u8 a2_3) ∧ W.cell? ⟨b3, 4, none⟩ = some (.int .u8 a2_4) ∧ W.cell? ⟨b3, 5, none⟩ = some (.int .u8 a2_5) :=
  ⟨(blk_cell h.k1 0).trans rfl, (blk_cell h.k1 1).trans rfl, (blk_cell h.k1 2).trans rfl, (blk_cell h.k1 3).trans rfl, (blk_cell h.k1 4).trans rfl, (blk_cell h.k1 5).trans rfl, (blk_cell h.k2 0).trans rfl, (blk_cell h.k2 1).trans rfl, (blk_cell h.k2 2).trans rfl, (blk_cell h.k2 3).trans rfl, (blk_cell h.k2 4).trans rfl, (blk_cell h.k2 5).trans rfl, (blk_cell h.k3 0).trans rfl, (blk_cell h.k3 1).trans rfl, (blk_cell h.k3 2).trans rfl, (blk_cell h.k3 3).trans rfl, (blk_cell h.k3 4).trans rfl, (blk_cell h.k3 5).trans rfl⟩
theorem PJ.full (h : PJ w b1 b2 b3 #[.int .u8 a0_0, .int .u8 a0_1, .int .u8 a0_2, .int .u8 a0_3, .int .u8 a0_4, .int .u8 a0_5] #[.int .u8 a1_0, .int .u8 a1_1, .int .u8 a1_2, .int .u8 a1_3, .int .u8 a1_4, .int .u8 a1_5] #[.int .u8 a2_0, .int .u8 a2_1, .int .u8 a2_2, .int .u8 a2_3, .int .u8 a2_4, .int .u8 a2_5] z1 z2 t1 t2 p1 p2 p3 q1 q2 q3 true true true true true true x1 y1 x2 y2 x3 y3 g1 g2 g3 W) : (W.cell? ⟨b1, 0, none⟩ = some (.int .u8 a0_0) ∧ W.cell? ⟨b1, 1, none⟩ = some (.int .u8 a0_1) ∧ W.cell? ⟨b1, 2, none⟩ = some (.int .u8 a0_2) ∧ W.cell? ⟨b1, 3, none⟩ = some (.int .u8 a0_3) ∧ W.cell? ⟨b1, 4, none⟩ = some (.int .u8 a0_4) ∧ W.cell? ⟨b1, 5, none⟩ = some (.int .u8 a0_5) ∧ W.cell? ⟨b2, 0, none⟩ = some (.int .u8 a1_0) ∧ W.cell? ⟨b2, 1, none⟩ = some (.int .u8 a1_1) ∧ W.cell? ⟨b2, 2, none⟩ = some (.int .u8 a1_2) ∧ W.cell? ⟨b2, 3, none⟩ = some (.int .u8 a1_3) ∧ W.cell? ⟨b2, 4, none⟩ = some (.int .u8 a1_4) ∧ W.cell? ⟨b2, 5, none⟩ = some (.int .u8 a1_5) ∧ W.cell? ⟨b3, 0, none⟩ = some (.int .u8 a2_0) ∧ W.cell? ⟨b3, 1, none⟩ = some (.int .u8 a2_1) ∧ W.cell? ⟨b3, 2, none⟩ = some (.int .u8 a2_2) ∧ W.cell? ⟨b3, 3, none⟩ = some (.int .u8 a2_3) ∧ W.cell? ⟨b3, 4, none⟩ = some (.int .u8 a2_4) ∧ W.cell? ⟨b3, 5, none⟩ = some (.int .u8 a2_5)) ∧ (Kd.R Kd.string 9 W w.heap.size (fun _ => True) z1 t1) ∧ (Kd.N (Kd.slice 9 Kd.string) 25 W w.heap.size (fun k_ => some k_ ≠ (z1 : Value).ownBlock ∧ some k_ ≠ (x1 : Value).ownBlock ∧ some k_ ≠ (y1 : Value).ownBlock ∧ some k_ ≠ (x2 : Value).ownBlock ∧ some k_ ≠ (y2 : Value).ownBlock ∧ some k_ ≠ (x3 : Value).ownBlock ∧ some k_ ≠ (y3 : Value).ownBlock ∧ k_ ≠ b1 ∧ k_ ≠ b2 ∧ k_ ≠ b3 ∧ k_ ≠ g1 ∧ k_ ≠ g2 ∧ k_ ≠ g3) z2 t2) ∧ (Kd.N (Kd.slice 3 (Kd.int .i64)) 28 W w.heap.size (fun k_ => some k_ ≠ (z1 : Value).ownBlock ∧ some k_ ≠ (z2 : Value).ownBlock ∧ some k_ ≠ (y1 : Value).ownBlock ∧ some k_ ≠ (x2 : Value).ownBlock ∧ some k_ ≠ (y2 : Value).ownBlock ∧ some k_ ≠ (x3 : Value).ownBlock ∧ some k_ ≠ (y3 : Value).ownBlock ∧ k_ ≠ b1 ∧ k_ ≠ b2 ∧ k_ ≠ b3 ∧ k_ ≠ g1 ∧ k_ ≠ g2 ∧ k_ ≠ g3) x1 p1) ∧ (Kd.R (Kd.int .i64) 3 W w.heap.size (fun k_ => some k_ ≠ (y2 : Value).ownBlock ∧ some k_ ≠ (y3 : Value).ownBlock) y1 q1) ∧ (Kd.N (Kd.slice 3 (Kd.int .i64)) 28 W w.heap.size (fun k_ => some k_ ≠ (z1 : Value).ownBlock ∧ some k_ ≠ (z2 : Value).ownBlock ∧ some k_ ≠ (x1 : Value).ownBlock ∧ some k_ ≠ (y1 : Value).ownBlock ∧ some k_ ≠ (y2 : Value).ownBlock ∧ some k_ ≠ (x3 : Value).ownBlock ∧ some k_ ≠ (y3 : Value).ownBlock ∧ k_ ≠ b1 ∧ k_ ≠ b2 ∧ k_ ≠ b3 ∧ k_ ≠ g1 ∧ k_ ≠ g2 ∧ k_ ≠ g3) x2 p2) ∧ (Kd.R (Kd.int .i64) 3 W w.heap.size (fun k_ => some k_ ≠ (y1 : Value).ownBlock ∧ some k_ ≠ (y3 : Value).ownBlock) y2 q2) ∧ (Kd.N (Kd.slice 3 (Kd.int .i64)) 28 W w.heap.size (fun k_ => some k_ ≠ (z1 : Value).ownBlock ∧ some k_ ≠ (z2 : Value).ownBlock ∧ some k_ ≠ (x1 : Value).ownBlock ∧ some k_ ≠ (y1 : Value).ownBlock ∧ some k_ ≠ (x2 : Value).ownBlock ∧ some k_ ≠ (y2 : Value).ownBlock ∧ some k_ ≠ (y3 : Value).ownBlock ∧ k_ ≠ b1 ∧ k_ ≠ b2 ∧ k_ ≠ b3 ∧ k_ ≠ g1 ∧ k_ ≠ g2 ∧ k_ ≠ g3) x3 p3) ∧ (Kd.R (Kd.int .i64) 3 W w.heap.size (fun k_ => some k_ ≠ (y1 : Value).ownBlock ∧ some k_ ≠ (y2 : Value).ownBlock) y3 q3) ∧ (W.heap[b1]? = some (.cells #[.int .u8 a0_0, .int .u8 a0_1, .int .u8 a0_2, .int .u8 a0_3, .int .u8 a0_4, .int .u8 a0_5] 41 (0, 0))) ∧ (W.heap[b2]? = some (.cells #[.int .u8 a1_0, .int .u8 a1_1, .int .u8 a1_2, .int .u8 a1_3, .int .u8 a1_4, .int .u8 a1_5] 41 (0, 0))) ∧ (W.heap[b3]? = some (.cells #[.int .u8 a2_0, .int .u8 a2_1, .int .u8 a2_2, .int .u8 a2_3, .int .u8 a2_4, .int .u8 a2_5] 41 (0, 0))) ∧ (W.heap[g1]? = some (.cells #[.slice none 0 0, .slice none 0 0] 30 (0, 0))) ∧ (W.heap[g2]? = some (.cells #[.slice none 0 0, .slice none 0 0] 30 (0, 0))) ∧ (W.heap[g3]? = some (.cells #[.slice none 0 0, .slice none 0 0] 30 (0, 0))) ∧ (w.heap.size ≤ g1) ∧ (w.heap.size ≤ g1) ∧ (b1 ≠ g1) ∧ (g1 ≠ b1) ∧ (b2 ≠ g1) ∧ (g1 ≠ b2) ∧ (b3 ≠ g1) ∧ (g1 ≠ b3) ∧ (g2 ≠ g1) ∧ (g1 ≠ g2) ∧ (g3 ≠ g1) ∧ (g1 ≠ g3) ∧ (w.heap.size ≤ g2) ∧ (w.heap.size ≤ g2) ∧ (b1 ≠ g2) ∧ (g2 ≠ b1) ∧ (b2 ≠ g2) ∧ (g2 ≠ b2) ∧ (b3 ≠ g2) ∧ (g2 ≠ b3) ∧ (g3 ≠ g2) ∧ (g2 ≠ g3) ∧ (w.heap.size ≤ g3) ∧ (w.heap.size ≤ g3) ∧ (b1 ≠ g3) ∧ (g3 ≠ b1) ∧ (b2 ≠ g3) ∧ (g3 ≠ b2) ∧ (b3 ≠ g3) ∧ (g3 ≠ b3) ∧ (Below w.heap.size w W) :=
  ⟨h.held,
   h.r0,
   Kd.N_mono h.n0 (fun k hk => by obtain ⟨Z1, O1, O2, O3, B1, B2, B3, G1, G2, G3⟩ := hk; exact ⟨Z1, (O1 rfl).1, (O1 rfl).2, (O2 rfl).1, (O2 rfl).2, (O3 rfl).1, (O3 rfl).2, B1, B2, B3, G1 rfl, G2 rfl, G3 rfl⟩),
   Kd.N_mono (h.n1 rfl) (fun k hk => by obtain ⟨Z1, Z2, Y, O2, O3, B1, B2, B3, G1, G2, G3⟩ := hk; exact ⟨Z1, Z2, Y, (O2 rfl).1, (O2 rfl).2, (O3 rfl).1, (O3 rfl).2, B1, B2, B3, G1 rfl, G2 rfl, G3 rfl⟩),
   Kd.R_mono (h.m1 rfl) (fun k hk => ⟨hk.1 rfl, hk.2 rfl⟩),
   Kd.N_mono (h.n2 rfl) (fun k hk => by obtain ⟨Z1, Z2, O1, Y, O3, B1, B2, B3, G1, G2, G3⟩ := hk; exact ⟨Z1, Z2, (O1 rfl).1, (O1 rfl).2, Y, (O3 rfl).1, (O3 rfl).2, B1, B2, B3, G1 rfl, G2 rfl, G3 rfl⟩),
   Kd.R_mono (h.m2 rfl) (fun k hk => ⟨hk.1 rfl, hk.2 rfl⟩),
   Kd.N_mono (h.n3 rfl) (fun k hk => by obtain ⟨Z1, Z2, O1, O2, Y, B1, B2, B3, G1, G2, G3⟩ := hk; exact ⟨Z1, Z2, (O1 rfl).1, (O1 rfl).2, (O2 rfl).1, (O2 rfl).2, Y, B1, B2, B3, G1 rfl, G2 rfl, G3 rfl⟩),
   Kd.R_mono (h.m3 rfl) (fun k hk => ⟨hk.1 rfl, hk.2 rfl⟩),
   h.k1,
   h.k2,
   h.k3,
   h.c1 rfl,
   h.c2 rfl,
   h.c3 rfl,
   h.s1 rfl,
   h.s1 rfl,
   h.d11 rfl,
   (h.d11 rfl).symm,
   h.d21 rfl,
   (h.d21 rfl).symm,
   h.d31 rfl,
   (h.d31 rfl).symm,
   (h.h12 rfl rfl).symm,
   h.h12 rfl rfl,
   (h.h13 rfl rfl).symm,
   h.h13 rfl rfl,
   h.s2 rfl,
   h.s2 rfl,
   h.d12 rfl,
   (h.d12 rfl).symm,
   h.d22 rfl,
   (h.d22 rfl).symm,
   h.d32 rfl,
   (h.d32 rfl).symm,
   (h.h23 rfl rfl).symm,
   h.h23 rfl rfl,
   h.s3 rfl,
   h.s3 rfl,
   h.d13 rfl,
   (h.d13 rfl).symm,
   h.d23 rfl,
   (h.d23 rfl).symm,
   h.d33 rfl,
   (h.d33 rfl).symm,
   h.hb⟩
structure PK (w : World) (b1 b2 b3 : Nat) (A1 A2 A3 : Array Value) (z1 z2 : Value) (t1 : List ByteArray) (t2 : List (List ByteArray)) (p1 p2 p3 : List (List Int)) (q1 q2 q3 : List Int) (x1 y1 x2 y2 x3 y3 : Value) (g1 g2 g3 : Nat) (W : World) : Prop where
  r0 : Kd.R Kd.string 9 W w.heap.size (fun _ => True) z1 t1
  n0 : Kd.N (Kd.slice 9 Kd.string) 25 W w.heap.size (fun k_ => some k_ ≠ (z1 : Value).ownBlock ∧ some k_ ≠ (x1 : Value).ownBlock ∧ some k_ ≠ (y1 : Value).ownBlock ∧ some k_ ≠ (x2 : Value).ownBlock ∧ some k_ ≠ (y2 : Value).ownBlock ∧ some k_ ≠ (x3 : Value).ownBlock ∧ some k_ ≠ (y3 : Value).ownBlock ∧ k_ ≠ b1 ∧ k_ ≠ b2 ∧ k_ ≠ b3 ∧ k_ ≠ g1 ∧ k_ ≠ g2 ∧ k_ ≠ g3) z2 t2
  n1 : Kd.N (Kd.slice 3 (Kd.int .i64)) 28 W w.heap.size (fun k_ => some k_ ≠ (z1 : Value).ownBlock ∧ some k_ ≠ (z2 : Value).ownBlock ∧ some k_ ≠ (y1 : Value).ownBlock ∧ some k_ ≠ (x2 : Value).ownBlock ∧ some k_ ≠ (y2 : Value).ownBlock ∧ some k_ ≠ (x3 : Value).ownBlock ∧ some k_ ≠ (y3 : Value).ownBlock ∧ k_ ≠ b1 ∧ k_ ≠ b2 ∧ k_ ≠ b3 ∧ k_ ≠ g1 ∧ k_ ≠ g2 ∧ k_ ≠ g3) x1 p1
  m1 : Kd.R (Kd.int .i64) 3 W w.heap.size (fun k_ => some k_ ≠ (y2 : Value).ownBlock ∧ some k_ ≠ (y3 : Value).ownBlock) y1 q1
  n2 : Kd.N (Kd.slice 3 (Kd.int .i64)) 28 W w.heap.size (fun k_ => some k_ ≠ (z1 : Value).ownBlock ∧ some k_ ≠ (z2 : Value).ownBlock ∧ some k_ ≠ (x1 : Value).ownBlock ∧ some k_ ≠ (y1 : Value).ownBlock ∧ some k_ ≠ (y2 : Value).ownBlock ∧ some k_ ≠ (x3 : Value).ownBlock ∧ some k_ ≠ (y3 : Value).ownBlock ∧ k_ ≠ b1 ∧ k_ ≠ b2 ∧ k_ ≠ b3 ∧ k_ ≠ g1 ∧ k_ ≠ g2 ∧ k_ ≠ g3) x2 p2
  m2 : Kd.R (Kd.int .i64) 3 W w.heap.size (fun k_ => some k_ ≠ (y1 : Value).ownBlock ∧ some k_ ≠ (y3 : Value).ownBlock) y2 q2
  n3 : Kd.N (Kd.slice 3 (Kd.int .i64)) 28 W w.heap.size (fun k_ => some k_ ≠ (z1 : Value).ownBlock ∧ some k_ ≠ (z2 : Value).ownBlock ∧ some k_ ≠ (x1 : Value).ownBlock ∧ some k_ ≠ (y1 : Value).ownBlock ∧ some k_ ≠ (x2 : Value).ownBlock ∧ some k_ ≠ (y2 : Value).ownBlock ∧ some k_ ≠ (y3 : Value).ownBlock ∧ k_ ≠ b1 ∧ k_ ≠ b2 ∧ k_ ≠ b3 ∧ k_ ≠ g1 ∧ k_ ≠ g2 ∧ k_ ≠ g3) x3 p3
  m3 : Kd.R (Kd.int .i64) 3 W w.heap.size (fun k_ => some k_ ≠ (y1 : Value).ownBlock ∧ some k_ ≠ (y2 : Value).ownBlock) y3 q3
  k1 : W.heap[b1]? = some (.cells A1 41 (0, 0))
  k2 : W.heap[b2]? = some (.cells A2 41 (0, 0))
  k3 : W.heap[b3]? = some (.cells A3 41 (0, 0))
  c1 : W.heap[g1]? = some (.cells #[x1, y1] 30 (0, 0))
  c2 : W.heap[g2]? = some (.cells #[x2, y2] 30 (0, 0))
  c3 : W.heap[g3]? = some (.cells #[x3, y3] 30 (0, 0))
  hb : Below w.heap.size w W
theorem PK.same {W2 : World} (h : PK w b1 b2 b3 A1 A2 A3 z1 z2 t1 t2 p1 p2 p3 q1 q2 q3 x1 y1 x2 y2 x3 y3 g1 g2 g3 W) (hh : W2.heap = W.heap) (hB : Below w.heap.size w W2) : PK w b1 b2 b3 A1 A2 A3 z1 z2 t1 t2 p1 p2 p3 q1 q2 q3 x1 y1 x2 y2 x3 y3 g1 g2 g3 W2 where
  r0 := Kd.R_step h.r0 (fun k _ _ => by rw [hh])
  n0 := Kd.N_step h.n0 (fun k _ _ => by rw [hh])
  n1 := Kd.N_step h.n1 (fun k _ _ => by rw [hh])
  m1 := Kd.R_step h.m1 (fun k _ _ => by rw [hh])
  n2 := Kd.N_step h.n2 (fun k _ _ => by rw [hh])
  m2 := Kd.R_step h.m2 (fun k _ _ => by rw [hh])
  n3 := Kd.N_step h.n3 (fun k _ _ => by rw [hh])
  m3 := Kd.R_step h.m3 (fun k _ _ => by rw [hh])
  k1 := by rw [hh]; exact h.k1
  k2 := by rw [hh]; exact h.k2
  k3 := by rw [hh]; exact h.k3
  c1 := by rw [hh]; exact h.c1
  c2 := by rw [hh]; exact h.c2
  c3 := by rw [hh]; exact h.c3
  hb := hB
theorem PK.below (h : PK w b1 b2 b3 A1 A2 A3 z1 z2 t1 t2 p1 p2 p3 q1 q2 q3 x1 y1 x2 y2 x3 y3 g1 g2 g3 W) (hb : Below W.heap.size W W1) : PK w b1 b2 b3 A1 A2 A3 z1 z2 t1 t2 p1 p2 p3 q1 q2 q3 x1 y1 x2 y2 x3 y3 g1 g2 g3 W1 where
  r0 := Kd.R_below h.r0 hb
  n0 := Kd.N_below h.n0 hb
  n1 := Kd.N_below h.n1 hb
  m1 := Kd.R_below h.m1 hb
  n2 := Kd.N_below h.n2 hb
  m2 := Kd.R_below h.m2 hb
  n3 := Kd.N_below h.n3 hb
  m3 := Kd.R_below h.m3 hb
  k1 := blk_below h.k1 hb
  k2 := blk_below h.k2 hb
  k3 := blk_below h.k3 hb
  c1 := blk_below h.c1 hb
  c2 := blk_below h.c2 hb
  c3 := blk_below h.c3 hb
  hb := below_step h.hb hb
theorem PK.step {W2 : World} (h : PK w b1 b2 b3 A1 A2 A3 z1 z2 t1 t2 p1 p2 p3 q1 q2 q3 x1 y1 x2 y2 x3 y3 g1 g2 g3 W) (hb : Below W2.heap.size W2 W1) (hh : W2.heap = W.heap) (hB : Below w.heap.size w W2) : PK w b1 b2 b3 A1 A2 A3 z1 z2 t1 t2 p1 p2 p3 q1 q2 q3 x1 y1 x2 y2 x3 y3 g1 g2 g3 W1 := (h.same hh hB).below hb
theorem PK.drew (h : PK w b1 b2 b3 A1 A2 A3 z1 z2 t1 t2 p1 p2 p3 q1 q2 q3 x1 y1 x2 y2 x3 y3 g1 g2 g3 W) : PK w b1 b2 b3 A1 A2 A3 z1 z2 t1 t2 p1 p2 p3 q1 q2 q3 x1 y1 x2 y2 x3 y3 g1 g2 g3 W.drew := h.same rfl (below_drew1 h.hb)
end Go.Proofs.YtbgcmbnnkigjjaaDoor.PP
