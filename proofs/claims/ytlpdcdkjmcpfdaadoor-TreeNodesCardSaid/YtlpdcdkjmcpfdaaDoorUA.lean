/- The tree package's functions at the tree that begun makes: walked by hand, over of and the printed parts. -/
import Derived.Test.YtlpdcdkjmcpfdaaDoorTW
import Derived.Test.YtlpdcdkjmcpfdaaDoorTX
import Derived.Test.YtlpdcdkjmcpfdaaDoorTY
namespace Go.Proofs.YtlpdcdkjmcpfdaaDoor.PT
open Go.RowKit Go.Proofs.YtlpdcdkjmcpfdaaDoorW.PrintWords Go.Proofs.YtlpdcdkjmcpfdaaDoorW.PrintLast Go.Proofs.YtlpdcdkjmcpfdaaDoorW.PrintMore
set_option linter.unusedVariables false
set_option linter.unusedSimpArgs false
attribute [local go_sem] cell_set_some
/-- A block of whole numbers, read as a row. -/
theorem C_of_blk {k : IntKind} {w : World} {g : Nat} {l : List Int} {t : TypeId} (hl : l.length ≤ 9223372036854775807) (h : w.heap[g]? = some (.cells ⟨l.map (Value.int k)⟩ t (0, 0))) : Kd.C (Kd.int k) w (some ⟨g, 0, none⟩) l.length l := by
  refine ⟨rfl, hl, fun _ => ⟨_, rfl, fun j p hj => ⟨[.int k p], rfl, rfl, fun i u hu => ?_⟩⟩⟩
  have h0 : i = 0 := by
    have := (List.getElem?_eq_some_iff.1 hu).1
    simp at this
    omega
  subst h0
  have hu' : Value.int k p = u := by simpa using hu
  subst hu'
  have e : (⟨g, 0, none⟩ : Addr).add (j * (Kd.int k).sz + 0) = ⟨g, j, none⟩ := by
    simp [Addr.add, Kd.int, Kd.scalar]
    intro h0
    exact h0.symm
  rw [e, blk_cell h j]
  simp [hj]
/-- The tree's own form of the tree that begun makes, read. -/
structure DC (w : World) (A1 A2 A3 : Option Addr) (c1 c2 c3 : Nat) (gd go : Nat) : Prop where
  C1 : Kd.C Kd.string w A1 1 [⟨#[120]⟩]
  l1 : 1 ≤ c1
  C2 : Kd.C (Kd.slice 9 Kd.string) w A2 1 [[⟨#[114]⟩]]
  l2 : 1 ≤ c2
  C3 : Kd.C k53 w A3 4 nodes0
  l3 : 4 ≤ c3
  C4 : Kd.C (Kd.int .i64) w (some ⟨gd, 0, none⟩) 4 [0, 0, 1, 1]
  C5 : Kd.C (Kd.int .u64) w (some ⟨go, 0, none⟩) 4 [0, 0, 2, 2]
section
variable {w w1 : World} {A1 A2 A3 : Option Addr} {c1 c2 c3 gd go : Nat}
theorem DC.below (H : DC w A1 A2 A3 c1 c2 c3 gd go) (hb : Below w.heap.size w w1) : DC w1 A1 A2 A3 c1 c2 c3 gd go :=
  ⟨Kd.C_below H.C1 hb, H.l1, Kd.C_below H.C2 hb, H.l2, Kd.C_below H.C3 hb, H.l3, Kd.C_below H.C4 hb, Kd.C_below H.C5 hb⟩
theorem there_d (H : DC w A1 A2 A3 c1 c2 c3 gd go) {a : Int} {r : Bool} (h : tree_deep_there.f 2 [⟨#[120]⟩] [[⟨#[114]⟩]] nodes0 [0, 0, 1, 1] [0, 0, 2, 2] a = some r) : Calls Tryd.prog 37 #[.agg #[.int .i64 2, .slice A1 1 c1, .slice A2 1 c2, .slice A3 4 c3, .slice (some ⟨gd, 0, none⟩) 4 4, .slice (some ⟨go, 0, none⟩) 4 4], .int .i64 a] w fun e w' => e = .returned (.bool r) ∧ Below w.heap.size w w' :=
  tree_deep_there.calls 2 A1 c1 [⟨#[120]⟩] A2 c2 [[⟨#[114]⟩]] A3 c3 nodes0 (some ⟨gd, 0, none⟩) 4 [0, 0, 1, 1] (some ⟨go, 0, none⟩) 4 [0, 0, 2, 2] a r w H.C1 H.l1 H.C2 H.l2 H.C3 H.l3 H.C4 (by decide) H.C5 (by decide) h
theorem before_d (H : DC w A1 A2 A3 c1 c2 c3 gd go) {a b : Int} {r : Bool} (h : tree_deep_before.f 2 [⟨#[120]⟩] [[⟨#[114]⟩]] nodes0 [0, 0, 1, 1] [0, 0, 2, 2] a b = some r) : Calls Tryd.prog 38 #[.agg #[.int .i64 2, .slice A1 1 c1, .slice A2 1 c2, .slice A3 4 c3, .slice (some ⟨gd, 0, none⟩) 4 4, .slice (some ⟨go, 0, none⟩) 4 4], .int .i64 a, .int .i64 b] w fun e w' => e = .returned (.bool r) ∧ Below w.heap.size w w' :=
  tree_deep_before.calls 2 A1 c1 [⟨#[120]⟩] A2 c2 [[⟨#[114]⟩]] A3 c3 nodes0 (some ⟨gd, 0, none⟩) 4 [0, 0, 1, 1] (some ⟨go, 0, none⟩) 4 [0, 0, 2, 2] a b r w H.C1 H.l1 H.C2 H.l2 H.C3 H.l3 H.C4 (by decide) H.C5 (by decide) h
theorem against_d (H : DC w A1 A2 A3 c1 c2 c3 gd go) {a b : Int} {r : Bool} (h : tree_deep_against.f 2 [⟨#[120]⟩] [[⟨#[114]⟩]] nodes0 [0, 0, 1, 1] [0, 0, 2, 2] a b = some r) : Calls Tryd.prog 41 #[.agg #[.int .i64 2, .slice A1 1 c1, .slice A2 1 c2, .slice A3 4 c3, .slice (some ⟨gd, 0, none⟩) 4 4, .slice (some ⟨go, 0, none⟩) 4 4], .int .i64 a, .int .i64 b] w fun e w' => e = .returned (.bool r) ∧ Below w.heap.size w w' :=
  tree_deep_against.calls 2 A1 c1 [⟨#[120]⟩] A2 c2 [[⟨#[114]⟩]] A3 c3 nodes0 (some ⟨gd, 0, none⟩) 4 [0, 0, 1, 1] (some ⟨go, 0, none⟩) 4 [0, 0, 2, 2] a b r w H.C1 H.l1 H.C2 H.l2 H.C3 H.l3 H.C4 (by decide) H.C5 (by decide) h
theorem set_first_d (H : DC w A1 A2 A3 c1 c2 c3 gd go) {k : Nat} {r : Int} (h : tree_deep_set_at_tree_deep_first.f k 2 [⟨#[120]⟩] [[⟨#[114]⟩]] nodes0 [0, 0, 1, 1] [0, 0, 2, 2] 2 [⟨#[120]⟩] [[⟨#[114]⟩]] nodes0 [0, 0, 1, 1] [0, 0, 2, 2] = some r) : Calls Tryd.prog 43 #[.agg #[.int .i64 2, .slice A1 1 c1, .slice A2 1 c2, .slice A3 4 c3, .slice (some ⟨gd, 0, none⟩) 4 4, .slice (some ⟨go, 0, none⟩) 4 4], .func (.func 44) #[.agg #[.int .i64 2, .slice A1 1 c1, .slice A2 1 c2, .slice A3 4 c3, .slice (some ⟨gd, 0, none⟩) 4 4, .slice (some ⟨go, 0, none⟩) 4 4]] #[]] w fun e w' => e = .returned (.int .u64 r) ∧ Below w.heap.size w w' :=
  tree_deep_set_at_tree_deep_first.calls k 2 A1 c1 [⟨#[120]⟩] A2 c2 [[⟨#[114]⟩]] A3 c3 nodes0 (some ⟨gd, 0, none⟩) 4 [0, 0, 1, 1] (some ⟨go, 0, none⟩) 4 [0, 0, 2, 2] 2 A1 c1 [⟨#[120]⟩] A2 c2 [[⟨#[114]⟩]] A3 c3 nodes0 (some ⟨gd, 0, none⟩) 4 [0, 0, 1, 1] (some ⟨go, 0, none⟩) 4 [0, 0, 2, 2] r w H.C1 H.l1 H.C2 H.l2 H.C3 H.l3 H.C4 (by decide) H.C5 (by decide) H.C1 H.l1 H.C2 H.l2 H.C3 H.l3 H.C4 (by decide) H.C5 (by decide) h
theorem set_start_d (H : DC w A1 A2 A3 c1 c2 c3 gd go) {k : Nat} {r : Int} (h : tree_deep_set_at_tree_deep_start.f k 2 [⟨#[120]⟩] [[⟨#[114]⟩]] nodes0 [0, 0, 1, 1] [0, 0, 2, 2] 2 [⟨#[120]⟩] [[⟨#[114]⟩]] nodes0 [0, 0, 1, 1] [0, 0, 2, 2] = some r) : Calls Tryd.prog 43 #[.agg #[.int .i64 2, .slice A1 1 c1, .slice A2 1 c2, .slice A3 4 c3, .slice (some ⟨gd, 0, none⟩) 4 4, .slice (some ⟨go, 0, none⟩) 4 4], .func (.func 50) #[.agg #[.int .i64 2, .slice A1 1 c1, .slice A2 1 c2, .slice A3 4 c3, .slice (some ⟨gd, 0, none⟩) 4 4, .slice (some ⟨go, 0, none⟩) 4 4]] #[]] w fun e w' => e = .returned (.int .u64 r) ∧ Below w.heap.size w w' :=
  tree_deep_set_at_tree_deep_start.calls k 2 A1 c1 [⟨#[120]⟩] A2 c2 [[⟨#[114]⟩]] A3 c3 nodes0 (some ⟨gd, 0, none⟩) 4 [0, 0, 1, 1] (some ⟨go, 0, none⟩) 4 [0, 0, 2, 2] 2 A1 c1 [⟨#[120]⟩] A2 c2 [[⟨#[114]⟩]] A3 c3 nodes0 (some ⟨gd, 0, none⟩) 4 [0, 0, 1, 1] (some ⟨go, 0, none⟩) 4 [0, 0, 2, 2] r w H.C1 H.l1 H.C2 H.l2 H.C3 H.l3 H.C4 (by decide) H.C5 (by decide) H.C1 H.l1 H.C2 H.l2 H.C3 H.l3 H.C4 (by decide) H.C5 (by decide) h
theorem rows_before_d (H : DC w A1 A2 A3 c1 c2 c3 gd go) {k : Nat} {r : List Int} (h : tree_deep_rows_at_tree_deep_before.f k 2 [⟨#[120]⟩] [[⟨#[114]⟩]] nodes0 [0, 0, 1, 1] [0, 0, 2, 2] 2 [⟨#[120]⟩] [[⟨#[114]⟩]] nodes0 [0, 0, 1, 1] [0, 0, 2, 2] = some r) : Calls Tryd.prog 49 #[.agg #[.int .i64 2, .slice A1 1 c1, .slice A2 1 c2, .slice A3 4 c3, .slice (some ⟨gd, 0, none⟩) 4 4, .slice (some ⟨go, 0, none⟩) 4 4], .func (.func 38) #[.agg #[.int .i64 2, .slice A1 1 c1, .slice A2 1 c2, .slice A3 4 c3, .slice (some ⟨gd, 0, none⟩) 4 4, .slice (some ⟨go, 0, none⟩) 4 4]] #[]] w fun e w' => ∃ v0_ : Value, e = .returned (v0_) ∧ Kd.R (Kd.int .u64) 44 w' w.heap.size (fun _ => True) v0_ r ∧ Below w.heap.size w w' :=
  tree_deep_rows_at_tree_deep_before.calls k 2 A1 c1 [⟨#[120]⟩] A2 c2 [[⟨#[114]⟩]] A3 c3 nodes0 (some ⟨gd, 0, none⟩) 4 [0, 0, 1, 1] (some ⟨go, 0, none⟩) 4 [0, 0, 2, 2] 2 A1 c1 [⟨#[120]⟩] A2 c2 [[⟨#[114]⟩]] A3 c3 nodes0 (some ⟨gd, 0, none⟩) 4 [0, 0, 1, 1] (some ⟨go, 0, none⟩) 4 [0, 0, 2, 2] r w H.C1 H.l1 H.C2 H.l2 H.C3 H.l3 H.C4 (by decide) H.C5 (by decide) H.C1 H.l1 H.C2 H.l2 H.C3 H.l3 H.C4 (by decide) H.C5 (by decide) h
theorem rows_against_d (H : DC w A1 A2 A3 c1 c2 c3 gd go) {k : Nat} {r : List Int} (h : tree_deep_rows_at_tree_deep_against.f k 2 [⟨#[120]⟩] [[⟨#[114]⟩]] nodes0 [0, 0, 1, 1] [0, 0, 2, 2] 2 [⟨#[120]⟩] [[⟨#[114]⟩]] nodes0 [0, 0, 1, 1] [0, 0, 2, 2] = some r) : Calls Tryd.prog 49 #[.agg #[.int .i64 2, .slice A1 1 c1, .slice A2 1 c2, .slice A3 4 c3, .slice (some ⟨gd, 0, none⟩) 4 4, .slice (some ⟨go, 0, none⟩) 4 4], .func (.func 41) #[.agg #[.int .i64 2, .slice A1 1 c1, .slice A2 1 c2, .slice A3 4 c3, .slice (some ⟨gd, 0, none⟩) 4 4, .slice (some ⟨go, 0, none⟩) 4 4]] #[]] w fun e w' => ∃ v0_ : Value, e = .returned (v0_) ∧ Kd.R (Kd.int .u64) 44 w' w.heap.size (fun _ => True) v0_ r ∧ Below w.heap.size w w' :=
  tree_deep_rows_at_tree_deep_against.calls k 2 A1 c1 [⟨#[120]⟩] A2 c2 [[⟨#[114]⟩]] A3 c3 nodes0 (some ⟨gd, 0, none⟩) 4 [0, 0, 1, 1] (some ⟨go, 0, none⟩) 4 [0, 0, 2, 2] 2 A1 c1 [⟨#[120]⟩] A2 c2 [[⟨#[114]⟩]] A3 c3 nodes0 (some ⟨gd, 0, none⟩) 4 [0, 0, 1, 1] (some ⟨go, 0, none⟩) 4 [0, 0, 2, 2] r w H.C1 H.l1 H.C2 H.l2 H.C3 H.l3 H.C4 (by decide) H.C5 (by decide) H.C1 H.l1 H.C2 H.l2 H.C3 H.l3 H.C4 (by decide) H.C5 (by decide) h
end
def way.T4 : Bool × List (List Nat × List Nat) := (true, [([], []), ([], []), ([1], [1]), ([0, 2], [0, 2]), ([], []), ([4], [4]), ([], []), ([5, 6], [5, 6]), ([7], [7]), ([3, 8], [3, 8]), ([], []), ([9, 10, 3], [9, 10]), ([11, 11, 0, 1, 2, 3, 4, 5, 6, 7, 8, 9, 10, 11], [11])])
def way.B4 : List Nat := [0, 0, 2, 7, 0, 16, 0, 112, 240, 511, 0, 2047, 4095]
theorem way.tab4 : rtab .any (opsOf Tryd.f15 4) = way.T4 := by kernel_rfl
theorem way.bits4 : waitsOk way.T4.2 way.B4 = true := by kernel_rfl
set_option maxHeartbeats 8000000 in
set_option maxRecDepth 100000 in
theorem before_c (w : World) (A1 A2 A3 : Option Addr) (c1 c2 c3 : Nat) (h1 : Kd.C Kd.string w A1 1 [⟨#[120]⟩]) (hc1 : 1 ≤ c1) (h2 : Kd.C (Kd.slice 9 Kd.string) w A2 1 [[⟨#[114]⟩]]) (hc2 : 1 ≤ c2) (h3 : Kd.C k53 w A3 4 nodes0) (hc3 : 4 ≤ c3) (a b : Int) (r : Bool) (ha : tree_deep_there.f 2 [⟨#[120]⟩] [[⟨#[114]⟩]] nodes0 [0, 0, 1, 1] [0, 0, 2, 2] a = some true) (hb : tree_deep_there.f 2 [⟨#[120]⟩] [[⟨#[114]⟩]] nodes0 [0, 0, 1, 1] [0, 0, 2, 2] b = some true) (hr : tree_deep_before.f 2 [⟨#[120]⟩] [[⟨#[114]⟩]] nodes0 [0, 0, 1, 1] [0, 0, 2, 2] a b = some r) :
    Calls Tryd.prog 11 #[.agg #[.int .i64 2, .slice A1 1 c1, .slice A2 1 c2, .slice A3 4 c3], .int .i64 a, .int .i64 b] w fun e w' => e = .returned (.bool r) ∧ Below w.heap.size w w' := by
  have H1 := Aside0.mk h1
  have H2 := Aside0.mk h2
  have H3 := Aside0.mk h3
  clear h1 h2 h3
  have hu28 := Tryd.underlying28
  have hu72 := Tryd.underlying72
  go_enter Tryd.func11, Tryd.ntmps11
  go_wp2_with (((with_reducible refine gate_dst (N := 3) rfl ?_); refine box_event ?hg (N := 3) ?hd (cs := #[.int .i64 2, .slice A1 1 c1, .slice A2 1 c2, .slice A3 4 c3]) (t := 28) ?hr ?_; (case hd => rfl); (case hg => rfl); (case hr => first | (go_simp; done) | (go_simp; rfl)); intro g1 hg1 w1 hbox hb1; have HX := Aside0.mk hbox; have HB := Aside0.mk hb1; have hx0 := blk_celln (HX.out) 0 _ rfl; have hx1 := blk_celln (HX.out) 1 _ rfl; have hx2 := blk_celln (HX.out) 2 _ rfl; have hx3 := blk_celln (HX.out) 3 _ rfl; clear hg1 hb1 hbox))
  refine (of_c _ A1 A2 A3 c1 c2 c3 (Kd.C_below H1.out HB.out) hc1 (Kd.C_below H2.out HB.out) hc2 (Kd.C_below H3.out HB.out) hc3).mono ?_
  rintro e w3 ⟨gd, go, rfl, q1_, q2_, q3_⟩
  replace HB := Aside0.mk (below_step HB.out q3_)
  replace HX := Aside0.mk (blk_below HX.out q3_)
  have HD := Aside0.mk (show DC w3 A1 A2 A3 c1 c2 c3 gd go from ⟨Kd.C_below H1.out HB.out, hc1, Kd.C_below H2.out HB.out, hc2, Kd.C_below H3.out HB.out, hc3, C_of_blk (by decide) q1_, C_of_blk (by decide) q2_⟩)
  have HGO := Aside0.mk q2_
  clear q1_ q2_ q3_ hx0 hx1 hx2 hx3
  go_upto_region 2 with ((with_reducible refine gate_dst (N := 7) rfl ?_); refine box_event ?hg (N := 7) ?hd (cs := #[.int .i64 0, .slice none 0 0, .slice none 0 0, .slice none 0 0, .slice none 0 0, .slice none 0 0]) (t := 72) ?hr ?_; (case hd => rfl); (case hg => rfl); (case hr => first | (go_simp; done) | (go_simp; rfl)); intro g7 hg__ w4 hbox_ hq_; have hg_ := Aside0.mk hg__; clear hg__; have z0_ := blk_celln hbox_ 0 _ rfl; have z1_ := blk_celln hbox_ 1 _ rfl; have z2_ := blk_celln hbox_ 2 _ rfl; have z3_ := blk_celln hbox_ 3 _ rfl; have z4_ := blk_celln hbox_ 4 _ rfl; have z5_ := blk_celln hbox_ 5 _ rfl; have f0_ := blk_frozen hbox_ 0; have f1_ := blk_frozen hbox_ 1; have f2_ := blk_frozen hbox_ 2; have f3_ := blk_frozen hbox_ 3; have f4_ := blk_frozen hbox_ 4; have f5_ := blk_frozen hbox_ 5)
  obtain ⟨F1_, F2_, F3_⟩ := fill72 hbox_ (.int .i64 2) (.slice A1 1 c1) (.slice A2 1 c2) (.slice A3 4 c3) (.slice (some ⟨gd, 0, none⟩) 4 4) (.slice (some ⟨go, 0, none⟩) 4 4) _ rfl
  replace hq_ := hq_.trans (F2_ w3.heap.size (Nat.le_of_eq hg_.out.symm))
  clear hg_ hbox_ F2_ F3_ z0_ f0_ z1_ f1_ z2_ f2_ z3_ f3_ z4_ f4_ z5_ f5_
  generalize (((((w4.setCell ⟨g7, 0, none⟩ (.int .i64 2)).setCell ⟨g7, 1, none⟩ (.slice A1 1 c1)).setCell ⟨g7, 2, none⟩ (.slice A2 1 c2)).setCell ⟨g7, 3, none⟩ (.slice A3 4 c3)).setCell ⟨g7, 4, none⟩ (.slice (some ⟨gd, 0, none⟩) 4 4)).setCell ⟨g7, 5, none⟩ (.slice (some ⟨go, 0, none⟩) 4 4) = w5 at F1_ hq_ ⊢
  have HT := Aside0.mk F1_
  replace HX := Aside0.mk (blk_below HX.out hq_)
  replace HGO := Aside0.mk (blk_below HGO.out hq_)
  replace HD := Aside0.mk (HD.out.below hq_)
  replace HB := Aside0.mk (below_step HB.out hq_)
  clear F1_ hq_
  have ht0 := blk_celln (HT.out) 0 _ rfl; have ht1 := blk_celln (HT.out) 1 _ rfl; have ht2 := blk_celln (HT.out) 2 _ rfl; have ht3 := blk_celln (HT.out) 3 _ rfl; have ht4 := blk_celln (HT.out) 4 _ rfl; have ht5 := blk_celln (HT.out) 5 _ rfl
  go_wp2_with (fail)
  refine (there_d HD.out ha).mono ?_
  rintro e w6 ⟨rfl, qb⟩
  replace HT := Aside0.mk (blk_below HT.out qb)
  replace HD := Aside0.mk (HD.out.below qb)
  replace HB := Aside0.mk (below_step HB.out qb)
  clear qb
  replace ht0 := blk_celln (HT.out) 0 _ rfl; replace ht1 := blk_celln (HT.out) 1 _ rfl; replace ht2 := blk_celln (HT.out) 2 _ rfl; replace ht3 := blk_celln (HT.out) 3 _ rfl; replace ht4 := blk_celln (HT.out) 4 _ rfl; replace ht5 := blk_celln (HT.out) 5 _ rfl
  go_wp2_with (fail)
  refine (there_d HD.out hb).mono ?_
  rintro e w7 ⟨rfl, qb⟩
  replace HT := Aside0.mk (blk_below HT.out qb)
  replace HD := Aside0.mk (HD.out.below qb)
  replace HB := Aside0.mk (below_step HB.out qb)
  clear qb
  replace ht0 := blk_celln (HT.out) 0 _ rfl; replace ht1 := blk_celln (HT.out) 1 _ rfl; replace ht2 := blk_celln (HT.out) 2 _ rfl; replace ht3 := blk_celln (HT.out) 3 _ rfl; replace ht4 := blk_celln (HT.out) 4 _ rfl; replace ht5 := blk_celln (HT.out) 5 _ rfl
  go_wp2_with (fail)
  refine (before_d HD.out hr).mono ?_
  rintro e w8 ⟨rfl, qb⟩
  replace HB := Aside0.mk (below_step HB.out qb)
  clear qb ht0 ht1 ht2 ht3 ht4 ht5
  go_wp2
  go_ret
  exact ⟨rfl, HB.out⟩
set_option maxHeartbeats 8000000 in
set_option maxRecDepth 100000 in
theorem against_c (w : World) (A1 A2 A3 : Option Addr) (c1 c2 c3 : Nat) (h1 : Kd.C Kd.string w A1 1 [⟨#[120]⟩]) (hc1 : 1 ≤ c1) (h2 : Kd.C (Kd.slice 9 Kd.string) w A2 1 [[⟨#[114]⟩]]) (hc2 : 1 ≤ c2) (h3 : Kd.C k53 w A3 4 nodes0) (hc3 : 4 ≤ c3) (a b : Int) (r : Bool) (ha : tree_deep_there.f 2 [⟨#[120]⟩] [[⟨#[114]⟩]] nodes0 [0, 0, 1, 1] [0, 0, 2, 2] a = some true) (hb : tree_deep_there.f 2 [⟨#[120]⟩] [[⟨#[114]⟩]] nodes0 [0, 0, 1, 1] [0, 0, 2, 2] b = some true) (hr : tree_deep_against.f 2 [⟨#[120]⟩] [[⟨#[114]⟩]] nodes0 [0, 0, 1, 1] [0, 0, 2, 2] a b = some r) :
    Calls Tryd.prog 13 #[.agg #[.int .i64 2, .slice A1 1 c1, .slice A2 1 c2, .slice A3 4 c3], .int .i64 a, .int .i64 b] w fun e w' => e = .returned (.bool r) ∧ Below w.heap.size w w' := by
  have H1 := Aside0.mk h1
  have H2 := Aside0.mk h2
  have H3 := Aside0.mk h3
  clear h1 h2 h3
  have hu28 := Tryd.underlying28
  have hu72 := Tryd.underlying72
  go_enter Tryd.func13, Tryd.ntmps13
  go_wp2_with (((with_reducible refine gate_dst (N := 3) rfl ?_); refine box_event ?hg (N := 3) ?hd (cs := #[.int .i64 2, .slice A1 1 c1, .slice A2 1 c2, .slice A3 4 c3]) (t := 28) ?hr ?_; (case hd => rfl); (case hg => rfl); (case hr => first | (go_simp; done) | (go_simp; rfl)); intro g1 hg1 w1 hbox hb1; have HX := Aside0.mk hbox; have HB := Aside0.mk hb1; have hx0 := blk_celln (HX.out) 0 _ rfl; have hx1 := blk_celln (HX.out) 1 _ rfl; have hx2 := blk_celln (HX.out) 2 _ rfl; have hx3 := blk_celln (HX.out) 3 _ rfl; clear hg1 hb1 hbox))
  refine (of_c _ A1 A2 A3 c1 c2 c3 (Kd.C_below H1.out HB.out) hc1 (Kd.C_below H2.out HB.out) hc2 (Kd.C_below H3.out HB.out) hc3).mono ?_
  rintro e w3 ⟨gd, go, rfl, q1_, q2_, q3_⟩
  replace HB := Aside0.mk (below_step HB.out q3_)
  replace HX := Aside0.mk (blk_below HX.out q3_)
  have HD := Aside0.mk (show DC w3 A1 A2 A3 c1 c2 c3 gd go from ⟨Kd.C_below H1.out HB.out, hc1, Kd.C_below H2.out HB.out, hc2, Kd.C_below H3.out HB.out, hc3, C_of_blk (by decide) q1_, C_of_blk (by decide) q2_⟩)
  have HGO := Aside0.mk q2_
  clear q1_ q2_ q3_ hx0 hx1 hx2 hx3
  go_upto_region 2 with ((with_reducible refine gate_dst (N := 7) rfl ?_); refine box_event ?hg (N := 7) ?hd (cs := #[.int .i64 0, .slice none 0 0, .slice none 0 0, .slice none 0 0, .slice none 0 0, .slice none 0 0]) (t := 72) ?hr ?_; (case hd => rfl); (case hg => rfl); (case hr => first | (go_simp; done) | (go_simp; rfl)); intro g7 hg__ w4 hbox_ hq_; have hg_ := Aside0.mk hg__; clear hg__; have z0_ := blk_celln hbox_ 0 _ rfl; have z1_ := blk_celln hbox_ 1 _ rfl; have z2_ := blk_celln hbox_ 2 _ rfl; have z3_ := blk_celln hbox_ 3 _ rfl; have z4_ := blk_celln hbox_ 4 _ rfl; have z5_ := blk_celln hbox_ 5 _ rfl; have f0_ := blk_frozen hbox_ 0; have f1_ := blk_frozen hbox_ 1; have f2_ := blk_frozen hbox_ 2; have f3_ := blk_frozen hbox_ 3; have f4_ := blk_frozen hbox_ 4; have f5_ := blk_frozen hbox_ 5)
  obtain ⟨F1_, F2_, F3_⟩ := fill72 hbox_ (.int .i64 2) (.slice A1 1 c1) (.slice A2 1 c2) (.slice A3 4 c3) (.slice (some ⟨gd, 0, none⟩) 4 4) (.slice (some ⟨go, 0, none⟩) 4 4) _ rfl
  replace hq_ := hq_.trans (F2_ w3.heap.size (Nat.le_of_eq hg_.out.symm))
  clear hg_ hbox_ F2_ F3_ z0_ f0_ z1_ f1_ z2_ f2_ z3_ f3_ z4_ f4_ z5_ f5_
  generalize (((((w4.setCell ⟨g7, 0, none⟩ (.int .i64 2)).setCell ⟨g7, 1, none⟩ (.slice A1 1 c1)).setCell ⟨g7, 2, none⟩ (.slice A2 1 c2)).setCell ⟨g7, 3, none⟩ (.slice A3 4 c3)).setCell ⟨g7, 4, none⟩ (.slice (some ⟨gd, 0, none⟩) 4 4)).setCell ⟨g7, 5, none⟩ (.slice (some ⟨go, 0, none⟩) 4 4) = w5 at F1_ hq_ ⊢
  have HT := Aside0.mk F1_
  replace HX := Aside0.mk (blk_below HX.out hq_)
  replace HGO := Aside0.mk (blk_below HGO.out hq_)
  replace HD := Aside0.mk (HD.out.below hq_)
  replace HB := Aside0.mk (below_step HB.out hq_)
  clear F1_ hq_
  have ht0 := blk_celln (HT.out) 0 _ rfl; have ht1 := blk_celln (HT.out) 1 _ rfl; have ht2 := blk_celln (HT.out) 2 _ rfl; have ht3 := blk_celln (HT.out) 3 _ rfl; have ht4 := blk_celln (HT.out) 4 _ rfl; have ht5 := blk_celln (HT.out) 5 _ rfl
  go_wp2_with (fail)
  refine (there_d HD.out ha).mono ?_
  rintro e w6 ⟨rfl, qb⟩
  replace HT := Aside0.mk (blk_below HT.out qb)
  replace HD := Aside0.mk (HD.out.below qb)
  replace HB := Aside0.mk (below_step HB.out qb)
  clear qb
  replace ht0 := blk_celln (HT.out) 0 _ rfl; replace ht1 := blk_celln (HT.out) 1 _ rfl; replace ht2 := blk_celln (HT.out) 2 _ rfl; replace ht3 := blk_celln (HT.out) 3 _ rfl; replace ht4 := blk_celln (HT.out) 4 _ rfl; replace ht5 := blk_celln (HT.out) 5 _ rfl
  go_wp2_with (fail)
  refine (there_d HD.out hb).mono ?_
  rintro e w7 ⟨rfl, qb⟩
  replace HT := Aside0.mk (blk_below HT.out qb)
  replace HD := Aside0.mk (HD.out.below qb)
  replace HB := Aside0.mk (below_step HB.out qb)
  clear qb
  replace ht0 := blk_celln (HT.out) 0 _ rfl; replace ht1 := blk_celln (HT.out) 1 _ rfl; replace ht2 := blk_celln (HT.out) 2 _ rfl; replace ht3 := blk_celln (HT.out) 3 _ rfl; replace ht4 := blk_celln (HT.out) 4 _ rfl; replace ht5 := blk_celln (HT.out) 5 _ rfl
  go_wp2_with (fail)
  refine (against_d HD.out hr).mono ?_
  rintro e w8 ⟨rfl, qb⟩
  replace HB := Aside0.mk (below_step HB.out qb)
  clear qb ht0 ht1 ht2 ht3 ht4 ht5
  go_wp2
  go_ret
  exact ⟨rfl, HB.out⟩
set_option maxHeartbeats 8000000 in
set_option maxRecDepth 100000 in
theorem po_c (w : World) (A1 A2 A3 : Option Addr) (c1 c2 c3 : Nat) (h1 : Kd.C Kd.string w A1 1 [⟨#[120]⟩]) (hc1 : 1 ≤ c1) (h2 : Kd.C (Kd.slice 9 Kd.string) w A2 1 [[⟨#[114]⟩]]) (hc2 : 1 ≤ c2) (h3 : Kd.C k53 w A3 4 nodes0) (hc3 : 4 ≤ c3) :
    Calls Tryd.prog 20 #[.agg #[.int .i64 2, .slice A1 1 c1, .slice A2 1 c2, .slice A3 4 c3]] w fun e w' => ∃ v0_ : Value, e = .returned v0_ ∧ Kd.R (Kd.int .u64) 44 w' w.heap.size (fun _ => True) v0_ [14, 12, 0, 0] ∧ Below w.heap.size w w' := by
  have H1 := Aside0.mk h1
  have H2 := Aside0.mk h2
  have H3 := Aside0.mk h3
  clear h1 h2 h3
  have hu28 := Tryd.underlying28
  have hu72 := Tryd.underlying72
  go_enter Tryd.func20, Tryd.ntmps20
  go_wp2_with (((with_reducible refine gate_dst (N := 1) rfl ?_); refine box_event ?hg (N := 1) ?hd (cs := #[.int .i64 2, .slice A1 1 c1, .slice A2 1 c2, .slice A3 4 c3]) (t := 28) ?hr ?_; (case hd => rfl); (case hg => rfl); (case hr => first | (go_simp; done) | (go_simp; rfl)); intro g1 hg1 w1 hbox hb1; have HX := Aside0.mk hbox; have HB := Aside0.mk hb1; have hx0 := blk_celln (HX.out) 0 _ rfl; have hx1 := blk_celln (HX.out) 1 _ rfl; have hx2 := blk_celln (HX.out) 2 _ rfl; have hx3 := blk_celln (HX.out) 3 _ rfl; clear hg1 hb1 hbox))
  refine (of_c _ A1 A2 A3 c1 c2 c3 (Kd.C_below H1.out HB.out) hc1 (Kd.C_below H2.out HB.out) hc2 (Kd.C_below H3.out HB.out) hc3).mono ?_
  rintro e w3 ⟨gd, go, rfl, q1_, q2_, q3_⟩
  replace HB := Aside0.mk (below_step HB.out q3_)
  replace HX := Aside0.mk (blk_below HX.out q3_)
  have HD := Aside0.mk (show DC w3 A1 A2 A3 c1 c2 c3 gd go from ⟨Kd.C_below H1.out HB.out, hc1, Kd.C_below H2.out HB.out, hc2, Kd.C_below H3.out HB.out, hc3, C_of_blk (by decide) q1_, C_of_blk (by decide) q2_⟩)
  have HGO := Aside0.mk q2_
  clear q1_ q2_ q3_ hx0 hx1 hx2 hx3
  go_upto_region 4 with ((with_reducible refine gate_dst (N := 3) rfl ?_); refine box_event ?hg (N := 3) ?hd (cs := #[.int .i64 0, .slice none 0 0, .slice none 0 0, .slice none 0 0, .slice none 0 0, .slice none 0 0]) (t := 72) ?hr ?_; (case hd => rfl); (case hg => rfl); (case hr => first | (go_simp; done) | (go_simp; rfl)); intro g7 hg__ w4 hbox_ hq_; have hg_ := Aside0.mk hg__; clear hg__; have z0_ := blk_celln hbox_ 0 _ rfl; have z1_ := blk_celln hbox_ 1 _ rfl; have z2_ := blk_celln hbox_ 2 _ rfl; have z3_ := blk_celln hbox_ 3 _ rfl; have z4_ := blk_celln hbox_ 4 _ rfl; have z5_ := blk_celln hbox_ 5 _ rfl; have f0_ := blk_frozen hbox_ 0; have f1_ := blk_frozen hbox_ 1; have f2_ := blk_frozen hbox_ 2; have f3_ := blk_frozen hbox_ 3; have f4_ := blk_frozen hbox_ 4; have f5_ := blk_frozen hbox_ 5)
  obtain ⟨F1_, F2_, F3_⟩ := fill72 hbox_ (.int .i64 2) (.slice A1 1 c1) (.slice A2 1 c2) (.slice A3 4 c3) (.slice (some ⟨gd, 0, none⟩) 4 4) (.slice (some ⟨go, 0, none⟩) 4 4) _ rfl
  replace hq_ := hq_.trans (F2_ w3.heap.size (Nat.le_of_eq hg_.out.symm))
  clear hg_ hbox_ F2_ F3_ z0_ f0_ z1_ f1_ z2_ f2_ z3_ f3_ z4_ f4_ z5_ f5_
  generalize (((((w4.setCell ⟨g7, 0, none⟩ (.int .i64 2)).setCell ⟨g7, 1, none⟩ (.slice A1 1 c1)).setCell ⟨g7, 2, none⟩ (.slice A2 1 c2)).setCell ⟨g7, 3, none⟩ (.slice A3 4 c3)).setCell ⟨g7, 4, none⟩ (.slice (some ⟨gd, 0, none⟩) 4 4)).setCell ⟨g7, 5, none⟩ (.slice (some ⟨go, 0, none⟩) 4 4) = w5 at F1_ hq_ ⊢
  have HT := Aside0.mk F1_
  replace HX := Aside0.mk (blk_below HX.out hq_)
  replace HGO := Aside0.mk (blk_below HGO.out hq_)
  replace HD := Aside0.mk (HD.out.below hq_)
  replace HB := Aside0.mk (below_step HB.out hq_)
  clear F1_ hq_
  have ht0 := blk_celln (HT.out) 0 _ rfl; have ht1 := blk_celln (HT.out) 1 _ rfl; have ht2 := blk_celln (HT.out) 2 _ rfl; have ht3 := blk_celln (HT.out) 3 _ rfl; have ht4 := blk_celln (HT.out) 4 _ rfl; have ht5 := blk_celln (HT.out) 5 _ rfl
  go_wp2_with (fail)
  refine (rows_before_d HD.out (by kernel_rfl : tree_deep_rows_at_tree_deep_before.f 200 2 [⟨#[120]⟩] [[⟨#[114]⟩]] nodes0 [0, 0, 1, 1] [0, 0, 2, 2] 2 [⟨#[120]⟩] [[⟨#[114]⟩]] nodes0 [0, 0, 1, 1] [0, 0, 2, 2] = some [14, 12, 0, 0])).mono ?_
  rintro e w6 ⟨v0, rfl, qr, qb⟩
  have QR := Aside0.mk (Kd.R_lower qr (below_size HB.out))
  replace HB := Aside0.mk (below_step HB.out qb)
  clear qr qb ht0 ht1 ht2 ht3 ht4 ht5
  go_wp2
  go_ret
  exact ⟨v0, rfl, QR.out, HB.out⟩
set_option maxHeartbeats 8000000 in
set_option maxRecDepth 100000 in
theorem conflict_c (w : World) (A1 A2 A3 : Option Addr) (c1 c2 c3 : Nat) (h1 : Kd.C Kd.string w A1 1 [⟨#[120]⟩]) (hc1 : 1 ≤ c1) (h2 : Kd.C (Kd.slice 9 Kd.string) w A2 1 [[⟨#[114]⟩]]) (hc2 : 1 ≤ c2) (h3 : Kd.C k53 w A3 4 nodes0) (hc3 : 4 ≤ c3) :
    Calls Tryd.prog 22 #[.agg #[.int .i64 2, .slice A1 1 c1, .slice A2 1 c2, .slice A3 4 c3]] w fun e w' => ∃ v0_ : Value, e = .returned v0_ ∧ Kd.R (Kd.int .u64) 44 w' w.heap.size (fun _ => True) v0_ [0, 0, 8, 4] ∧ Below w.heap.size w w' := by
  have H1 := Aside0.mk h1
  have H2 := Aside0.mk h2
  have H3 := Aside0.mk h3
  clear h1 h2 h3
  have hu28 := Tryd.underlying28
  have hu72 := Tryd.underlying72
  go_enter Tryd.func22, Tryd.ntmps22
  go_wp2_with (((with_reducible refine gate_dst (N := 1) rfl ?_); refine box_event ?hg (N := 1) ?hd (cs := #[.int .i64 2, .slice A1 1 c1, .slice A2 1 c2, .slice A3 4 c3]) (t := 28) ?hr ?_; (case hd => rfl); (case hg => rfl); (case hr => first | (go_simp; done) | (go_simp; rfl)); intro g1 hg1 w1 hbox hb1; have HX := Aside0.mk hbox; have HB := Aside0.mk hb1; have hx0 := blk_celln (HX.out) 0 _ rfl; have hx1 := blk_celln (HX.out) 1 _ rfl; have hx2 := blk_celln (HX.out) 2 _ rfl; have hx3 := blk_celln (HX.out) 3 _ rfl; clear hg1 hb1 hbox))
  refine (of_c _ A1 A2 A3 c1 c2 c3 (Kd.C_below H1.out HB.out) hc1 (Kd.C_below H2.out HB.out) hc2 (Kd.C_below H3.out HB.out) hc3).mono ?_
  rintro e w3 ⟨gd, go, rfl, q1_, q2_, q3_⟩
  replace HB := Aside0.mk (below_step HB.out q3_)
  replace HX := Aside0.mk (blk_below HX.out q3_)
  have HD := Aside0.mk (show DC w3 A1 A2 A3 c1 c2 c3 gd go from ⟨Kd.C_below H1.out HB.out, hc1, Kd.C_below H2.out HB.out, hc2, Kd.C_below H3.out HB.out, hc3, C_of_blk (by decide) q1_, C_of_blk (by decide) q2_⟩)
  have HGO := Aside0.mk q2_
  clear q1_ q2_ q3_ hx0 hx1 hx2 hx3
  go_upto_region 4 with ((with_reducible refine gate_dst (N := 3) rfl ?_); refine box_event ?hg (N := 3) ?hd (cs := #[.int .i64 0, .slice none 0 0, .slice none 0 0, .slice none 0 0, .slice none 0 0, .slice none 0 0]) (t := 72) ?hr ?_; (case hd => rfl); (case hg => rfl); (case hr => first | (go_simp; done) | (go_simp; rfl)); intro g7 hg__ w4 hbox_ hq_; have hg_ := Aside0.mk hg__; clear hg__; have z0_ := blk_celln hbox_ 0 _ rfl; have z1_ := blk_celln hbox_ 1 _ rfl; have z2_ := blk_celln hbox_ 2 _ rfl; have z3_ := blk_celln hbox_ 3 _ rfl; have z4_ := blk_celln hbox_ 4 _ rfl; have z5_ := blk_celln hbox_ 5 _ rfl; have f0_ := blk_frozen hbox_ 0; have f1_ := blk_frozen hbox_ 1; have f2_ := blk_frozen hbox_ 2; have f3_ := blk_frozen hbox_ 3; have f4_ := blk_frozen hbox_ 4; have f5_ := blk_frozen hbox_ 5)
  obtain ⟨F1_, F2_, F3_⟩ := fill72 hbox_ (.int .i64 2) (.slice A1 1 c1) (.slice A2 1 c2) (.slice A3 4 c3) (.slice (some ⟨gd, 0, none⟩) 4 4) (.slice (some ⟨go, 0, none⟩) 4 4) _ rfl
  replace hq_ := hq_.trans (F2_ w3.heap.size (Nat.le_of_eq hg_.out.symm))
  clear hg_ hbox_ F2_ F3_ z0_ f0_ z1_ f1_ z2_ f2_ z3_ f3_ z4_ f4_ z5_ f5_
  generalize (((((w4.setCell ⟨g7, 0, none⟩ (.int .i64 2)).setCell ⟨g7, 1, none⟩ (.slice A1 1 c1)).setCell ⟨g7, 2, none⟩ (.slice A2 1 c2)).setCell ⟨g7, 3, none⟩ (.slice A3 4 c3)).setCell ⟨g7, 4, none⟩ (.slice (some ⟨gd, 0, none⟩) 4 4)).setCell ⟨g7, 5, none⟩ (.slice (some ⟨go, 0, none⟩) 4 4) = w5 at F1_ hq_ ⊢
  have HT := Aside0.mk F1_
  replace HX := Aside0.mk (blk_below HX.out hq_)
  replace HGO := Aside0.mk (blk_below HGO.out hq_)
  replace HD := Aside0.mk (HD.out.below hq_)
  replace HB := Aside0.mk (below_step HB.out hq_)
  clear F1_ hq_
  have ht0 := blk_celln (HT.out) 0 _ rfl; have ht1 := blk_celln (HT.out) 1 _ rfl; have ht2 := blk_celln (HT.out) 2 _ rfl; have ht3 := blk_celln (HT.out) 3 _ rfl; have ht4 := blk_celln (HT.out) 4 _ rfl; have ht5 := blk_celln (HT.out) 5 _ rfl
  go_wp2_with (fail)
  refine (rows_against_d HD.out (by kernel_rfl : tree_deep_rows_at_tree_deep_against.f 200 2 [⟨#[120]⟩] [[⟨#[114]⟩]] nodes0 [0, 0, 1, 1] [0, 0, 2, 2] 2 [⟨#[120]⟩] [[⟨#[114]⟩]] nodes0 [0, 0, 1, 1] [0, 0, 2, 2] = some [0, 0, 8, 4])).mono ?_
  rintro e w6 ⟨v0, rfl, qr, qb⟩
  have QR := Aside0.mk (Kd.R_lower qr (below_size HB.out))
  replace HB := Aside0.mk (below_step HB.out qb)
  clear qr qb ht0 ht1 ht2 ht3 ht4 ht5
  go_wp2
  go_ret
  exact ⟨v0, rfl, QR.out, HB.out⟩
set_option maxHeartbeats 8000000 in
set_option maxRecDepth 100000 in
theorem inits_c (w : World) (A1 A2 A3 : Option Addr) (c1 c2 c3 : Nat) (h1 : Kd.C Kd.string w A1 1 [⟨#[120]⟩]) (hc1 : 1 ≤ c1) (h2 : Kd.C (Kd.slice 9 Kd.string) w A2 1 [[⟨#[114]⟩]]) (hc2 : 1 ≤ c2) (h3 : Kd.C k53 w A3 4 nodes0) (hc3 : 4 ≤ c3) :
    Calls Tryd.prog 24 #[.agg #[.int .i64 2, .slice A1 1 c1, .slice A2 1 c2, .slice A3 4 c3]] w fun e w' => e = .returned (.int .u64 3) ∧ Below w.heap.size w w' := by
  have H1 := Aside0.mk h1
  have H2 := Aside0.mk h2
  have H3 := Aside0.mk h3
  clear h1 h2 h3
  have hu28 := Tryd.underlying28
  have hu72 := Tryd.underlying72
  go_enter Tryd.func24, Tryd.ntmps24
  go_wp2_with (((with_reducible refine gate_dst (N := 1) rfl ?_); refine box_event ?hg (N := 1) ?hd (cs := #[.int .i64 2, .slice A1 1 c1, .slice A2 1 c2, .slice A3 4 c3]) (t := 28) ?hr ?_; (case hd => rfl); (case hg => rfl); (case hr => first | (go_simp; done) | (go_simp; rfl)); intro g1 hg1 w1 hbox hb1; have HX := Aside0.mk hbox; have HB := Aside0.mk hb1; have hx0 := blk_celln (HX.out) 0 _ rfl; have hx1 := blk_celln (HX.out) 1 _ rfl; have hx2 := blk_celln (HX.out) 2 _ rfl; have hx3 := blk_celln (HX.out) 3 _ rfl; clear hg1 hb1 hbox))
  refine (of_c _ A1 A2 A3 c1 c2 c3 (Kd.C_below H1.out HB.out) hc1 (Kd.C_below H2.out HB.out) hc2 (Kd.C_below H3.out HB.out) hc3).mono ?_
  rintro e w3 ⟨gd, go, rfl, q1_, q2_, q3_⟩
  replace HB := Aside0.mk (below_step HB.out q3_)
  replace HX := Aside0.mk (blk_below HX.out q3_)
  have HD := Aside0.mk (show DC w3 A1 A2 A3 c1 c2 c3 gd go from ⟨Kd.C_below H1.out HB.out, hc1, Kd.C_below H2.out HB.out, hc2, Kd.C_below H3.out HB.out, hc3, C_of_blk (by decide) q1_, C_of_blk (by decide) q2_⟩)
  have HGO := Aside0.mk q2_
  clear q1_ q2_ q3_ hx0 hx1 hx2 hx3
  go_upto_region 4 with ((with_reducible refine gate_dst (N := 3) rfl ?_); refine box_event ?hg (N := 3) ?hd (cs := #[.int .i64 0, .slice none 0 0, .slice none 0 0, .slice none 0 0, .slice none 0 0, .slice none 0 0]) (t := 72) ?hr ?_; (case hd => rfl); (case hg => rfl); (case hr => first | (go_simp; done) | (go_simp; rfl)); intro g7 hg__ w4 hbox_ hq_; have hg_ := Aside0.mk hg__; clear hg__; have z0_ := blk_celln hbox_ 0 _ rfl; have z1_ := blk_celln hbox_ 1 _ rfl; have z2_ := blk_celln hbox_ 2 _ rfl; have z3_ := blk_celln hbox_ 3 _ rfl; have z4_ := blk_celln hbox_ 4 _ rfl; have z5_ := blk_celln hbox_ 5 _ rfl; have f0_ := blk_frozen hbox_ 0; have f1_ := blk_frozen hbox_ 1; have f2_ := blk_frozen hbox_ 2; have f3_ := blk_frozen hbox_ 3; have f4_ := blk_frozen hbox_ 4; have f5_ := blk_frozen hbox_ 5)
  obtain ⟨F1_, F2_, F3_⟩ := fill72 hbox_ (.int .i64 2) (.slice A1 1 c1) (.slice A2 1 c2) (.slice A3 4 c3) (.slice (some ⟨gd, 0, none⟩) 4 4) (.slice (some ⟨go, 0, none⟩) 4 4) _ rfl
  replace hq_ := hq_.trans (F2_ w3.heap.size (Nat.le_of_eq hg_.out.symm))
  clear hg_ hbox_ F2_ F3_ z0_ f0_ z1_ f1_ z2_ f2_ z3_ f3_ z4_ f4_ z5_ f5_
  generalize (((((w4.setCell ⟨g7, 0, none⟩ (.int .i64 2)).setCell ⟨g7, 1, none⟩ (.slice A1 1 c1)).setCell ⟨g7, 2, none⟩ (.slice A2 1 c2)).setCell ⟨g7, 3, none⟩ (.slice A3 4 c3)).setCell ⟨g7, 4, none⟩ (.slice (some ⟨gd, 0, none⟩) 4 4)).setCell ⟨g7, 5, none⟩ (.slice (some ⟨go, 0, none⟩) 4 4) = w5 at F1_ hq_ ⊢
  have HT := Aside0.mk F1_
  replace HX := Aside0.mk (blk_below HX.out hq_)
  replace HGO := Aside0.mk (blk_below HGO.out hq_)
  replace HD := Aside0.mk (HD.out.below hq_)
  replace HB := Aside0.mk (below_step HB.out hq_)
  clear F1_ hq_
  have ht0 := blk_celln (HT.out) 0 _ rfl; have ht1 := blk_celln (HT.out) 1 _ rfl; have ht2 := blk_celln (HT.out) 2 _ rfl; have ht3 := blk_celln (HT.out) 3 _ rfl; have ht4 := blk_celln (HT.out) 4 _ rfl; have ht5 := blk_celln (HT.out) 5 _ rfl
  go_wp2_with (fail)
  refine (set_start_d HD.out (by kernel_rfl : tree_deep_set_at_tree_deep_start.f 200 2 [⟨#[120]⟩] [[⟨#[114]⟩]] nodes0 [0, 0, 1, 1] [0, 0, 2, 2] 2 [⟨#[120]⟩] [[⟨#[114]⟩]] nodes0 [0, 0, 1, 1] [0, 0, 2, 2] = some 3)).mono ?_
  rintro e w6 ⟨rfl, qb⟩
  replace HB := Aside0.mk (below_step HB.out qb)
  clear qb ht0 ht1 ht2 ht3 ht4 ht5
  go_wp2
  go_ret
  exact ⟨rfl, HB.out⟩
set_option maxHeartbeats 8000000 in
set_option maxRecDepth 100000 in
theorem way_c (w : World) (A1 A2 A3 : Option Addr) (c1 c2 c3 : Nat) (h1 : Kd.C Kd.string w A1 1 [⟨#[120]⟩]) (hc1 : 1 ≤ c1) (h2 : Kd.C (Kd.slice 9 Kd.string) w A2 1 [[⟨#[114]⟩]]) (hc2 : 1 ≤ c2) (h3 : Kd.C k53 w A3 4 nodes0) (hc3 : 4 ≤ c3) :
    Calls Tryd.prog 15 #[.agg #[.int .i64 2, .slice A1 1 c1, .slice A2 1 c2, .slice A3 4 c3], .int .i64 3] w fun e w' => e = .returned (.int .u64 11) ∧ Below w.heap.size w w' := by
  have H1 := Aside0.mk h1
  have H2 := Aside0.mk h2
  have H3 := Aside0.mk h3
  clear h1 h2 h3
  have hu28 := Tryd.underlying28
  have hu72 := Tryd.underlying72
  go_enter Tryd.func15, Tryd.ntmps15
  go_wp2_with (((with_reducible refine gate_dst (N := 2) rfl ?_); refine box_event ?hg (N := 2) ?hd (cs := #[.int .i64 2, .slice A1 1 c1, .slice A2 1 c2, .slice A3 4 c3]) (t := 28) ?hr ?_; (case hd => rfl); (case hg => rfl); (case hr => first | (go_simp; done) | (go_simp; rfl)); intro g1 hg1 w1 hbox hb1; have HX := Aside0.mk hbox; have HB := Aside0.mk hb1; have hx0 := blk_celln (HX.out) 0 _ rfl; have hx1 := blk_celln (HX.out) 1 _ rfl; have hx2 := blk_celln (HX.out) 2 _ rfl; have hx3 := blk_celln (HX.out) 3 _ rfl; clear hg1 hb1 hbox))
  refine (of_c _ A1 A2 A3 c1 c2 c3 (Kd.C_below H1.out HB.out) hc1 (Kd.C_below H2.out HB.out) hc2 (Kd.C_below H3.out HB.out) hc3).mono ?_
  rintro e w3 ⟨gd, go, rfl, q1_, q2_, q3_⟩
  replace HB := Aside0.mk (below_step HB.out q3_)
  replace HX := Aside0.mk (blk_below HX.out q3_)
  have HD := Aside0.mk (show DC w3 A1 A2 A3 c1 c2 c3 gd go from ⟨Kd.C_below H1.out HB.out, hc1, Kd.C_below H2.out HB.out, hc2, Kd.C_below H3.out HB.out, hc3, C_of_blk (by decide) q1_, C_of_blk (by decide) q2_⟩)
  have HGO := Aside0.mk q2_
  clear q1_ q2_ q3_ hx0 hx1 hx2 hx3
  go_upto_region 2 with ((with_reducible refine gate_dst (N := 5) rfl ?_); refine box_event ?hg (N := 5) ?hd (cs := #[.int .i64 0, .slice none 0 0, .slice none 0 0, .slice none 0 0, .slice none 0 0, .slice none 0 0]) (t := 72) ?hr ?_; (case hd => rfl); (case hg => rfl); (case hr => first | (go_simp; done) | (go_simp; rfl)); intro g7 hg__ w4 hbox_ hq_; have hg_ := Aside0.mk hg__; clear hg__; have z0_ := blk_celln hbox_ 0 _ rfl; have z1_ := blk_celln hbox_ 1 _ rfl; have z2_ := blk_celln hbox_ 2 _ rfl; have z3_ := blk_celln hbox_ 3 _ rfl; have z4_ := blk_celln hbox_ 4 _ rfl; have z5_ := blk_celln hbox_ 5 _ rfl; have f0_ := blk_frozen hbox_ 0; have f1_ := blk_frozen hbox_ 1; have f2_ := blk_frozen hbox_ 2; have f3_ := blk_frozen hbox_ 3; have f4_ := blk_frozen hbox_ 4; have f5_ := blk_frozen hbox_ 5)
  obtain ⟨F1_, F2_, F3_⟩ := fill72 hbox_ (.int .i64 2) (.slice A1 1 c1) (.slice A2 1 c2) (.slice A3 4 c3) (.slice (some ⟨gd, 0, none⟩) 4 4) (.slice (some ⟨go, 0, none⟩) 4 4) _ rfl
  replace hq_ := hq_.trans (F2_ w3.heap.size (Nat.le_of_eq hg_.out.symm))
  clear hg_ hbox_ F2_ F3_ z0_ f0_ z1_ f1_ z2_ f2_ z3_ f3_ z4_ f4_ z5_ f5_
  generalize (((((w4.setCell ⟨g7, 0, none⟩ (.int .i64 2)).setCell ⟨g7, 1, none⟩ (.slice A1 1 c1)).setCell ⟨g7, 2, none⟩ (.slice A2 1 c2)).setCell ⟨g7, 3, none⟩ (.slice A3 4 c3)).setCell ⟨g7, 4, none⟩ (.slice (some ⟨gd, 0, none⟩) 4 4)).setCell ⟨g7, 5, none⟩ (.slice (some ⟨go, 0, none⟩) 4 4) = w5 at F1_ hq_ ⊢
  have HT := Aside0.mk F1_
  replace HX := Aside0.mk (blk_below HX.out hq_)
  replace HGO := Aside0.mk (blk_below HGO.out hq_)
  replace HD := Aside0.mk (HD.out.below hq_)
  replace HB := Aside0.mk (below_step HB.out hq_)
  clear F1_ hq_
  have ht0 := blk_celln (HT.out) 0 _ rfl; have ht1 := blk_celln (HT.out) 1 _ rfl; have ht2 := blk_celln (HT.out) 2 _ rfl; have ht3 := blk_celln (HT.out) 3 _ rfl; have ht4 := blk_celln (HT.out) 4 _ rfl; have ht5 := blk_celln (HT.out) 5 _ rfl
  go_wp2_with (fail)
  refine (there_d HD.out (by kernel_rfl : tree_deep_there.f 2 [⟨#[120]⟩] [[⟨#[114]⟩]] nodes0 [0, 0, 1, 1] [0, 0, 2, 2] 3 = some true)).mono ?_
  rintro e w6 ⟨rfl, qb⟩
  replace HGO := Aside0.mk (blk_below HGO.out qb)
  replace HT := Aside0.mk (blk_below HT.out qb)
  replace HD := Aside0.mk (HD.out.below qb)
  replace HB := Aside0.mk (below_step HB.out qb)
  clear qb
  replace ht0 := blk_celln (HT.out) 0 _ rfl; replace ht1 := blk_celln (HT.out) 1 _ rfl; replace ht2 := blk_celln (HT.out) 2 _ rfl; replace ht3 := blk_celln (HT.out) 3 _ rfl; replace ht4 := blk_celln (HT.out) 4 _ rfl; replace ht5 := blk_celln (HT.out) 5 _ rfl
  go_upto_region 4 with (fail)
  clear ht0 ht1 ht2 ht3 ht4 ht5
  replace HT := Aside0.mk (blk_drew HT.out)
  replace HGO := Aside0.mk (blk_drew HGO.out)
  replace HD := Aside0.mk (HD.out.below (below_drew (Below.refl _ _)))
  replace HB := Aside0.mk (below_drew HB.out)
  refine start_ (n := 13) (S := fun w' => w'.cell? ⟨g7, 0, none⟩ = some (.int .i64 2) ∧ w'.cell? ⟨g7, 1, none⟩ = some (.slice A1 1 c1) ∧ w'.cell? ⟨g7, 2, none⟩ = some (.slice A2 1 c2) ∧ w'.cell? ⟨g7, 3, none⟩ = some (.slice A3 4 c3) ∧ w'.cell? ⟨g7, 4, none⟩ = some (.slice (some ⟨gd, 0, none⟩) 4 4) ∧ w'.cell? ⟨g7, 5, none⟩ = some (.slice (some ⟨go, 0, none⟩) 4 4) ∧ w'.cell? ⟨go, 3, none⟩ = some (.int .u64 2)) (ds := []) #[Z,Z,Z,Z,Z,Z,Z,Z,Z,Z,Z,Z,Z] (by kernel_rfl) rfl rfl ⟨(blk_celln HT.out 0 _ rfl), (blk_celln HT.out 1 _ rfl), (blk_celln HT.out 2 _ rfl), (blk_celln HT.out 3 _ rfl), (blk_celln HT.out 4 _ rfl), (blk_celln HT.out 5 _ rfl), (blk_celln HGO.out 3 _ rfl)⟩ (fun hHeld => ?_)
  refine with_tabW way.tab4 way.bits4 (fun HT_ HW_ => ?_)
  generalize World.drew _ = w7 at HT HGO HD HB hHeld ⊢
  refine take_ (i := 0) (N := some 20) (v := ?_) (a' := ?_) #[Y,Z,Z,Z,Z,Z,Z,Z,Z,Z,Z,Z,Z] rfl rfl (take_ofW HT_.out HW_.out (by kernel_rfl)) (fun _ _ _ h => h) (Or.inl ⟨by rfl, ?_⟩) hHeld ?_ ?_
  rotate_left
  · rintro w' ⟨s0, s1, s2, s3, s4, s5, s6⟩
    go_simp
    with_reducible rfl
  rotate_left
  · simp only [Act.put, pA, pB, pC, i64_w, i32_w]
    rfl
  refine take_ (i := 1) (N := some 21) (v := ?_) (a' := ?_) #[Y,Y,Z,Z,Z,Z,Z,Z,Z,Z,Z,Z,Z] rfl rfl (take_ofW HT_.out HW_.out (by kernel_rfl)) (fun _ _ _ h => h) (Or.inl ⟨by rfl, ?_⟩) hHeld ?_ ?_
  rotate_left
  · rintro w' ⟨s0, s1, s2, s3, s4, s5, s6⟩
    go_simp
    with_reducible rfl
  rotate_left
  · simp only [Act.put, pA, pB, pC, i64_w, i32_w]
    rfl
  refine pure_ (i := 2) (N := some 22) (v := ?_) (a' := ?_) #[Y,Y,Y,Z,Z,Z,Z,Z,Z,Z,Z,Z,Z] rfl rfl (any_of HT_.out (by kernel_rfl)) (fun _ _ _ h => h) (Or.inl ⟨by rfl, ?_⟩) ?_ ?_
  rotate_left
  · intro w'
    go_simp
    with_reducible rfl
  rotate_left
  · simp only [Act.put, pA, pB, pC, i64_w, i32_w]
    rfl
  refine pure_ (i := 4) (N := some 24) (v := ?_) (a' := ?_) #[Y,Y,Y,Z,Y,Z,Z,Z,Z,Z,Z,Z,Z] rfl rfl (any_of HT_.out (by kernel_rfl)) (fun _ _ _ h => h) (Or.inl ⟨by rfl, ?_⟩) ?_ ?_
  rotate_left
  · intro w'
    go_simp
    with_reducible rfl
  rotate_left
  · simp only [Act.put, pA, pB, pC, i64_w, i32_w]
    rfl
  refine take_ (i := 5) (N := some 25) (v := ?_) (a' := ?_) #[Y,Y,Y,Z,Y,Y,Z,Z,Z,Z,Z,Z,Z] rfl rfl (take_ofW HT_.out HW_.out (by kernel_rfl)) (fun _ _ _ h => h) (Or.inl ⟨by rfl, ?_⟩) hHeld ?_ ?_
  rotate_left
  · rintro w' ⟨s0, s1, s2, s3, s4, s5, s6⟩
    go_simp
    with_reducible rfl
  rotate_left
  · simp only [Act.put, pA, pB, pC, i64_w, i32_w]
    rfl
  refine pure_ (i := 6) (N := some 26) (v := ?_) (a' := ?_) #[Y,Y,Y,Z,Y,Y,Y,Z,Z,Z,Z,Z,Z] rfl rfl (any_of HT_.out (by kernel_rfl)) (fun _ _ _ h => h) (Or.inl ⟨by rfl, ?_⟩) ?_ ?_
  rotate_left
  · intro w'
    go_simp
    with_reducible rfl
  rotate_left
  · simp only [Act.put, pA, pB, pC, i64_w, i32_w]
    rfl
  refine pure_ (i := 7) (N := some 27) (v := ?_) (a' := ?_) #[Y,Y,Y,Z,Y,Y,Y,Y,Z,Z,Z,Z,Z] rfl rfl (any_of HT_.out (by kernel_rfl)) (fun _ _ _ h => h) (Or.inl ⟨by rfl, ?_⟩) ?_ ?_
  rotate_left
  · intro w'
    go_simp
    with_reducible rfl
  rotate_left
  · simp only [Act.put, pA, pB, pC, i64_w, i32_w]
    rfl
  refine take_ (i := 8) (N := some 28) (v := ?_) (a' := ?_) #[Y,Y,Y,Z,Y,Y,Y,Y,Y,Z,Z,Z,Z] rfl rfl (take_ofW HT_.out HW_.out (by kernel_rfl)) (fun _ _ _ h => h) (Or.inl ⟨by rfl, ?_⟩) hHeld ?_ ?_
  rotate_left
  · rintro w' ⟨s0, s1, s2, s3, s4, s5, s6⟩
    go_simp
    with_reducible rfl
  rotate_left
  · simp only [Act.put, pA, pB, pC, i64_w, i32_w]
    rfl
  refine pure_ (i := 10) (N := some 30) (v := ?_) (a' := ?_) #[Y,Y,Y,Z,Y,Y,Y,Y,Y,Z,Y,Z,Z] rfl rfl (any_of HT_.out (by kernel_rfl)) (fun _ _ _ h => h) (Or.inl ⟨by rfl, ?_⟩) ?_ ?_
  rotate_left
  · intro w'
    go_simp
    with_reducible rfl
  rotate_left
  · simp only [Act.put, pA, pB, pC, i64_w, i32_w]
    rfl
  refine one_ (i := 3) (N := some 23) #[Y,Y,Y,Y,Y,Y,Y,Y,Y,Z,Y,Z,Z] rfl rfl (one_of HT_.out (by kernel_rfl)) (by decide) (fun K hK => ?_)
  refine goes_ Tryd.func43 (by kernel_rfl) rfl #[.agg #[.int .i64 2, .slice A1 1 c1, .slice A2 1 c2, .slice A3 4 c3, .slice (some ⟨gd, 0, none⟩) 4 4, .slice (some ⟨go, 0, none⟩) 4 4], .func (.func 44) #[.agg #[.int .i64 2, .slice A1 1 c1, .slice A2 1 c2, .slice A3 4 c3, .slice (some ⟨gd, 0, none⟩) 4 4, .slice (some ⟨go, 0, none⟩) 4 4]] #[]] (by rfl) rfl rfl (by (try simp only [List.map_toArray, List.map_cons, List.map_nil]); first | done | rfl) ?_
  refine (set_first_d HD.out (by kernel_rfl : tree_deep_set_at_tree_deep_first.f 200 2 [⟨#[120]⟩] [[⟨#[114]⟩]] nodes0 [0, 0, 1, 1] [0, 0, 2, 2] 2 [⟨#[120]⟩] [[⟨#[114]⟩]] nodes0 [0, 0, 1, 1] [0, 0, 2, 2] = some 1)).mono ?_
  rintro e w8 ⟨rfl, qb⟩
  refine ⟨_, rfl, ?_⟩
  replace HGO := Aside0.mk (blk_below HGO.out qb)
  replace HT := Aside0.mk (blk_below HT.out qb)
  replace HD := Aside0.mk (HD.out.below qb)
  replace HB := Aside0.mk (below_step HB.out qb)
  clear qb
  refine hK.out _ _ ⟨(blk_celln HT.out 0 _ rfl), (blk_celln HT.out 1 _ rfl), (blk_celln HT.out 2 _ rfl), (blk_celln HT.out 3 _ rfl), (blk_celln HT.out 4 _ rfl), (blk_celln HT.out 5 _ rfl), (blk_celln HGO.out 3 _ rfl)⟩ (fun hHeld => ?_)
  clear hK K
  refine norm_ (a' := ?_) ?_ ?_
  rotate_left
  · show Act.put _ (some 23) _ = _
    simp only [Act.put, pA, pB, pC, i64_w, i32_w]
    rfl
  refine pure_ (i := 9) (N := some 29) (v := ?_) (a' := ?_) #[Y,Y,Y,Y,Y,Y,Y,Y,Y,Y,Y,Z,Z] rfl rfl (any_of HT_.out (by kernel_rfl)) (fun _ _ _ h => h) (Or.inl ⟨by rfl, ?_⟩) ?_ ?_
  rotate_left
  · intro w'
    go_simp
    with_reducible rfl
  rotate_left
  · simp only [Act.put, pA, pB, pC, i64_w, i32_w]
    rfl
  refine one_ (i := 11) (N := some 31) #[Y,Y,Y,Y,Y,Y,Y,Y,Y,Y,Y,Y,Z] rfl rfl (one_of HT_.out (by kernel_rfl)) (by decide) (fun K hK => ?_)
  refine goes_ Tryd.func42 (by kernel_rfl) rfl #[.int .u64 3, .int .i64 3] (by rfl) rfl rfl (by (try simp only [List.map_toArray, List.map_cons, List.map_nil]); first | done | rfl) ?_
  refine (bits_Put.calls 3 3 11 _ (by kernel_rfl)).mono ?_
  rintro e w9 ⟨rfl, ⟨nd, rfl⟩⟩
  refine ⟨_, rfl, ?_⟩
  replace HB := Aside0.mk (pw_below_drewN HB.out nd)
  refine hK.out _ _ hHeld (fun hHeld => ?_)
  clear hK K
  refine norm_ (a' := ?_) ?_ ?_
  rotate_left
  · show Act.put _ (some 31) _ = _
    simp only [Act.put, pA, pB, pC, i64_w, i32_w]
    rfl
  refine pure_ (i := 12) (N := some 4) (v := ?_) (a' := ?_) #[Y,Y,Y,Y,Y,Y,Y,Y,Y,Y,Y,Y,Y] rfl rfl (any_of HT_.out (by kernel_rfl)) (fun _ _ _ h => h) (Or.inl ⟨by rfl, ?_⟩) ?_ ?_
  rotate_left
  · intro w'
    go_simp
    with_reducible rfl
  rotate_left
  · simp only [Act.put, pA, pB, pC, i64_w, i32_w]
    rfl
  refine done_ (done_of HT_.out (by kernel_rfl)) ?_
  clear hHeld
  go_wp2
  go_ret
  exact ⟨rfl, HB.out⟩
end Go.Proofs.YtlpdcdkjmcpfdaaDoor.PT
