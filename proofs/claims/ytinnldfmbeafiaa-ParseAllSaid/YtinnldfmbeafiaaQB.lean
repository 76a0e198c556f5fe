/- The cursor's small methods, walked by hand. -/
import Derived.Test.YtinnldfmbeafiaaQA
namespace Go.Proofs.Ytinnldfmbeafiaa.PA
open Go.RowKit Go.Proofs.YtinnldfmbeafiaaW.PrintWords Go.Proofs.YtinnldfmbeafiaaW.PrintLast Go.Proofs.YtinnldfmbeafiaaW.PrintMore
set_option linter.unusedVariables false
set_option linter.unusedSimpArgs false
attribute [local go_sem] cell_set_some
theorem zQBq1 {p : Prop} (h : p := by rw [HN.out]; exact HS.out.only H2.out (by decide) (by decide) (Nat.le_trans HSB.out G2.out) F2_) : p := h
theorem fill27 {w : World} {g : Nat} {e0 e1 e2 e3 e4 : Value} (h : w.heap[g]? = some (.cells #[e0, e1, e2, e3, e4] 27 (0, 0))) (v0 v1 v2 v3 v4 : Value) (W : World) (hW : W = ((((w.setCell ⟨g, 0, none⟩ v0).setCell ⟨g, 1, none⟩ v1).setCell ⟨g, 2, none⟩ v2).setCell ⟨g, 3, none⟩ v3).setCell ⟨g, 4, none⟩ v4) :
 W.heap[g]? = some (.cells #[v0, v1, v2, v3, v4] 27 (0, 0)) ∧ Only g w W := by
 subst hW
 have b0 := blk_put (cs' := #[v0, e1, e2, e3, e4]) h 0 v0 (by simp)
 have b1 := blk_put (cs' := #[v0, v1, e2, e3, e4]) b0 1 v1 (by simp)
 have b2 := blk_put (cs' := #[v0, v1, v2, e3, e4]) b1 2 v2 (by simp)
 have b3 := blk_put (cs' := #[v0, v1, v2, v3, e4]) b2 3 v3 (by simp)
 have b4 := blk_put (cs' := #[v0, v1, v2, v3, v4]) b3 4 v4 (by simp)
 exact ⟨b4, (((((Only.refl g w).set 0 _).set 1 _).set 2 _).set 3 _).set 4 _⟩
theorem fill29 {w : World} {g : Nat} {e0 e1 e2 e3 e4 e5 e6 e7 e8 e9 : Value} (h : w.heap[g]? = some (.cells #[e0, e1, e2, e3, e4, e5, e6, e7, e8, e9] 29 (0, 0))) (v0 v1 v2 v3 v4 v5 v6 v7 v8 v9 : Value) (W : World) (hW : W = (((((((((w.setCell ⟨g, 0, none⟩ v0).setCell ⟨g, 1, none⟩ v1).setCell ⟨g, 2, none⟩ v2).setCell ⟨g, 3, none⟩ v3).setCell ⟨g, 4, none⟩ v4).setCell ⟨g, 5, none⟩ v5).setCell ⟨g, 6, none⟩ v6).setCell ⟨g, 7, none⟩ v7).setCell ⟨g, 8, none⟩ v8).setCell ⟨g, 9, none⟩ v9) :
 W.heap[g]? = some (.cells #[v0, v1, v2, v3, v4, v5, v6, v7, v8, v9] 29 (0, 0)) ∧ Only g w W := by
 subst hW
 have b0 := blk_put (cs' := #[v0, e1, e2, e3, e4, e5, e6, e7, e8, e9]) h 0 v0 (by simp)
 have b1 := blk_put (cs' := #[v0, v1, e2, e3, e4, e5, e6, e7, e8, e9]) b0 1 v1 (by simp)
 have b2 := blk_put (cs' := #[v0, v1, v2, e3, e4, e5, e6, e7, e8, e9]) b1 2 v2 (by simp)
 have b3 := blk_put (cs' := #[v0, v1, v2, v3, e4, e5, e6, e7, e8, e9]) b2 3 v3 (by simp)
 have b4 := blk_put (cs' := #[v0, v1, v2, v3, v4, e5, e6, e7, e8, e9]) b3 4 v4 (by simp)
 have b5 := blk_put (cs' := #[v0, v1, v2, v3, v4, v5, e6, e7, e8, e9]) b4 5 v5 (by simp)
 have b6 := blk_put (cs' := #[v0, v1, v2, v3, v4, v5, v6, e7, e8, e9]) b5 6 v6 (by simp)
 have b7 := blk_put (cs' := #[v0, v1, v2, v3, v4, v5, v6, v7, e8, e9]) b6 7 v7 (by simp)
 have b8 := blk_put (cs' := #[v0, v1, v2, v3, v4, v5, v6, v7, v8, e9]) b7 8 v8 (by simp)
 have b9 := blk_put (cs' := #[v0, v1, v2, v3, v4, v5, v6, v7, v8, v9]) b8 9 v9 (by simp)
 exact ⟨b9, ((((((((((Only.refl g w).set 0 _).set 1 _).set 2 _).set 3 _).set 4 _).set 5 _).set 6 _).set 7 _).set 8 _).set 9 _⟩
theorem fill32 {w : World} {g : Nat} {e0 e1 : Value} (h : w.heap[g]? = some (.cells #[e0, e1] 32 (0, 0))) (v0 v1 : Value) (W : World) (hW : W = (w.setCell ⟨g, 0, none⟩ v0).setCell ⟨g, 1, none⟩ v1) :
 W.heap[g]? = some (.cells #[v0, v1] 32 (0, 0)) ∧ Only g w W := by
 subst hW
 have b0 := blk_put (cs' := #[v0, e1]) h 0 v0 (by simp)
 have b1 := blk_put (cs' := #[v0, v1]) b0 1 v1 (by simp)
 exact ⟨b1, ((Only.refl g w).set 0 _).set 1 _⟩
theorem fill53 {w : World} {g : Nat} {e0 e1 e2 e3 : Value} (h : w.heap[g]? = some (.cells #[e0, e1, e2, e3] 53 (0, 0))) (v0 v1 v2 v3 : Value) (W : World) (hW : W = (((w.setCell ⟨g, 0, none⟩ v0).setCell ⟨g, 1, none⟩ v1).setCell ⟨g, 2, none⟩ v2).setCell ⟨g, 3, none⟩ v3) :
 W.heap[g]? = some (.cells #[v0, v1, v2, v3] 53 (0, 0)) ∧ Only g w W := by
 subst hW
 have b0 := blk_put (cs' := #[v0, e1, e2, e3]) h 0 v0 (by simp)
 have b1 := blk_put (cs' := #[v0, v1, e2, e3]) b0 1 v1 (by simp)
 have b2 := blk_put (cs' := #[v0, v1, v2, e3]) b1 2 v2 (by simp)
 have b3 := blk_put (cs' := #[v0, v1, v2, v3]) b2 3 v3 (by simp)
 exact ⟨b3, ((((Only.refl g w).set 0 _).set 1 _).set 2 _).set 3 _⟩
theorem fill62 {w : World} {g : Nat} {e0 e1 e2 e3 e4 e5 e6 : Value} (h : w.heap[g]? = some (.cells #[e0, e1, e2, e3, e4, e5, e6] 62 (0, 0))) (v0 v1 v2 v3 v4 v5 v6 : Value) (W : World) (hW : W = ((((((w.setCell ⟨g, 0, none⟩ v0).setCell ⟨g, 1, none⟩ v1).setCell ⟨g, 2, none⟩ v2).setCell ⟨g, 3, none⟩ v3).setCell ⟨g, 4, none⟩ v4).setCell ⟨g, 5, none⟩ v5).setCell ⟨g, 6, none⟩ v6) :
 W.heap[g]? = some (.cells #[v0, v1, v2, v3, v4, v5, v6] 62 (0, 0)) ∧ Only g w W := by
 subst hW
 have b0 := blk_put (cs' := #[v0, e1, e2, e3, e4, e5, e6]) h 0 v0 (by simp)
 have b1 := blk_put (cs' := #[v0, v1, e2, e3, e4, e5, e6]) b0 1 v1 (by simp)
 have b2 := blk_put (cs' := #[v0, v1, v2, e3, e4, e5, e6]) b1 2 v2 (by simp)
 have b3 := blk_put (cs' := #[v0, v1, v2, v3, e4, e5, e6]) b2 3 v3 (by simp)
 have b4 := blk_put (cs' := #[v0, v1, v2, v3, v4, e5, e6]) b3 4 v4 (by simp)
 have b5 := blk_put (cs' := #[v0, v1, v2, v3, v4, v5, e6]) b4 5 v5 (by simp)
 have b6 := blk_put (cs' := #[v0, v1, v2, v3, v4, v5, v6]) b5 6 v6 (by simp)
 exact ⟨b6, (((((((Only.refl g w).set 0 _).set 1 _).set 2 _).set 3 _).set 4 _).set 5 _).set 6 _⟩
theorem fill68 {w : World} {g : Nat} {e0 e1 : Value} (h : w.heap[g]? = some (.cells #[e0, e1] 68 (0, 0))) (v0 v1 : Value) (W : World) (hW : W = (w.setCell ⟨g, 0, none⟩ v0).setCell ⟨g, 1, none⟩ v1) :
 W.heap[g]? = some (.cells #[v0, v1] 68 (0, 0)) ∧ Only g w W := by
 subst hW
 have b0 := blk_put (cs' := #[v0, e1]) h 0 v0 (by simp)
 have b1 := blk_put (cs' := #[v0, v1]) b0 1 v1 (by simp)
 exact ⟨b1, ((Only.refl g w).set 0 _).set 1 _⟩
theorem fill94 {w : World} {g : Nat} {e0 e1 e2 e3 : Value} (h : w.heap[g]? = some (.cells #[e0, e1, e2, e3] 94 (0, 0))) (v0 v1 v2 v3 : Value) (W : World) (hW : W = (((w.setCell ⟨g, 0, none⟩ v0).setCell ⟨g, 1, none⟩ v1).setCell ⟨g, 2, none⟩ v2).setCell ⟨g, 3, none⟩ v3) :
 W.heap[g]? = some (.cells #[v0, v1, v2, v3] 94 (0, 0)) ∧ Only g w W := by
 subst hW
 have b0 := blk_put (cs' := #[v0, e1, e2, e3]) h 0 v0 (by simp)
 have b1 := blk_put (cs' := #[v0, v1, e2, e3]) b0 1 v1 (by simp)
 have b2 := blk_put (cs' := #[v0, v1, v2, e3]) b1 2 v2 (by simp)
 have b3 := blk_put (cs' := #[v0, v1, v2, v3]) b2 3 v3 (by simp)
 exact ⟨b3, ((((Only.refl g w).set 0 _).set 1 _).set 2 _).set 3 _⟩
theorem fill126 {w : World} {g : Nat} {e0 e1 : Value} (h : w.heap[g]? = some (.cells #[e0, e1] 126 (0, 0))) (v0 v1 : Value) (W : World) (hW : W = (w.setCell ⟨g, 0, none⟩ v0).setCell ⟨g, 1, none⟩ v1) :
 W.heap[g]? = some (.cells #[v0, v1] 126 (0, 0)) ∧ Only g w W := by
 subst hW
 have b0 := blk_put (cs' := #[v0, e1]) h 0 v0 (by simp)
 have b1 := blk_put (cs' := #[v0, v1]) b0 1 v1 (by simp)
 exact ⟨b1, ((Only.refl g w).set 0 _).set 1 _⟩
theorem fin27 {fn : Func} {R : Ending → World → Prop} {a : Act} {w : World} {g N : Nat} {e0 e1 e2 e3 e4 v0 v1 v2 v3 v4 : Value} (hb : w.heap[g]? = some (.cells #[e0, e1, e2, e3, e4] 27 (0, 0))) (hR : ∀ W, W.heap[g]? = some (.cells #[v0, v1, v2, v3, v4] 27 (0, 0)) → Only g w W → R (.returned (.agg #[v0, v1, v2, v3, v4])) W)
 (hf : fn.results = #[.cell N 27] := by rfl) (hp : a.tmps.getD N undef = .pointer (some ⟨g, 0, none⟩) := by rfl) (hd : a.defers = [] := by rfl) : bodyPost Try.prog fn R .ret a (((((w.setCell ⟨g, 0, none⟩ v0).setCell ⟨g, 1, none⟩ v1).setCell ⟨g, 2, none⟩ v2).setCell ⟨g, 3, none⟩ v3).setCell ⟨g, 4, none⟩ v4) := by
 obtain ⟨F1, F2⟩ := fill27 hb v0 v1 v2 v3 v4 _ rfl
 exact bodyPost_ret (results_cell_row hf _ _ g 27 _ (0, 0) _ hp F1 Try.underlying27 rfl (by kernel_rfl)) hd (hR _ F1 F2)
theorem fin29 {fn : Func} {R : Ending → World → Prop} {a : Act} {w : World} {g N : Nat} {e0 e1 e2 e3 e4 e5 e6 e7 e8 e9 v0 v1 v2 v3 v4 v5 v6 v7 v8 v9 : Value} (hb : w.heap[g]? = some (.cells #[e0, e1, e2, e3, e4, e5, e6, e7, e8, e9] 29 (0, 0))) (hR : ∀ W, W.heap[g]? = some (.cells #[v0, v1, v2, v3, v4, v5, v6, v7, v8, v9] 29 (0, 0)) → Only g w W → R (.returned (.agg #[v0, v1, v2, v3, v4, v5, v6, v7, v8, v9])) W)
 (hf : fn.results = #[.cell N 29] := by rfl) (hp : a.tmps.getD N undef = .pointer (some ⟨g, 0, none⟩) := by rfl) (hd : a.defers = [] := by rfl) : bodyPost Try.prog fn R .ret a ((((((((((w.setCell ⟨g, 0, none⟩ v0).setCell ⟨g, 1, none⟩ v1).setCell ⟨g, 2, none⟩ v2).setCell ⟨g, 3, none⟩ v3).setCell ⟨g, 4, none⟩ v4).setCell ⟨g, 5, none⟩ v5).setCell ⟨g, 6, none⟩ v6).setCell ⟨g, 7, none⟩ v7).setCell ⟨g, 8, none⟩ v8).setCell ⟨g, 9, none⟩ v9) := by
 obtain ⟨F1, F2⟩ := fill29 hb v0 v1 v2 v3 v4 v5 v6 v7 v8 v9 _ rfl
 exact bodyPost_ret (results_cell_row hf _ _ g 29 _ (0, 0) _ hp F1 Try.underlying29 rfl (by kernel_rfl)) hd (hR _ F1 F2)
theorem fin62 {fn : Func} {R : Ending → World → Prop} {a : Act} {w : World} {g N : Nat} {e0 e1 e2 e3 e4 e5 e6 v0 v1 v2 v3 v4 v5 v6 : Value} (hb : w.heap[g]? = some (.cells #[e0, e1, e2, e3, e4, e5, e6] 62 (0, 0))) (hR : ∀ W, W.heap[g]? = some (.cells #[v0, v1, v2, v3, v4, v5, v6] 62 (0, 0)) → Only g w W → R (.returned (.agg #[v0, v1, v2, v3, v4, v5, v6])) W)
 (hf : fn.results = #[.cell N 62] := by rfl) (hp : a.tmps.getD N undef = .pointer (some ⟨g, 0, none⟩) := by rfl) (hd : a.defers = [] := by rfl) : bodyPost Try.prog fn R .ret a (((((((w.setCell ⟨g, 0, none⟩ v0).setCell ⟨g, 1, none⟩ v1).setCell ⟨g, 2, none⟩ v2).setCell ⟨g, 3, none⟩ v3).setCell ⟨g, 4, none⟩ v4).setCell ⟨g, 5, none⟩ v5).setCell ⟨g, 6, none⟩ v6) := by
 obtain ⟨F1, F2⟩ := fill62 hb v0 v1 v2 v3 v4 v5 v6 _ rfl
 exact bodyPost_ret (results_cell_row hf _ _ g 62 _ (0, 0) _ hp F1 Try.underlying62 rfl (by kernel_rfl)) hd (hR _ F1 F2)
theorem fin94 {fn : Func} {R : Ending → World → Prop} {a : Act} {w : World} {g N : Nat} {e0 e1 e2 e3 v0 v1 v2 v3 : Value} (hb : w.heap[g]? = some (.cells #[e0, e1, e2, e3] 94 (0, 0))) (hR : ∀ W, W.heap[g]? = some (.cells #[v0, v1, v2, v3] 94 (0, 0)) → Only g w W → R (.returned (.agg #[v0, v1, v2, v3])) W)
 (hf : fn.results = #[.cell N 94] := by rfl) (hp : a.tmps.getD N undef = .pointer (some ⟨g, 0, none⟩) := by rfl) (hd : a.defers = [] := by rfl) : bodyPost Try.prog fn R .ret a ((((w.setCell ⟨g, 0, none⟩ v0).setCell ⟨g, 1, none⟩ v1).setCell ⟨g, 2, none⟩ v2).setCell ⟨g, 3, none⟩ v3) := by
 obtain ⟨F1, F2⟩ := fill94 hb v0 v1 v2 v3 _ rfl
 exact bodyPost_ret (results_cell_row hf _ _ g 94 _ (0, 0) _ hp F1 Try.underlying94 rfl (by kernel_rfl)) hd (hR _ F1 F2)
theorem fld53_0 (a : Int) (b : ByteArray) (c d : Int) (w : World) : (Instr.field 53 (.agg #[.int .i64 a, .string b, .int .i64 c, .int .i64 d]) 0).run Try.prog w = .ok (.int .i64 a) w := by kernel_rfl
theorem fld53_1 (a : Int) (b : ByteArray) (c d : Int) (w : World) : (Instr.field 53 (.agg #[.int .i64 a, .string b, .int .i64 c, .int .i64 d]) 1).run Try.prog w = .ok (.string b) w := by kernel_rfl
theorem fld53_2 (a : Int) (b : ByteArray) (c d : Int) (w : World) : (Instr.field 53 (.agg #[.int .i64 a, .string b, .int .i64 c, .int .i64 d]) 2).run Try.prog w = .ok (.int .i64 c) w := by kernel_rfl
theorem fld53_3 (a : Int) (b : ByteArray) (c d : Int) (w : World) : (Instr.field 53 (.agg #[.int .i64 a, .string b, .int .i64 c, .int .i64 d]) 3).run Try.prog w = .ok (.int .i64 d) w := by kernel_rfl
set_option maxHeartbeats 8000000 in
set_option maxRecDepth 100000 in
theorem here_c (E : Env) (s : Cs) (w : World) (h : ST E s w) : Calls Try.prog 34 #[.pointer (some ⟨E.g, 0, none⟩)] w fun e w' => e = .returned (.agg #[.int .i64 (E.tk s.i).f0, .string (E.tk s.i).f1, .int .i64 (E.tk s.i).f2, .int .i64 (E.tk s.i).f3]) ∧ Below w.heap.size w w' := by
 have hu85 := Try.underlying85
 have hu53 := Try.underlying53
 have HS := Aside0.mk h
 have hlt := h.lt
 have hfew := h.ok.few
 clear h
 go_enter Try.func34, Try.ntmps34
 go_wp2_with ((with_reducible refine gate_dst (N := 2) rfl ?_); refine box_event ?hg (N := 2) ?hd (cs := z53v) (t := 53) ?hr ?_; (case hd => rfl); (case hg => rfl); (case hr => first | (go_simp; done) | (go_simp; rfl)); intro g2 hg_ w1 hbox_ hq_; have G2 := Aside0.mk (show w.heap.size ≤ g2 from Nat.le_of_eq hg_.symm); have H2 := Aside0.mk hbox_; replace HS := ssM HS hq_; have HB := Aside0.mk hq_; clear hg_ hbox_ hq_)
 obtain ⟨z0, z1, z2, z3⟩ := cn4 H2.out
 have f0 := blk_frozen H2.out 0; have f1 := blk_frozen H2.out 1; have f2 := blk_frozen H2.out 2; have f3 := blk_frozen H2.out 3
 replace HS := Aside0.mk HS.out.drew
 obtain ⟨ad, hA, y0, y1, y2, y3⟩ := HS.out.tok
 have c0 := HS.out.c0; have c1 := HS.out.c1
 rw [hA] at c0
 have p1 := eq_true (show (s.i : Int) < (E.ts.length : Int) by omega)
 have p2 := eq_true (show s.i < E.ts.length by omega)
 have p0 := eq_true (show 0 ≤ (s.i : Int) by omega)
 clear hlt hfew hA
 go_region
 all_goals
  go_wp2
  obtain ⟨F1_, F2_⟩ := fill53 H2.out (.int .i64 (E.tk s.i).f0) (.string (E.tk s.i).f1) (.int .i64 (E.tk s.i).f2) (.int .i64 (E.tk s.i).f3) _ rfl
  refine bodyPost_ret (results_cell_row rfl _ _ g2 53 #[.int .i64 (E.tk s.i).f0, .string (E.tk s.i).f1, .int .i64 (E.tk s.i).f2, .int .i64 (E.tk s.i).f3] (0, 0) _ rfl (blk_drew F1_) hu53 rfl (by kernel_rfl)) rfl ?_
  exact ⟨rfl, below_drew (HB.out.trans (F2_.below.mono G2.out))⟩
/-- The state behind a token. -/
def nx (E : Env) (s : Cs) : Cs := if s.bad = false ∧ (E.tk s.i).f0 ≠ 4 then ⟨s.i + 1, s.bad, s.ps⟩ else s
set_option maxHeartbeats 8000000 in
set_option maxRecDepth 100000 in
theorem next_c (E : Env) (s : Cs) (w : World) (h : ST E s w) : Calls Try.prog 57 #[.pointer (some ⟨E.g, 0, none⟩)] w fun e w' => e = .returned (.agg #[.int .i64 (E.tk s.i).f0, .string (E.tk s.i).f1, .int .i64 (E.tk s.i).f2, .int .i64 (E.tk s.i).f3]) ∧ ST E (nx E s) w' ∧ KP E w w' := by
 obtain ⟨i, bad, ps⟩ := s
 have hu85 := Try.underlying85
 have hu53 := Try.underlying53
 have hlt := h.lt
 have hfew := h.ok.few
 have hfin := h.ok.fin i hlt
 have FIN := Aside0.mk hfin
 simp only at hlt
 clear hfin
 have HSB := Aside0.mk (show E.w0.heap.size ≤ w.heap.size from h.below.size)
 have HS := Aside0.mk h
 have HK := Aside0.mk (KP.refl E w)
 clear h
 go_enter Try.func57, Try.ntmps57
 go_wp2_with ((with_reducible refine gate_dst (N := 2) rfl ?_); refine bbX (N := 2) z53v 53 ?hr ?_; (case hr => first | (go_simp; done) | (go_simp; rfl)); intro g2 hg_ w2 hbox_ hq_; have G2 := Aside0.mk (show w.heap.size ≤ g2 from by rw [hg_.out]; exact HK.out.2); have H2 := Aside0.mk hbox_; replace HK := kkB HK hq_; replace HS := ssM HS hq_; clear hg_ hbox_ hq_)
 go_wp2_with (fail)
 have hW := here_c E ⟨i, bad, ps⟩ _ HS.out
 refine hW.mono ?_
 clear hW
 rintro e wa ⟨rfl, qb⟩
 replace H2 := mvB qb H2
 replace HK := kkB HK qb
 replace HS := ssM HS qb
 clear qb
 go_upto_region 2 with (first | ((with_reducible refine gate_dst (N := 3) rfl ?_); refine bbX (N := 3) z53v 53 ?hr ?_; (case hr => first | (go_simp; done) | (go_simp; rfl)); intro g3 hg_ w3 hbox_ hq_; obtain ⟨z0_, f0_, z1_, f1_, z2_, f2_, z3_, f3_⟩ := cf4 hbox_))
 obtain ⟨F1_, F2_⟩ := fill53 hbox_ (.int .i64 (E.tk i).f0) (.string (E.tk i).f1) (.int .i64 (E.tk i).f2) (.int .i64 (E.tk i).f3) _ rfl
 replace hq_ := hq_.trans (F2_.below.mono (Nat.le_of_eq hg_.out.symm))
 have G3 := Aside0.mk (show w.heap.size ≤ g3 from by rw [hg_.out]; exact HK.out.2)
 have N2_3 := Aside0.mk (ne_new H2.out hg_.out); have LT2_3 := Aside0.mk (lt_new H2.out hg_.out)
 clear hg_ hbox_ F2_ z0_ f0_ z1_ f1_ z2_ f2_ z3_ f3_
 generalize (((w3.setCell ⟨g3, 0, none⟩ (.int .i64 (E.tk i).f0)).setCell ⟨g3, 1, none⟩ (.string (E.tk i).f1)).setCell ⟨g3, 2, none⟩ (.int .i64 (E.tk i).f2)).setCell ⟨g3, 3, none⟩ (.int .i64 (E.tk i).f3) = v3 at F1_ hq_ ⊢
 have H3 := Aside0.mk F1_
 replace H2 := mvB hq_ H2
 replace HK := kkB HK hq_
 replace HS := ssM HS hq_
 clear F1_ hq_
 have c1 := HS.out.c1; have c2 := HS.out.c2; have cf1 := HS.out.fz 1
 obtain ⟨z3_0, z3_1, z3_2, z3_3⟩ := cn4 H3.out
 obtain ⟨z2_0, f2_0, z2_1, f2_1, z2_2, f2_2, z2_3, f2_3⟩ := cf4 H2.out
 cases bad with
 | true =>
  have HN := Aside0.mk (show nx E ⟨i, true, ps⟩ = ⟨i, true, ps⟩ from if_neg (by simp))
  clear FIN hlt hfew
  go_wp2
  obtain ⟨F1_, F2_⟩ := fill53 H2.out (.int .i64 (E.tk i).f0) (.string (E.tk i).f1) (.int .i64 (E.tk i).f2) (.int .i64 (E.tk i).f3) _ rfl
  refine bodyPost_ret (results_cell_row rfl _ _ g2 53 _ (0, 0) _ rfl F1_ Try.underlying53 rfl (by kernel_rfl)) rfl ?_
  exact ⟨rfl, zQBq1, HK.out.only G2.out F2_⟩
 | false =>
  by_cases hk : (E.tk i).f0 = 4
  ·have k1 : ((E.tk i).f0 == 4) = true := beq_iff_eq.mpr hk
   have k2 : decide ((E.tk i).f0 = 4) = true := decide_eq_true hk
   have k3 := eq_true hk
   have HN := Aside0.mk (show nx E ⟨i, false, ps⟩ = ⟨i, false, ps⟩ from if_neg (by simp [hk]))
   clear hk FIN hlt hfew
   go_wp2
   obtain ⟨F1_, F2_⟩ := fill53 H2.out (.int .i64 (E.tk i).f0) (.string (E.tk i).f1) (.int .i64 (E.tk i).f2) (.int .i64 (E.tk i).f3) _ rfl
   refine bodyPost_ret (results_cell_row rfl _ _ g2 53 _ (0, 0) _ rfl F1_ Try.underlying53 rfl (by kernel_rfl)) rfl ?_
   exact ⟨rfl, zQBq1, HK.out.only G2.out F2_⟩
  ·have k1 : ((E.tk i).f0 == 4) = false := beq_eq_false_iff_ne.mpr hk
   have k2 : decide ((E.tk i).f0 = 4) = false := decide_eq_false hk
   have k3 := eq_false hk
   have hl := FIN.out hk
   have e1 : wrap64 ((i : Int) + 1) = ((i + 1 : Nat) : Int) := by
    unfold wrap64
    omega
   have HN := Aside0.mk (show nx E ⟨i, false, ps⟩ = ⟨i + 1, false, ps⟩ from if_pos ⟨rfl, hk⟩)
   have HL := Aside0.mk hl
   have E1 := Aside0.mk e1
   clear hk FIN hlt hfew hl e1
   go_upto_region 4 with (fail)
   (first | rw [E1.out] | skip)
   obtain ⟨q1, qk⟩ := HS.out.go HL.out
   generalize hW_ : World.setCell _ ⟨E.g, 1, none⟩ _ = wq at q1 qk ⊢
   clear hW_
   replace H2 := mvK qk HS H2
   replace H3 := mvK qk HS H3
   replace HK := kkT HK qk
   replace HS := Aside0.mk q1
   clear q1 qk
   clear z3_0 z3_1 z3_2 z3_3
   clear z2_0 f2_0 z2_1 f2_1 z2_2 f2_2 z2_3 f2_3
   obtain ⟨z3_0, z3_1, z3_2, z3_3⟩ := cn4 H3.out
   obtain ⟨z2_0, f2_0, z2_1, f2_1, z2_2, f2_2, z2_3, f2_3⟩ := cf4 H2.out
   go_wp2
   obtain ⟨F1_, F2_⟩ := fill53 H2.out (.int .i64 (E.tk i).f0) (.string (E.tk i).f1) (.int .i64 (E.tk i).f2) (.int .i64 (E.tk i).f3) _ rfl
   refine bodyPost_ret (results_cell_row rfl _ _ g2 53 _ (0, 0) _ rfl F1_ Try.underlying53 rfl (by kernel_rfl)) rfl ?_
   exact ⟨rfl, zQBq1, HK.out.only G2.out F2_⟩
/-- Does a word of the language, or a sign, stand there? -/
def isB (E : Env) (s : Cs) (t : ByteArray) : Bool := !s.bad && (decide ((E.tk s.i).f0 = 1) || decide ((E.tk s.i).f0 = 3)) && decide ((E.tk s.i).f1.toList = t.toList)
set_option maxHeartbeats 8000000 in
set_option maxRecDepth 100000 in
theorem is_c (E : Env) (s : Cs) (t : ByteArray) (w : World) (h : ST E s w) : Calls Try.prog 56 #[.pointer (some ⟨E.g, 0, none⟩), .string t] w fun e w' => e = .returned (.bool (isB E s t)) ∧ Below w.heap.size w w' := by
 obtain ⟨i, bad, ps⟩ := s
 have hu85 := Try.underlying85
 have hu53 := Try.underlying53
 have HB := Aside0.mk (Below.refl w.heap.size w)
 have HSB := Aside0.mk (show E.w0.heap.size ≤ w.heap.size from h.below.size)
 have HS := Aside0.mk h
 have HK := Aside0.mk (KP.refl E w)
 clear h
 go_enter Try.func56, Try.ntmps56
 go_wp2_with (fail)
 have hW := here_c E ⟨i, bad, ps⟩ _ HS.out
 refine hW.mono ?_
 clear hW
 rintro e wa ⟨rfl, qb⟩
 replace HK := kkB HK qb
 replace HS := ssM HS qb
 replace HB := Aside0.mk (below_step HB.out qb); clear qb
 go_upto_region 2 with (first | ((with_reducible refine gate_dst (N := 5) rfl ?_); refine bbX (N := 5) z53v 53 ?hr ?_; (case hr => first | (go_simp; done) | (go_simp; rfl)); intro g5 hg_ w5 hbox_ hq_; obtain ⟨z0_, f0_, z1_, f1_, z2_, f2_, z3_, f3_⟩ := cf4 hbox_))
 obtain ⟨F1_, F2_⟩ := fill53 hbox_ (.int .i64 (E.tk i).f0) (.string (E.tk i).f1) (.int .i64 (E.tk i).f2) (.int .i64 (E.tk i).f3) _ rfl
 replace hq_ := hq_.trans (F2_.below.mono (Nat.le_of_eq hg_.out.symm))
 have G5 := Aside0.mk (show w.heap.size ≤ g5 from by rw [hg_.out]; exact HK.out.2)
 clear hg_ hbox_ F2_ z0_ f0_ z1_ f1_ z2_ f2_ z3_ f3_
 generalize (((w5.setCell ⟨g5, 0, none⟩ (.int .i64 (E.tk i).f0)).setCell ⟨g5, 1, none⟩ (.string (E.tk i).f1)).setCell ⟨g5, 2, none⟩ (.int .i64 (E.tk i).f2)).setCell ⟨g5, 3, none⟩ (.int .i64 (E.tk i).f3) = v5 at F1_ hq_ ⊢
 have H5 := Aside0.mk F1_
 replace HK := kkB HK hq_
 replace HS := ssM HS hq_
 replace HB := Aside0.mk (below_step HB.out hq_); clear F1_ hq_
 have c2 := HS.out.c2
 obtain ⟨z5_0, z5_1, z5_2, z5_3⟩ := cn4 H5.out
 cases bad with
 | true =>
  go_wp2
  go_ret
  exact ⟨by simp [isB], HB.out⟩
 | false =>
  by_cases ht : (E.tk i).f1.toList = t.toList
  ·have t1 := eq_true ht; have t2 : decide ((E.tk i).f1.toList = t.toList) = true := decide_eq_true ht; have t3 : ((E.tk i).f1.toList == t.toList) = true := beq_iff_eq.mpr ht; by_cases k1 : (E.tk i).f0 = 1
   ·have a1 := eq_true k1; have a2 := decide_eq_true k1; have a3 : ((E.tk i).f0 == 1) = true := beq_iff_eq.mpr k1
    clear k1 ht
    go_wp2
    go_ret
    exact ⟨by simp [isB, *], HB.out⟩
   ·have a1 := eq_false k1; have a2 := decide_eq_false k1; have a3 : ((E.tk i).f0 == 1) = false := beq_eq_false_iff_ne.mpr k1
    by_cases k3 : (E.tk i).f0 = 3
    ·have b1 := eq_true k3; have b2 := decide_eq_true k3; have b3 : ((E.tk i).f0 == 3) = true := beq_iff_eq.mpr k3
     clear k1 k3 ht
     go_wp2
     go_ret
     exact ⟨by simp [isB, *], HB.out⟩
    ·have b1 := eq_false k3; have b2 := decide_eq_false k3; have b3 : ((E.tk i).f0 == 3) = false := beq_eq_false_iff_ne.mpr k3
     clear k1 k3 ht
     go_wp2
     go_ret
     exact ⟨by simp [isB, *], HB.out⟩
  ·have t1 := eq_false ht; have t2 : decide ((E.tk i).f1.toList = t.toList) = false := decide_eq_false ht; have t3 : ((E.tk i).f1.toList == t.toList) = false := beq_eq_false_iff_ne.mpr ht; by_cases k1 : (E.tk i).f0 = 1
   ·have a1 := eq_true k1; have a2 := decide_eq_true k1; have a3 : ((E.tk i).f0 == 1) = true := beq_iff_eq.mpr k1
    clear k1 ht
    go_wp2
    go_ret
    exact ⟨by simp [isB, *], HB.out⟩
   ·have a1 := eq_false k1; have a2 := decide_eq_false k1; have a3 : ((E.tk i).f0 == 1) = false := beq_eq_false_iff_ne.mpr k1
    by_cases k3 : (E.tk i).f0 = 3
    ·have b1 := eq_true k3; have b2 := decide_eq_true k3; have b3 : ((E.tk i).f0 == 3) = true := beq_iff_eq.mpr k3
     clear k1 k3 ht
     go_wp2
     go_ret
     exact ⟨by simp [isB, *], HB.out⟩
    ·have b1 := eq_false k3; have b2 := decide_eq_false k3; have b3 : ((E.tk i).f0 == 3) = false := beq_eq_false_iff_ne.mpr k3
     clear k1 k3 ht
     go_wp2
     go_ret
     exact ⟨by simp [isB, *], HB.out⟩
end Go.Proofs.Ytinnldfmbeafiaa.PA
