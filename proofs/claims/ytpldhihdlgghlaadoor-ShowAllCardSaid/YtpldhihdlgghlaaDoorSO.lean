/- begun: whether show does anything yet; walked by hand. The contracts of what the law calls, in the print's form. -/
import Derived.Test.YtpldhihdlgghlaaDoorSM
namespace Go.Proofs.YtpldhihdlgghlaaDoor.PS
open Go.RowKit Go.Proofs.YtpldhihdlgghlaaDoorW.PrintWords Go.Proofs.YtpldhihdlgghlaaDoorW.PrintLast Go.Proofs.YtpldhihdlgghlaaDoorW.PrintMore
set_option linter.unusedVariables false
set_option linter.unusedSimpArgs false
attribute [local go_sem] cell_set_some
theorem C_nil {α : Type} (d : Kd α) (w : World) (A : Option Addr) : Kd.C d w A 0 [] := ⟨rfl, by decide, fun h => absurd h (Nat.lt_irrefl _)⟩
/-- A row of one element, its own block. -/
theorem C_one {α : Type} {d : Kd α} {w : World} {g : Nat} {x : α} {cs : List Value} {t : TypeId} (h : w.heap[g]? = some (.cells ⟨cs⟩ t (0, 0))) (hK : d.K w x cs) : Kd.C d w (some ⟨g, 0, none⟩) 1 [x] := by
  refine ⟨rfl, by decide, fun _ => ⟨_, rfl, fun j p hj => ?_⟩⟩
  have h0 : j = 0 := by
    have := (List.getElem?_eq_some_iff.1 hj).1
    simp at this
    omega
  subst h0
  have hp : x = p := by simpa using hj
  subst hp
  refine ⟨cs, d.K_len hK, hK, fun i u hu => ?_⟩
  have e : (⟨g, 0, none⟩ : Addr).add (0 * d.sz + i) = ⟨g, i, none⟩ := by
    simp [Addr.add]
    intro h0
    exact h0.symm
  rw [e, blk_cell h i]
  simpa using hu
/-- A row of two elements, its own block. -/
theorem C_two {α : Type} {d : Kd α} {w : World} {g : Nat} {x y : α} {cs ds : List Value} {t : TypeId} (h : w.heap[g]? = some (.cells ⟨cs ++ ds⟩ t (0, 0))) (hK : d.K w x cs) (hL : d.K w y ds) : Kd.C d w (some ⟨g, 0, none⟩) 2 [x, y] := by
  have lc := d.K_len hK
  have ld := d.K_len hL
  refine ⟨rfl, by decide, fun _ => ⟨_, rfl, fun j p hj => ?_⟩⟩
  have h0 : j = 0 ∨ j = 1 := by
    have := (List.getElem?_eq_some_iff.1 hj).1
    simp at this
    omega
  rcases h0 with rfl | rfl
  · have hp : x = p := by simpa using hj
    subst hp
    refine ⟨cs, lc, hK, fun i u hu => ?_⟩
    have e : (⟨g, 0, none⟩ : Addr).add (0 * d.sz + i) = ⟨g, i, none⟩ := by
      simp [Addr.add]
      intro h0
      exact h0.symm
    have hi := (List.getElem?_eq_some_iff.1 hu).1
    rw [e, blk_cell h i, List.getElem?_toArray, List.getElem?_append_left hi]
    exact hu
  · have hp : y = p := by simpa using hj
    subst hp
    refine ⟨ds, ld, hL, fun i u hu => ?_⟩
    have e : (⟨g, 0, none⟩ : Addr).add (1 * d.sz + i) = ⟨g, d.sz + i, none⟩ := by
      rw [Nat.one_mul]
      simp [Addr.add]
      intro a b
      omega
    rw [e, blk_cell h (d.sz + i), List.getElem?_toArray, ← lc, List.getElem?_append_right (by omega), Nat.add_sub_cancel_left]
    exact hu
def xa : S31 := ⟨2, 0, ⟨#[114]⟩, []⟩
def xb : S31 := ⟨1, 1, ⟨#[]⟩, []⟩
def ca : S26 := ⟨2, 1, ⟨#[114]⟩, 0, []⟩
def cb : S26 := ⟨3, 0, ⟨#[]⟩, 0, [ca]⟩
def ia : S42 := ⟨⟨#[120]⟩, 0⟩
def sa : S45 := ⟨6, 4, ⟨#[]⟩, ⟨#[]⟩, [], [], []⟩
theorem it_small {n : Nat} (h : n < 10) : it (n : Int) = ⟨#[UInt8.ofNat (48 + n)]⟩ := by
  unfold it Go.Lib.itoa
  rw [if_neg (by omega), Int.toNat_natCast, dec_small h]
theorem it0 : it 0 = ⟨#[48]⟩ := it_small (n := 0) (by decide)
theorem it1 : it 1 = ⟨#[49]⟩ := it_small (n := 1) (by decide)
theorem it2 : it 2 = ⟨#[50]⟩ := it_small (n := 2) (by decide)
theorem r64d {n : Int} (h : -9223372036854775808 ≤ n ∧ n ≤ 9223372036854775807) : R64 n := h
theorem begEX : EX 13 ⟨3, 0, ⟨#[]⟩, [xa, xb]⟩ := by
  refine ⟨r64d (by decide), by decide, ?_⟩
  intro x hx
  rcases List.mem_cons.mp hx with rfl | hx
  · exact ⟨r64d (by decide), by decide, fun x hx => by cases hx⟩
  · rw [List.mem_singleton.mp hx]
    exact ⟨r64d (by decide), by decide, fun x hx => by cases hx⟩
theorem begE : show_Expr.f 13 3 0 ⟨#[]⟩ [xa, xb] = some (⟨#[40, 114, 32, 43, 32, 49, 41]⟩ : ByteArray) := by
  refine (show_ex 13 ⟨3, 0, ⟨#[]⟩, [xa, xb]⟩ begEX (by decide)).trans (congrArg some ?_)
  show (⟨#[40]⟩ : ByteArray) ++ ⟨#[114]⟩ ++ ⟨#[32, 43, 32]⟩ ++ it 1 ++ ⟨#[41]⟩ = _
  rw [it1]
  exact ba_ext (by simp)
theorem begX : CX 13 cb := by
  refine ⟨r64d (by decide), r64d (by decide), by decide, ?_⟩
  intro x hx
  rw [List.mem_singleton.mp hx]
  exact ⟨r64d (by decide), r64d (by decide), by decide, fun x hx => by cases hx⟩
theorem begC : cdS 13 cb = (⟨#[110, 111, 116, 32, 49, 58, 114, 32, 61, 61, 32, 48]⟩ : ByteArray) := by
  show (⟨#[110, 111, 116, 32]⟩ : ByteArray) ++ (it 1 ++ ⟨#[58]⟩ ++ ((⟨#[114]⟩ : ByteArray) ++ ⟨#[32, 61, 61, 32]⟩ ++ it 0)) = _
  rw [it1, it0]
  exact ba_ext (by simp)
theorem begP : PX ⟨#[97]⟩ 2 [ia] [[sa]] (S26.mk 3 0 ⟨#[]⟩ 0 [ca]) := by
  refine ⟨by decide, r64d (by decide), by decide, by decide, ?_, ?_, begX⟩
  · intro x hx
    rw [List.mem_singleton.mp hx]
    exact ⟨by decide, r64d (by decide)⟩
  · intro t ht
    rw [List.mem_singleton.mp ht]
    refine ⟨?_, ?_⟩
    · intro s hs
      rw [List.mem_singleton.mp hs]
      refine ⟨by decide, by decide, ?_, ?_, ?_⟩ <;> intro x hx <;> cases hx
    · show 1 + 0 + 0 + 0 ≤ 300
      decide
theorem begT : prS ⟨#[97]⟩ 2 [ia] [[sa]] 1 (S26.mk 3 0 ⟨#[]⟩ 0 [ca]) = ⟨([108, 105, 116, 109, 117, 115, 32, 97, 32, 118, 97, 108, 117, 101, 115, 32, 50, 10, 105, 110, 105, 116, 32, 120, 32, 48, 10, 116, 104, 114, 101, 97, 100, 32, 123].append [10, 32, 32, 102, 101, 110, 99, 101, 32, 115, 99, 59, 10, 125, 10, 101, 120, 105, 115, 116, 115, 32, 110, 111, 116, 32, 49, 58, 114, 32, 61, 61, 32, 48, 10]).toArray⟩ := by
  have e1 : inS 1 = ⟨#[32, 32]⟩ := rfl
  have e2 : blS 13 1 [sa] = lineS 1 [(⟨#[102, 101, 110, 99, 101]⟩ : ByteArray), (⟨#[115, 99]⟩ : ByteArray) ++ ⟨#[59]⟩] ++ ⟨#[]⟩ := rfl
  have e3 : cdS 13 (S26.mk 3 0 ⟨#[]⟩ 0 [ca]) = (⟨#[110, 111, 116, 32, 49, 58, 114, 32, 61, 61, 32, 48]⟩ : ByteArray) := begC
  unfold prS
  rw [e3]
  simp only [List.map_cons, List.map_nil, catS, thrS, e2, initS, line0, ia, it2, it0]
  simp only [lineS, e1, join1, join2, join3, join4, askS, if_pos]
  exact ba_ext (by simp only [da]; rfl)
theorem fill31 {w : World} {g : Nat} {e0 e1 e2 e3 : Value} (h : w.heap[g]? = some (.cells #[e0, e1, e2, e3] 31 (0, 0))) (v0 v1 v2 v3 : Value) (W : World) (hW : W = (((w.setCell ⟨g, 0, none⟩ v0).setCell ⟨g, 1, none⟩ v1).setCell ⟨g, 2, none⟩ v2).setCell ⟨g, 3, none⟩ v3) :
    W.heap[g]? = some (.cells #[v0, v1, v2, v3] 31 (0, 0)) ∧ ∀ B, B ≤ g → Below B w W := by
  subst hW
  have b0 := blk_put (cs' := #[v0, e1, e2, e3]) h 0 v0 (by simp)
  have b1 := blk_put (cs' := #[v0, v1, e2, e3]) b0 1 v1 (by simp)
  have b2 := blk_put (cs' := #[v0, v1, v2, e3]) b1 2 v2 (by simp)
  have b3 := blk_put (cs' := #[v0, v1, v2, v3]) b2 3 v3 (by simp)
  exact ⟨b3, fun B hB => ((((Below.refl B w).setCell hB _).setCell hB _).setCell hB _).setCell hB _⟩
theorem fill26 {w : World} {g : Nat} {e0 e1 e2 e3 e4 : Value} (h : w.heap[g]? = some (.cells #[e0, e1, e2, e3, e4] 26 (0, 0))) (v0 v1 v2 v3 v4 : Value) (W : World) (hW : W = ((((w.setCell ⟨g, 0, none⟩ v0).setCell ⟨g, 1, none⟩ v1).setCell ⟨g, 2, none⟩ v2).setCell ⟨g, 3, none⟩ v3).setCell ⟨g, 4, none⟩ v4) :
    W.heap[g]? = some (.cells #[v0, v1, v2, v3, v4] 26 (0, 0)) ∧ ∀ B, B ≤ g → Below B w W := by
  subst hW
  have b0 := blk_put (cs' := #[v0, e1, e2, e3, e4]) h 0 v0 (by simp)
  have b1 := blk_put (cs' := #[v0, v1, e2, e3, e4]) b0 1 v1 (by simp)
  have b2 := blk_put (cs' := #[v0, v1, v2, e3, e4]) b1 2 v2 (by simp)
  have b3 := blk_put (cs' := #[v0, v1, v2, v3, e4]) b2 3 v3 (by simp)
  have b4 := blk_put (cs' := #[v0, v1, v2, v3, v4]) b3 4 v4 (by simp)
  exact ⟨b4, fun B hB => (((((Below.refl B w).setCell hB _).setCell hB _).setCell hB _).setCell hB _).setCell hB _⟩
theorem fill28 {w : World} {g : Nat} {e0 e1 e2 e3 e4 e5 e6 e7 e8 e9 : Value} (h : w.heap[g]? = some (.cells #[e0, e1, e2, e3, e4, e5, e6, e7, e8, e9] 28 (0, 0))) (v0 v1 v2 v3 v4 v5 v6 v7 v8 v9 : Value) (W : World) (hW : W = (((((((((w.setCell ⟨g, 0, none⟩ v0).setCell ⟨g, 1, none⟩ v1).setCell ⟨g, 2, none⟩ v2).setCell ⟨g, 3, none⟩ v3).setCell ⟨g, 4, none⟩ v4).setCell ⟨g, 5, none⟩ v5).setCell ⟨g, 6, none⟩ v6).setCell ⟨g, 7, none⟩ v7).setCell ⟨g, 8, none⟩ v8).setCell ⟨g, 9, none⟩ v9) :
    W.heap[g]? = some (.cells #[v0, v1, v2, v3, v4, v5, v6, v7, v8, v9] 28 (0, 0)) ∧ ∀ B, B ≤ g → Below B w W := by
  subst hW
  have b0 := blk_put (cs' := #[v0, e1, e2, e3, e4, e5, e6, e7, e8, e9]) h 0 v0 (by simp)
  have b1 := blk_put (cs' := #[v0, v1, e2, e3, e4, e5, e6, e7, e8, e9]) b0 1 v1 (by simp)
  have b2 := blk_put (cs' := #[v0, v1, v2, e3, e4, e5, e6, e7, e8, e9]) b1 2 v2 (by simp)
  have b3 := blk_put (cs' := #[v0, v1, v2, v3, e4, e5, e6, e7, e8, e9]) b2 3 v3 (by simp)
  have b4 := blk_put (cs' := #[v0, v1, v2, v3, v4, e5, e6, e7, e8, e9]) b3 4 v4 (by simp)
  have b5 := blk_put (cs' := #[v0, v1, v2, v3, v4, v5, e6, e7, e8, e9]) b4 5 v5 (by simp)
  have b6 := blk_put (cs' := #[v0, v1, v2, v3, v4, v5, v6, e7, e8, e9]) b5 6 v6 (by simp)
  have b7 := blk_put (cs' := #[v0, v1, v2, v3, v4, v5, v6, v7, e8, e9]) b6 7 v7 (by simp)
  have b8 := blk_put (cs' := #[v0, v1, v2, v3, v4, v5, v6, v7, v8, e9]) b7 8 v8 (by simp)
  have b9 := blk_put (cs' := #[v0, v1, v2, v3, v4, v5, v6, v7, v8, v9]) b8 9 v9 (by simp)
  exact ⟨b9, fun B hB => ((((((((((Below.refl B w).setCell hB _).setCell hB _).setCell hB _).setCell hB _).setCell hB _).setCell hB _).setCell hB _).setCell hB _).setCell hB _).setCell hB _⟩
set_option maxHeartbeats 16000000 in
set_option maxRecDepth 100000 in
theorem begun_c (w : World) (hG : GOk w) : Calls Tryd.prog 4 #[] w fun e w' => e = .returned (.bool true) ∧ Below w.heap.size w w' := by
  have hu31 := Tryd.underlying31
  have hu26 := Tryd.underlying26
  have hu28 := Tryd.underlying28
  have hu42 := Tryd.underlying42
  have hu45 := Tryd.underlying45
  have HG := Aside0.mk hG
  have HB := Aside0.mk (Below.refl w.heap.size w)
  clear hG
  go_enter Tryd.func4, Tryd.ntmps4
  go_upto_region 2 with (first | ((with_reducible refine gate_dst (N := 6) rfl ?_); refine lit_event ?hg (N := 6) ?hd (n := 2) (cs := #[.int .i64 2, .int .i64 0, .string ⟨#[114]⟩, .slice none 0 0, .int .i64 1, .int .i64 1, .string ⟨#[]⟩, .slice none 0 0]) (t := 31) ?hr ?_; (case hd => rfl); (case hg => rfl); (case hr => first | (go_simp; done) | (go_simp; rfl)); intro ga hg_ w9 hbox hb1; have HA := Aside0.mk hbox; replace HB := Aside0.mk (below_step HB.out hb1); clear hg_ hbox hb1) | ((with_reducible refine gate_dst (N := 1) rfl ?_); refine box_event ?hg (N := 1) ?hd (cs := #[.int .i64 0, .int .i64 0, .string ⟨#[]⟩, .slice none 0 0]) (t := 31) ?hr ?_; (case hd => rfl); (case hg => rfl); (case hr => first | (go_simp; done) | (go_simp; rfl)); intro g1 hg__ wd hbox_ hq_; have hg_ := Aside0.mk hg__; clear hg__; have z0_ := blk_celln hbox_ 0 _ rfl; have f0_ := blk_frozen hbox_ 0; have z1_ := blk_celln hbox_ 1 _ rfl; have f1_ := blk_frozen hbox_ 1; have z2_ := blk_celln hbox_ 2 _ rfl; have f2_ := blk_frozen hbox_ 2; have z3_ := blk_celln hbox_ 3 _ rfl; have f3_ := blk_frozen hbox_ 3))
  obtain ⟨F1_, F2_⟩ := fill31 hbox_ (.int .i64 3) (.int .i64 0) (.string ⟨#[]⟩) (.slice (some ⟨ga, 0, none⟩) 2 2) _ rfl
  replace hq_ := hq_.trans (F2_ _ (Nat.le_of_eq hg_.out.symm))
  clear hg_ hbox_ F2_ z0_ f0_ z1_ f1_ z2_ f2_ z3_ f3_
  generalize (((wd.setCell ⟨g1, 0, none⟩ (.int .i64 3)).setCell ⟨g1, 1, none⟩ (.int .i64 0)).setCell ⟨g1, 2, none⟩ (.string ⟨#[]⟩)).setCell ⟨g1, 3, none⟩ (.slice (some ⟨ga, 0, none⟩) 2 2) = wa at F1_ hq_ ⊢
  have H1 := Aside0.mk F1_
  replace HA := Aside0.mk (blk_below HA.out hq_)
  replace HB := Aside0.mk (below_step HB.out hq_)
  clear F1_ hq_
  go_upto_region 3 with (first | ((with_reducible refine gate_dst (N := 9) rfl ?_); refine lit_event ?hg (N := 9) ?hd (n := 1) (cs := #[.int .i64 2, .int .i64 1, .string ⟨#[114]⟩, .int .i64 0, .slice none 0 0]) (t := 26) ?hr ?_; (case hd => rfl); (case hg => rfl); (case hr => first | (go_simp; done) | (go_simp; rfl)); intro gb hg_ w9 hbox hb1; have HBk := Aside0.mk hbox; replace HA := Aside0.mk (blk_below HA.out hb1); replace H1 := Aside0.mk (blk_below H1.out hb1); replace HB := Aside0.mk (below_step HB.out hb1); clear hg_ hbox hb1) | ((with_reducible refine gate_dst (N := 2) rfl ?_); refine box_event ?hg (N := 2) ?hd (cs := #[.int .i64 0, .int .i64 0, .string ⟨#[]⟩, .int .i64 0, .slice none 0 0]) (t := 26) ?hr ?_; (case hd => rfl); (case hg => rfl); (case hr => first | (go_simp; done) | (go_simp; rfl)); intro g2 hg__ wd hbox_ hq_; have hg_ := Aside0.mk hg__; clear hg__; have z0_ := blk_celln hbox_ 0 _ rfl; have f0_ := blk_frozen hbox_ 0; have z1_ := blk_celln hbox_ 1 _ rfl; have f1_ := blk_frozen hbox_ 1; have z2_ := blk_celln hbox_ 2 _ rfl; have f2_ := blk_frozen hbox_ 2; have z3_ := blk_celln hbox_ 3 _ rfl; have f3_ := blk_frozen hbox_ 3; have z4_ := blk_celln hbox_ 4 _ rfl; have f4_ := blk_frozen hbox_ 4))
  obtain ⟨F1_, F2_⟩ := fill26 hbox_ (.int .i64 3) (.int .i64 0) (.string ⟨#[]⟩) (.int .i64 0) (.slice (some ⟨gb, 0, none⟩) 1 1) _ rfl
  replace hq_ := hq_.trans (F2_ _ (Nat.le_of_eq hg_.out.symm))
  clear hg_ hbox_ F2_ z0_ f0_ z1_ f1_ z2_ f2_ z3_ f3_ z4_ f4_
  generalize ((((wd.setCell ⟨g2, 0, none⟩ (.int .i64 3)).setCell ⟨g2, 1, none⟩ (.int .i64 0)).setCell ⟨g2, 2, none⟩ (.string ⟨#[]⟩)).setCell ⟨g2, 3, none⟩ (.int .i64 0)).setCell ⟨g2, 4, none⟩ (.slice (some ⟨gb, 0, none⟩) 1 1) = wb at F1_ hq_ ⊢
  have H2 := Aside0.mk F1_
  replace HA := Aside0.mk (blk_below HA.out hq_)
  replace H1 := Aside0.mk (blk_below H1.out hq_)
  replace HBk := Aside0.mk (blk_below HBk.out hq_)
  replace HB := Aside0.mk (below_step HB.out hq_)
  clear F1_ hq_
  have hy0 := blk_celln (H2.out) 0 _ rfl; have hy1 := blk_celln (H2.out) 1 _ rfl; have hy2 := blk_celln (H2.out) 2 _ rfl; have hy3 := blk_celln (H2.out) 3 _ rfl; have hy4 := blk_celln (H2.out) 4 _ rfl
  go_upto_region 4 with (first | ((with_reducible refine gate_dst (N := 12) rfl ?_); refine lit_event ?hg (N := 12) ?hd (n := 1) (cs := #[.string ⟨#[120]⟩, .int .i64 0]) (t := 42) ?hr ?_; (case hd => rfl); (case hg => rfl); (case hr => first | (go_simp; done) | (go_simp; rfl)); intro gc hg_ w9 hbox hb1; have HC := Aside0.mk hbox; replace HA := Aside0.mk (blk_below HA.out hb1); replace H1 := Aside0.mk (blk_below H1.out hb1); replace HBk := Aside0.mk (blk_below HBk.out hb1); replace H2 := Aside0.mk (blk_below H2.out hb1); replace HB := Aside0.mk (below_step HB.out hb1); clear hy0 hy1 hy2 hy3 hy4; have hy0 := blk_celln H2.out 0 _ rfl; have hy1 := blk_celln H2.out 1 _ rfl; have hy2 := blk_celln H2.out 2 _ rfl; have hy3 := blk_celln H2.out 3 _ rfl; have hy4 := blk_celln H2.out 4 _ rfl; clear hg_ hbox hb1) | ((with_reducible refine gate_dst (N := 14) rfl ?_); refine lit_event ?hg (N := 14) ?hd (n := 1) (cs := #[.int .i64 6, .int .i64 4, .string ⟨#[]⟩, .string ⟨#[]⟩, .slice none 0 0, .slice none 0 0, .slice none 0 0]) (t := 45) ?hr ?_; (case hd => rfl); (case hg => rfl); (case hr => first | (go_simp; done) | (go_simp; rfl)); intro gd hg_ w9 hbox hb1; have HD := Aside0.mk hbox; replace HA := Aside0.mk (blk_below HA.out hb1); replace H1 := Aside0.mk (blk_below H1.out hb1); replace HBk := Aside0.mk (blk_below HBk.out hb1); replace H2 := Aside0.mk (blk_below H2.out hb1); replace HC := Aside0.mk (blk_below HC.out hb1); replace HB := Aside0.mk (below_step HB.out hb1); clear hy0 hy1 hy2 hy3 hy4; have hy0 := blk_celln H2.out 0 _ rfl; have hy1 := blk_celln H2.out 1 _ rfl; have hy2 := blk_celln H2.out 2 _ rfl; have hy3 := blk_celln H2.out 3 _ rfl; have hy4 := blk_celln H2.out 4 _ rfl; clear hg_ hbox hb1) | ((with_reducible refine gate_dst (N := 15) rfl ?_); refine lit_event ?hg (N := 15) ?hd (n := 1) (cs := #[.slice (some ⟨gd, 0, none⟩) 1 1]) (t := 43) ?hr ?_; (case hd => rfl); (case hg => rfl); (case hr => first | (go_simp; done) | (go_simp; rfl)); intro ge hg_ w9 hbox hb1; have HE := Aside0.mk hbox; replace HA := Aside0.mk (blk_below HA.out hb1); replace H1 := Aside0.mk (blk_below H1.out hb1); replace HBk := Aside0.mk (blk_below HBk.out hb1); replace H2 := Aside0.mk (blk_below H2.out hb1); replace HC := Aside0.mk (blk_below HC.out hb1); replace HD := Aside0.mk (blk_below HD.out hb1); replace HB := Aside0.mk (below_step HB.out hb1); clear hy0 hy1 hy2 hy3 hy4; have hy0 := blk_celln H2.out 0 _ rfl; have hy1 := blk_celln H2.out 1 _ rfl; have hy2 := blk_celln H2.out 2 _ rfl; have hy3 := blk_celln H2.out 3 _ rfl; have hy4 := blk_celln H2.out 4 _ rfl; clear hg_ hbox hb1) | ((with_reducible refine gate_dst (N := 3) rfl ?_); refine box_event ?hg (N := 3) ?hd (cs := #[.string ⟨#[]⟩, .int .i64 0, .slice none 0 0, .slice none 0 0, .int .i64 0, .int .i64 0, .int .i64 0, .string ⟨#[]⟩, .int .i64 0, .slice none 0 0]) (t := 28) ?hr ?_; (case hd => rfl); (case hg => rfl); (case hr => first | (go_simp; done) | (go_simp; rfl)); intro g3 hg__ wd hbox_ hq_; have hg_ := Aside0.mk hg__; clear hg__; have z0_ := blk_celln hbox_ 0 _ rfl; have f0_ := blk_frozen hbox_ 0; have z1_ := blk_celln hbox_ 1 _ rfl; have f1_ := blk_frozen hbox_ 1; have z2_ := blk_celln hbox_ 2 _ rfl; have f2_ := blk_frozen hbox_ 2; have z3_ := blk_celln hbox_ 3 _ rfl; have f3_ := blk_frozen hbox_ 3; have z4_ := blk_celln hbox_ 4 _ rfl; have f4_ := blk_frozen hbox_ 4; have z5_ := blk_celln hbox_ 5 _ rfl; have f5_ := blk_frozen hbox_ 5; have z6_ := blk_celln hbox_ 6 _ rfl; have f6_ := blk_frozen hbox_ 6; have z7_ := blk_celln hbox_ 7 _ rfl; have f7_ := blk_frozen hbox_ 7; have z8_ := blk_celln hbox_ 8 _ rfl; have f8_ := blk_frozen hbox_ 8; have z9_ := blk_celln hbox_ 9 _ rfl; have f9_ := blk_frozen hbox_ 9))
  clear hy0 hy1 hy2 hy3 hy4
  obtain ⟨F1_, F2_⟩ := fill28 hbox_ (.string ⟨#[97]⟩) (.int .i64 2) (.slice (some ⟨gc, 0, none⟩) 1 1) (.slice (some ⟨ge, 0, none⟩) 1 1) (.int .i64 1) (.int .i64 3) (.int .i64 0) (.string ⟨#[]⟩) (.int .i64 0) (.slice (some ⟨gb, 0, none⟩) 1 1) _ rfl
  replace hq_ := hq_.trans (F2_ _ (Nat.le_of_eq hg_.out.symm))
  clear hg_ hbox_ F2_ z0_ f0_ z1_ f1_ z2_ f2_ z3_ f3_ z4_ f4_ z5_ f5_ z6_ f6_ z7_ f7_ z8_ f8_ z9_ f9_
  generalize (((((((((wd.setCell ⟨g3, 0, none⟩ (.string ⟨#[97]⟩)).setCell ⟨g3, 1, none⟩ (.int .i64 2)).setCell ⟨g3, 2, none⟩ (.slice (some ⟨gc, 0, none⟩) 1 1)).setCell ⟨g3, 3, none⟩ (.slice (some ⟨ge, 0, none⟩) 1 1)).setCell ⟨g3, 4, none⟩ (.int .i64 1)).setCell ⟨g3, 5, none⟩ (.int .i64 3)).setCell ⟨g3, 6, none⟩ (.int .i64 0)).setCell ⟨g3, 7, none⟩ (.string ⟨#[]⟩)).setCell ⟨g3, 8, none⟩ (.int .i64 0)).setCell ⟨g3, 9, none⟩ (.slice (some ⟨gb, 0, none⟩) 1 1) = wc at F1_ hq_ ⊢
  have H3 := Aside0.mk F1_
  replace HA := Aside0.mk (blk_below HA.out hq_)
  replace H1 := Aside0.mk (blk_below H1.out hq_)
  replace HBk := Aside0.mk (blk_below HBk.out hq_)
  replace H2 := Aside0.mk (blk_below H2.out hq_)
  replace HC := Aside0.mk (blk_below HC.out hq_)
  replace HD := Aside0.mk (blk_below HD.out hq_)
  replace HE := Aside0.mk (blk_below HE.out hq_)
  replace HB := Aside0.mk (below_step HB.out hq_)
  clear F1_ hq_
  have K1 := Aside0.mk (show Kd.C k31 wc (some ⟨ga, 0, none⟩) 2 [xa, xb] from C_two HA.out (k31_mk wc xa (A3 := none) (c3 := 0) (by decide) (C_nil _ _ _)) (k31_mk wc xb (A3 := none) (c3 := 0) (by decide) (C_nil _ _ _)))
  have K2 := Aside0.mk (show Kd.C k26 wc (some ⟨gb, 0, none⟩) 1 [ca] from C_one HBk.out (k26_mk wc ca (A4 := none) (c4 := 0) (by decide) (C_nil _ _ _)))
  have K3 := Aside0.mk (show Kd.C k42 wc (some ⟨gc, 0, none⟩) 1 [ia] from C_one HC.out (k42_mk wc ia))
  have K4 := Aside0.mk (show Kd.C k45 wc (some ⟨gd, 0, none⟩) 1 [sa] from C_one HD.out (k45_mk wc sa (A4 := none) (c4 := 0) (by decide) (C_nil _ _ _) (A5 := none) (c5 := 0) (by decide) (C_nil _ _ _) (A6 := none) (c6 := 0) (by decide) (C_nil _ _ _)))
  have K5 := Aside0.mk (show Kd.C (Kd.slice 45 k45) wc (some ⟨ge, 0, none⟩) 1 [[sa]] from C_one HE.out ⟨_, _, rfl, by decide, K4.out⟩)
  clear HA HBk HC HD HE K4
  have hy0 := blk_celln (H1.out) 0 _ rfl; have hy1 := blk_celln (H1.out) 1 _ rfl; have hy2 := blk_celln (H1.out) 2 _ rfl; have hy3 := blk_celln (H1.out) 3 _ rfl
  go_wp2_with (fail)
  refine (show_Expr.calls 13 3 0 ⟨#[]⟩ (some ⟨ga, 0, none⟩) 2 [xa, xb] _ _ K1.out (by decide) begE (GOk.le HG.out HB.out)).mono ?_
  rintro e wx ⟨rfl, qb⟩
  clear hy0 hy1 hy2 hy3
  replace K1 := Aside0.mk (Kd.C_below K1.out qb)
  replace K2 := Aside0.mk (Kd.C_below K2.out qb)
  replace K3 := Aside0.mk (Kd.C_below K3.out qb)
  replace K5 := Aside0.mk (Kd.C_below K5.out qb)
  replace H1 := Aside0.mk (blk_below H1.out qb)
  replace H2 := Aside0.mk (blk_below H2.out qb)
  replace H3 := Aside0.mk (blk_below H3.out qb)
  replace HB := Aside0.mk (below_step HB.out qb)
  clear qb
  have hy0 := blk_celln (H2.out) 0 _ rfl; have hy1 := blk_celln (H2.out) 1 _ rfl; have hy2 := blk_celln (H2.out) 2 _ rfl; have hy3 := blk_celln (H2.out) 3 _ rfl; have hy4 := blk_celln (H2.out) 4 _ rfl
  go_wp2_with (fail)
  have hW := cond_c 13 (by decide) cb (some ⟨gb, 0, none⟩) 1 wx begX K2.out (by decide) (GOk.le HG.out HB.out)
  rw [begC] at hW
  refine hW.mono ?_
  clear hW
  rintro e wx ⟨rfl, qb⟩
  clear hy0 hy1 hy2 hy3 hy4
  replace K1 := Aside0.mk (Kd.C_below K1.out qb)
  replace K2 := Aside0.mk (Kd.C_below K2.out qb)
  replace K3 := Aside0.mk (Kd.C_below K3.out qb)
  replace K5 := Aside0.mk (Kd.C_below K5.out qb)
  replace H1 := Aside0.mk (blk_below H1.out qb)
  replace H2 := Aside0.mk (blk_below H2.out qb)
  replace H3 := Aside0.mk (blk_below H3.out qb)
  replace HB := Aside0.mk (below_step HB.out qb)
  clear qb
  have hy0 := blk_celln (H3.out) 0 _ rfl; have hy1 := blk_celln (H3.out) 1 _ rfl; have hy2 := blk_celln (H3.out) 2 _ rfl; have hy3 := blk_celln (H3.out) 3 _ rfl; have hy4 := blk_celln (H3.out) 4 _ rfl; have hy5 := blk_celln (H3.out) 5 _ rfl; have hy6 := blk_celln (H3.out) 6 _ rfl; have hy7 := blk_celln (H3.out) 7 _ rfl; have hy8 := blk_celln (H3.out) 8 _ rfl; have hy9 := blk_celln (H3.out) 9 _ rfl
  go_wp2_with (fail)
  have hW := prog_c wx ⟨#[97]⟩ 2 (some ⟨gc, 0, none⟩) 1 [ia] (some ⟨ge, 0, none⟩) 1 [[sa]] 1 3 0 ⟨#[]⟩ 0 (some ⟨gb, 0, none⟩) 1 [ca] K3.out (by decide) K5.out (by decide) K2.out (by decide) begP (GOk.le HG.out HB.out)
  rw [begT] at hW
  refine hW.mono ?_
  clear hW
  rintro e wx ⟨rfl, qb⟩
  clear hy0 hy1 hy2 hy3 hy4 hy5 hy6 hy7 hy8 hy9
  replace K1 := Aside0.mk (Kd.C_below K1.out qb)
  replace K2 := Aside0.mk (Kd.C_below K2.out qb)
  replace K3 := Aside0.mk (Kd.C_below K3.out qb)
  replace K5 := Aside0.mk (Kd.C_below K5.out qb)
  replace H1 := Aside0.mk (blk_below H1.out qb)
  replace H2 := Aside0.mk (blk_below H2.out qb)
  replace H3 := Aside0.mk (blk_below H3.out qb)
  replace HB := Aside0.mk (below_step HB.out qb)
  clear qb
  go_wp2_with (fail)
  have hW := mode_c 3 wx
  rw [show modeS 3 = (⟨#[97, 99, 113, 114, 101, 108]⟩ : ByteArray) from rfl] at hW
  refine hW.mono ?_
  clear hW
  rintro e wx ⟨rfl, qb⟩
  replace HB := Aside0.mk (below_step HB.out qb)
  clear qb
  go_wp2_with (fail)
  have hW := mode_c 9 wx
  rw [show modeS 9 = (⟨#[]⟩ : ByteArray) from rfl] at hW
  refine hW.mono ?_
  clear hW
  rintro e wx ⟨rfl, qb⟩
  replace HB := Aside0.mk (below_step HB.out qb)
  clear qb
  go_wp2
  go_ret
  exact ⟨rfl, HB.out⟩
open Classical in
/-- show.Cond's text, where it is looked at. -/
noncomputable def show_Cond.f (a0_0 a0_1 : Int) (a0_2 : ByteArray) (a0_3 : Int) (l0_4 : List (S26)) : Option (ByteArray) := if CX 13 ⟨a0_0, a0_1, a0_2, a0_3, l0_4⟩ then some (cdS 13 ⟨a0_0, a0_1, a0_2, a0_3, l0_4⟩) else none
theorem show_Cond.calls (a0_0 a0_1 : Int) (a0_2 : ByteArray) (a0_3 : Int) (A0_4 : Option Addr) (c0_4 : Nat) (l0_4 : List (S26)) (r : ByteArray) (w : World) (hr0_4 : Kd.C k26 w A0_4 l0_4.length l0_4) (hc0_4 : l0_4.length ≤ c0_4) (h : show_Cond.f a0_0 a0_1 a0_2 a0_3 l0_4 = some r) (hG : GOk w := by first | exact Aside0.out (by assumption) | exact GOk.le (Aside0.out (by assumption)) (by repeat (first | exact Aside0.out (by assumption) | exact Below.refl _ _ | apply below_alloc | apply pw_below_drewN | apply below_drew1 | refine below_set ?_ (Aside0.out (by assumption))))) :
    Calls Tryd.prog 12 #[.agg #[.int .i64 a0_0, .int .i64 a0_1, .string a0_2, .int .i64 a0_3, .slice A0_4 l0_4.length c0_4]] w fun e w' => e = .returned (.string r) ∧ Below w.heap.size w w' := by
  unfold show_Cond.f at h
  split at h
  · rename_i hx
    obtain rfl := Option.some.inj h
    exact cond_c 13 (by decide) ⟨a0_0, a0_1, a0_2, a0_3, l0_4⟩ A0_4 c0_4 w hx hr0_4 hc0_4 hG
  · cases h
open Classical in
/-- show.Prog's text, where it is looked at. -/
noncomputable def show_Prog.f (a0_0 : ByteArray) (a0_1 : Int) (l0_2 : List (S42)) (l0_3 : List (List (S45))) (a0_4 a0_5 a0_6 : Int) (a0_7 : ByteArray) (a0_8 : Int) (l0_9 : List (S26)) : Option (ByteArray) := if PX a0_0 a0_1 l0_2 l0_3 ⟨a0_5, a0_6, a0_7, a0_8, l0_9⟩ then some (prS a0_0 a0_1 l0_2 l0_3 a0_4 ⟨a0_5, a0_6, a0_7, a0_8, l0_9⟩) else none
theorem show_Prog.calls (a0_0 : ByteArray) (a0_1 : Int) (A0_2 : Option Addr) (c0_2 : Nat) (l0_2 : List (S42)) (A0_3 : Option Addr) (c0_3 : Nat) (l0_3 : List (List (S45))) (a0_4 a0_5 a0_6 : Int) (a0_7 : ByteArray) (a0_8 : Int) (A0_9 : Option Addr) (c0_9 : Nat) (l0_9 : List (S26)) (r : ByteArray) (w : World) (hr0_2 : Kd.C k42 w A0_2 l0_2.length l0_2) (hc0_2 : l0_2.length ≤ c0_2) (hr0_3 : Kd.C (Kd.slice 45 k45) w A0_3 l0_3.length l0_3) (hc0_3 : l0_3.length ≤ c0_3) (hr0_9 : Kd.C k26 w A0_9 l0_9.length l0_9) (hc0_9 : l0_9.length ≤ c0_9) (h : show_Prog.f a0_0 a0_1 l0_2 l0_3 a0_4 a0_5 a0_6 a0_7 a0_8 l0_9 = some r) (hG : GOk w := by first | exact Aside0.out (by assumption) | exact GOk.le (Aside0.out (by assumption)) (by repeat (first | exact Aside0.out (by assumption) | exact Below.refl _ _ | apply below_alloc | apply pw_below_drewN | apply below_drew1 | refine below_set ?_ (Aside0.out (by assumption))))) :
    Calls Tryd.prog 8 #[.agg #[.string a0_0, .int .i64 a0_1, .slice A0_2 l0_2.length c0_2, .slice A0_3 l0_3.length c0_3, .int .i64 a0_4, .int .i64 a0_5, .int .i64 a0_6, .string a0_7, .int .i64 a0_8, .slice A0_9 l0_9.length c0_9]] w fun e w' => e = .returned (.string r) ∧ Below w.heap.size w w' := by
  unfold show_Prog.f at h
  split at h
  · rename_i hx
    obtain rfl := Option.some.inj h
    exact prog_c w a0_0 a0_1 A0_2 c0_2 l0_2 A0_3 c0_3 l0_3 a0_4 a0_5 a0_6 a0_7 a0_8 A0_9 c0_9 l0_9 hr0_2 hc0_2 hr0_3 hc0_3 hr0_9 hc0_9 hx hG
  · cases h
def withelaw8_begun.f : Option Bool := some true
theorem withelaw8_begun.calls (r : Bool) (w : World) (h : withelaw8_begun.f = some r) (hG : GOk w := by first | exact Aside0.out (by assumption) | exact GOk.le (Aside0.out (by assumption)) (by repeat (first | exact Aside0.out (by assumption) | exact Below.refl _ _ | apply below_alloc | apply pw_below_drewN | apply below_drew1 | refine below_set ?_ (Aside0.out (by assumption))))) :
    Calls Tryd.prog 4 #[] w fun e w' => e = .returned (.bool r) ∧ Below w.heap.size w w' := by
  obtain rfl := Option.some.inj h
  exact begun_c w hG
end Go.Proofs.YtpldhihdlgghlaaDoor.PS
