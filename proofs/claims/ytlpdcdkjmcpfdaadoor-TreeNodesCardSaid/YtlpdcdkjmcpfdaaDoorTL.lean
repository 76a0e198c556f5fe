/- witheref12's Build at a program of one load: walked by hand. -/
import Derived.Test.YtlpdcdkjmcpfdaaDoorTJ
namespace Go.Proofs.YtlpdcdkjmcpfdaaDoor.PT
open Go.RowKit Go.Proofs.YtlpdcdkjmcpfdaaDoorW.PrintWords Go.Proofs.YtlpdcdkjmcpfdaaDoorW.PrintLast Go.Proofs.YtlpdcdkjmcpfdaaDoorW.PrintMore
set_option linter.unusedVariables false
set_option linter.unusedSimpArgs false
attribute [local go_sem] cell_set_some
variable {w0 w w' : World} {c0 c1 c2 c3 c4 c5 c6 c7 c8 c9 : Value} {g : Nat} {vals : Int} {locs : List ByteArray} {regs : List (List ByteArray)} {nodes : List S53} {th : Int} {lg : Bool} {v1 v2 v3 : Value}
theorem BS.setv (H : BS w0 c0 c1 c2 c3 c4 c5 c6 c7 c8 c9 w g vals locs regs nodes th lg v1 v2 v3) (x : Int) : BS w0 c0 c1 c2 c3 c4 c5 c6 c7 c8 c9 (w.setCell ⟨g, 10, none⟩ (.int .i64 x)) g x locs regs nodes th lg v1 v2 v3 :=
  ⟨blk_put H.blk 10 _ rfl, Kd.R_set H.h1 H.blk (by decide) 10 _, Kd.S_set H.h2 H.blk (by decide) 10 _, Kd.S_set H.h3 H.blk (by decide) 10 _, below_set H.hB H.hg, H.hg⟩
theorem BS.sett (H : BS w0 c0 c1 c2 c3 c4 c5 c6 c7 c8 c9 w g vals locs regs nodes th lg v1 v2 v3) (x : Int) : BS w0 c0 c1 c2 c3 c4 c5 c6 c7 c8 c9 (w.setCell ⟨g, 14, none⟩ (.int .i64 x)) g vals locs regs nodes x lg v1 v2 v3 :=
  ⟨blk_put H.blk 14 _ rfl, Kd.R_set H.h1 H.blk (by decide) 14 _, Kd.S_set H.h2 H.blk (by decide) 14 _, Kd.S_set H.h3 H.blk (by decide) 14 _, below_set H.hB H.hg, H.hg⟩
theorem BS.appL {v4 : Value} {locs' : List ByteArray} (H : BS w0 c0 c1 c2 c3 c4 c5 c6 c7 c8 c9 w g vals locs [] [] th lg v1 (.slice none 0 0) (.slice none 0 0)) (hb : w'.heap[g]? = some (.cells #[c0, c1, c2, c3, c4, c5, c6, c7, c8, c9, .int .i64 vals, v1, .slice none 0 0, .slice none 0 0, .int .i64 th, .bool lg] 88 (0, 0)))
    (hR : Kd.R Kd.string 9 w' w0.heap.size (fun _ => True) v4 locs') (hB : Below w0.heap.size w0 w') : BS w0 c0 c1 c2 c3 c4 c5 c6 c7 c8 c9 (w'.setCell ⟨g, 11, none⟩ v4) g vals locs' [] [] th lg v4 (.slice none 0 0) (.slice none 0 0) :=
  ⟨blk_put hb 11 _ rfl, Kd.R_set hR hb (by decide) 11 _, Kd.S_nil _ _ _ _ _, Kd.S_nil _ _ _ _ _, below_set hB H.hg, H.hg⟩
theorem BS.appR {v5 : Value} {regs' : List (List ByteArray)} (H : BS w0 c0 c1 c2 c3 c4 c5 c6 c7 c8 c9 w g vals locs regs [] th lg v1 v2 (.slice none 0 0)) (hb : w'.heap[g]? = some (.cells #[c0, c1, c2, c3, c4, c5, c6, c7, c8, c9, .int .i64 vals, v1, v2, .slice none 0 0, .int .i64 th, .bool lg] 88 (0, 0)))
    (hg : w.grownBy w' none) (hS : Kd.S (Kd.slice 9 Kd.string) 24 w' w0.heap.size (fun k => some k ≠ v1.ownBlock) v5 regs') (hB : Below w0.heap.size w0 w') : BS w0 c0 c1 c2 c3 c4 c5 c6 c7 c8 c9 (w'.setCell ⟨g, 12, none⟩ v5) g vals locs regs' [] th lg v1 v5 (.slice none 0 0) :=
  ⟨blk_put hb 12 _ rfl, Kd.R_set (Kd.R_grown2 H.h1 rfl hg nofun) hb (by decide) 12 _, Kd.S_set hS hb (by decide) 12 _, Kd.S_nil _ _ _ _ _, below_set hB H.hg, H.hg⟩
/-- The tree handed back: stored into the result's own block. -/
theorem BS.res {g2 : Nat} {e0 e1 e2 e3 : Value} (H : BS w0 c0 c1 c2 c3 c4 c5 c6 c7 c8 c9 w g vals locs regs nodes th lg v1 v2 v3) (HC : w.heap[g2]? = some (.cells #[e0, e1, e2, e3] 28 (0, 0))) (hg2 : w0.heap.size ≤ g2) (W : World) (hW : W = (((w.setCell ⟨g2, 0, none⟩ (.int .i64 vals)).setCell ⟨g2, 1, none⟩ v1).setCell ⟨g2, 2, none⟩ v2).setCell ⟨g2, 3, none⟩ v3) :
    W.heap[g2]? = some (.cells #[.int .i64 vals, v1, v2, v3] 28 (0, 0)) ∧ Kd.R Kd.string 9 W w0.heap.size (fun _ => True) v1 locs ∧ Kd.S (Kd.slice 9 Kd.string) 24 W w0.heap.size (fun k => some k ≠ v1.ownBlock) v2 regs ∧ Kd.S k53 53 W w0.heap.size (fun _ => True) v3 nodes ∧ Below w0.heap.size w0 W := by
  subst hW
  have b0 := blk_put HC 0 (.int .i64 vals) rfl
  have b1 := blk_put b0 1 v1 rfl
  have b2 := blk_put b1 2 v2 rfl
  have b3 := blk_put b2 3 v3 rfl
  refine ⟨b3, ?_, ?_, ?_, ?_⟩
  · exact Kd.R_set (Kd.R_set (Kd.R_set (Kd.R_set H.h1 HC (by decide) 0 _) b0 (by decide) 1 _) b1 (by decide) 2 _) b2 (by decide) 3 _
  · exact Kd.S_set (Kd.S_set (Kd.S_set (Kd.S_set H.h2 HC (by decide) 0 _) b0 (by decide) 1 _) b1 (by decide) 2 _) b2 (by decide) 3 _
  · exact Kd.S_set (Kd.S_set (Kd.S_set (Kd.S_set H.h3 HC (by decide) 0 _) b0 (by decide) 1 _) b1 (by decide) 2 _) b2 (by decide) 3 _
  · exact below_set (below_set (below_set (below_set H.hB hg2) hg2) hg2) hg2
/-- The tree of the program that begun makes. -/
def nodes0 : List S53 := [⟨-1, -1, 3, 0, 0, 0, false, false, []⟩, ⟨0, -1, 1, 0, 0, 0, false, false, []⟩, ⟨0, 1, 2, 0, 4, 0, false, true, [0]⟩, ⟨0, 1, 2, 0, 4, 1, false, true, [1]⟩]
def build.T9 : Bool × List (List Nat × List Nat) := (true, [([], []), ([], []), ([1], [1]), ([2], [2]), ([3], [3]), ([4], [4]), ([], []), ([6], [6]), ([], []), ([7, 8], [7, 8]), ([9], [9]), ([10], [10]), ([11], [11]), ([5, 12], [5, 12]), ([0, 0, 1, 2, 3, 4, 5, 6, 7, 8, 9, 10, 11, 12, 13], [0]), ([14, 0, 1, 2, 3, 4, 5, 6, 7, 8, 9, 10, 11, 12, 13], [14]), ([15, 0, 1, 2, 3, 4, 5, 6, 7, 8, 9, 10, 11, 12, 13], [15]), ([16, 13, 13, 0, 1, 2, 3, 4, 5, 6, 7, 8, 9, 10, 11, 12, 13], [13, 16])])
def build.B9 : List Nat := [0, 0, 2, 6, 14, 30, 0, 64, 0, 448, 960, 1984, 4032, 8190, 16383, 32767, 65535, 131071]
theorem build.tab9 : rtab .any (opsOf Tryd.f33 9) = build.T9 := by kernel_rfl
theorem build.bits9 : waitsOk build.T9.2 build.B9 = true := by kernel_rfl
def build.T13 : Bool × List (List Nat × List Nat) := (true, [([], []), ([], []), ([1], [1]), ([2], [2]), ([3], [3]), ([4], [4]), ([], []), ([6], [6]), ([], []), ([7, 8], [7, 8]), ([9], [9]), ([10], [10]), ([11], [11]), ([5, 12, 11], [5, 12]), ([0, 0, 1, 2, 3, 4, 5, 6, 7, 8, 9, 10, 11, 12, 13], [0]), ([14, 0, 1, 2, 3, 4, 5, 6, 7, 8, 9, 10, 11, 12, 13], [14]), ([15, 0, 1, 2, 3, 4, 5, 6, 7, 8, 9, 10, 11, 12, 13], [15]), ([16, 13, 13, 0, 1, 2, 3, 4, 5, 6, 7, 8, 9, 10, 11, 12, 13], [13, 16])])
def build.B13 : List Nat := [0, 0, 2, 6, 14, 30, 0, 64, 0, 448, 960, 1984, 4032, 8190, 16383, 32767, 65535, 131071]
theorem build.tab13 : rtab .any (opsOf Tryd.f33 13) = build.T13 := by kernel_rfl
theorem build.bits13 : waitsOk build.T13.2 build.B13 = true := by kernel_rfl
def build.T24 : Bool × List (List Nat × List Nat) := (true, [([], []), ([], []), ([1], [1]), ([], []), ([2, 3], [2, 3]), ([4], [4]), ([5], [5]), ([6], [6]), ([], []), ([], []), ([9], [9]), ([10], [10]), ([11], [11]), ([12], [12]), ([], []), ([13, 14], [13, 14]), ([15], [15]), ([16], [16]), ([17, 17], [17]), ([0, 7, 8, 18], [0, 7, 8, 18])])
def build.B24 : List Nat := [0, 0, 2, 0, 14, 30, 62, 126, 0, 0, 512, 1536, 3584, 7680, 0, 32256, 65024, 130560, 261632, 524287]
theorem build.tab24 : rtab .any (opsOf Tryd.f33 24) = build.T24 := by kernel_rfl
theorem build.bits24 : waitsOk build.T24.2 build.B24 = true := by kernel_rfl
set_option maxHeartbeats 8000000 in
set_option maxRecDepth 100000 in
theorem build_one (w : World) (A2 A3 A9 : Option Addr) (c2 c3 c9 : Nat) (hr2 : Kd.C k57 w A2 1 [ce0]) (hc2 : 1 ≤ c2) (hr3 : Kd.C (Kd.slice 61 k61) w A3 1 [[st0]]) (hc3 : 1 ≤ c3) (hr9 : Kd.C k35 w A9 0 []) :
    Calls Tryd.prog 33 #[.agg #[.string ⟨#[97]⟩, .int .i64 2, .slice A2 1 c2, .slice A3 1 c3, .int .i64 1, .int .i64 1, .int .i64 0, .string ⟨#[120]⟩, .int .i64 0, .slice A9 0 c9]] w fun e w' => ∃ v1 v2 v3 : Value, e = .returned (.tuple #[.agg #[.int .i64 2, v1, v2, v3], .int .i64 0]) ∧
      Kd.R Kd.string 9 w' w.heap.size (fun _ => True) v1 [⟨#[120]⟩] ∧ Kd.S (Kd.slice 9 Kd.string) 24 w' w.heap.size (fun k => some k ≠ v1.ownBlock) v2 [[⟨#[114]⟩]] ∧ Kd.S k53 53 w' w.heap.size (fun _ => True) v3 nodes0 ∧ Below w.heap.size w w' := by
  have hu37 := Tryd.underlying37
  have hu57 := Tryd.underlying57
  have hu28 := Tryd.underlying28
  have hu88 := Tryd.underlying88
  have hu94 := Tryd.underlying94
  have hu53 := Tryd.underlying53
  have R2 := Aside0.mk hr2
  have R3 := Aside0.mk hr3
  have R9 := Aside0.mk hr9
  obtain ⟨ad2, ad3, ad, c0, A4, d4, A5, d5, A6, d6, rfl, rfl, hp, hc0⟩ := PC.of hr2 hr3
  have HP := Aside0.mk hp
  clear hp hr2 hr3 hr9
  go_enter Tryd.func33, Tryd.ntmps33
  go_wp2_with (first | ((with_reducible refine gate_dst (N := 1) rfl ?_); refine box_event ?hg (N := 1) ?hd (cs := #[.string ⟨#[97]⟩, .int .i64 2, .slice (some ad2) 1 c2, .slice (some ad3) 1 c3, .int .i64 1, .int .i64 1, .int .i64 0, .string ⟨#[120]⟩, .int .i64 0, .slice A9 0 c9]) (t := 37) ?hr ?_; (case hd => rfl); (case hg => rfl); (case hr => first | (go_simp; done) | (go_simp; rfl)); intro g1 hg1 w1 hbox hb1; have HX := Aside0.mk hbox; have HB := Aside0.mk hb1; have hx0 := blk_celln (HX.out) 0 _ rfl; have hx1 := blk_celln (HX.out) 1 _ rfl; have hx2 := blk_celln (HX.out) 2 _ rfl; have hx3 := blk_celln (HX.out) 3 _ rfl; have hx4 := blk_celln (HX.out) 4 _ rfl; have hx5 := blk_celln (HX.out) 5 _ rfl; have hx6 := blk_celln (HX.out) 6 _ rfl; have hx7 := blk_celln (HX.out) 7 _ rfl; have hx8 := blk_celln (HX.out) 8 _ rfl; have hx9 := blk_celln (HX.out) 9 _ rfl; clear hg1 hb1 hbox) | ((with_reducible refine gate_dst (N := 2) rfl ?_); refine box_event ?hg (N := 2) ?hd (cs := #[.int .i64 0, .slice none 0 0, .slice none 0 0, .slice none 0 0]) (t := 28) ?hr ?_; (case hd => rfl); (case hg => rfl); (case hr => first | (go_simp; done) | (go_simp; rfl)); intro g2 hg1 w2 hbox hb1; have HC := Aside0.mk hbox; have Hg2 := Aside0.mk (show w.heap.size ≤ g2 from hg1 ▸ HB.out.size); replace HX := Aside0.mk (blk_below HX.out hb1); replace HB := Aside0.mk (below_step HB.out hb1); replace hx0 := blk_celln (HX.out) 0 _ rfl; replace hx1 := blk_celln (HX.out) 1 _ rfl; replace hx2 := blk_celln (HX.out) 2 _ rfl; replace hx3 := blk_celln (HX.out) 3 _ rfl; replace hx4 := blk_celln (HX.out) 4 _ rfl; replace hx5 := blk_celln (HX.out) 5 _ rfl; replace hx6 := blk_celln (HX.out) 6 _ rfl; replace hx7 := blk_celln (HX.out) 7 _ rfl; replace hx8 := blk_celln (HX.out) 8 _ rfl; replace hx9 := blk_celln (HX.out) 9 _ rfl; clear hg1 hb1 hbox))
  refine (may_one w2 (some ad2) (some ad3) A9 c2 c3 c9 (Kd.C_below R2.out HB.out) hc2 (Kd.C_below R3.out HB.out) hc3 (Kd.C_below R9.out HB.out)).mono ?_
  rintro e w3 ⟨rfl, qb⟩
  replace HX := Aside0.mk (blk_below HX.out qb)
  replace HC := Aside0.mk (blk_below HC.out qb)
  replace HB := Aside0.mk (below_step HB.out qb)
  clear qb
  replace hx0 := blk_celln (HX.out) 0 _ rfl; replace hx1 := blk_celln (HX.out) 1 _ rfl; replace hx2 := blk_celln (HX.out) 2 _ rfl; replace hx3 := blk_celln (HX.out) 3 _ rfl; replace hx4 := blk_celln (HX.out) 4 _ rfl; replace hx5 := blk_celln (HX.out) 5 _ rfl; replace hx6 := blk_celln (HX.out) 6 _ rfl; replace hx7 := blk_celln (HX.out) 7 _ rfl; replace hx8 := blk_celln (HX.out) 8 _ rfl; replace hx9 := blk_celln (HX.out) 9 _ rfl
  go_wp2_with (first | ((with_reducible refine gate_dst (N := 23) rfl ?_); refine box_event ?hg (N := 23) ?hd (cs := #[.string ⟨#[97]⟩, .int .i64 2, .slice (some ad2) 1 c2, .slice (some ad3) 1 c3, .int .i64 1, .int .i64 1, .int .i64 0, .string ⟨#[120]⟩, .int .i64 0, .slice A9 0 c9, .int .i64 0, .slice none 0 0, .slice none 0 0, .slice none 0 0, .int .i64 0, .bool false]) (t := 88) ?hr ?_; (case hd => rfl); (case hg => rfl); (case hr => first | (go_simp; done) | (go_simp; rfl)); intro g hg1 w4 hbox hb1; have hz10 := blk_celln hbox 10 _ rfl; have hf10 := blk_frozen hbox 10; have HS := Aside0.mk (show BS w (.string ⟨#[97]⟩) (.int .i64 2) (.slice (some ad2) 1 c2) (.slice (some ad3) 1 c3) (.int .i64 1) (.int .i64 1) (.int .i64 0) (.string ⟨#[120]⟩) (.int .i64 0) (.slice A9 0 c9) w4 g 0 [] [] [] 0 false (.slice none 0 0) (.slice none 0 0) (.slice none 0 0) from ⟨hbox, Kd.R_nil _ _ _ _ _, Kd.S_nil _ _ _ _ _, Kd.S_nil _ _ _ _ _, below_step HB.out hb1, hg1 ▸ HB.out.size⟩); replace HX := Aside0.mk (blk_below HX.out hb1); replace HC := Aside0.mk (blk_below HC.out hb1); replace hx0 := blk_celln (HX.out) 0 _ rfl; replace hx1 := blk_celln (HX.out) 1 _ rfl; replace hx2 := blk_celln (HX.out) 2 _ rfl; replace hx3 := blk_celln (HX.out) 3 _ rfl; replace hx4 := blk_celln (HX.out) 4 _ rfl; replace hx5 := blk_celln (HX.out) 5 _ rfl; replace hx6 := blk_celln (HX.out) 6 _ rfl; replace hx7 := blk_celln (HX.out) 7 _ rfl; replace hx8 := blk_celln (HX.out) 8 _ rfl; replace hx9 := blk_celln (HX.out) 9 _ rfl; clear hg1 hb1 hbox HB))
  have k4 := (TK.refl w4).set (j := 10) HS.out.blk (Or.inl rfl) (.int .i64 2)
  replace HX := Aside0.mk (k4.blk HX.out (by decide) (by decide))
  replace HC := Aside0.mk (k4.blk HC.out (by decide) (by decide))
  replace HS := Aside0.mk (HS.out.setv 2)
  clear k4 hz10 hf10 hx0 hx1 hx2 hx3 hx4 hx5 hx6 hx7 hx8 hx9
  generalize w4.setCell ⟨g, 10, none⟩ (.int .i64 2) = w5 at HX HC HS ⊢
  have hx2 := blk_celln (HX.out) 2 _ rfl; have hx3 := blk_celln (HX.out) 3 _ rfl
  refine wp_loop_rounds 2 ?_
  rw [rounds_succ]
  go_upto_region 9 with (fail)
  replace HS := Aside0.mk HS.out.drew
  replace HX := Aside0.mk (blk_drew HX.out)
  replace HC := Aside0.mk (blk_drew HC.out)
  clear hx2 hx3
  have hx2 := blk_celln (HX.out) 2 _ rfl
  have hz11 := blk_celln (HS.out.blk) 11 _ rfl
  have i0 := (HP.out.below HS.out.hB).i0
  refine start_ (n := 18) (S := fun w' => w'.cell? ⟨g, 11, none⟩ = some (.slice none 0 0) ∧ w'.cell? ⟨g1, 2, none⟩ = some (.slice (some ad2) 1 c2) ∧ w'.cell? ad2 = some (.string ⟨#[120]⟩)) (ds := [13, 17]) #[Z,Z,Z,Z,Z,Z,Z,Z,Z,Z,Z,Z,Z,Z,Z,Z,Z,Z] (by kernel_rfl) rfl rfl ⟨hz11, hx2, i0⟩ (fun hHeld => ?_)
  refine with_tabW build.tab9 build.bits9 (fun HT_ HW_ => ?_)
  generalize World.drew _ = wb at HS HX HC i0 hHeld ⊢
  refine pure_ (i := 0) (N := some 37) (v := ?_) (a' := ?_) #[Y,Z,Z,Z,Z,Z,Z,Z,Z,Z,Z,Z,Z,Z,Z,Z,Z,Z] rfl rfl (any_of HT_.out (by kernel_rfl)) (fun _ _ _ h => h) (Or.inl ⟨by rfl, ?_⟩) ?_ ?_
  rotate_left
  · intro w'
    go_simp
    with_reducible rfl
  rotate_left
  · simp only [Act.put, pA, pB, pC, i64_w, i32_w]
    rfl
  refine pure_ (i := 1) (N := some 38) (v := ?_) (a' := ?_) #[Y,Y,Z,Z,Z,Z,Z,Z,Z,Z,Z,Z,Z,Z,Z,Z,Z,Z] rfl rfl (any_of HT_.out (by kernel_rfl)) (fun _ _ _ h => h) (Or.inl ⟨by rfl, ?_⟩) ?_ ?_
  rotate_left
  · intro w'
    go_simp
    with_reducible rfl
  rotate_left
  · simp only [Act.put, pA, pB, pC, i64_w, i32_w]
    rfl
  refine pure_ (i := 2) (N := some 39) (v := ?_) (a' := ?_) #[Y,Y,Y,Z,Z,Z,Z,Z,Z,Z,Z,Z,Z,Z,Z,Z,Z,Z] rfl rfl (any_of HT_.out (by kernel_rfl)) (fun _ _ _ h => h) (Or.inl ⟨by rfl, ?_⟩) ?_ ?_
  rotate_left
  · intro w'
    go_simp
    with_reducible rfl
  rotate_left
  · simp only [Act.put, pA, pB, pC, i64_w, i32_w]
    rfl
  refine pure_ (i := 3) (N := some 40) (v := ?_) (a' := ?_) #[Y,Y,Y,Y,Z,Z,Z,Z,Z,Z,Z,Z,Z,Z,Z,Z,Z,Z] rfl rfl (any_of HT_.out (by kernel_rfl)) (fun _ _ _ h => h) (Or.inl ⟨by rfl, ?_⟩) ?_ ?_
  rotate_left
  · intro w'
    go_simp
    with_reducible rfl
  rotate_left
  · simp only [Act.put, pA, pB, pC, i64_w, i32_w]
    rfl
  refine pure_ (i := 4) (N := some 41) (v := ?_) (a' := ?_) #[Y,Y,Y,Y,Y,Z,Z,Z,Z,Z,Z,Z,Z,Z,Z,Z,Z,Z] rfl rfl (any_of HT_.out (by kernel_rfl)) (fun _ _ _ h => h) (Or.inl ⟨by rfl, ?_⟩) ?_ ?_
  rotate_left
  · intro w'
    go_simp
    with_reducible rfl
  rotate_left
  · simp only [Act.put, pA, pB, pC, i64_w, i32_w]
    rfl
  refine take_ (i := 5) (N := some 42) (v := ?_) (a' := ?_) #[Y,Y,Y,Y,Y,Y,Z,Z,Z,Z,Z,Z,Z,Z,Z,Z,Z,Z] rfl rfl (take_ofW HT_.out HW_.out (by kernel_rfl)) (fun _ _ _ h => h) (Or.inl ⟨by rfl, ?_⟩) hHeld ?_ ?_
  rotate_left
  · rintro w' ⟨s0, s1, s2⟩
    go_simp
    with_reducible rfl
  rotate_left
  · simp only [Act.put, pA, pB, pC, i64_w, i32_w]
    rfl
  refine pure_ (i := 6) (N := some 43) (v := ?_) (a' := ?_) #[Y,Y,Y,Y,Y,Y,Y,Z,Z,Z,Z,Z,Z,Z,Z,Z,Z,Z] rfl rfl (any_of HT_.out (by kernel_rfl)) (fun _ _ _ h => h) (Or.inl ⟨by rfl, ?_⟩) ?_ ?_
  rotate_left
  · intro w'
    go_simp
    with_reducible rfl
  rotate_left
  · simp only [Act.put, pA, pB, pC, i64_w, i32_w]
    rfl
  refine take_ (i := 7) (N := some 44) (v := ?_) (a' := ?_) #[Y,Y,Y,Y,Y,Y,Y,Y,Z,Z,Z,Z,Z,Z,Z,Z,Z,Z] rfl rfl (take_ofW HT_.out HW_.out (by kernel_rfl)) (fun _ _ _ h => h) (Or.inl ⟨by rfl, ?_⟩) hHeld ?_ ?_
  rotate_left
  · rintro w' ⟨s0, s1, s2⟩
    go_simp
    with_reducible rfl
  rotate_left
  · simp only [Act.put, pA, pB, pC, i64_w, i32_w]
    rfl
  refine pure_ (i := 8) (N := some 45) (v := ?_) (a' := ?_) #[Y,Y,Y,Y,Y,Y,Y,Y,Y,Z,Z,Z,Z,Z,Z,Z,Z,Z] rfl rfl (any_of HT_.out (by kernel_rfl)) (fun _ _ _ h => h) (Or.inl ⟨by rfl, ?_⟩) ?_ ?_
  rotate_left
  · intro w'
    go_simp
    with_reducible rfl
  rotate_left
  · simp only [Act.put, pA, pB, pC, i64_w, i32_w]
    rfl
  refine pure_ (i := 9) (N := some 46) (v := ?_) (a' := ?_) #[Y,Y,Y,Y,Y,Y,Y,Y,Y,Y,Z,Z,Z,Z,Z,Z,Z,Z] rfl rfl (any_of HT_.out (by kernel_rfl)) (fun _ _ _ h => h) (Or.inl ⟨by rfl, ?_⟩) ?_ ?_
  rotate_left
  · intro w'
    go_simp
    with_reducible rfl
  rotate_left
  · simp only [Act.put, pA, pB, pC, i64_w, i32_w]
    rfl
  refine pure_ (i := 10) (N := some 47) (v := ?_) (a' := ?_) #[Y,Y,Y,Y,Y,Y,Y,Y,Y,Y,Y,Z,Z,Z,Z,Z,Z,Z] rfl rfl (any_of HT_.out (by kernel_rfl)) (fun _ _ _ h => h) (Or.inl ⟨by rfl, ?_⟩) ?_ ?_
  rotate_left
  · intro w'
    go_simp
    with_reducible rfl
  rotate_left
  · simp only [Act.put, pA, pB, pC, i64_w, i32_w]
    rfl
  refine take_ (i := 11) (N := some 48) (v := ?_) (a' := ?_) #[Y,Y,Y,Y,Y,Y,Y,Y,Y,Y,Y,Y,Z,Z,Z,Z,Z,Z] rfl rfl (take_ofW HT_.out HW_.out (by kernel_rfl)) (fun _ _ _ h => h) (Or.inl ⟨by rfl, ?_⟩) hHeld ?_ ?_
  rotate_left
  · rintro w' ⟨s0, s1, s2⟩
    go_simp
    with_reducible rfl
  rotate_left
  · simp only [Act.put, pA, pB, pC, i64_w, i32_w]
    rfl
  refine one_ (i := 12) (N := some 49) #[Y,Y,Y,Y,Y,Y,Y,Y,Y,Y,Y,Y,Y,Z,Z,Z,Z,Z] rfl rfl (one_of HT_.out (by kernel_rfl)) (by decide) (fun K hK => ?_)
  refine value_ (w1 := ?_) (v := ?_) (by rfl) rfl ?_ ?_
  rotate_left 2
  · go_simp
    constructor
    · rfl
    · rfl
  refine hK.out _ _ (by obtain ⟨s0, s1, s2⟩ := hHeld; exact ⟨(World.cell?_alloc_lt _ _ _ (World.block_lt_of_cell? _ _ s0)).trans s0, (World.cell?_alloc_lt _ _ _ (World.block_lt_of_cell? _ _ s1)).trans s1, (World.cell?_alloc_lt _ _ _ (World.block_lt_of_cell? _ _ s2)).trans s2⟩) (fun hHeld => ?_)
  clear hK K
  refine norm_ (a' := ?_) ?_ ?_
  rotate_left
  · show Act.put _ (some 49) _ = _
    simp only [Act.put, pA, pB, pC, i64_w, i32_w]
    rfl
  refine last_ (i := 13) (N := some 50) #[Y,Y,Y,Y,Y,Y,Y,Y,Y,Y,Y,Y,Y,Y,Z,Z,Z,Z] rfl rfl (one_of HT_.out (by kernel_rfl)) (by decide) (fun K hK => ?_)
  refine Kd.R_append_step Kd.string (w0 := w) w.heap.size (by rfl) (.tmp 42) (.tmp 49) 24 9 (.string ⟨#[]⟩) 16 rfl Tryd.underlying24 info9 rfl (by decide) (by decide) (.slice none 0 0) [] ⟨#[120]⟩ [.string ⟨#[120]⟩] (fun _ => True) (fun _ => False) rfl rfl rfl (fun _ hk => hk.elim) (fun _ _ => trivial) (Kd.R_nil _ _ _ _ _) HS.out.hB HS.out.hB.size (by decide) ?_
  intro v4 w6 q1 q2 q3 _
  obtain ⟨AL, cL, rfl⟩ := Kd.R_slice q1
  refine hK.out _ _ ?_
  clear hK K
  refine norm_ (a' := ?_) ?_ ?_
  rotate_left
  · show Act.put _ (some 50) _ = _
    simp only [Act.put, pA, pB, pC, i64_w, i32_w]
    rfl
  have hb2 := blk_grown HS.out.blk q3 nofun
  refine pure_ (i := 14) (N := some 51) (v := ?_) (a' := ?_) #[Y,Y,Y,Y,Y,Y,Y,Y,Y,Y,Y,Y,Y,Y,Y,Z,Z,Z] rfl rfl (any_of HT_.out (by kernel_rfl)) (fun _ _ _ h => h) (Or.inl ⟨by rfl, ?_⟩) ?_ ?_
  rotate_left
  · intro w'
    go_simp
    with_reducible rfl
  rotate_left
  · simp only [Act.put, pA, pB, pC, i64_w, i32_w]
    rfl
  refine pure_ (i := 15) (N := some 52) (v := ?_) (a' := ?_) #[Y,Y,Y,Y,Y,Y,Y,Y,Y,Y,Y,Y,Y,Y,Y,Y,Z,Z] rfl rfl (any_of HT_.out (by kernel_rfl)) (fun _ _ _ h => h) (Or.inl ⟨by rfl, ?_⟩) ?_ ?_
  rotate_left
  · intro w'
    go_simp
    with_reducible rfl
  rotate_left
  · simp only [Act.put, pA, pB, pC, i64_w, i32_w]
    rfl
  refine pure_ (i := 16) (N := some 53) (v := ?_) (a' := ?_) #[Y,Y,Y,Y,Y,Y,Y,Y,Y,Y,Y,Y,Y,Y,Y,Y,Y,Z] rfl rfl (any_of HT_.out (by kernel_rfl)) (fun _ _ _ h => h) (Or.inl ⟨by rfl, ?_⟩) ?_ ?_
  rotate_left
  · intro w'
    go_simp
    with_reducible rfl
  rotate_left
  · simp only [Act.put, pA, pB, pC, i64_w, i32_w]
    rfl
  refine last_ (i := 17) (N := none) #[Y,Y,Y,Y,Y,Y,Y,Y,Y,Y,Y,Y,Y,Y,Y,Y,Y,Y] rfl rfl (one_of HT_.out (by kernel_rfl)) (by decide) (fun K hK => ?_)
  have hs17 := blk_celln hb2 11 _ rfl
  have hf17 := blk_frozen hb2 11
  refine skip_ (w1 := ?_) (by rfl) rfl ?_ ?_
  rotate_left
  · go_simp
    rfl
  refine hK.out _ _ ?_
  clear hK K
  refine done_ (done_of HT_.out (by kernel_rfl)) ?_
  have k6 := (TK.refl w6).set (j := 11) hb2 (Or.inl rfl) (.slice AL 1 cL)
  replace HX := Aside0.mk (k6.blk (blk_grown HX.out q3 nofun) (by decide) (by decide))
  replace HC := Aside0.mk (k6.blk (blk_grown HC.out q3 nofun) (by decide) (by decide))
  replace HS := Aside0.mk (show BS w (.string ⟨#[97]⟩) (.int .i64 2) (.slice (some ad2) 1 c2) (.slice (some ad3) 1 c3) (.int .i64 1) (.int .i64 1) (.int .i64 0) (.string ⟨#[120]⟩) (.int .i64 0) (.slice A9 0 c9) (w6.setCell ⟨g, 11, none⟩ (.slice AL 1 cL)) g 2 [⟨#[120]⟩] [] [] 0 false (.slice AL 1 cL) (.slice none 0 0) (.slice none 0 0) from HS.out.appL hb2 q1 q2)
  clear k6 hb2 q1 q2 q3 hHeld i0 hx2 hz11 hs17 hf17
  generalize w6.setCell ⟨g, 11, none⟩ (.slice AL 1 cL) = w7 at HX HC HS ⊢
  have hx2 := blk_celln (HX.out) 2 _ rfl; have hx3 := blk_celln (HX.out) 3 _ rfl
  go_wp2
  rw [rounds_succ]
  go_wp2
  refine wp_loop_rounds 2 ?_
  rw [rounds_succ]
  go_upto_region 13 with (fail)
  replace HS := Aside0.mk HS.out.drew
  replace HX := Aside0.mk (blk_drew HX.out)
  replace HC := Aside0.mk (blk_drew HC.out)
  clear hx2 hx3
  have hx3 := blk_celln (HX.out) 3 _ rfl
  have hz12 := blk_celln (HS.out.blk) 12 _ rfl
  have t0 := (HP.out.below HS.out.hB).t0
  have P9 := Aside0.mk (HP.out.below HS.out.hB)
  refine start_ (n := 18) (S := fun w' => w'.cell? ⟨g, 12, none⟩ = some (.slice none 0 0) ∧ w'.cell? ⟨g1, 3, none⟩ = some (.slice (some ad3) 1 c3) ∧ w'.cell? ad3 = some (.slice (some ad) 1 c0)) (ds := [13, 17]) #[Z,Z,Z,Z,Z,Z,Z,Z,Z,Z,Z,Z,Z,Z,Z,Z,Z,Z] (by kernel_rfl) rfl rfl ⟨hz12, hx3, t0⟩ (fun hHeld => ?_)
  refine with_tabW build.tab13 build.bits13 (fun HT_ HW_ => ?_)
  generalize World.drew _ = wc at HS HX HC P9 hHeld ⊢
  refine pure_ (i := 0) (N := some 61) (v := ?_) (a' := ?_) #[Y,Z,Z,Z,Z,Z,Z,Z,Z,Z,Z,Z,Z,Z,Z,Z,Z,Z] rfl rfl (any_of HT_.out (by kernel_rfl)) (fun _ _ _ h => h) (Or.inl ⟨by rfl, ?_⟩) ?_ ?_
  rotate_left
  · intro w'
    go_simp
    with_reducible rfl
  rotate_left
  · simp only [Act.put, pA, pB, pC, i64_w, i32_w]
    rfl
  refine pure_ (i := 1) (N := some 62) (v := ?_) (a' := ?_) #[Y,Y,Z,Z,Z,Z,Z,Z,Z,Z,Z,Z,Z,Z,Z,Z,Z,Z] rfl rfl (any_of HT_.out (by kernel_rfl)) (fun _ _ _ h => h) (Or.inl ⟨by rfl, ?_⟩) ?_ ?_
  rotate_left
  · intro w'
    go_simp
    with_reducible rfl
  rotate_left
  · simp only [Act.put, pA, pB, pC, i64_w, i32_w]
    rfl
  refine pure_ (i := 2) (N := some 63) (v := ?_) (a' := ?_) #[Y,Y,Y,Z,Z,Z,Z,Z,Z,Z,Z,Z,Z,Z,Z,Z,Z,Z] rfl rfl (any_of HT_.out (by kernel_rfl)) (fun _ _ _ h => h) (Or.inl ⟨by rfl, ?_⟩) ?_ ?_
  rotate_left
  · intro w'
    go_simp
    with_reducible rfl
  rotate_left
  · simp only [Act.put, pA, pB, pC, i64_w, i32_w]
    rfl
  refine pure_ (i := 3) (N := some 64) (v := ?_) (a' := ?_) #[Y,Y,Y,Y,Z,Z,Z,Z,Z,Z,Z,Z,Z,Z,Z,Z,Z,Z] rfl rfl (any_of HT_.out (by kernel_rfl)) (fun _ _ _ h => h) (Or.inl ⟨by rfl, ?_⟩) ?_ ?_
  rotate_left
  · intro w'
    go_simp
    with_reducible rfl
  rotate_left
  · simp only [Act.put, pA, pB, pC, i64_w, i32_w]
    rfl
  refine pure_ (i := 4) (N := some 65) (v := ?_) (a' := ?_) #[Y,Y,Y,Y,Y,Z,Z,Z,Z,Z,Z,Z,Z,Z,Z,Z,Z,Z] rfl rfl (any_of HT_.out (by kernel_rfl)) (fun _ _ _ h => h) (Or.inl ⟨by rfl, ?_⟩) ?_ ?_
  rotate_left
  · intro w'
    go_simp
    with_reducible rfl
  rotate_left
  · simp only [Act.put, pA, pB, pC, i64_w, i32_w]
    rfl
  refine take_ (i := 5) (N := some 66) (v := ?_) (a' := ?_) #[Y,Y,Y,Y,Y,Y,Z,Z,Z,Z,Z,Z,Z,Z,Z,Z,Z,Z] rfl rfl (take_ofW HT_.out HW_.out (by kernel_rfl)) (fun _ _ _ h => h) (Or.inl ⟨by rfl, ?_⟩) hHeld ?_ ?_
  rotate_left
  · rintro w' ⟨s0, s1, s2⟩
    go_simp
    with_reducible rfl
  rotate_left
  · simp only [Act.put, pA, pB, pC, i64_w, i32_w]
    rfl
  refine pure_ (i := 6) (N := some 67) (v := ?_) (a' := ?_) #[Y,Y,Y,Y,Y,Y,Y,Z,Z,Z,Z,Z,Z,Z,Z,Z,Z,Z] rfl rfl (any_of HT_.out (by kernel_rfl)) (fun _ _ _ h => h) (Or.inl ⟨by rfl, ?_⟩) ?_ ?_
  rotate_left
  · intro w'
    go_simp
    with_reducible rfl
  rotate_left
  · simp only [Act.put, pA, pB, pC, i64_w, i32_w]
    rfl
  refine take_ (i := 7) (N := some 68) (v := ?_) (a' := ?_) #[Y,Y,Y,Y,Y,Y,Y,Y,Z,Z,Z,Z,Z,Z,Z,Z,Z,Z] rfl rfl (take_ofW HT_.out HW_.out (by kernel_rfl)) (fun _ _ _ h => h) (Or.inl ⟨by rfl, ?_⟩) hHeld ?_ ?_
  rotate_left
  · rintro w' ⟨s0, s1, s2⟩
    go_simp
    with_reducible rfl
  rotate_left
  · simp only [Act.put, pA, pB, pC, i64_w, i32_w]
    rfl
  refine pure_ (i := 8) (N := some 69) (v := ?_) (a' := ?_) #[Y,Y,Y,Y,Y,Y,Y,Y,Y,Z,Z,Z,Z,Z,Z,Z,Z,Z] rfl rfl (any_of HT_.out (by kernel_rfl)) (fun _ _ _ h => h) (Or.inl ⟨by rfl, ?_⟩) ?_ ?_
  rotate_left
  · intro w'
    go_simp
    with_reducible rfl
  rotate_left
  · simp only [Act.put, pA, pB, pC, i64_w, i32_w]
    rfl
  refine pure_ (i := 9) (N := some 70) (v := ?_) (a' := ?_) #[Y,Y,Y,Y,Y,Y,Y,Y,Y,Y,Z,Z,Z,Z,Z,Z,Z,Z] rfl rfl (any_of HT_.out (by kernel_rfl)) (fun _ _ _ h => h) (Or.inl ⟨by rfl, ?_⟩) ?_ ?_
  rotate_left
  · intro w'
    go_simp
    with_reducible rfl
  rotate_left
  · simp only [Act.put, pA, pB, pC, i64_w, i32_w]
    rfl
  refine take_ (i := 10) (N := some 71) (v := ?_) (a' := ?_) #[Y,Y,Y,Y,Y,Y,Y,Y,Y,Y,Y,Z,Z,Z,Z,Z,Z,Z] rfl rfl (take_ofW HT_.out HW_.out (by kernel_rfl)) (fun _ _ _ h => h) (Or.inl ⟨by rfl, ?_⟩) hHeld ?_ ?_
  rotate_left
  · rintro w' ⟨s0, s1, s2⟩
    go_simp
    with_reducible rfl
  rotate_left
  · simp only [Act.put, pA, pB, pC, i64_w, i32_w]
    rfl
  refine one_ (i := 11) (N := some 72) #[Y,Y,Y,Y,Y,Y,Y,Y,Y,Y,Y,Y,Z,Z,Z,Z,Z,Z] rfl rfl (one_of HT_.out (by kernel_rfl)) (by decide) (fun K hK => ?_)
  refine goes_ Tryd.func54 (by kernel_rfl) rfl #[.slice (some ad) 1 c0] (by rfl) rfl rfl (by (try simp only [List.map_toArray, List.map_cons, List.map_nil]); first | done | rfl) ?_
  with_reducible refine (regs_one _ A5 A6 d5 d6 ad c0 P9.out.s0 P9.out.s2 P9.out.s5 P9.out.s6).mono ?_
  rintro e w7 ⟨vk, rfl, qR, hq_⟩
  refine ⟨_, rfl, ?_⟩
  obtain ⟨Ak, ck, rfl⟩ := Kd.R_slice qR
  have hlt1 := Kd.R_lt HS.out.h1
  have HV := Aside0.mk (show Kd.R Kd.string 9 w7 w.heap.size (fun k => some k ≠ (Value.slice AL 1 cL).ownBlock) (.slice Ak 1 ck) [⟨#[114]⟩] from Kd.R_lower (Kd.R_mono (Kd.R_bound qR) (fun k hk e => absurd (hlt1 k e.symm) (Nat.not_lt.2 hk.2.1))) HS.out.hB.size)
  replace HS := Aside0.mk (HS.out.below hq_)
  replace HX := Aside0.mk (blk_below HX.out hq_)
  replace HC := Aside0.mk (blk_below HC.out hq_)
  refine hK.out _ _ (by obtain ⟨s0, s1, s2⟩ := hHeld; exact ⟨(cell_below s0 hq_), (cell_below s1 hq_), (cell_below s2 hq_)⟩) (fun hHeld => ?_)
  clear qR hq_ P9 t0
  clear hK K
  refine norm_ (a' := ?_) ?_ ?_
  rotate_left
  · show Act.put _ (some 72) _ = _
    simp only [Act.put, pA, pB, pC, i64_w, i32_w]
    rfl
  refine one_ (i := 12) (N := some 73) #[Y,Y,Y,Y,Y,Y,Y,Y,Y,Y,Y,Y,Y,Z,Z,Z,Z,Z] rfl rfl (one_of HT_.out (by kernel_rfl)) (by decide) (fun K hK => ?_)
  refine value_ (w1 := ?_) (v := ?_) (by rfl) rfl ?_ ?_
  rotate_left 2
  · go_simp
    constructor
    · rfl
    · rfl
  refine hK.out _ _ (by obtain ⟨s0, s1, s2⟩ := hHeld; exact ⟨(World.cell?_alloc_lt _ _ _ (World.block_lt_of_cell? _ _ s0)).trans s0, (World.cell?_alloc_lt _ _ _ (World.block_lt_of_cell? _ _ s1)).trans s1, (World.cell?_alloc_lt _ _ _ (World.block_lt_of_cell? _ _ s2)).trans s2⟩) (fun hHeld => ?_)
  clear hK K
  refine norm_ (a' := ?_) ?_ ?_
  rotate_left
  · show Act.put _ (some 73) _ = _
    simp only [Act.put, pA, pB, pC, i64_w, i32_w]
    rfl
  refine last_ (i := 13) (N := some 74) #[Y,Y,Y,Y,Y,Y,Y,Y,Y,Y,Y,Y,Y,Y,Z,Z,Z,Z] rfl rfl (one_of HT_.out (by kernel_rfl)) (by decide) (fun K hK => ?_)
  refine Kd.S_append_step (Kd.slice 9 Kd.string) (w0 := w) w.heap.size (by rfl) (.tmp 66) (.tmp 73) 25 24 (.slice none 0 0) 24 rfl Tryd.underlying25 info24 rfl (by decide) (by decide) (.slice none 0 0) [] [⟨#[114]⟩] [.slice Ak 1 ck] (fun k => some k ≠ (Value.slice AL 1 cL).ownBlock) (fun k => some k ≠ (Value.slice AL 1 cL).ownBlock) rfl rfl (Kd.M_row HV.out) (fun k hk => ⟨hk, nofun⟩) (fun k hk e => absurd ((Kd.R_lt HS.out.h1) k e.symm) (Nat.not_lt.2 hk)) (Kd.S_nil _ _ _ _ _) HS.out.hB HS.out.hB.size (by decide) ?_
  intro v4 w6 q1 q2 q3 _
  obtain ⟨AR, cR, rfl⟩ := Kd.S_slice q1
  refine hK.out _ _ ?_
  clear hK K
  refine norm_ (a' := ?_) ?_ ?_
  rotate_left
  · show Act.put _ (some 74) _ = _
    simp only [Act.put, pA, pB, pC, i64_w, i32_w]
    rfl
  have hb2 := blk_grown HS.out.blk q3 nofun
  refine pure_ (i := 14) (N := some 75) (v := ?_) (a' := ?_) #[Y,Y,Y,Y,Y,Y,Y,Y,Y,Y,Y,Y,Y,Y,Y,Z,Z,Z] rfl rfl (any_of HT_.out (by kernel_rfl)) (fun _ _ _ h => h) (Or.inl ⟨by rfl, ?_⟩) ?_ ?_
  rotate_left
  · intro w'
    go_simp
    with_reducible rfl
  rotate_left
  · simp only [Act.put, pA, pB, pC, i64_w, i32_w]
    rfl
  refine pure_ (i := 15) (N := some 76) (v := ?_) (a' := ?_) #[Y,Y,Y,Y,Y,Y,Y,Y,Y,Y,Y,Y,Y,Y,Y,Y,Z,Z] rfl rfl (any_of HT_.out (by kernel_rfl)) (fun _ _ _ h => h) (Or.inl ⟨by rfl, ?_⟩) ?_ ?_
  rotate_left
  · intro w'
    go_simp
    with_reducible rfl
  rotate_left
  · simp only [Act.put, pA, pB, pC, i64_w, i32_w]
    rfl
  refine pure_ (i := 16) (N := some 77) (v := ?_) (a' := ?_) #[Y,Y,Y,Y,Y,Y,Y,Y,Y,Y,Y,Y,Y,Y,Y,Y,Y,Z] rfl rfl (any_of HT_.out (by kernel_rfl)) (fun _ _ _ h => h) (Or.inl ⟨by rfl, ?_⟩) ?_ ?_
  rotate_left
  · intro w'
    go_simp
    with_reducible rfl
  rotate_left
  · simp only [Act.put, pA, pB, pC, i64_w, i32_w]
    rfl
  refine last_ (i := 17) (N := none) #[Y,Y,Y,Y,Y,Y,Y,Y,Y,Y,Y,Y,Y,Y,Y,Y,Y,Y] rfl rfl (one_of HT_.out (by kernel_rfl)) (by decide) (fun K hK => ?_)
  have hs17 := blk_celln hb2 12 _ rfl
  have hf17 := blk_frozen hb2 12
  refine skip_ (w1 := ?_) (by rfl) rfl ?_ ?_
  rotate_left
  · go_simp
    rfl
  refine hK.out _ _ ?_
  clear hK K
  refine done_ (done_of HT_.out (by kernel_rfl)) ?_
  have k6 := (TK.refl w6).set (j := 12) hb2 (Or.inl rfl) (.slice AR 1 cR)
  replace HX := Aside0.mk (k6.blk (blk_grown HX.out q3 nofun) (by decide) (by decide))
  replace HC := Aside0.mk (k6.blk (blk_grown HC.out q3 nofun) (by decide) (by decide))
  replace HS := Aside0.mk (show BS w (.string ⟨#[97]⟩) (.int .i64 2) (.slice (some ad2) 1 c2) (.slice (some ad3) 1 c3) (.int .i64 1) (.int .i64 1) (.int .i64 0) (.string ⟨#[120]⟩) (.int .i64 0) (.slice A9 0 c9) (w6.setCell ⟨g, 12, none⟩ (.slice AR 1 cR)) g 2 [⟨#[120]⟩] [[⟨#[114]⟩]] [] 0 false (.slice AL 1 cL) (.slice AR 1 cR) (.slice none 0 0) from HS.out.appR hb2 q3 q1 q2)
  clear k6 hb2 q1 q2 q3 hHeld hx3 hz12 hs17 hf17 HV
  generalize w6.setCell ⟨g, 12, none⟩ (.slice AR 1 cR) = w8 at HX HC HS ⊢
  have hx2 := blk_celln (HX.out) 2 _ rfl; have hx3 := blk_celln (HX.out) 3 _ rfl
  go_wp2
  rw [rounds_succ]
  go_wp2
  refine wp_loop_rounds 2 ?_
  rw [rounds_succ]
  have i1 := (HP.out.below HS.out.hB).i1
  go_wp2_with (fail)
  refine (put_ok ⟨-1, -1, 3, 0, 0, 0, false, false, []⟩ rfl (by decide) HS.out).mono ?_
  rintro e w9 ⟨v31, he, hS9, hT9⟩
  replace he : e = .returned (.int .i64 0) := he
  subst he
  replace HX := Aside0.mk (hT9.blk HX.out (by decide) (by decide))
  replace HC := Aside0.mk (hT9.blk HC.out (by decide) (by decide))
  replace HS := Aside0.mk (show BS w (.string ⟨#[97]⟩) (.int .i64 2) (.slice (some ad2) 1 c2) (.slice (some ad3) 1 c3) (.int .i64 1) (.int .i64 1) (.int .i64 0) (.string ⟨#[120]⟩) (.int .i64 0) (.slice A9 0 c9) w9 g 2 [⟨#[120]⟩] [[⟨#[114]⟩]] [⟨-1, -1, 3, 0, 0, 0, false, false, []⟩] 0 false (.slice AL 1 cL) (.slice AR 1 cR) v31 from hS9)
  clear hS9 hT9 i1
  replace hx2 := blk_celln (HX.out) 2 _ rfl; replace hx3 := blk_celln (HX.out) 3 _ rfl
  go_wp2
  rw [rounds_succ]
  have hz15 := blk_celln (HS.out.blk) 15 _ rfl
  go_wp2
  refine wp_loop_rounds 2 ?_
  rw [rounds_succ]
  have hz14 := blk_celln (HS.out.blk) 14 _ rfl
  have hf14 := blk_frozen HS.out.blk 14
  go_wp2_with (fail)
  have k6 := (TK.refl w9).set (j := 14) HS.out.blk (Or.inl rfl) (.int .i64 0)
  replace HX := Aside0.mk (k6.blk HX.out (by decide) (by decide))
  replace HC := Aside0.mk (k6.blk HC.out (by decide) (by decide))
  replace HS := Aside0.mk (HS.out.sett 0)
  clear k6 hf14 hz14 hz15 hx2 hx3
  generalize w9.setCell ⟨g, 14, none⟩ (.int .i64 0) = w10 at HX HC HS ⊢
  refine (put_ok ⟨0, -1, 1, 0, 0, 0, false, false, []⟩ rfl (by decide) HS.out).mono ?_
  rintro e w11 ⟨v32, he, hS9, hT9⟩
  replace he : e = .returned (.int .i64 1) := he
  subst he
  replace HX := Aside0.mk (hT9.blk HX.out (by decide) (by decide))
  replace HC := Aside0.mk (hT9.blk HC.out (by decide) (by decide))
  replace HS := Aside0.mk (show BS w (.string ⟨#[97]⟩) (.int .i64 2) (.slice (some ad2) 1 c2) (.slice (some ad3) 1 c3) (.int .i64 1) (.int .i64 1) (.int .i64 0) (.string ⟨#[120]⟩) (.int .i64 0) (.slice A9 0 c9) w11 g 2 [⟨#[120]⟩] [[⟨#[114]⟩]] [⟨-1, -1, 3, 0, 0, 0, false, false, []⟩, ⟨0, -1, 1, 0, 0, 0, false, false, []⟩] 0 false (.slice AL 1 cL) (.slice AR 1 cR) v32 from hS9)
  clear hS9 hT9
  have hz15 := blk_celln (HS.out.blk) 15 _ rfl
  go_upto_region 24 with (fail)
  replace HS := Aside0.mk HS.out.drew
  replace HX := Aside0.mk (blk_drew HX.out)
  replace HC := Aside0.mk (blk_drew HC.out)
  clear hz15
  have hx3 := blk_celln (HX.out) 3 _ rfl
  have hz12 := blk_celln (HS.out.blk) 12 _ rfl
  have t0 := (HP.out.below HS.out.hB).t0
  obtain ⟨adR, Ai, ci, eR, hcR, _, _⟩ := at_L8 (Kd.S_reads' HS.out.h2).2.2 0 (by decide) (by decide)
  subst eR
  replace hcR : w11.drew.cell? adR = some (.slice Ai 1 ci) := hcR
  refine start_ (n := 20) (S := fun w' => w'.cell? ⟨g1, 3, none⟩ = some (.slice (some ad3) 1 c3) ∧ w'.cell? ad3 = some (.slice (some ad) 1 c0) ∧ w'.cell? ⟨g, 12, none⟩ = some (.slice (some adR) 1 cR) ∧ w'.cell? adR = some (.slice Ai 1 ci)) (ds := [19]) #[Z,Z,Z,Z,Z,Z,Z,Z,Z,Z,Z,Z,Z,Z,Z,Z,Z,Z,Z,Z] (by kernel_rfl) rfl rfl ⟨hx3, t0, hz12, hcR⟩ (fun hHeld => ?_)
  refine with_tabW build.tab24 build.bits24 (fun HT_ HW_ => ?_)
  generalize World.drew _ = wE at HS HX HC hHeld ⊢
  have HE := Aside0.mk (Below.refl wE.heap.size wE)
  have hwE := HS.out.hB.size
  refine pure_ (i := 0) (N := some 122) (v := ?_) (a' := ?_) #[Y,Z,Z,Z,Z,Z,Z,Z,Z,Z,Z,Z,Z,Z,Z,Z,Z,Z,Z,Z] rfl rfl (any_of HT_.out (by kernel_rfl)) (fun _ _ _ h => h) (Or.inl ⟨by rfl, ?_⟩) ?_ ?_
  rotate_left
  · intro w'
    go_simp
    with_reducible rfl
  rotate_left
  · simp only [Act.put, pA, pB, pC, i64_w, i32_w]
    rfl
  refine pure_ (i := 1) (N := some 123) (v := ?_) (a' := ?_) #[Y,Y,Z,Z,Z,Z,Z,Z,Z,Z,Z,Z,Z,Z,Z,Z,Z,Z,Z,Z] rfl rfl (any_of HT_.out (by kernel_rfl)) (fun _ _ _ h => h) (Or.inl ⟨by rfl, ?_⟩) ?_ ?_
  rotate_left
  · intro w'
    go_simp
    with_reducible rfl
  rotate_left
  · simp only [Act.put, pA, pB, pC, i64_w, i32_w]
    rfl
  refine take_ (i := 2) (N := some 124) (v := ?_) (a' := ?_) #[Y,Y,Y,Z,Z,Z,Z,Z,Z,Z,Z,Z,Z,Z,Z,Z,Z,Z,Z,Z] rfl rfl (take_ofW HT_.out HW_.out (by kernel_rfl)) (fun _ _ _ h => h) (Or.inl ⟨by rfl, ?_⟩) hHeld ?_ ?_
  rotate_left
  · rintro w' ⟨s0, s1, s2, s3⟩
    go_simp
    with_reducible rfl
  rotate_left
  · simp only [Act.put, pA, pB, pC, i64_w, i32_w]
    rfl
  refine pure_ (i := 3) (N := some 125) (v := ?_) (a' := ?_) #[Y,Y,Y,Y,Z,Z,Z,Z,Z,Z,Z,Z,Z,Z,Z,Z,Z,Z,Z,Z] rfl rfl (any_of HT_.out (by kernel_rfl)) (fun _ _ _ h => h) (Or.inl ⟨by rfl, ?_⟩) ?_ ?_
  rotate_left
  · intro w'
    go_simp
    with_reducible rfl
  rotate_left
  · simp only [Act.put, pA, pB, pC, i64_w, i32_w]
    rfl
  refine pure_ (i := 4) (N := some 126) (v := ?_) (a' := ?_) #[Y,Y,Y,Y,Y,Z,Z,Z,Z,Z,Z,Z,Z,Z,Z,Z,Z,Z,Z,Z] rfl rfl (any_of HT_.out (by kernel_rfl)) (fun _ _ _ h => h) (Or.inl ⟨by rfl, ?_⟩) ?_ ?_
  rotate_left
  · intro w'
    go_simp
    with_reducible rfl
  rotate_left
  · simp only [Act.put, pA, pB, pC, i64_w, i32_w]
    rfl
  refine take_ (i := 5) (N := some 127) (v := ?_) (a' := ?_) #[Y,Y,Y,Y,Y,Y,Z,Z,Z,Z,Z,Z,Z,Z,Z,Z,Z,Z,Z,Z] rfl rfl (take_ofW HT_.out HW_.out (by kernel_rfl)) (fun _ _ _ h => h) (Or.inl ⟨by rfl, ?_⟩) hHeld ?_ ?_
  rotate_left
  · rintro w' ⟨s0, s1, s2, s3⟩
    go_simp
    with_reducible rfl
  rotate_left
  · simp only [Act.put, pA, pB, pC, i64_w, i32_w]
    rfl
  refine pure_ (i := 6) (N := some 128) (v := ?_) (a' := ?_) #[Y,Y,Y,Y,Y,Y,Y,Z,Z,Z,Z,Z,Z,Z,Z,Z,Z,Z,Z,Z] rfl rfl (any_of HT_.out (by kernel_rfl)) (fun _ _ _ h => h) (Or.inl ⟨by rfl, ?_⟩) ?_ ?_
  rotate_left
  · intro w'
    go_simp
    with_reducible rfl
  rotate_left
  · simp only [Act.put, pA, pB, pC, i64_w, i32_w]
    rfl
  refine pure_ (i := 8) (N := some 130) (v := ?_) (a' := ?_) #[Y,Y,Y,Y,Y,Y,Y,Z,Y,Z,Z,Z,Z,Z,Z,Z,Z,Z,Z,Z] rfl rfl (any_of HT_.out (by kernel_rfl)) (fun _ _ _ h => h) (Or.inl ⟨by rfl, ?_⟩) ?_ ?_
  rotate_left
  · intro w'
    go_simp
    with_reducible rfl
  rotate_left
  · simp only [Act.put, pA, pB, pC, i64_w, i32_w]
    rfl
  refine pure_ (i := 9) (N := some 131) (v := ?_) (a' := ?_) #[Y,Y,Y,Y,Y,Y,Y,Z,Y,Y,Z,Z,Z,Z,Z,Z,Z,Z,Z,Z] rfl rfl (any_of HT_.out (by kernel_rfl)) (fun _ _ _ h => h) (Or.inl ⟨by rfl, ?_⟩) ?_ ?_
  rotate_left
  · intro w'
    go_simp
    with_reducible rfl
  rotate_left
  · simp only [Act.put, pA, pB, pC, i64_w, i32_w]
    rfl
  refine pure_ (i := 10) (N := some 132) (v := ?_) (a' := ?_) #[Y,Y,Y,Y,Y,Y,Y,Z,Y,Y,Y,Z,Z,Z,Z,Z,Z,Z,Z,Z] rfl rfl (any_of HT_.out (by kernel_rfl)) (fun _ _ _ h => h) (Or.inl ⟨by rfl, ?_⟩) ?_ ?_
  rotate_left
  · intro w'
    go_simp
    with_reducible rfl
  rotate_left
  · simp only [Act.put, pA, pB, pC, i64_w, i32_w]
    rfl
  refine pure_ (i := 11) (N := some 133) (v := ?_) (a' := ?_) #[Y,Y,Y,Y,Y,Y,Y,Z,Y,Y,Y,Y,Z,Z,Z,Z,Z,Z,Z,Z] rfl rfl (any_of HT_.out (by kernel_rfl)) (fun _ _ _ h => h) (Or.inl ⟨by rfl, ?_⟩) ?_ ?_
  rotate_left
  · intro w'
    go_simp
    with_reducible rfl
  rotate_left
  · simp only [Act.put, pA, pB, pC, i64_w, i32_w]
    rfl
  refine pure_ (i := 12) (N := some 134) (v := ?_) (a' := ?_) #[Y,Y,Y,Y,Y,Y,Y,Z,Y,Y,Y,Y,Y,Z,Z,Z,Z,Z,Z,Z] rfl rfl (any_of HT_.out (by kernel_rfl)) (fun _ _ _ h => h) (Or.inl ⟨by rfl, ?_⟩) ?_ ?_
  rotate_left
  · intro w'
    go_simp
    with_reducible rfl
  rotate_left
  · simp only [Act.put, pA, pB, pC, i64_w, i32_w]
    rfl
  refine take_ (i := 13) (N := some 135) (v := ?_) (a' := ?_) #[Y,Y,Y,Y,Y,Y,Y,Z,Y,Y,Y,Y,Y,Y,Z,Z,Z,Z,Z,Z] rfl rfl (take_ofW HT_.out HW_.out (by kernel_rfl)) (fun _ _ _ h => h) (Or.inl ⟨by rfl, ?_⟩) hHeld ?_ ?_
  rotate_left
  · rintro w' ⟨s0, s1, s2, s3⟩
    go_simp
    with_reducible rfl
  rotate_left
  · simp only [Act.put, pA, pB, pC, i64_w, i32_w]
    rfl
  refine pure_ (i := 14) (N := some 136) (v := ?_) (a' := ?_) #[Y,Y,Y,Y,Y,Y,Y,Z,Y,Y,Y,Y,Y,Y,Y,Z,Z,Z,Z,Z] rfl rfl (any_of HT_.out (by kernel_rfl)) (fun _ _ _ h => h) (Or.inl ⟨by rfl, ?_⟩) ?_ ?_
  rotate_left
  · intro w'
    go_simp
    with_reducible rfl
  rotate_left
  · simp only [Act.put, pA, pB, pC, i64_w, i32_w]
    rfl
  refine pure_ (i := 15) (N := some 137) (v := ?_) (a' := ?_) #[Y,Y,Y,Y,Y,Y,Y,Z,Y,Y,Y,Y,Y,Y,Y,Y,Z,Z,Z,Z] rfl rfl (any_of HT_.out (by kernel_rfl)) (fun _ _ _ h => h) (Or.inl ⟨by rfl, ?_⟩) ?_ ?_
  rotate_left
  · intro w'
    go_simp
    with_reducible rfl
  rotate_left
  · simp only [Act.put, pA, pB, pC, i64_w, i32_w]
    rfl
  refine take_ (i := 16) (N := some 138) (v := ?_) (a' := ?_) #[Y,Y,Y,Y,Y,Y,Y,Z,Y,Y,Y,Y,Y,Y,Y,Y,Y,Z,Z,Z] rfl rfl (take_ofW HT_.out HW_.out (by kernel_rfl)) (fun _ _ _ h => h) (Or.inl ⟨by rfl, ?_⟩) hHeld ?_ ?_
  rotate_left
  · rintro w' ⟨s0, s1, s2, s3⟩
    go_simp
    with_reducible rfl
  rotate_left
  · simp only [Act.put, pA, pB, pC, i64_w, i32_w]
    rfl
  refine pure_ (i := 17) (N := some 139) (v := ?_) (a' := ?_) #[Y,Y,Y,Y,Y,Y,Y,Z,Y,Y,Y,Y,Y,Y,Y,Y,Y,Y,Z,Z] rfl rfl (any_of HT_.out (by kernel_rfl)) (fun _ _ _ h => h) (Or.inl ⟨by rfl, ?_⟩) ?_ ?_
  rotate_left
  · intro w'
    go_simp
    with_reducible rfl
  rotate_left
  · simp only [Act.put, pA, pB, pC, i64_w, i32_w]
    rfl
  refine join_ (σ := Value × Nat) 1 #[Y,Y,Y,Y,Y,Y,Y,Y,Y,Y,Y,Y,Y,Y,Y,Y,Y,Y,Y,Z] (fun s_ => [(129, .pointer (some ⟨s_.2, 0, none⟩)), (140, s_.1)]) (fun s_ w' => (w'.cell? ⟨g1, 3, none⟩ = some (.slice (some ad3) 1 c3) ∧ w'.cell? ad3 = some (.slice (some ad) 1 c0) ∧ w'.cell? ⟨g, 12, none⟩ = some (.slice (some adR) 1 cR) ∧ w'.cell? adR = some (.slice Ai 1 ci)) ∧ Kd.R (Kd.int .i64) 3 w' wE.heap.size (fun _ => True) s_.1 (List.replicate (Int.toNat 1) 0) ∧ w'.heap[s_.2]? = some (.cells #[.slice (some ad) 1 c0, .pointer none] 94 (0, 0)) ∧ Below wE.heap.size wE w') ?_ ?_
  rotate_left
  · intro hCont
    refine two_ (i := 7) (j := 18) (Ni := some 129) (Nj := some 140) #[Y,Y,Y,Y,Y,Y,Y,Y,Y,Y,Y,Y,Y,Y,Y,Y,Y,Y,Z,Z] #[Y,Y,Y,Y,Y,Y,Y,Z,Y,Y,Y,Y,Y,Y,Y,Y,Y,Y,Y,Z] rfl rfl rfl rfl (two_of HT_.out (by kernel_rfl)) (by decide) (by decide) (fun K hK => ?_) (fun K hK => ?_)
    · skip
      refine box_step ?hg (N := 129) ?hd (cs := #[.slice (some ad) 1 c0, .pointer none]) (t := 94) ?hr ?_; (case hd => rfl); (case hg => rfl); (case hr => first | (go_simp; done) | (go_simp; rfl))
      intro g9 hg9 w3 hbox9 hq_
      have H9 := Aside0.mk hbox9
      replace HE := Aside0.mk (below_step HE.out hq_)
      refine hK.out _ _ (by obtain ⟨s0, s1, s2, s3⟩ := hHeld; exact ⟨(cell_below s0 hq_), (cell_below s1 hq_), (cell_below s2 hq_), (cell_below s3 hq_)⟩) (fun hHeld => ?_)
      clear hK K hg9 hbox9 hq_
      refine norm_ (a' := ?_) ?_ ?_
      rotate_left
      · show Act.put _ (some 129) _ = _
        simp only [Act.put, pA, pB, pC, i64_w, i32_w]
        rfl
      refine one_ (i := 18) (N := some 140) #[Y,Y,Y,Y,Y,Y,Y,Y,Y,Y,Y,Y,Y,Y,Y,Y,Y,Y,Y,Z] rfl rfl (one_of HT_.out (by kernel_rfl)) (by decide) (fun K hK => ?_)
      refine Kd.R_make_step (Kd.int .i64) _ 3 (by rfl) (N := 140) rfl 41 _ _ rfl 1 rfl rfl Tryd.underlying41 (.int .i64 0) 8 info3 rfl (by decide) (by decide) 0 (ok := fun _ => True) (okp := fun _ => True) rfl (fun _ hk => hk) trivial (by decide) (by decide) (Below.refl _ _) (Nat.le_refl _) ?_
      intro v140 w3 q1_ hq_ q3_ q4_
      replace H9 := Aside0.mk (blk_below H9.out hq_)
      have HO := Aside0.mk (Kd.R_lower q1_ (below_size HE.out))
      replace HE := Aside0.mk (below_step HE.out hq_)
      refine hK.out _ _ (by obtain ⟨s0, s1, s2, s3⟩ := hHeld; exact ⟨(cell_below s0 hq_), (cell_below s1 hq_), (cell_below s2 hq_), (cell_below s3 hq_)⟩) (fun hHeld => ?_)
      clear hK K q1_ hq_ q3_ q4_
      refine norm_ (a' := ?_) ?_ ?_
      rotate_left
      · show Act.put _ (some 140) _ = _
        simp only [Act.put, pA, pB, pC, i64_w, i32_w]
        rfl
      exact norm_ (by first | (simp only [putAll, Act.put, pA, pB, pC]; done) | (simp only [putAll, Act.put, pA, pB, pC]; rfl)) (hCont (v140, g9) _ ⟨hHeld, HO.out, H9.out, HE.out⟩)
    · skip
      refine Kd.R_make_step (Kd.int .i64) _ 3 (by rfl) (N := 140) rfl 41 _ _ rfl 1 rfl rfl Tryd.underlying41 (.int .i64 0) 8 info3 rfl (by decide) (by decide) 0 (ok := fun _ => True) (okp := fun _ => True) rfl (fun _ hk => hk) trivial (by decide) (by decide) (Below.refl _ _) (Nat.le_refl _) ?_
      intro v140 w3 q1_ hq_ q3_ q4_
      have HO := Aside0.mk (Kd.R_lower q1_ (below_size HE.out))
      replace HE := Aside0.mk (below_step HE.out hq_)
      refine hK.out _ _ (by obtain ⟨s0, s1, s2, s3⟩ := hHeld; exact ⟨(cell_below s0 hq_), (cell_below s1 hq_), (cell_below s2 hq_), (cell_below s3 hq_)⟩) (fun hHeld => ?_)
      clear hK K q1_ hq_ q3_ q4_
      refine norm_ (a' := ?_) ?_ ?_
      rotate_left
      · show Act.put _ (some 140) _ = _
        simp only [Act.put, pA, pB, pC, i64_w, i32_w]
        rfl
      refine one_ (i := 7) (N := some 129) #[Y,Y,Y,Y,Y,Y,Y,Y,Y,Y,Y,Y,Y,Y,Y,Y,Y,Y,Y,Z] rfl rfl (one_of HT_.out (by kernel_rfl)) (by decide) (fun K hK => ?_)
      refine box_step ?hg (N := 129) ?hd (cs := #[.slice (some ad) 1 c0, .pointer none]) (t := 94) ?hr ?_; (case hd => rfl); (case hg => rfl); (case hr => first | (go_simp; done) | (go_simp; rfl))
      intro g9 hg9 w3 hbox9 hq_
      have H9 := Aside0.mk hbox9
      replace HO := Aside0.mk (Kd.R_below HO.out hq_)
      replace HE := Aside0.mk (below_step HE.out hq_)
      refine hK.out _ _ (by obtain ⟨s0, s1, s2, s3⟩ := hHeld; exact ⟨(cell_below s0 hq_), (cell_below s1 hq_), (cell_below s2 hq_), (cell_below s3 hq_)⟩) (fun hHeld => ?_)
      clear hK K hg9 hbox9 hq_
      refine norm_ (a' := ?_) ?_ ?_
      rotate_left
      · show Act.put _ (some 129) _ = _
        simp only [Act.put, pA, pB, pC, i64_w, i32_w]
        rfl
      exact norm_ (by first | (simp only [putAll, Act.put, pA, pB, pC]; done) | (simp only [putAll, Act.put, pA, pB, pC]; rfl)) (hCont (v140, g9) _ ⟨hHeld, HO.out, H9.out, HE.out⟩)
  rintro ⟨v140, g9⟩ w7 ⟨hHeld, q1_, q2_, q3_⟩
  dsimp only at q1_ q2_
  have HO := Aside0.mk q1_
  have H9 := Aside0.mk q2_
  replace HS := Aside0.mk (HS.out.below q3_)
  replace HX := Aside0.mk (blk_below HX.out q3_)
  replace HC := Aside0.mk (blk_below HC.out q3_)
  obtain ⟨A140, c140, rfl⟩ := Kd.R_slice HO.out
  have HO2 := Aside0.mk (show Kd.R (Kd.int .i64) 3 w7 w.heap.size (fun _ => True) (.slice A140 ([0] : List Int).length c140) [0] from Kd.R_lower HO.out hwE)
  clear q1_ q2_ q3_ HE
  refine norm_ (a' := ?_) ?_ ?_
  rotate_left
  · simp only [putAll, Act.put, pA, pB, pC]
    rfl
  refine last_ (i := 19) (N := some 141) #[Y,Y,Y,Y,Y,Y,Y,Y,Y,Y,Y,Y,Y,Y,Y,Y,Y,Y,Y,Y] rfl rfl (one_of HT_.out (by kernel_rfl)) (by decide) (fun K hK => ?_)
  refine goes_ Tryd.func56 (by kernel_rfl) rfl #[.pointer (some ⟨g, 0, none⟩), .pointer (some ⟨g9, 0, none⟩), .int .i64 1, .slice A140 1 c140] (by rfl) rfl rfl (by (try simp only [List.map_toArray, List.map_cons, List.map_nil]); first | done | rfl) ?_
  refine (walk_load 9 g9 ad c0 hc0 4 ⟨#[114]⟩ ⟨#[120]⟩ A4 A5 A6 d4 d5 d6 H9.out HP.out.s0 HP.out.s1 HP.out.s2 HP.out.s3 HP.out.s4 HP.out.s5 HP.out.s6 A140 c140 [0] HO2.out (by decide) 1 (by decide) (by decide) (by decide) (by decide) (by decide) 0 (by kernel_rfl) 0 (by kernel_rfl) (by decide) (by decide) HS.out).mono ?_
  rintro e w8 ⟨v5, rfl, hS8, hT8⟩
  refine ⟨_, rfl, ?_⟩
  replace HX := Aside0.mk (hT8.blk HX.out (by decide) (by decide))
  replace HC := Aside0.mk (hT8.blk HC.out (by decide) (by decide))
  replace HS := Aside0.mk hS8
  clear hS8 hT8 H9 HO HO2
  refine hK.out _ _ ?_
  clear hK K
  refine norm_ (a' := ?_) ?_ ?_
  rotate_left
  · show Act.put _ (some 141) _ = _
    simp only [Act.put, pA, pB, pC, i64_w, i32_w]
    rfl
  refine done_ (done_of HT_.out (by kernel_rfl)) ?_
  clear hHeld hx3 hz12 t0 hcR hwE
  obtain ⟨A53, c53, rfl⟩ := Kd.S_slice HS.out.h3
  have hx3 := blk_celln (HX.out) 3 _ rfl
  have hz10 := blk_celln (HS.out.blk) 10 _ rfl; have hz11 := blk_celln (HS.out.blk) 11 _ rfl; have hz12 := blk_celln (HS.out.blk) 12 _ rfl; have hz13 := blk_celln (HS.out.blk) 13 _ rfl; have hz15 := blk_celln (HS.out.blk) 15 _ rfl
  go_wp2
  rw [rounds_succ]
  have hcc0 := blk_celln (HC.out) 0 _ rfl; have hcc1 := blk_celln (HC.out) 1 _ rfl; have hcc2 := blk_celln (HC.out) 2 _ rfl; have hcc3 := blk_celln (HC.out) 3 _ rfl
  have hf0 := blk_frozen HC.out 0
  have hf1 := blk_frozen HC.out 1
  have hf2 := blk_frozen HC.out 2
  have hf3 := blk_frozen HC.out 3
  go_wp2
  obtain ⟨r0, r1, r2, r3, r4⟩ := BS.res HS.out HC.out Hg2.out _ rfl
  refine bodyPost_ret (results_ct rfl _ _ g2 28 _ (0, 0) _ rfl r0 Tryd.underlying28 rfl (by kernel_rfl)) rfl ?_
  exact ⟨_, _, _, rfl, r1, r2, r3, r4⟩
end Go.Proofs.YtlpdcdkjmcpfdaaDoor.PT
