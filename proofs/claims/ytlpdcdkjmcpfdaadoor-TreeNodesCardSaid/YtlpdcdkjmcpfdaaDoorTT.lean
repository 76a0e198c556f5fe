/- lts's May at the tree that begun makes: walked by hand. -/
import Derived.Test.YtlpdcdkjmcpfdaaDoorTS
namespace Go.Proofs.YtlpdcdkjmcpfdaaDoor.PT
open Go.RowKit Go.Proofs.YtlpdcdkjmcpfdaaDoorW.PrintWords Go.Proofs.YtlpdcdkjmcpfdaaDoorW.PrintLast Go.Proofs.YtlpdcdkjmcpfdaaDoorW.PrintMore
set_option linter.unusedVariables false
set_option linter.unusedSimpArgs false
attribute [local go_sem] cell_set_some
set_option maxHeartbeats 8000000 in
set_option maxRecDepth 100000 in
theorem may_tree (w : World) (A1 A2 A3 : Option Addr) (c1 c2 c3 : Nat) (h1 : Kd.C Kd.string w A1 1 [⟨#[120]⟩]) (hc1 : 1 ≤ c1) (h2 : Kd.C (Kd.slice 9 Kd.string) w A2 1 [[⟨#[114]⟩]]) (hc2 : 1 ≤ c2) (h3 : Kd.C k53 w A3 4 nodes0) (hc3 : 4 ≤ c3) :
    Calls Tryd.prog 60 #[.agg #[.int .i64 2, .slice A1 1 c1, .slice A2 1 c2, .slice A3 4 c3]] w fun e w' => e = .returned (.bool true) ∧ Below w.heap.size w w' := by
  have hu28 := Tryd.underlying28
  have hu130 := Tryd.underlying130
  obtain ⟨b, o, B0, b0, B1, b1, ar2, b2, ar3, b3, rfl, hn⟩ := NC.of h3
  obtain ⟨adR, AG, cG, rfl, hR, hG1, hG2⟩ := at_L8 h2 0 (by decide) (by decide)
  replace hR : w.cell? adR = some (.slice AG 1 cG) := hR
  have HN := Aside0.mk hn
  have H1 := Aside0.mk h1
  have HG2 := Aside0.mk (show Kd.C Kd.string w AG 1 [⟨#[114]⟩] from hG2)
  have HG1 := Aside0.mk (show 1 ≤ cG from hG1)
  clear hn h1 h2 h3 hG1 hG2
  go_enter Tryd.func60, Tryd.ntmps60
  go_wp2_with (first | ((with_reducible refine gate_dst (N := 1) rfl ?_); refine box_event ?hg (N := 1) ?hd (cs := #[.int .i64 2, .slice A1 1 c1, .slice (some adR) 1 c2, .slice (some ⟨b, o, none⟩) 4 c3]) (t := 28) ?hr ?_; (case hd => rfl); (case hg => rfl); (case hr => first | (go_simp; done) | (go_simp; rfl)); intro g1 hg1 w1 hbox hb1; have HX := Aside0.mk hbox; have HB := Aside0.mk hb1; have hx0 := blk_celln (HX.out) 0 _ rfl; have hx1 := blk_celln (HX.out) 1 _ rfl; have hx2 := blk_celln (HX.out) 2 _ rfl; have hx3 := blk_celln (HX.out) 3 _ rfl; clear hg1 hb1 hbox))
  refine (lts_twice.calls 9 A1 c1 [⟨#[120]⟩] false _ (Kd.C_below H1.out HB.out) hc1 (by kernel_rfl)).mono ?_
  rintro e w2 ⟨rfl, n2, rfl⟩
  replace HX := Aside0.mk (blk_drewN HX.out n2)
  replace HB := Aside0.mk (pw_below_drewN HB.out n2)
  generalize w1.drewN n2 = w3 at HX HB ⊢
  replace hx0 := blk_celln (HX.out) 0 _ rfl; replace hx1 := blk_celln (HX.out) 1 _ rfl; replace hx2 := blk_celln (HX.out) 2 _ rfl; replace hx3 := blk_celln (HX.out) 3 _ rfl
  have hR3 := cell_below hR HB.out
  go_wp2
  refine wp_loop_rounds 2 ?_
  rw [rounds_succ]
  go_wp2_with (fail)
  refine (lts_twice.calls 9 AG cG [⟨#[114]⟩] false _ (Kd.C_below HG2.out HB.out) HG1.out (by kernel_rfl)).mono ?_
  rintro e w4 ⟨rfl, n4, rfl⟩
  replace HX := Aside0.mk (blk_drewN HX.out n4)
  replace HB := Aside0.mk (pw_below_drewN HB.out n4)
  generalize w3.drewN n4 = w5 at HX HB ⊢
  replace hx0 := blk_celln (HX.out) 0 _ rfl; replace hx1 := blk_celln (HX.out) 1 _ rfl; replace hx2 := blk_celln (HX.out) 2 _ rfl; replace hx3 := blk_celln (HX.out) 3 _ rfl
  clear hR3
  go_wp2
  rw [rounds_succ]
  go_wp2_with (first | ((with_reducible refine gate_dst (N := 58) rfl ?_); refine box_event ?hg (N := 58) ?hd (cs := #[.int .i64 2, .slice A1 1 c1, .slice (some adR) 1 c2, .slice (some ⟨b, o, none⟩) 4 c3, .int .i64 0]) (t := 130) ?hr ?_; (case hd => rfl); (case hg => rfl); (case hr => first | (go_simp; done) | (go_simp; rfl)); intro gk hg1 w6 hbox hb1; have HK := Aside0.mk hbox; have HE := Aside0.mk (show w.heap.size ≤ gk from hg1 ▸ HB.out.size); replace HB := Aside0.mk (below_step HB.out hb1); clear hg1 hb1 hbox hx0 hx1 hx2 hx3 HX))
  refine (first_c w w6 gk A1 c1 c2 c3 b o B0 b0 B1 b1 ar2 b2 ar3 b3 adR AG cG hR HE.out HN.out HB.out HK.out).mono ?_
  rintro e w7 ⟨rfl, q1, q2, _⟩
  replace HK := Aside0.mk q1
  replace HB := Aside0.mk q2
  clear q1 q2
  go_wp2_with (fail)
  refine (threads_c w w7 gk A1 c1 c2 c3 b o B0 b0 B1 b1 ar2 b2 ar3 b3 adR AG cG hR HE.out HN.out HB.out HK.out).mono ?_
  rintro e w8 ⟨rfl, _, q2, _⟩
  replace HB := Aside0.mk q2
  clear q2
  go_wp2
  go_ret
  exact ⟨rfl, HB.out⟩
end Go.Proofs.YtlpdcdkjmcpfdaaDoor.PT
