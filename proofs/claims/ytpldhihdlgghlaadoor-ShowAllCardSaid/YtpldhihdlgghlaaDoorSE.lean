/- show's page: the statements of one line, walked by hand. -/
import Derived.Test.YtpldhihdlgghlaaDoorSC
import Derived.Test.YtpldhihdlgghlaaDoorSD
namespace Go.Proofs.YtpldhihdlgghlaaDoor.PS
open Go.RowKit Go.Proofs.YtpldhihdlgghlaaDoorW.PrintWords Go.Proofs.YtpldhihdlgghlaaDoorW.PrintLast Go.Proofs.YtpldhihdlgghlaaDoorW.PrintMore
set_option linter.unusedVariables false
set_option linter.unusedSimpArgs false
attribute [local go_sem] cell_set_some
theorem z59 : (⟨#[59]⟩ : ByteArray).size = 1 := rfl
theorem z44 : (⟨#[44]⟩ : ByteArray).size = 1 := rfl
section
variable {P : Program} {ops : Array Oper} {rest : List Oper} {o : Oper} {a : Act} {Q : Exit → Act → World → Prop} {Kc : Act → World → Prop}
theorem lit_step {W : World} (hw : Region.wanted o (yielded ops a.tmps) = true) {N : Tmp} (_hd : o.dst = some N) {n : Nat} {cs : Array Value} {t : TypeId}
    (hrun : (execOp a.eval o).run P W = .ok (.value (.slice (some ⟨W.heap.size, 0, none⟩) n n)) (W.alloc (.cells cs t (0, 0))))
    (h : ∀ g, g = W.heap.size → ∀ w1, w1.heap[g]? = some (.cells cs t (0, 0)) → Below W.heap.size W w1 → Kc (a.put o.dst (.slice (some ⟨g, 0, none⟩) n n)) w1) : if Region.wanted o (yielded ops a.tmps) = true then Oper.wp P o a W Kc Q else Kc (a.put o.dst undef) W :=
  event_step hw hrun (h _ rfl _ (blk_new W _) (below_alloc (Below.refl _ _) _))
theorem lit_event {W : World} (hgd : o.guard = none) {N : Tmp} (_hd : o.dst = some N) {n : Nat} {cs : Array Value} {t : TypeId}
    (hrun : (execOp a.eval o).run P W = .ok (.value (.slice (some ⟨W.heap.size, 0, none⟩) n n)) (W.alloc (.cells cs t (0, 0))))
    (h : ∀ g, g = W.heap.size → ∀ w1, w1.heap[g]? = some (.cells cs t (0, 0)) → Below W.heap.size W w1 → wpList P ops Q rest (a.put o.dst (.slice (some ⟨g, 0, none⟩) n n)) w1) : wpList P ops Q (o :: rest) a W :=
  Kd.event_run hgd hrun (h _ rfl _ (blk_new W _) (below_alloc (Below.refl _ _) _))
end
/-- A block of strings, read as a row. -/
theorem C_strs {w : World} {g : Nat} {l : List ByteArray} {t : TypeId} (hl : l.length ≤ 9223372036854775807) (h : w.heap[g]? = some (.cells ⟨l.map Value.string⟩ t (0, 0))) : Kd.C Kd.string w (some ⟨g, 0, none⟩) l.length l := by
  refine ⟨rfl, hl, fun _ => ⟨_, rfl, fun j p hj => ⟨[.string p], rfl, rfl, fun i u hu => ?_⟩⟩⟩
  have h0 : i = 0 := by
    have := (List.getElem?_eq_some_iff.1 hu).1
    simp at this
    omega
  subst h0
  have hu' : Value.string p = u := by simpa using hu
  subst hu'
  have e : (⟨g, 0, none⟩ : Addr).add (j * Kd.string.sz + 0) = ⟨g, j, none⟩ := by
    simp [Addr.add, Kd.string, Kd.scalar]
    intro h0
    exact h0.symm
  rw [e, blk_cell h j]
  simp [hj]
theorem lens_sum : ∀ l : List ByteArray, Go.Lib.lens (l.map (·.data.toList)) + l.length = (l.map (fun b => b.size + 1)).sum
  | [] => rfl
  | x :: l => by
    have ih := lens_sum l
    have e : x.data.toList.length = x.size := Array.length_toList
    have e2 : Go.Lib.lens ((x :: l).map (·.data.toList)) = x.data.toList.length + Go.Lib.lens (l.map (·.data.toList)) := by simp [Go.Lib.lens]
    simp only [List.map_cons, List.sum_cons, List.length_cons] at ih ⊢
    simp only [List.map_cons] at e2
    omega
theorem join_le (l : List ByteArray) : (Go.Lib.join (l.map (·.data.toList)) (⟨#[32]⟩ : ByteArray).data.toList).length ≤ (l.map (fun b => b.size + 1)).sum := by
  cases l with
  | nil => exact Nat.zero_le _
  | cons x l =>
    have h := lens_sum (x :: l)
    rw [List.map_cons, Go.Lib.join_length, ← List.map_cons (f := fun b : ByteArray => b.data.toList)]
    have e2 : (⟨#[32]⟩ : ByteArray).data.toList.length = 1 := rfl
    rw [e2, List.length_map]
    simp only [List.length_cons] at h
    omega
theorem lineS_size (d : Nat) (l : List ByteArray) : (lineS d l).size ≤ 2 * d + (l.map (fun b => b.size + 1)).sum + 1 := by
  have h1 := join_le l
  have h2 : (inS d).size = 2 * d := by
    have e : (inS d).size = (Go.Lib.repeatL (⟨#[32, 32]⟩ : ByteArray).data.toList d).length := by
      unfold inS ByteArray.size
      exact List.size_toArray
    rw [e, Go.Lib.repeatL_length]
    show d * 2 = 2 * d
    omega
  have h3 : (joinS l).size = (Go.Lib.join (l.map (·.data.toList)) (⟨#[32]⟩ : ByteArray).data.toList).length := by simp [joinS, ByteArray.size]
  unfold lineS
  simp only [ByteArray.size_append, show (⟨#[10]⟩ : ByteArray).size = 1 from rfl]
  omega
def modes : List ByteArray := [(⟨#[114, 108, 120]⟩ : ByteArray), (⟨#[97, 99, 113]⟩ : ByteArray), (⟨#[114, 101, 108]⟩ : ByteArray), (⟨#[97, 99, 113, 114, 101, 108]⟩ : ByteArray), (⟨#[115, 99]⟩ : ByteArray)]
/-- A mode's word. -/
def modeS (m : Int) : ByteArray := if m = 0 then ⟨#[114, 108, 120]⟩ else if m = 1 then ⟨#[97, 99, 113]⟩ else if m = 2 then ⟨#[114, 101, 108]⟩ else if m = 3 then ⟨#[97, 99, 113, 114, 101, 108]⟩ else if m = 4 then ⟨#[115, 99]⟩ else ⟨#[]⟩
theorem mode_size (m : Int) : (modeS m).size ≤ 6 := by
  unfold modeS
  repeat' split
  all_goals decide
theorem mode_f (m : Int) : show_Mode.f m = some (modeS m) := by
  show (show_word.f modes m).bind _ = _
  have e : show_word.f modes m = some (modeS m) := by
    unfold show_word.f modeS
    have hl : (modes.length : Int) = 5 := rfl
    by_cases h0 : m < 0
    · rw [if_pos h0, if_neg (by omega), if_neg (by omega), if_neg (by omega), if_neg (by omega), if_neg (by omega)]
    rw [if_neg h0]
    by_cases h5 : m ≥ (modes.length : Int)
    · rw [if_pos h5, if_neg (by omega), if_neg (by omega), if_neg (by omega), if_neg (by omega), if_neg (by omega)]
    rw [if_neg h5, if_pos (by omega), if_pos (by omega)]
    rcases (by omega : m = 0 ∨ m = 1 ∨ m = 2 ∨ m = 3 ∨ m = 4) with rfl | rfl | rfl | rfl | rfl <;> rfl
  rw [e]
  rfl
theorem mode_c (m : Int) (w : World) : Calls Tryd.prog 14 #[.int .i64 m] w fun e w' => e = .returned (.string (modeS m)) ∧ Below w.heap.size w w' := show_Mode.calls m (modeS m) w (mode_f m)
theorem at_c (w : World) (A : Option Addr) (c : Nat) (l : List S31) (i : Int) (h0 : 0 ≤ i) (hr : Kd.C k31 w A l.length l) (hc : l.length ≤ c) (hx : ∀ x ∈ l, EX 13 x) (hG : GOk w) :
    Calls Tryd.prog 24 #[.slice A l.length c, .int .i64 i, .func (.func 10) #[] #[]] w fun e w' => e = .returned (.string (kidS 13 l i.toNat)) ∧ Below w.heap.size w w' := api_Expr_at_show_Expr.calls 13 A c l i (kidS 13 l i.toNat) w hr hc (at_f hx i h0) hG
def setT.T1 : Bool × List (List Nat × List Nat) := (true, [([], []), ([], []), ([1], [1]), ([], []), ([3], [3]), ([4], [4]), ([5], [5]), ([2, 6], [2, 6]), ([0, 7, 5], [0, 7])])
def setT.B1 : List Nat := [0, 0, 2, 0, 8, 24, 56, 126, 255]
theorem setT.tab1 : rtab .any (opsOf Tryd.f41 1) = setT.T1 := by kernel_rfl
theorem setT.bits1 : waitsOk setT.T1.2 setT.B1 = true := by kernel_rfl
set_option maxHeartbeats 8000000 in
set_option maxRecDepth 100000 in
theorem set_c (B g : Nat) (bs : List Value) (d : Nat) (w : World) (s : S45) (A4 A5 A6 : Option Addr) (c4 c5 c6 : Nat) (h : IsPG B g bs d w) (hd : d ≤ 100) (hr : Kd.C k31 w A4 s.f4.length s.f4) (hc : s.f4.length ≤ c4) (hx : ∀ x ∈ s.f4, EX 13 x) (h2 : s.f2.size ≤ 40) (h3 : s.f3.size ≤ 40) (hBw : B ≤ w.heap.size) (hlen : bs.length + 2000000 ≤ 140737488355328) (hG : GOk w) : Calls Tryd.prog 41 #[.pointer (some ⟨g, 0, none⟩), .agg #[.int .i64 s.f0, .int .i64 s.f1, .string s.f2, .string s.f3, .slice A4 s.f4.length c4, .slice A5 s.f5.length c5, .slice A6 s.f6.length c6]] w fun e w' => e = .returned (.tuple #[]) ∧ PG B g (.pointer (some ⟨g, 0, none⟩)) (bs ++ Lib.strCells (lineS d [s.f2, (⟨#[61]⟩ : ByteArray), ((kidS 13 s.f4 0) ++ (⟨#[59]⟩ : ByteArray))])) d w' ∧ Below B w w' ∧ Lib.OthersKept 5 (some g) w w' := by
  have hu45 := Tryd.underlying45
  have s0 := Nat.le_trans (kidS_size hx 0) (bnd_le 13 (by decide))
  have s1 := Nat.le_trans (kidS_size hx 1) (bnd_le 13 (by decide))
  have sm := mode_size s.f1
  have hsz : (lineS d [s.f2, (⟨#[61]⟩ : ByteArray), ((kidS 13 s.f4 0) ++ (⟨#[59]⟩ : ByteArray))]).size ≤ 1900000 := by
    refine Nat.le_trans (lineS_size d _) ?_
    simp only [List.map_cons, List.map_nil, List.sum_cons, List.sum_nil, ByteArray.size_append, z59, z44, show (⟨#[61]⟩ : ByteArray).size = 1 from rfl]
    omega
  have k1 : (9223372036854775807 < (kidS 13 s.f4 0).size + 1) = False := eq_false (by omega)
  have k2 : (9223372036854775807 < (kidS 13 s.f4 1).size + 1) = False := eq_false (by omega)
  have k3 : (9223372036854775807 < s.f3.size + 1) = False := eq_false (by omega)
  have k4 : (9223372036854775807 < (modeS s.f1).size + 1) = False := eq_false (by omega)
  have HP := Aside0.mk h
  have HR := Aside0.mk hr
  have HG := Aside0.mk hG
  have HB := Aside0.mk (Below.refl w.heap.size w)
  have HK := Aside0.mk (Lib.OthersKept.refl 5 (some g) w)
  have HS := Aside0.mk hsz
  clear h hr hG hsz s0 s1 sm
  go_enter Tryd.func41, Tryd.ntmps41
  go_upto_region 1 with ((with_reducible refine gate_dst (N := 3) rfl ?_); refine box_event ?hg (N := 3) ?hd (cs := #[.int .i64 s.f0, .int .i64 s.f1, .string s.f2, .string s.f3, .slice A4 s.f4.length c4, .slice A5 s.f5.length c5, .slice A6 s.f6.length c6]) (t := 45) ?hr ?_; (case hd => rfl); (case hg => rfl); (case hr => first | (go_simp; done) | (go_simp; rfl)); intro g1 hg1 w1 hbox hb1; have HX := Aside0.mk hbox; replace HP := Aside0.mk (HP.out.below hb1); replace HK := Aside0.mk (HK.out.trans (kept_below hb1)); replace HB := Aside0.mk (below_step HB.out hb1); clear hg1 hb1 hbox)
  replace HX := Aside0.mk (blk_drew HX.out)
  replace HP := Aside0.mk (HP.out.below (below_drew (Below.refl _ _)))
  replace HB := Aside0.mk (below_drew HB.out)
  replace HK := Aside0.mk HK.out.drew
  refine start_ (n := 9) (S := fun w' => w'.cell? ⟨g1, 1, none⟩ = some (.int .i64 s.f1) ∧ w'.cell? ⟨g1, 2, none⟩ = some (.string s.f2) ∧ w'.cell? ⟨g1, 3, none⟩ = some (.string s.f3) ∧ w'.cell? ⟨g1, 4, none⟩ = some (.slice A4 s.f4.length c4)) (ds := [8]) #[Z,Z,Z,Z,Z,Z,Z,Z,Z] (by kernel_rfl) rfl rfl ⟨(blk_celln HX.out 1 _ rfl), (blk_celln HX.out 2 _ rfl), (blk_celln HX.out 3 _ rfl), (blk_celln HX.out 4 _ rfl)⟩ (fun hHeld => ?_)
  refine with_tabW setT.tab1 setT.bits1 (fun HT_ HW_ => ?_)
  generalize World.drew _ = wd at HX HP HK HB hHeld ⊢
  refine pure_ (i := 0) (N := some 4) (v := ?_) (a' := ?_) #[Y,Z,Z,Z,Z,Z,Z,Z,Z] rfl rfl (any_of HT_.out (by kernel_rfl)) (fun _ _ _ h => h) (Or.inl ⟨by rfl, ?_⟩) ?_ ?_
  rotate_left
  · intro w'
    go_simp
    with_reducible rfl
  rotate_left
  · simp only [Act.put, pA, pB, pC, i64_w, i32_w]
    rfl
  refine pure_ (i := 1) (N := some 5) (v := ?_) (a' := ?_) #[Y,Y,Z,Z,Z,Z,Z,Z,Z] rfl rfl (any_of HT_.out (by kernel_rfl)) (fun _ _ _ h => h) (Or.inl ⟨by rfl, ?_⟩) ?_ ?_
  rotate_left
  · intro w'
    go_simp
    with_reducible rfl
  rotate_left
  · simp only [Act.put, pA, pB, pC, i64_w, i32_w]
    rfl
  refine take_ (i := 2) (N := some 6) (v := ?_) (a' := ?_) #[Y,Y,Y,Z,Z,Z,Z,Z,Z] rfl rfl (take_ofW HT_.out HW_.out (by kernel_rfl)) (fun _ _ _ h => h) (Or.inl ⟨by rfl, ?_⟩) hHeld ?_ ?_
  rotate_left
  · rintro w' ⟨s0, s1, s2, s3⟩
    go_simp
    with_reducible rfl
  rotate_left
  · simp only [Act.put, pA, pB, pC, i64_w, i32_w]
    rfl
  refine pure_ (i := 3) (N := some 7) (v := ?_) (a' := ?_) #[Y,Y,Y,Y,Z,Z,Z,Z,Z] rfl rfl (any_of HT_.out (by kernel_rfl)) (fun _ _ _ h => h) (Or.inl ⟨by rfl, ?_⟩) ?_ ?_
  rotate_left
  · intro w'
    go_simp
    with_reducible rfl
  rotate_left
  · simp only [Act.put, pA, pB, pC, i64_w, i32_w]
    rfl
  refine take_ (i := 4) (N := some 8) (v := ?_) (a' := ?_) #[Y,Y,Y,Y,Y,Z,Z,Z,Z] rfl rfl (take_ofW HT_.out HW_.out (by kernel_rfl)) (fun _ _ _ h => h) (Or.inl ⟨by rfl, ?_⟩) hHeld ?_ ?_
  rotate_left
  · rintro w' ⟨s0, s1, s2, s3⟩
    go_simp
    with_reducible rfl
  rotate_left
  · simp only [Act.put, pA, pB, pC, i64_w, i32_w]
    rfl
  refine one_ (i := 5) (N := some 9) #[Y,Y,Y,Y,Y,Y,Z,Z,Z] rfl rfl (one_of HT_.out (by kernel_rfl)) (by decide) (fun K hK => ?_)
  refine goes_ Tryd.func24 (by kernel_rfl) rfl #[.slice A4 s.f4.length c4, .int .i64 0, .func (.func 10) #[] #[]] (by rfl) rfl rfl (by (try simp only [List.map_toArray, List.map_cons, List.map_nil]); first | done | rfl) ?_
  refine (at_c _ A4 c4 s.f4 0 (by decide) (Kd.C_below HR.out HB.out) hc hx (GOk.le HG.out HB.out)).mono ?_
  rintro e wa0 ⟨rfl, qb⟩
  refine ⟨_, rfl, ?_⟩
  replace HX := Aside0.mk (blk_below HX.out qb)
  replace HP := Aside0.mk (HP.out.below qb)
  replace HK := Aside0.mk (HK.out.trans (kept_below qb))
  replace HB := Aside0.mk (below_step HB.out qb)
  clear qb
  refine hK.out _ _ ⟨(blk_celln HX.out 1 _ rfl), (blk_celln HX.out 2 _ rfl), (blk_celln HX.out 3 _ rfl), (blk_celln HX.out 4 _ rfl)⟩ (fun hHeld => ?_)
  clear hK K
  refine norm_ (a' := ?_) ?_ ?_
  rotate_left
  · show Act.put _ (some 9) _ = _
    simp only [Act.put, pA, pB, pC, i64_w, i32_w]
    rfl
  refine pure_ (i := 6) (N := some 10) (v := ?_) (a' := ?_) #[Y,Y,Y,Y,Y,Y,Y,Z,Z] rfl rfl (any_of HT_.out (by kernel_rfl)) (fun _ _ _ h => h) (Or.inl ⟨by rfl, ?_⟩) ?_ ?_
  rotate_left
  · intro w'
    go_simp
    with_reducible rfl
  rotate_left
  · simp only [Act.put, pA, pB, pC, i64_w, i32_w]
    rfl
  refine one_ (i := 7) (N := some 11) #[Y,Y,Y,Y,Y,Y,Y,Y,Z] rfl rfl (one_of HT_.out (by kernel_rfl)) (by decide) (fun K hK => ?_)
  refine lit_step ?hg (N := 11) ?hd (n := 3) (cs := ⟨[s.f2, (⟨#[61]⟩ : ByteArray), ((kidS 13 s.f4 0) ++ (⟨#[59]⟩ : ByteArray))].map Value.string⟩) (t := 9) ?hr ?_; (case hd => rfl); (case hg => rfl); (case hr => first | (go_simp; done) | (go_simp; rfl))
  intro gs hg_ w9 hbox_ hq_
  have HL := Aside0.mk hbox_
  replace HX := Aside0.mk (blk_below HX.out hq_)
  replace HP := Aside0.mk (HP.out.below hq_)
  replace HK := Aside0.mk (HK.out.trans (kept_below hq_))
  replace HB := Aside0.mk (below_step HB.out hq_)
  clear hg_ hbox_ hq_
  refine hK.out _ _ ⟨(blk_celln HX.out 1 _ rfl), (blk_celln HX.out 2 _ rfl), (blk_celln HX.out 3 _ rfl), (blk_celln HX.out 4 _ rfl)⟩ (fun hHeld => ?_)
  clear hK K
  refine norm_ (a' := ?_) ?_ ?_
  rotate_left
  · show Act.put _ (some 11) _ = _
    simp only [Act.put, pA, pB, pC, i64_w, i32_w]
    rfl
  refine last_ (i := 8) (N := some 12) #[Y,Y,Y,Y,Y,Y,Y,Y,Y] rfl rfl (one_of HT_.out (by kernel_rfl)) (by decide) (fun K hK => ?_)
  refine goes_ Tryd.func17 (by kernel_rfl) rfl #[.pointer (some ⟨g, 0, none⟩), .slice (some ⟨gs, 0, none⟩) 3 3] (by rfl) rfl rfl (by (try simp only [List.map_toArray, List.map_cons, List.map_nil]); first | done | rfl) ?_
  have hW := line_c B g bs d _ (some ⟨gs, 0, none⟩) 3 [s.f2, (⟨#[61]⟩ : ByteArray), ((kidS 13 s.f4 0) ++ (⟨#[59]⟩ : ByteArray))] HP.out (by omega) (C_strs (show 3 ≤ 9223372036854775807 by decide) HL.out) (show 3 ≤ 3 by decide) (Nat.le_trans hBw HB.out.size) (show 3 ≤ 1000 by decide) (Nat.le_trans HS.out (by decide)) (by have := HS.out; omega)
  refine hW.mono ?_
  clear hW
  rintro e wz ⟨rfl, q1, q2, q3⟩
  refine ⟨_, rfl, ?_⟩
  have HQ := Aside0.mk q1
  have HB2 := Aside0.mk ((below_at HB.out hBw).trans q2)
  replace HK := Aside0.mk (HK.out.trans q3)
  clear q1 q2 q3
  refine hK.out _ _ ?_
  clear hK K
  refine norm_ (a' := ?_) ?_ ?_
  rotate_left
  · show Act.put _ (some 12) _ = _
    simp only [Act.put, pA, pB, pC, i64_w, i32_w]
    rfl
  refine done_ (done_of HT_.out (by kernel_rfl)) ?_
  clear hHeld
  go_end0
  exact ⟨rfl, HQ.out, HB2.out, HK.out⟩
def loadT.T1 : Bool × List (List Nat × List Nat) := (true, [([], []), ([], []), ([1], [1]), ([], []), ([3], [3]), ([4], [4]), ([], []), ([6], [6]), ([7], [7]), ([2, 5, 8], [2, 5, 8]), ([0, 9, 5], [0, 9])])
def loadT.B1 : List Nat := [0, 0, 2, 0, 8, 24, 0, 64, 192, 510, 1023]
theorem loadT.tab1 : rtab .any (opsOf Tryd.f42 1) = loadT.T1 := by kernel_rfl
theorem loadT.bits1 : waitsOk loadT.T1.2 loadT.B1 = true := by kernel_rfl
set_option maxHeartbeats 8000000 in
set_option maxRecDepth 100000 in
theorem load_c (B g : Nat) (bs : List Value) (d : Nat) (w : World) (s : S45) (A4 A5 A6 : Option Addr) (c4 c5 c6 : Nat) (h : IsPG B g bs d w) (hd : d ≤ 100) (hr : Kd.C k31 w A4 s.f4.length s.f4) (hc : s.f4.length ≤ c4) (hx : ∀ x ∈ s.f4, EX 13 x) (h2 : s.f2.size ≤ 40) (h3 : s.f3.size ≤ 40) (hBw : B ≤ w.heap.size) (hlen : bs.length + 2000000 ≤ 140737488355328) (hG : GOk w) : Calls Tryd.prog 42 #[.pointer (some ⟨g, 0, none⟩), .agg #[.int .i64 s.f0, .int .i64 s.f1, .string s.f2, .string s.f3, .slice A4 s.f4.length c4, .slice A5 s.f5.length c5, .slice A6 s.f6.length c6]] w fun e w' => e = .returned (.tuple #[]) ∧ PG B g (.pointer (some ⟨g, 0, none⟩)) (bs ++ Lib.strCells (lineS d [s.f2, (⟨#[61, 32, 108, 111, 97, 100]⟩ : ByteArray), (modeS s.f1), (s.f3 ++ (⟨#[59]⟩ : ByteArray))])) d w' ∧ Below B w w' ∧ Lib.OthersKept 5 (some g) w w' := by
  have hu45 := Tryd.underlying45
  have s0 := Nat.le_trans (kidS_size hx 0) (bnd_le 13 (by decide))
  have s1 := Nat.le_trans (kidS_size hx 1) (bnd_le 13 (by decide))
  have sm := mode_size s.f1
  have hsz : (lineS d [s.f2, (⟨#[61, 32, 108, 111, 97, 100]⟩ : ByteArray), (modeS s.f1), (s.f3 ++ (⟨#[59]⟩ : ByteArray))]).size ≤ 1900000 := by
    refine Nat.le_trans (lineS_size d _) ?_
    simp only [List.map_cons, List.map_nil, List.sum_cons, List.sum_nil, ByteArray.size_append, z59, z44, show (⟨#[61, 32, 108, 111, 97, 100]⟩ : ByteArray).size = 6 from rfl]
    omega
  have k1 : (9223372036854775807 < (kidS 13 s.f4 0).size + 1) = False := eq_false (by omega)
  have k2 : (9223372036854775807 < (kidS 13 s.f4 1).size + 1) = False := eq_false (by omega)
  have k3 : (9223372036854775807 < s.f3.size + 1) = False := eq_false (by omega)
  have k4 : (9223372036854775807 < (modeS s.f1).size + 1) = False := eq_false (by omega)
  have HP := Aside0.mk h
  have HR := Aside0.mk hr
  have HG := Aside0.mk hG
  have HB := Aside0.mk (Below.refl w.heap.size w)
  have HK := Aside0.mk (Lib.OthersKept.refl 5 (some g) w)
  have HS := Aside0.mk hsz
  clear h hr hG hsz s0 s1 sm
  go_enter Tryd.func42, Tryd.ntmps42
  go_upto_region 1 with ((with_reducible refine gate_dst (N := 3) rfl ?_); refine box_event ?hg (N := 3) ?hd (cs := #[.int .i64 s.f0, .int .i64 s.f1, .string s.f2, .string s.f3, .slice A4 s.f4.length c4, .slice A5 s.f5.length c5, .slice A6 s.f6.length c6]) (t := 45) ?hr ?_; (case hd => rfl); (case hg => rfl); (case hr => first | (go_simp; done) | (go_simp; rfl)); intro g1 hg1 w1 hbox hb1; have HX := Aside0.mk hbox; replace HP := Aside0.mk (HP.out.below hb1); replace HK := Aside0.mk (HK.out.trans (kept_below hb1)); replace HB := Aside0.mk (below_step HB.out hb1); clear hg1 hb1 hbox)
  replace HX := Aside0.mk (blk_drew HX.out)
  replace HP := Aside0.mk (HP.out.below (below_drew (Below.refl _ _)))
  replace HB := Aside0.mk (below_drew HB.out)
  replace HK := Aside0.mk HK.out.drew
  refine start_ (n := 11) (S := fun w' => w'.cell? ⟨g1, 1, none⟩ = some (.int .i64 s.f1) ∧ w'.cell? ⟨g1, 2, none⟩ = some (.string s.f2) ∧ w'.cell? ⟨g1, 3, none⟩ = some (.string s.f3) ∧ w'.cell? ⟨g1, 4, none⟩ = some (.slice A4 s.f4.length c4)) (ds := [10]) #[Z,Z,Z,Z,Z,Z,Z,Z,Z,Z,Z] (by kernel_rfl) rfl rfl ⟨(blk_celln HX.out 1 _ rfl), (blk_celln HX.out 2 _ rfl), (blk_celln HX.out 3 _ rfl), (blk_celln HX.out 4 _ rfl)⟩ (fun hHeld => ?_)
  refine with_tabW loadT.tab1 loadT.bits1 (fun HT_ HW_ => ?_)
  generalize World.drew _ = wd at HX HP HK HB hHeld ⊢
  refine pure_ (i := 0) (N := some 4) (v := ?_) (a' := ?_) #[Y,Z,Z,Z,Z,Z,Z,Z,Z,Z,Z] rfl rfl (any_of HT_.out (by kernel_rfl)) (fun _ _ _ h => h) (Or.inl ⟨by rfl, ?_⟩) ?_ ?_
  rotate_left
  · intro w'
    go_simp
    with_reducible rfl
  rotate_left
  · simp only [Act.put, pA, pB, pC, i64_w, i32_w]
    rfl
  refine pure_ (i := 1) (N := some 5) (v := ?_) (a' := ?_) #[Y,Y,Z,Z,Z,Z,Z,Z,Z,Z,Z] rfl rfl (any_of HT_.out (by kernel_rfl)) (fun _ _ _ h => h) (Or.inl ⟨by rfl, ?_⟩) ?_ ?_
  rotate_left
  · intro w'
    go_simp
    with_reducible rfl
  rotate_left
  · simp only [Act.put, pA, pB, pC, i64_w, i32_w]
    rfl
  refine take_ (i := 2) (N := some 6) (v := ?_) (a' := ?_) #[Y,Y,Y,Z,Z,Z,Z,Z,Z,Z,Z] rfl rfl (take_ofW HT_.out HW_.out (by kernel_rfl)) (fun _ _ _ h => h) (Or.inl ⟨by rfl, ?_⟩) hHeld ?_ ?_
  rotate_left
  · rintro w' ⟨s0, s1, s2, s3⟩
    go_simp
    with_reducible rfl
  rotate_left
  · simp only [Act.put, pA, pB, pC, i64_w, i32_w]
    rfl
  refine pure_ (i := 3) (N := some 7) (v := ?_) (a' := ?_) #[Y,Y,Y,Y,Z,Z,Z,Z,Z,Z,Z] rfl rfl (any_of HT_.out (by kernel_rfl)) (fun _ _ _ h => h) (Or.inl ⟨by rfl, ?_⟩) ?_ ?_
  rotate_left
  · intro w'
    go_simp
    with_reducible rfl
  rotate_left
  · simp only [Act.put, pA, pB, pC, i64_w, i32_w]
    rfl
  refine take_ (i := 4) (N := some 8) (v := ?_) (a' := ?_) #[Y,Y,Y,Y,Y,Z,Z,Z,Z,Z,Z] rfl rfl (take_ofW HT_.out HW_.out (by kernel_rfl)) (fun _ _ _ h => h) (Or.inl ⟨by rfl, ?_⟩) hHeld ?_ ?_
  rotate_left
  · rintro w' ⟨s0, s1, s2, s3⟩
    go_simp
    with_reducible rfl
  rotate_left
  · simp only [Act.put, pA, pB, pC, i64_w, i32_w]
    rfl
  refine pure_ (i := 6) (N := some 10) (v := ?_) (a' := ?_) #[Y,Y,Y,Y,Y,Z,Y,Z,Z,Z,Z] rfl rfl (any_of HT_.out (by kernel_rfl)) (fun _ _ _ h => h) (Or.inl ⟨by rfl, ?_⟩) ?_ ?_
  rotate_left
  · intro w'
    go_simp
    with_reducible rfl
  rotate_left
  · simp only [Act.put, pA, pB, pC, i64_w, i32_w]
    rfl
  refine take_ (i := 7) (N := some 11) (v := ?_) (a' := ?_) #[Y,Y,Y,Y,Y,Z,Y,Y,Z,Z,Z] rfl rfl (take_ofW HT_.out HW_.out (by kernel_rfl)) (fun _ _ _ h => h) (Or.inl ⟨by rfl, ?_⟩) hHeld ?_ ?_
  rotate_left
  · rintro w' ⟨s0, s1, s2, s3⟩
    go_simp
    with_reducible rfl
  rotate_left
  · simp only [Act.put, pA, pB, pC, i64_w, i32_w]
    rfl
  refine pure_ (i := 8) (N := some 12) (v := ?_) (a' := ?_) #[Y,Y,Y,Y,Y,Z,Y,Y,Y,Z,Z] rfl rfl (any_of HT_.out (by kernel_rfl)) (fun _ _ _ h => h) (Or.inl ⟨by rfl, ?_⟩) ?_ ?_
  rotate_left
  · intro w'
    go_simp
    with_reducible rfl
  rotate_left
  · simp only [Act.put, pA, pB, pC, i64_w, i32_w]
    rfl
  refine one_ (i := 5) (N := some 9) #[Y,Y,Y,Y,Y,Y,Y,Y,Y,Z,Z] rfl rfl (one_of HT_.out (by kernel_rfl)) (by decide) (fun K hK => ?_)
  refine goes_ Tryd.func14 (by kernel_rfl) rfl #[.int .i64 s.f1] (by rfl) rfl rfl (by (try simp only [List.map_toArray, List.map_cons, List.map_nil]); first | done | rfl) ?_
  refine (mode_c s.f1 _).mono ?_
  rintro e wm ⟨rfl, qb⟩
  refine ⟨_, rfl, ?_⟩
  replace HX := Aside0.mk (blk_below HX.out qb)
  replace HP := Aside0.mk (HP.out.below qb)
  replace HK := Aside0.mk (HK.out.trans (kept_below qb))
  replace HB := Aside0.mk (below_step HB.out qb)
  clear qb
  refine hK.out _ _ ⟨(blk_celln HX.out 1 _ rfl), (blk_celln HX.out 2 _ rfl), (blk_celln HX.out 3 _ rfl), (blk_celln HX.out 4 _ rfl)⟩ (fun hHeld => ?_)
  clear hK K
  refine norm_ (a' := ?_) ?_ ?_
  rotate_left
  · show Act.put _ (some 9) _ = _
    simp only [Act.put, pA, pB, pC, i64_w, i32_w]
    rfl
  refine one_ (i := 9) (N := some 13) #[Y,Y,Y,Y,Y,Y,Y,Y,Y,Y,Z] rfl rfl (one_of HT_.out (by kernel_rfl)) (by decide) (fun K hK => ?_)
  refine lit_step ?hg (N := 13) ?hd (n := 4) (cs := ⟨[s.f2, (⟨#[61, 32, 108, 111, 97, 100]⟩ : ByteArray), (modeS s.f1), (s.f3 ++ (⟨#[59]⟩ : ByteArray))].map Value.string⟩) (t := 9) ?hr ?_; (case hd => rfl); (case hg => rfl); (case hr => first | (go_simp; done) | (go_simp; rfl))
  intro gs hg_ w9 hbox_ hq_
  have HL := Aside0.mk hbox_
  replace HX := Aside0.mk (blk_below HX.out hq_)
  replace HP := Aside0.mk (HP.out.below hq_)
  replace HK := Aside0.mk (HK.out.trans (kept_below hq_))
  replace HB := Aside0.mk (below_step HB.out hq_)
  clear hg_ hbox_ hq_
  refine hK.out _ _ ⟨(blk_celln HX.out 1 _ rfl), (blk_celln HX.out 2 _ rfl), (blk_celln HX.out 3 _ rfl), (blk_celln HX.out 4 _ rfl)⟩ (fun hHeld => ?_)
  clear hK K
  refine norm_ (a' := ?_) ?_ ?_
  rotate_left
  · show Act.put _ (some 13) _ = _
    simp only [Act.put, pA, pB, pC, i64_w, i32_w]
    rfl
  refine last_ (i := 10) (N := some 14) #[Y,Y,Y,Y,Y,Y,Y,Y,Y,Y,Y] rfl rfl (one_of HT_.out (by kernel_rfl)) (by decide) (fun K hK => ?_)
  refine goes_ Tryd.func17 (by kernel_rfl) rfl #[.pointer (some ⟨g, 0, none⟩), .slice (some ⟨gs, 0, none⟩) 4 4] (by rfl) rfl rfl (by (try simp only [List.map_toArray, List.map_cons, List.map_nil]); first | done | rfl) ?_
  have hW := line_c B g bs d _ (some ⟨gs, 0, none⟩) 4 [s.f2, (⟨#[61, 32, 108, 111, 97, 100]⟩ : ByteArray), (modeS s.f1), (s.f3 ++ (⟨#[59]⟩ : ByteArray))] HP.out (by omega) (C_strs (show 4 ≤ 9223372036854775807 by decide) HL.out) (show 4 ≤ 4 by decide) (Nat.le_trans hBw HB.out.size) (show 4 ≤ 1000 by decide) (Nat.le_trans HS.out (by decide)) (by have := HS.out; omega)
  refine hW.mono ?_
  clear hW
  rintro e wz ⟨rfl, q1, q2, q3⟩
  refine ⟨_, rfl, ?_⟩
  have HQ := Aside0.mk q1
  have HB2 := Aside0.mk ((below_at HB.out hBw).trans q2)
  replace HK := Aside0.mk (HK.out.trans q3)
  clear q1 q2 q3
  refine hK.out _ _ ?_
  clear hK K
  refine norm_ (a' := ?_) ?_ ?_
  rotate_left
  · show Act.put _ (some 14) _ = _
    simp only [Act.put, pA, pB, pC, i64_w, i32_w]
    rfl
  refine done_ (done_of HT_.out (by kernel_rfl)) ?_
  clear hHeld
  go_end0
  exact ⟨rfl, HQ.out, HB2.out, HK.out⟩
def storeT.T1 : Bool × List (List Nat × List Nat) := (true, [([], []), ([], []), ([1], [1]), ([2], [2]), ([], []), ([4], [4]), ([], []), ([6], [6]), ([7, 3], [7]), ([8], [8]), ([3, 5, 9], [3, 5, 9]), ([0, 10, 8], [0, 10])])
def storeT.B1 : List Nat := [0, 0, 2, 6, 0, 16, 0, 64, 206, 462, 1022, 2047]
theorem storeT.tab1 : rtab .any (opsOf Tryd.f43 1) = storeT.T1 := by kernel_rfl
theorem storeT.bits1 : waitsOk storeT.T1.2 storeT.B1 = true := by kernel_rfl
set_option maxHeartbeats 8000000 in
set_option maxRecDepth 100000 in
theorem store_c (B g : Nat) (bs : List Value) (d : Nat) (w : World) (s : S45) (A4 A5 A6 : Option Addr) (c4 c5 c6 : Nat) (h : IsPG B g bs d w) (hd : d ≤ 100) (hr : Kd.C k31 w A4 s.f4.length s.f4) (hc : s.f4.length ≤ c4) (hx : ∀ x ∈ s.f4, EX 13 x) (h2 : s.f2.size ≤ 40) (h3 : s.f3.size ≤ 40) (hBw : B ≤ w.heap.size) (hlen : bs.length + 2000000 ≤ 140737488355328) (hG : GOk w) : Calls Tryd.prog 43 #[.pointer (some ⟨g, 0, none⟩), .agg #[.int .i64 s.f0, .int .i64 s.f1, .string s.f2, .string s.f3, .slice A4 s.f4.length c4, .slice A5 s.f5.length c5, .slice A6 s.f6.length c6]] w fun e w' => e = .returned (.tuple #[]) ∧ PG B g (.pointer (some ⟨g, 0, none⟩)) (bs ++ Lib.strCells (lineS d [(⟨#[115, 116, 111, 114, 101]⟩ : ByteArray), (modeS s.f1), s.f3, ((kidS 13 s.f4 0) ++ (⟨#[59]⟩ : ByteArray))])) d w' ∧ Below B w w' ∧ Lib.OthersKept 5 (some g) w w' := by
  have hu45 := Tryd.underlying45
  have s0 := Nat.le_trans (kidS_size hx 0) (bnd_le 13 (by decide))
  have s1 := Nat.le_trans (kidS_size hx 1) (bnd_le 13 (by decide))
  have sm := mode_size s.f1
  have hsz : (lineS d [(⟨#[115, 116, 111, 114, 101]⟩ : ByteArray), (modeS s.f1), s.f3, ((kidS 13 s.f4 0) ++ (⟨#[59]⟩ : ByteArray))]).size ≤ 1900000 := by
    refine Nat.le_trans (lineS_size d _) ?_
    simp only [List.map_cons, List.map_nil, List.sum_cons, List.sum_nil, ByteArray.size_append, z59, z44, show (⟨#[115, 116, 111, 114, 101]⟩ : ByteArray).size = 5 from rfl]
    omega
  have k1 : (9223372036854775807 < (kidS 13 s.f4 0).size + 1) = False := eq_false (by omega)
  have k2 : (9223372036854775807 < (kidS 13 s.f4 1).size + 1) = False := eq_false (by omega)
  have k3 : (9223372036854775807 < s.f3.size + 1) = False := eq_false (by omega)
  have k4 : (9223372036854775807 < (modeS s.f1).size + 1) = False := eq_false (by omega)
  have HP := Aside0.mk h
  have HR := Aside0.mk hr
  have HG := Aside0.mk hG
  have HB := Aside0.mk (Below.refl w.heap.size w)
  have HK := Aside0.mk (Lib.OthersKept.refl 5 (some g) w)
  have HS := Aside0.mk hsz
  clear h hr hG hsz s0 s1 sm
  go_enter Tryd.func43, Tryd.ntmps43
  go_upto_region 1 with ((with_reducible refine gate_dst (N := 3) rfl ?_); refine box_event ?hg (N := 3) ?hd (cs := #[.int .i64 s.f0, .int .i64 s.f1, .string s.f2, .string s.f3, .slice A4 s.f4.length c4, .slice A5 s.f5.length c5, .slice A6 s.f6.length c6]) (t := 45) ?hr ?_; (case hd => rfl); (case hg => rfl); (case hr => first | (go_simp; done) | (go_simp; rfl)); intro g1 hg1 w1 hbox hb1; have HX := Aside0.mk hbox; replace HP := Aside0.mk (HP.out.below hb1); replace HK := Aside0.mk (HK.out.trans (kept_below hb1)); replace HB := Aside0.mk (below_step HB.out hb1); clear hg1 hb1 hbox)
  replace HX := Aside0.mk (blk_drew HX.out)
  replace HP := Aside0.mk (HP.out.below (below_drew (Below.refl _ _)))
  replace HB := Aside0.mk (below_drew HB.out)
  replace HK := Aside0.mk HK.out.drew
  refine start_ (n := 12) (S := fun w' => w'.cell? ⟨g1, 1, none⟩ = some (.int .i64 s.f1) ∧ w'.cell? ⟨g1, 2, none⟩ = some (.string s.f2) ∧ w'.cell? ⟨g1, 3, none⟩ = some (.string s.f3) ∧ w'.cell? ⟨g1, 4, none⟩ = some (.slice A4 s.f4.length c4)) (ds := [11]) #[Z,Z,Z,Z,Z,Z,Z,Z,Z,Z,Z,Z] (by kernel_rfl) rfl rfl ⟨(blk_celln HX.out 1 _ rfl), (blk_celln HX.out 2 _ rfl), (blk_celln HX.out 3 _ rfl), (blk_celln HX.out 4 _ rfl)⟩ (fun hHeld => ?_)
  refine with_tabW storeT.tab1 storeT.bits1 (fun HT_ HW_ => ?_)
  generalize World.drew _ = wd at HX HP HK HB hHeld ⊢
  refine pure_ (i := 0) (N := some 4) (v := ?_) (a' := ?_) #[Y,Z,Z,Z,Z,Z,Z,Z,Z,Z,Z,Z] rfl rfl (any_of HT_.out (by kernel_rfl)) (fun _ _ _ h => h) (Or.inl ⟨by rfl, ?_⟩) ?_ ?_
  rotate_left
  · intro w'
    go_simp
    with_reducible rfl
  rotate_left
  · simp only [Act.put, pA, pB, pC, i64_w, i32_w]
    rfl
  refine pure_ (i := 1) (N := some 5) (v := ?_) (a' := ?_) #[Y,Y,Z,Z,Z,Z,Z,Z,Z,Z,Z,Z] rfl rfl (any_of HT_.out (by kernel_rfl)) (fun _ _ _ h => h) (Or.inl ⟨by rfl, ?_⟩) ?_ ?_
  rotate_left
  · intro w'
    go_simp
    with_reducible rfl
  rotate_left
  · simp only [Act.put, pA, pB, pC, i64_w, i32_w]
    rfl
  refine take_ (i := 2) (N := some 6) (v := ?_) (a' := ?_) #[Y,Y,Y,Z,Z,Z,Z,Z,Z,Z,Z,Z] rfl rfl (take_ofW HT_.out HW_.out (by kernel_rfl)) (fun _ _ _ h => h) (Or.inl ⟨by rfl, ?_⟩) hHeld ?_ ?_
  rotate_left
  · rintro w' ⟨s0, s1, s2, s3⟩
    go_simp
    with_reducible rfl
  rotate_left
  · simp only [Act.put, pA, pB, pC, i64_w, i32_w]
    rfl
  refine pure_ (i := 4) (N := some 8) (v := ?_) (a' := ?_) #[Y,Y,Y,Z,Y,Z,Z,Z,Z,Z,Z,Z] rfl rfl (any_of HT_.out (by kernel_rfl)) (fun _ _ _ h => h) (Or.inl ⟨by rfl, ?_⟩) ?_ ?_
  rotate_left
  · intro w'
    go_simp
    with_reducible rfl
  rotate_left
  · simp only [Act.put, pA, pB, pC, i64_w, i32_w]
    rfl
  refine take_ (i := 5) (N := some 9) (v := ?_) (a' := ?_) #[Y,Y,Y,Z,Y,Y,Z,Z,Z,Z,Z,Z] rfl rfl (take_ofW HT_.out HW_.out (by kernel_rfl)) (fun _ _ _ h => h) (Or.inl ⟨by rfl, ?_⟩) hHeld ?_ ?_
  rotate_left
  · rintro w' ⟨s0, s1, s2, s3⟩
    go_simp
    with_reducible rfl
  rotate_left
  · simp only [Act.put, pA, pB, pC, i64_w, i32_w]
    rfl
  refine pure_ (i := 6) (N := some 10) (v := ?_) (a' := ?_) #[Y,Y,Y,Z,Y,Y,Y,Z,Z,Z,Z,Z] rfl rfl (any_of HT_.out (by kernel_rfl)) (fun _ _ _ h => h) (Or.inl ⟨by rfl, ?_⟩) ?_ ?_
  rotate_left
  · intro w'
    go_simp
    with_reducible rfl
  rotate_left
  · simp only [Act.put, pA, pB, pC, i64_w, i32_w]
    rfl
  refine take_ (i := 7) (N := some 11) (v := ?_) (a' := ?_) #[Y,Y,Y,Z,Y,Y,Y,Y,Z,Z,Z,Z] rfl rfl (take_ofW HT_.out HW_.out (by kernel_rfl)) (fun _ _ _ h => h) (Or.inl ⟨by rfl, ?_⟩) hHeld ?_ ?_
  rotate_left
  · rintro w' ⟨s0, s1, s2, s3⟩
    go_simp
    with_reducible rfl
  rotate_left
  · simp only [Act.put, pA, pB, pC, i64_w, i32_w]
    rfl
  refine one_ (i := 3) (N := some 7) #[Y,Y,Y,Y,Y,Y,Y,Y,Z,Z,Z,Z] rfl rfl (one_of HT_.out (by kernel_rfl)) (by decide) (fun K hK => ?_)
  refine goes_ Tryd.func14 (by kernel_rfl) rfl #[.int .i64 s.f1] (by rfl) rfl rfl (by (try simp only [List.map_toArray, List.map_cons, List.map_nil]); first | done | rfl) ?_
  refine (mode_c s.f1 _).mono ?_
  rintro e wm ⟨rfl, qb⟩
  refine ⟨_, rfl, ?_⟩
  replace HX := Aside0.mk (blk_below HX.out qb)
  replace HP := Aside0.mk (HP.out.below qb)
  replace HK := Aside0.mk (HK.out.trans (kept_below qb))
  replace HB := Aside0.mk (below_step HB.out qb)
  clear qb
  refine hK.out _ _ ⟨(blk_celln HX.out 1 _ rfl), (blk_celln HX.out 2 _ rfl), (blk_celln HX.out 3 _ rfl), (blk_celln HX.out 4 _ rfl)⟩ (fun hHeld => ?_)
  clear hK K
  refine norm_ (a' := ?_) ?_ ?_
  rotate_left
  · show Act.put _ (some 7) _ = _
    simp only [Act.put, pA, pB, pC, i64_w, i32_w]
    rfl
  refine one_ (i := 8) (N := some 12) #[Y,Y,Y,Y,Y,Y,Y,Y,Y,Z,Z,Z] rfl rfl (one_of HT_.out (by kernel_rfl)) (by decide) (fun K hK => ?_)
  refine goes_ Tryd.func24 (by kernel_rfl) rfl #[.slice A4 s.f4.length c4, .int .i64 0, .func (.func 10) #[] #[]] (by rfl) rfl rfl (by (try simp only [List.map_toArray, List.map_cons, List.map_nil]); first | done | rfl) ?_
  refine (at_c _ A4 c4 s.f4 0 (by decide) (Kd.C_below HR.out HB.out) hc hx (GOk.le HG.out HB.out)).mono ?_
  rintro e wa0 ⟨rfl, qb⟩
  refine ⟨_, rfl, ?_⟩
  replace HX := Aside0.mk (blk_below HX.out qb)
  replace HP := Aside0.mk (HP.out.below qb)
  replace HK := Aside0.mk (HK.out.trans (kept_below qb))
  replace HB := Aside0.mk (below_step HB.out qb)
  clear qb
  refine hK.out _ _ ⟨(blk_celln HX.out 1 _ rfl), (blk_celln HX.out 2 _ rfl), (blk_celln HX.out 3 _ rfl), (blk_celln HX.out 4 _ rfl)⟩ (fun hHeld => ?_)
  clear hK K
  refine norm_ (a' := ?_) ?_ ?_
  rotate_left
  · show Act.put _ (some 12) _ = _
    simp only [Act.put, pA, pB, pC, i64_w, i32_w]
    rfl
  refine pure_ (i := 9) (N := some 13) (v := ?_) (a' := ?_) #[Y,Y,Y,Y,Y,Y,Y,Y,Y,Y,Z,Z] rfl rfl (any_of HT_.out (by kernel_rfl)) (fun _ _ _ h => h) (Or.inl ⟨by rfl, ?_⟩) ?_ ?_
  rotate_left
  · intro w'
    go_simp
    with_reducible rfl
  rotate_left
  · simp only [Act.put, pA, pB, pC, i64_w, i32_w]
    rfl
  refine one_ (i := 10) (N := some 14) #[Y,Y,Y,Y,Y,Y,Y,Y,Y,Y,Y,Z] rfl rfl (one_of HT_.out (by kernel_rfl)) (by decide) (fun K hK => ?_)
  refine lit_step ?hg (N := 14) ?hd (n := 4) (cs := ⟨[(⟨#[115, 116, 111, 114, 101]⟩ : ByteArray), (modeS s.f1), s.f3, ((kidS 13 s.f4 0) ++ (⟨#[59]⟩ : ByteArray))].map Value.string⟩) (t := 9) ?hr ?_; (case hd => rfl); (case hg => rfl); (case hr => first | (go_simp; done) | (go_simp; rfl))
  intro gs hg_ w9 hbox_ hq_
  have HL := Aside0.mk hbox_
  replace HX := Aside0.mk (blk_below HX.out hq_)
  replace HP := Aside0.mk (HP.out.below hq_)
  replace HK := Aside0.mk (HK.out.trans (kept_below hq_))
  replace HB := Aside0.mk (below_step HB.out hq_)
  clear hg_ hbox_ hq_
  refine hK.out _ _ ⟨(blk_celln HX.out 1 _ rfl), (blk_celln HX.out 2 _ rfl), (blk_celln HX.out 3 _ rfl), (blk_celln HX.out 4 _ rfl)⟩ (fun hHeld => ?_)
  clear hK K
  refine norm_ (a' := ?_) ?_ ?_
  rotate_left
  · show Act.put _ (some 14) _ = _
    simp only [Act.put, pA, pB, pC, i64_w, i32_w]
    rfl
  refine last_ (i := 11) (N := some 15) #[Y,Y,Y,Y,Y,Y,Y,Y,Y,Y,Y,Y] rfl rfl (one_of HT_.out (by kernel_rfl)) (by decide) (fun K hK => ?_)
  refine goes_ Tryd.func17 (by kernel_rfl) rfl #[.pointer (some ⟨g, 0, none⟩), .slice (some ⟨gs, 0, none⟩) 4 4] (by rfl) rfl rfl (by (try simp only [List.map_toArray, List.map_cons, List.map_nil]); first | done | rfl) ?_
  have hW := line_c B g bs d _ (some ⟨gs, 0, none⟩) 4 [(⟨#[115, 116, 111, 114, 101]⟩ : ByteArray), (modeS s.f1), s.f3, ((kidS 13 s.f4 0) ++ (⟨#[59]⟩ : ByteArray))] HP.out (by omega) (C_strs (show 4 ≤ 9223372036854775807 by decide) HL.out) (show 4 ≤ 4 by decide) (Nat.le_trans hBw HB.out.size) (show 4 ≤ 1000 by decide) (Nat.le_trans HS.out (by decide)) (by have := HS.out; omega)
  refine hW.mono ?_
  clear hW
  rintro e wz ⟨rfl, q1, q2, q3⟩
  refine ⟨_, rfl, ?_⟩
  have HQ := Aside0.mk q1
  have HB2 := Aside0.mk ((below_at HB.out hBw).trans q2)
  replace HK := Aside0.mk (HK.out.trans q3)
  clear q1 q2 q3
  refine hK.out _ _ ?_
  clear hK K
  refine norm_ (a' := ?_) ?_ ?_
  rotate_left
  · show Act.put _ (some 15) _ = _
    simp only [Act.put, pA, pB, pC, i64_w, i32_w]
    rfl
  refine done_ (done_of HT_.out (by kernel_rfl)) ?_
  clear hHeld
  go_end0
  exact ⟨rfl, HQ.out, HB2.out, HK.out⟩
def addT.T1 : Bool × List (List Nat × List Nat) := (true, [([], []), ([], []), ([1], [1]), ([], []), ([3], [3]), ([4], [4]), ([], []), ([6], [6]), ([], []), ([8], [8]), ([9, 5], [9]), ([10], [10]), ([2, 5, 7, 11], [2, 5, 7, 11]), ([0, 12, 10], [0, 12])])
def addT.B1 : List Nat := [0, 0, 2, 0, 8, 24, 0, 64, 0, 256, 824, 1848, 4094, 8191]
theorem addT.tab1 : rtab .any (opsOf Tryd.f44 1) = addT.T1 := by kernel_rfl
theorem addT.bits1 : waitsOk addT.T1.2 addT.B1 = true := by kernel_rfl
set_option maxHeartbeats 8000000 in
set_option maxRecDepth 100000 in
theorem add_c (B g : Nat) (bs : List Value) (d : Nat) (w : World) (s : S45) (A4 A5 A6 : Option Addr) (c4 c5 c6 : Nat) (h : IsPG B g bs d w) (hd : d ≤ 100) (hr : Kd.C k31 w A4 s.f4.length s.f4) (hc : s.f4.length ≤ c4) (hx : ∀ x ∈ s.f4, EX 13 x) (h2 : s.f2.size ≤ 40) (h3 : s.f3.size ≤ 40) (hBw : B ≤ w.heap.size) (hlen : bs.length + 2000000 ≤ 140737488355328) (hG : GOk w) : Calls Tryd.prog 44 #[.pointer (some ⟨g, 0, none⟩), .agg #[.int .i64 s.f0, .int .i64 s.f1, .string s.f2, .string s.f3, .slice A4 s.f4.length c4, .slice A5 s.f5.length c5, .slice A6 s.f6.length c6]] w fun e w' => e = .returned (.tuple #[]) ∧ PG B g (.pointer (some ⟨g, 0, none⟩)) (bs ++ Lib.strCells (lineS d [s.f2, (⟨#[61, 32, 97, 100, 100]⟩ : ByteArray), (modeS s.f1), s.f3, ((kidS 13 s.f4 0) ++ (⟨#[59]⟩ : ByteArray))])) d w' ∧ Below B w w' ∧ Lib.OthersKept 5 (some g) w w' := by
  have hu45 := Tryd.underlying45
  have s0 := Nat.le_trans (kidS_size hx 0) (bnd_le 13 (by decide))
  have s1 := Nat.le_trans (kidS_size hx 1) (bnd_le 13 (by decide))
  have sm := mode_size s.f1
  have hsz : (lineS d [s.f2, (⟨#[61, 32, 97, 100, 100]⟩ : ByteArray), (modeS s.f1), s.f3, ((kidS 13 s.f4 0) ++ (⟨#[59]⟩ : ByteArray))]).size ≤ 1900000 := by
    refine Nat.le_trans (lineS_size d _) ?_
    simp only [List.map_cons, List.map_nil, List.sum_cons, List.sum_nil, ByteArray.size_append, z59, z44, show (⟨#[61, 32, 97, 100, 100]⟩ : ByteArray).size = 5 from rfl]
    omega
  have k1 : (9223372036854775807 < (kidS 13 s.f4 0).size + 1) = False := eq_false (by omega)
  have k2 : (9223372036854775807 < (kidS 13 s.f4 1).size + 1) = False := eq_false (by omega)
  have k3 : (9223372036854775807 < s.f3.size + 1) = False := eq_false (by omega)
  have k4 : (9223372036854775807 < (modeS s.f1).size + 1) = False := eq_false (by omega)
  have HP := Aside0.mk h
  have HR := Aside0.mk hr
  have HG := Aside0.mk hG
  have HB := Aside0.mk (Below.refl w.heap.size w)
  have HK := Aside0.mk (Lib.OthersKept.refl 5 (some g) w)
  have HS := Aside0.mk hsz
  clear h hr hG hsz s0 s1 sm
  go_enter Tryd.func44, Tryd.ntmps44
  go_upto_region 1 with ((with_reducible refine gate_dst (N := 3) rfl ?_); refine box_event ?hg (N := 3) ?hd (cs := #[.int .i64 s.f0, .int .i64 s.f1, .string s.f2, .string s.f3, .slice A4 s.f4.length c4, .slice A5 s.f5.length c5, .slice A6 s.f6.length c6]) (t := 45) ?hr ?_; (case hd => rfl); (case hg => rfl); (case hr => first | (go_simp; done) | (go_simp; rfl)); intro g1 hg1 w1 hbox hb1; have HX := Aside0.mk hbox; replace HP := Aside0.mk (HP.out.below hb1); replace HK := Aside0.mk (HK.out.trans (kept_below hb1)); replace HB := Aside0.mk (below_step HB.out hb1); clear hg1 hb1 hbox)
  replace HX := Aside0.mk (blk_drew HX.out)
  replace HP := Aside0.mk (HP.out.below (below_drew (Below.refl _ _)))
  replace HB := Aside0.mk (below_drew HB.out)
  replace HK := Aside0.mk HK.out.drew
  refine start_ (n := 14) (S := fun w' => w'.cell? ⟨g1, 1, none⟩ = some (.int .i64 s.f1) ∧ w'.cell? ⟨g1, 2, none⟩ = some (.string s.f2) ∧ w'.cell? ⟨g1, 3, none⟩ = some (.string s.f3) ∧ w'.cell? ⟨g1, 4, none⟩ = some (.slice A4 s.f4.length c4)) (ds := [13]) #[Z,Z,Z,Z,Z,Z,Z,Z,Z,Z,Z,Z,Z,Z] (by kernel_rfl) rfl rfl ⟨(blk_celln HX.out 1 _ rfl), (blk_celln HX.out 2 _ rfl), (blk_celln HX.out 3 _ rfl), (blk_celln HX.out 4 _ rfl)⟩ (fun hHeld => ?_)
  refine with_tabW addT.tab1 addT.bits1 (fun HT_ HW_ => ?_)
  generalize World.drew _ = wd at HX HP HK HB hHeld ⊢
  refine pure_ (i := 0) (N := some 4) (v := ?_) (a' := ?_) #[Y,Z,Z,Z,Z,Z,Z,Z,Z,Z,Z,Z,Z,Z] rfl rfl (any_of HT_.out (by kernel_rfl)) (fun _ _ _ h => h) (Or.inl ⟨by rfl, ?_⟩) ?_ ?_
  rotate_left
  · intro w'
    go_simp
    with_reducible rfl
  rotate_left
  · simp only [Act.put, pA, pB, pC, i64_w, i32_w]
    rfl
  refine pure_ (i := 1) (N := some 5) (v := ?_) (a' := ?_) #[Y,Y,Z,Z,Z,Z,Z,Z,Z,Z,Z,Z,Z,Z] rfl rfl (any_of HT_.out (by kernel_rfl)) (fun _ _ _ h => h) (Or.inl ⟨by rfl, ?_⟩) ?_ ?_
  rotate_left
  · intro w'
    go_simp
    with_reducible rfl
  rotate_left
  · simp only [Act.put, pA, pB, pC, i64_w, i32_w]
    rfl
  refine take_ (i := 2) (N := some 6) (v := ?_) (a' := ?_) #[Y,Y,Y,Z,Z,Z,Z,Z,Z,Z,Z,Z,Z,Z] rfl rfl (take_ofW HT_.out HW_.out (by kernel_rfl)) (fun _ _ _ h => h) (Or.inl ⟨by rfl, ?_⟩) hHeld ?_ ?_
  rotate_left
  · rintro w' ⟨s0, s1, s2, s3⟩
    go_simp
    with_reducible rfl
  rotate_left
  · simp only [Act.put, pA, pB, pC, i64_w, i32_w]
    rfl
  refine pure_ (i := 3) (N := some 7) (v := ?_) (a' := ?_) #[Y,Y,Y,Y,Z,Z,Z,Z,Z,Z,Z,Z,Z,Z] rfl rfl (any_of HT_.out (by kernel_rfl)) (fun _ _ _ h => h) (Or.inl ⟨by rfl, ?_⟩) ?_ ?_
  rotate_left
  · intro w'
    go_simp
    with_reducible rfl
  rotate_left
  · simp only [Act.put, pA, pB, pC, i64_w, i32_w]
    rfl
  refine take_ (i := 4) (N := some 8) (v := ?_) (a' := ?_) #[Y,Y,Y,Y,Y,Z,Z,Z,Z,Z,Z,Z,Z,Z] rfl rfl (take_ofW HT_.out HW_.out (by kernel_rfl)) (fun _ _ _ h => h) (Or.inl ⟨by rfl, ?_⟩) hHeld ?_ ?_
  rotate_left
  · rintro w' ⟨s0, s1, s2, s3⟩
    go_simp
    with_reducible rfl
  rotate_left
  · simp only [Act.put, pA, pB, pC, i64_w, i32_w]
    rfl
  refine pure_ (i := 6) (N := some 10) (v := ?_) (a' := ?_) #[Y,Y,Y,Y,Y,Z,Y,Z,Z,Z,Z,Z,Z,Z] rfl rfl (any_of HT_.out (by kernel_rfl)) (fun _ _ _ h => h) (Or.inl ⟨by rfl, ?_⟩) ?_ ?_
  rotate_left
  · intro w'
    go_simp
    with_reducible rfl
  rotate_left
  · simp only [Act.put, pA, pB, pC, i64_w, i32_w]
    rfl
  refine take_ (i := 7) (N := some 11) (v := ?_) (a' := ?_) #[Y,Y,Y,Y,Y,Z,Y,Y,Z,Z,Z,Z,Z,Z] rfl rfl (take_ofW HT_.out HW_.out (by kernel_rfl)) (fun _ _ _ h => h) (Or.inl ⟨by rfl, ?_⟩) hHeld ?_ ?_
  rotate_left
  · rintro w' ⟨s0, s1, s2, s3⟩
    go_simp
    with_reducible rfl
  rotate_left
  · simp only [Act.put, pA, pB, pC, i64_w, i32_w]
    rfl
  refine pure_ (i := 8) (N := some 12) (v := ?_) (a' := ?_) #[Y,Y,Y,Y,Y,Z,Y,Y,Y,Z,Z,Z,Z,Z] rfl rfl (any_of HT_.out (by kernel_rfl)) (fun _ _ _ h => h) (Or.inl ⟨by rfl, ?_⟩) ?_ ?_
  rotate_left
  · intro w'
    go_simp
    with_reducible rfl
  rotate_left
  · simp only [Act.put, pA, pB, pC, i64_w, i32_w]
    rfl
  refine take_ (i := 9) (N := some 13) (v := ?_) (a' := ?_) #[Y,Y,Y,Y,Y,Z,Y,Y,Y,Y,Z,Z,Z,Z] rfl rfl (take_ofW HT_.out HW_.out (by kernel_rfl)) (fun _ _ _ h => h) (Or.inl ⟨by rfl, ?_⟩) hHeld ?_ ?_
  rotate_left
  · rintro w' ⟨s0, s1, s2, s3⟩
    go_simp
    with_reducible rfl
  rotate_left
  · simp only [Act.put, pA, pB, pC, i64_w, i32_w]
    rfl
  refine one_ (i := 5) (N := some 9) #[Y,Y,Y,Y,Y,Y,Y,Y,Y,Y,Z,Z,Z,Z] rfl rfl (one_of HT_.out (by kernel_rfl)) (by decide) (fun K hK => ?_)
  refine goes_ Tryd.func14 (by kernel_rfl) rfl #[.int .i64 s.f1] (by rfl) rfl rfl (by (try simp only [List.map_toArray, List.map_cons, List.map_nil]); first | done | rfl) ?_
  refine (mode_c s.f1 _).mono ?_
  rintro e wm ⟨rfl, qb⟩
  refine ⟨_, rfl, ?_⟩
  replace HX := Aside0.mk (blk_below HX.out qb)
  replace HP := Aside0.mk (HP.out.below qb)
  replace HK := Aside0.mk (HK.out.trans (kept_below qb))
  replace HB := Aside0.mk (below_step HB.out qb)
  clear qb
  refine hK.out _ _ ⟨(blk_celln HX.out 1 _ rfl), (blk_celln HX.out 2 _ rfl), (blk_celln HX.out 3 _ rfl), (blk_celln HX.out 4 _ rfl)⟩ (fun hHeld => ?_)
  clear hK K
  refine norm_ (a' := ?_) ?_ ?_
  rotate_left
  · show Act.put _ (some 9) _ = _
    simp only [Act.put, pA, pB, pC, i64_w, i32_w]
    rfl
  refine one_ (i := 10) (N := some 14) #[Y,Y,Y,Y,Y,Y,Y,Y,Y,Y,Y,Z,Z,Z] rfl rfl (one_of HT_.out (by kernel_rfl)) (by decide) (fun K hK => ?_)
  refine goes_ Tryd.func24 (by kernel_rfl) rfl #[.slice A4 s.f4.length c4, .int .i64 0, .func (.func 10) #[] #[]] (by rfl) rfl rfl (by (try simp only [List.map_toArray, List.map_cons, List.map_nil]); first | done | rfl) ?_
  refine (at_c _ A4 c4 s.f4 0 (by decide) (Kd.C_below HR.out HB.out) hc hx (GOk.le HG.out HB.out)).mono ?_
  rintro e wa0 ⟨rfl, qb⟩
  refine ⟨_, rfl, ?_⟩
  replace HX := Aside0.mk (blk_below HX.out qb)
  replace HP := Aside0.mk (HP.out.below qb)
  replace HK := Aside0.mk (HK.out.trans (kept_below qb))
  replace HB := Aside0.mk (below_step HB.out qb)
  clear qb
  refine hK.out _ _ ⟨(blk_celln HX.out 1 _ rfl), (blk_celln HX.out 2 _ rfl), (blk_celln HX.out 3 _ rfl), (blk_celln HX.out 4 _ rfl)⟩ (fun hHeld => ?_)
  clear hK K
  refine norm_ (a' := ?_) ?_ ?_
  rotate_left
  · show Act.put _ (some 14) _ = _
    simp only [Act.put, pA, pB, pC, i64_w, i32_w]
    rfl
  refine pure_ (i := 11) (N := some 15) (v := ?_) (a' := ?_) #[Y,Y,Y,Y,Y,Y,Y,Y,Y,Y,Y,Y,Z,Z] rfl rfl (any_of HT_.out (by kernel_rfl)) (fun _ _ _ h => h) (Or.inl ⟨by rfl, ?_⟩) ?_ ?_
  rotate_left
  · intro w'
    go_simp
    with_reducible rfl
  rotate_left
  · simp only [Act.put, pA, pB, pC, i64_w, i32_w]
    rfl
  refine one_ (i := 12) (N := some 16) #[Y,Y,Y,Y,Y,Y,Y,Y,Y,Y,Y,Y,Y,Z] rfl rfl (one_of HT_.out (by kernel_rfl)) (by decide) (fun K hK => ?_)
  refine lit_step ?hg (N := 16) ?hd (n := 5) (cs := ⟨[s.f2, (⟨#[61, 32, 97, 100, 100]⟩ : ByteArray), (modeS s.f1), s.f3, ((kidS 13 s.f4 0) ++ (⟨#[59]⟩ : ByteArray))].map Value.string⟩) (t := 9) ?hr ?_; (case hd => rfl); (case hg => rfl); (case hr => first | (go_simp; done) | (go_simp; rfl))
  intro gs hg_ w9 hbox_ hq_
  have HL := Aside0.mk hbox_
  replace HX := Aside0.mk (blk_below HX.out hq_)
  replace HP := Aside0.mk (HP.out.below hq_)
  replace HK := Aside0.mk (HK.out.trans (kept_below hq_))
  replace HB := Aside0.mk (below_step HB.out hq_)
  clear hg_ hbox_ hq_
  refine hK.out _ _ ⟨(blk_celln HX.out 1 _ rfl), (blk_celln HX.out 2 _ rfl), (blk_celln HX.out 3 _ rfl), (blk_celln HX.out 4 _ rfl)⟩ (fun hHeld => ?_)
  clear hK K
  refine norm_ (a' := ?_) ?_ ?_
  rotate_left
  · show Act.put _ (some 16) _ = _
    simp only [Act.put, pA, pB, pC, i64_w, i32_w]
    rfl
  refine last_ (i := 13) (N := some 17) #[Y,Y,Y,Y,Y,Y,Y,Y,Y,Y,Y,Y,Y,Y] rfl rfl (one_of HT_.out (by kernel_rfl)) (by decide) (fun K hK => ?_)
  refine goes_ Tryd.func17 (by kernel_rfl) rfl #[.pointer (some ⟨g, 0, none⟩), .slice (some ⟨gs, 0, none⟩) 5 5] (by rfl) rfl rfl (by (try simp only [List.map_toArray, List.map_cons, List.map_nil]); first | done | rfl) ?_
  have hW := line_c B g bs d _ (some ⟨gs, 0, none⟩) 5 [s.f2, (⟨#[61, 32, 97, 100, 100]⟩ : ByteArray), (modeS s.f1), s.f3, ((kidS 13 s.f4 0) ++ (⟨#[59]⟩ : ByteArray))] HP.out (by omega) (C_strs (show 5 ≤ 9223372036854775807 by decide) HL.out) (show 5 ≤ 5 by decide) (Nat.le_trans hBw HB.out.size) (show 5 ≤ 1000 by decide) (Nat.le_trans HS.out (by decide)) (by have := HS.out; omega)
  refine hW.mono ?_
  clear hW
  rintro e wz ⟨rfl, q1, q2, q3⟩
  refine ⟨_, rfl, ?_⟩
  have HQ := Aside0.mk q1
  have HB2 := Aside0.mk ((below_at HB.out hBw).trans q2)
  replace HK := Aside0.mk (HK.out.trans q3)
  clear q1 q2 q3
  refine hK.out _ _ ?_
  clear hK K
  refine norm_ (a' := ?_) ?_ ?_
  rotate_left
  · show Act.put _ (some 17) _ = _
    simp only [Act.put, pA, pB, pC, i64_w, i32_w]
    rfl
  refine done_ (done_of HT_.out (by kernel_rfl)) ?_
  clear hHeld
  go_end0
  exact ⟨rfl, HQ.out, HB2.out, HK.out⟩
def casT.T1 : Bool × List (List Nat × List Nat) := (true, [([], []), ([], []), ([1], [1]), ([], []), ([3], [3]), ([4], [4]), ([], []), ([6], [6]), ([], []), ([8], [8]), ([9, 5], [9]), ([10], [10]), ([], []), ([12], [12]), ([13, 10], [13]), ([14], [14]), ([2, 5, 7, 11, 15], [2, 5, 7, 11, 15]), ([0, 16, 14], [0, 16])])
def casT.B1 : List Nat := [0, 0, 2, 0, 8, 24, 0, 64, 0, 256, 824, 1848, 0, 4096, 14136, 30520, 65534, 131071]
theorem casT.tab1 : rtab .any (opsOf Tryd.f45 1) = casT.T1 := by kernel_rfl
theorem casT.bits1 : waitsOk casT.T1.2 casT.B1 = true := by kernel_rfl
set_option maxHeartbeats 8000000 in
set_option maxRecDepth 100000 in
theorem cas_c (B g : Nat) (bs : List Value) (d : Nat) (w : World) (s : S45) (A4 A5 A6 : Option Addr) (c4 c5 c6 : Nat) (h : IsPG B g bs d w) (hd : d ≤ 100) (hr : Kd.C k31 w A4 s.f4.length s.f4) (hc : s.f4.length ≤ c4) (hx : ∀ x ∈ s.f4, EX 13 x) (h2 : s.f2.size ≤ 40) (h3 : s.f3.size ≤ 40) (hBw : B ≤ w.heap.size) (hlen : bs.length + 2000000 ≤ 140737488355328) (hG : GOk w) : Calls Tryd.prog 45 #[.pointer (some ⟨g, 0, none⟩), .agg #[.int .i64 s.f0, .int .i64 s.f1, .string s.f2, .string s.f3, .slice A4 s.f4.length c4, .slice A5 s.f5.length c5, .slice A6 s.f6.length c6]] w fun e w' => e = .returned (.tuple #[]) ∧ PG B g (.pointer (some ⟨g, 0, none⟩)) (bs ++ Lib.strCells (lineS d [s.f2, (⟨#[61, 32, 99, 97, 115]⟩ : ByteArray), (modeS s.f1), s.f3, ((kidS 13 s.f4 0) ++ (⟨#[44]⟩ : ByteArray)), ((kidS 13 s.f4 1) ++ (⟨#[59]⟩ : ByteArray))])) d w' ∧ Below B w w' ∧ Lib.OthersKept 5 (some g) w w' := by
  have hu45 := Tryd.underlying45
  have s0 := Nat.le_trans (kidS_size hx 0) (bnd_le 13 (by decide))
  have s1 := Nat.le_trans (kidS_size hx 1) (bnd_le 13 (by decide))
  have sm := mode_size s.f1
  have hsz : (lineS d [s.f2, (⟨#[61, 32, 99, 97, 115]⟩ : ByteArray), (modeS s.f1), s.f3, ((kidS 13 s.f4 0) ++ (⟨#[44]⟩ : ByteArray)), ((kidS 13 s.f4 1) ++ (⟨#[59]⟩ : ByteArray))]).size ≤ 1900000 := by
    refine Nat.le_trans (lineS_size d _) ?_
    simp only [List.map_cons, List.map_nil, List.sum_cons, List.sum_nil, ByteArray.size_append, z59, z44, show (⟨#[61, 32, 99, 97, 115]⟩ : ByteArray).size = 5 from rfl]
    omega
  have k1 : (9223372036854775807 < (kidS 13 s.f4 0).size + 1) = False := eq_false (by omega)
  have k2 : (9223372036854775807 < (kidS 13 s.f4 1).size + 1) = False := eq_false (by omega)
  have k3 : (9223372036854775807 < s.f3.size + 1) = False := eq_false (by omega)
  have k4 : (9223372036854775807 < (modeS s.f1).size + 1) = False := eq_false (by omega)
  have HP := Aside0.mk h
  have HR := Aside0.mk hr
  have HG := Aside0.mk hG
  have HB := Aside0.mk (Below.refl w.heap.size w)
  have HK := Aside0.mk (Lib.OthersKept.refl 5 (some g) w)
  have HS := Aside0.mk hsz
  clear h hr hG hsz s0 s1 sm
  go_enter Tryd.func45, Tryd.ntmps45
  go_upto_region 1 with ((with_reducible refine gate_dst (N := 3) rfl ?_); refine box_event ?hg (N := 3) ?hd (cs := #[.int .i64 s.f0, .int .i64 s.f1, .string s.f2, .string s.f3, .slice A4 s.f4.length c4, .slice A5 s.f5.length c5, .slice A6 s.f6.length c6]) (t := 45) ?hr ?_; (case hd => rfl); (case hg => rfl); (case hr => first | (go_simp; done) | (go_simp; rfl)); intro g1 hg1 w1 hbox hb1; have HX := Aside0.mk hbox; replace HP := Aside0.mk (HP.out.below hb1); replace HK := Aside0.mk (HK.out.trans (kept_below hb1)); replace HB := Aside0.mk (below_step HB.out hb1); clear hg1 hb1 hbox)
  replace HX := Aside0.mk (blk_drew HX.out)
  replace HP := Aside0.mk (HP.out.below (below_drew (Below.refl _ _)))
  replace HB := Aside0.mk (below_drew HB.out)
  replace HK := Aside0.mk HK.out.drew
  refine start_ (n := 18) (S := fun w' => w'.cell? ⟨g1, 1, none⟩ = some (.int .i64 s.f1) ∧ w'.cell? ⟨g1, 2, none⟩ = some (.string s.f2) ∧ w'.cell? ⟨g1, 3, none⟩ = some (.string s.f3) ∧ w'.cell? ⟨g1, 4, none⟩ = some (.slice A4 s.f4.length c4)) (ds := [17]) #[Z,Z,Z,Z,Z,Z,Z,Z,Z,Z,Z,Z,Z,Z,Z,Z,Z,Z] (by kernel_rfl) rfl rfl ⟨(blk_celln HX.out 1 _ rfl), (blk_celln HX.out 2 _ rfl), (blk_celln HX.out 3 _ rfl), (blk_celln HX.out 4 _ rfl)⟩ (fun hHeld => ?_)
  refine with_tabW casT.tab1 casT.bits1 (fun HT_ HW_ => ?_)
  generalize World.drew _ = wd at HX HP HK HB hHeld ⊢
  refine pure_ (i := 0) (N := some 4) (v := ?_) (a' := ?_) #[Y,Z,Z,Z,Z,Z,Z,Z,Z,Z,Z,Z,Z,Z,Z,Z,Z,Z] rfl rfl (any_of HT_.out (by kernel_rfl)) (fun _ _ _ h => h) (Or.inl ⟨by rfl, ?_⟩) ?_ ?_
  rotate_left
  · intro w'
    go_simp
    with_reducible rfl
  rotate_left
  · simp only [Act.put, pA, pB, pC, i64_w, i32_w]
    rfl
  refine pure_ (i := 1) (N := some 5) (v := ?_) (a' := ?_) #[Y,Y,Z,Z,Z,Z,Z,Z,Z,Z,Z,Z,Z,Z,Z,Z,Z,Z] rfl rfl (any_of HT_.out (by kernel_rfl)) (fun _ _ _ h => h) (Or.inl ⟨by rfl, ?_⟩) ?_ ?_
  rotate_left
  · intro w'
    go_simp
    with_reducible rfl
  rotate_left
  · simp only [Act.put, pA, pB, pC, i64_w, i32_w]
    rfl
  refine take_ (i := 2) (N := some 6) (v := ?_) (a' := ?_) #[Y,Y,Y,Z,Z,Z,Z,Z,Z,Z,Z,Z,Z,Z,Z,Z,Z,Z] rfl rfl (take_ofW HT_.out HW_.out (by kernel_rfl)) (fun _ _ _ h => h) (Or.inl ⟨by rfl, ?_⟩) hHeld ?_ ?_
  rotate_left
  · rintro w' ⟨s0, s1, s2, s3⟩
    go_simp
    with_reducible rfl
  rotate_left
  · simp only [Act.put, pA, pB, pC, i64_w, i32_w]
    rfl
  refine pure_ (i := 3) (N := some 7) (v := ?_) (a' := ?_) #[Y,Y,Y,Y,Z,Z,Z,Z,Z,Z,Z,Z,Z,Z,Z,Z,Z,Z] rfl rfl (any_of HT_.out (by kernel_rfl)) (fun _ _ _ h => h) (Or.inl ⟨by rfl, ?_⟩) ?_ ?_
  rotate_left
  · intro w'
    go_simp
    with_reducible rfl
  rotate_left
  · simp only [Act.put, pA, pB, pC, i64_w, i32_w]
    rfl
  refine take_ (i := 4) (N := some 8) (v := ?_) (a' := ?_) #[Y,Y,Y,Y,Y,Z,Z,Z,Z,Z,Z,Z,Z,Z,Z,Z,Z,Z] rfl rfl (take_ofW HT_.out HW_.out (by kernel_rfl)) (fun _ _ _ h => h) (Or.inl ⟨by rfl, ?_⟩) hHeld ?_ ?_
  rotate_left
  · rintro w' ⟨s0, s1, s2, s3⟩
    go_simp
    with_reducible rfl
  rotate_left
  · simp only [Act.put, pA, pB, pC, i64_w, i32_w]
    rfl
  refine pure_ (i := 6) (N := some 10) (v := ?_) (a' := ?_) #[Y,Y,Y,Y,Y,Z,Y,Z,Z,Z,Z,Z,Z,Z,Z,Z,Z,Z] rfl rfl (any_of HT_.out (by kernel_rfl)) (fun _ _ _ h => h) (Or.inl ⟨by rfl, ?_⟩) ?_ ?_
  rotate_left
  · intro w'
    go_simp
    with_reducible rfl
  rotate_left
  · simp only [Act.put, pA, pB, pC, i64_w, i32_w]
    rfl
  refine take_ (i := 7) (N := some 11) (v := ?_) (a' := ?_) #[Y,Y,Y,Y,Y,Z,Y,Y,Z,Z,Z,Z,Z,Z,Z,Z,Z,Z] rfl rfl (take_ofW HT_.out HW_.out (by kernel_rfl)) (fun _ _ _ h => h) (Or.inl ⟨by rfl, ?_⟩) hHeld ?_ ?_
  rotate_left
  · rintro w' ⟨s0, s1, s2, s3⟩
    go_simp
    with_reducible rfl
  rotate_left
  · simp only [Act.put, pA, pB, pC, i64_w, i32_w]
    rfl
  refine pure_ (i := 8) (N := some 12) (v := ?_) (a' := ?_) #[Y,Y,Y,Y,Y,Z,Y,Y,Y,Z,Z,Z,Z,Z,Z,Z,Z,Z] rfl rfl (any_of HT_.out (by kernel_rfl)) (fun _ _ _ h => h) (Or.inl ⟨by rfl, ?_⟩) ?_ ?_
  rotate_left
  · intro w'
    go_simp
    with_reducible rfl
  rotate_left
  · simp only [Act.put, pA, pB, pC, i64_w, i32_w]
    rfl
  refine take_ (i := 9) (N := some 13) (v := ?_) (a' := ?_) #[Y,Y,Y,Y,Y,Z,Y,Y,Y,Y,Z,Z,Z,Z,Z,Z,Z,Z] rfl rfl (take_ofW HT_.out HW_.out (by kernel_rfl)) (fun _ _ _ h => h) (Or.inl ⟨by rfl, ?_⟩) hHeld ?_ ?_
  rotate_left
  · rintro w' ⟨s0, s1, s2, s3⟩
    go_simp
    with_reducible rfl
  rotate_left
  · simp only [Act.put, pA, pB, pC, i64_w, i32_w]
    rfl
  refine pure_ (i := 12) (N := some 16) (v := ?_) (a' := ?_) #[Y,Y,Y,Y,Y,Z,Y,Y,Y,Y,Z,Z,Y,Z,Z,Z,Z,Z] rfl rfl (any_of HT_.out (by kernel_rfl)) (fun _ _ _ h => h) (Or.inl ⟨by rfl, ?_⟩) ?_ ?_
  rotate_left
  · intro w'
    go_simp
    with_reducible rfl
  rotate_left
  · simp only [Act.put, pA, pB, pC, i64_w, i32_w]
    rfl
  refine take_ (i := 13) (N := some 17) (v := ?_) (a' := ?_) #[Y,Y,Y,Y,Y,Z,Y,Y,Y,Y,Z,Z,Y,Y,Z,Z,Z,Z] rfl rfl (take_ofW HT_.out HW_.out (by kernel_rfl)) (fun _ _ _ h => h) (Or.inl ⟨by rfl, ?_⟩) hHeld ?_ ?_
  rotate_left
  · rintro w' ⟨s0, s1, s2, s3⟩
    go_simp
    with_reducible rfl
  rotate_left
  · simp only [Act.put, pA, pB, pC, i64_w, i32_w]
    rfl
  refine one_ (i := 5) (N := some 9) #[Y,Y,Y,Y,Y,Y,Y,Y,Y,Y,Z,Z,Y,Y,Z,Z,Z,Z] rfl rfl (one_of HT_.out (by kernel_rfl)) (by decide) (fun K hK => ?_)
  refine goes_ Tryd.func14 (by kernel_rfl) rfl #[.int .i64 s.f1] (by rfl) rfl rfl (by (try simp only [List.map_toArray, List.map_cons, List.map_nil]); first | done | rfl) ?_
  refine (mode_c s.f1 _).mono ?_
  rintro e wm ⟨rfl, qb⟩
  refine ⟨_, rfl, ?_⟩
  replace HX := Aside0.mk (blk_below HX.out qb)
  replace HP := Aside0.mk (HP.out.below qb)
  replace HK := Aside0.mk (HK.out.trans (kept_below qb))
  replace HB := Aside0.mk (below_step HB.out qb)
  clear qb
  refine hK.out _ _ ⟨(blk_celln HX.out 1 _ rfl), (blk_celln HX.out 2 _ rfl), (blk_celln HX.out 3 _ rfl), (blk_celln HX.out 4 _ rfl)⟩ (fun hHeld => ?_)
  clear hK K
  refine norm_ (a' := ?_) ?_ ?_
  rotate_left
  · show Act.put _ (some 9) _ = _
    simp only [Act.put, pA, pB, pC, i64_w, i32_w]
    rfl
  refine one_ (i := 10) (N := some 14) #[Y,Y,Y,Y,Y,Y,Y,Y,Y,Y,Y,Z,Y,Y,Z,Z,Z,Z] rfl rfl (one_of HT_.out (by kernel_rfl)) (by decide) (fun K hK => ?_)
  refine goes_ Tryd.func24 (by kernel_rfl) rfl #[.slice A4 s.f4.length c4, .int .i64 0, .func (.func 10) #[] #[]] (by rfl) rfl rfl (by (try simp only [List.map_toArray, List.map_cons, List.map_nil]); first | done | rfl) ?_
  refine (at_c _ A4 c4 s.f4 0 (by decide) (Kd.C_below HR.out HB.out) hc hx (GOk.le HG.out HB.out)).mono ?_
  rintro e wa0 ⟨rfl, qb⟩
  refine ⟨_, rfl, ?_⟩
  replace HX := Aside0.mk (blk_below HX.out qb)
  replace HP := Aside0.mk (HP.out.below qb)
  replace HK := Aside0.mk (HK.out.trans (kept_below qb))
  replace HB := Aside0.mk (below_step HB.out qb)
  clear qb
  refine hK.out _ _ ⟨(blk_celln HX.out 1 _ rfl), (blk_celln HX.out 2 _ rfl), (blk_celln HX.out 3 _ rfl), (blk_celln HX.out 4 _ rfl)⟩ (fun hHeld => ?_)
  clear hK K
  refine norm_ (a' := ?_) ?_ ?_
  rotate_left
  · show Act.put _ (some 14) _ = _
    simp only [Act.put, pA, pB, pC, i64_w, i32_w]
    rfl
  refine pure_ (i := 11) (N := some 15) (v := ?_) (a' := ?_) #[Y,Y,Y,Y,Y,Y,Y,Y,Y,Y,Y,Y,Y,Y,Z,Z,Z,Z] rfl rfl (any_of HT_.out (by kernel_rfl)) (fun _ _ _ h => h) (Or.inl ⟨by rfl, ?_⟩) ?_ ?_
  rotate_left
  · intro w'
    go_simp
    with_reducible rfl
  rotate_left
  · simp only [Act.put, pA, pB, pC, i64_w, i32_w]
    rfl
  refine one_ (i := 14) (N := some 18) #[Y,Y,Y,Y,Y,Y,Y,Y,Y,Y,Y,Y,Y,Y,Y,Z,Z,Z] rfl rfl (one_of HT_.out (by kernel_rfl)) (by decide) (fun K hK => ?_)
  refine goes_ Tryd.func24 (by kernel_rfl) rfl #[.slice A4 s.f4.length c4, .int .i64 1, .func (.func 10) #[] #[]] (by rfl) rfl rfl (by (try simp only [List.map_toArray, List.map_cons, List.map_nil]); first | done | rfl) ?_
  refine (at_c _ A4 c4 s.f4 1 (by decide) (Kd.C_below HR.out HB.out) hc hx (GOk.le HG.out HB.out)).mono ?_
  rintro e wa1 ⟨rfl, qb⟩
  refine ⟨_, rfl, ?_⟩
  replace HX := Aside0.mk (blk_below HX.out qb)
  replace HP := Aside0.mk (HP.out.below qb)
  replace HK := Aside0.mk (HK.out.trans (kept_below qb))
  replace HB := Aside0.mk (below_step HB.out qb)
  clear qb
  refine hK.out _ _ ⟨(blk_celln HX.out 1 _ rfl), (blk_celln HX.out 2 _ rfl), (blk_celln HX.out 3 _ rfl), (blk_celln HX.out 4 _ rfl)⟩ (fun hHeld => ?_)
  clear hK K
  refine norm_ (a' := ?_) ?_ ?_
  rotate_left
  · show Act.put _ (some 18) _ = _
    simp only [Act.put, pA, pB, pC, i64_w, i32_w]
    rfl
  refine pure_ (i := 15) (N := some 19) (v := ?_) (a' := ?_) #[Y,Y,Y,Y,Y,Y,Y,Y,Y,Y,Y,Y,Y,Y,Y,Y,Z,Z] rfl rfl (any_of HT_.out (by kernel_rfl)) (fun _ _ _ h => h) (Or.inl ⟨by rfl, ?_⟩) ?_ ?_
  rotate_left
  · intro w'
    go_simp
    with_reducible rfl
  rotate_left
  · simp only [Act.put, pA, pB, pC, i64_w, i32_w]
    rfl
  refine one_ (i := 16) (N := some 20) #[Y,Y,Y,Y,Y,Y,Y,Y,Y,Y,Y,Y,Y,Y,Y,Y,Y,Z] rfl rfl (one_of HT_.out (by kernel_rfl)) (by decide) (fun K hK => ?_)
  refine lit_step ?hg (N := 20) ?hd (n := 6) (cs := ⟨[s.f2, (⟨#[61, 32, 99, 97, 115]⟩ : ByteArray), (modeS s.f1), s.f3, ((kidS 13 s.f4 0) ++ (⟨#[44]⟩ : ByteArray)), ((kidS 13 s.f4 1) ++ (⟨#[59]⟩ : ByteArray))].map Value.string⟩) (t := 9) ?hr ?_; (case hd => rfl); (case hg => rfl); (case hr => first | (go_simp; done) | (go_simp; rfl))
  intro gs hg_ w9 hbox_ hq_
  have HL := Aside0.mk hbox_
  replace HX := Aside0.mk (blk_below HX.out hq_)
  replace HP := Aside0.mk (HP.out.below hq_)
  replace HK := Aside0.mk (HK.out.trans (kept_below hq_))
  replace HB := Aside0.mk (below_step HB.out hq_)
  clear hg_ hbox_ hq_
  refine hK.out _ _ ⟨(blk_celln HX.out 1 _ rfl), (blk_celln HX.out 2 _ rfl), (blk_celln HX.out 3 _ rfl), (blk_celln HX.out 4 _ rfl)⟩ (fun hHeld => ?_)
  clear hK K
  refine norm_ (a' := ?_) ?_ ?_
  rotate_left
  · show Act.put _ (some 20) _ = _
    simp only [Act.put, pA, pB, pC, i64_w, i32_w]
    rfl
  refine last_ (i := 17) (N := some 21) #[Y,Y,Y,Y,Y,Y,Y,Y,Y,Y,Y,Y,Y,Y,Y,Y,Y,Y] rfl rfl (one_of HT_.out (by kernel_rfl)) (by decide) (fun K hK => ?_)
  refine goes_ Tryd.func17 (by kernel_rfl) rfl #[.pointer (some ⟨g, 0, none⟩), .slice (some ⟨gs, 0, none⟩) 6 6] (by rfl) rfl rfl (by (try simp only [List.map_toArray, List.map_cons, List.map_nil]); first | done | rfl) ?_
  have hW := line_c B g bs d _ (some ⟨gs, 0, none⟩) 6 [s.f2, (⟨#[61, 32, 99, 97, 115]⟩ : ByteArray), (modeS s.f1), s.f3, ((kidS 13 s.f4 0) ++ (⟨#[44]⟩ : ByteArray)), ((kidS 13 s.f4 1) ++ (⟨#[59]⟩ : ByteArray))] HP.out (by omega) (C_strs (show 6 ≤ 9223372036854775807 by decide) HL.out) (show 6 ≤ 6 by decide) (Nat.le_trans hBw HB.out.size) (show 6 ≤ 1000 by decide) (Nat.le_trans HS.out (by decide)) (by have := HS.out; omega)
  refine hW.mono ?_
  clear hW
  rintro e wz ⟨rfl, q1, q2, q3⟩
  refine ⟨_, rfl, ?_⟩
  have HQ := Aside0.mk q1
  have HB2 := Aside0.mk ((below_at HB.out hBw).trans q2)
  replace HK := Aside0.mk (HK.out.trans q3)
  clear q1 q2 q3
  refine hK.out _ _ ?_
  clear hK K
  refine norm_ (a' := ?_) ?_ ?_
  rotate_left
  · show Act.put _ (some 21) _ = _
    simp only [Act.put, pA, pB, pC, i64_w, i32_w]
    rfl
  refine done_ (done_of HT_.out (by kernel_rfl)) ?_
  clear hHeld
  go_end0
  exact ⟨rfl, HQ.out, HB2.out, HK.out⟩
set_option maxHeartbeats 8000000 in
set_option maxRecDepth 100000 in
theorem fence_c (B g : Nat) (bs : List Value) (d : Nat) (w : World) (s : S45) (A4 A5 A6 : Option Addr) (c4 c5 c6 : Nat) (h : IsPG B g bs d w) (hd : d ≤ 100) (hr : Kd.C k31 w A4 s.f4.length s.f4) (hc : s.f4.length ≤ c4) (hx : ∀ x ∈ s.f4, EX 13 x) (h2 : s.f2.size ≤ 40) (h3 : s.f3.size ≤ 40) (hBw : B ≤ w.heap.size) (hlen : bs.length + 2000000 ≤ 140737488355328) (hG : GOk w) : Calls Tryd.prog 46 #[.pointer (some ⟨g, 0, none⟩), .agg #[.int .i64 s.f0, .int .i64 s.f1, .string s.f2, .string s.f3, .slice A4 s.f4.length c4, .slice A5 s.f5.length c5, .slice A6 s.f6.length c6]] w fun e w' => e = .returned (.tuple #[]) ∧ PG B g (.pointer (some ⟨g, 0, none⟩)) (bs ++ Lib.strCells (lineS d [(⟨#[102, 101, 110, 99, 101]⟩ : ByteArray), ((modeS s.f1) ++ (⟨#[59]⟩ : ByteArray))])) d w' ∧ Below B w w' ∧ Lib.OthersKept 5 (some g) w w' := by
  have hu45 := Tryd.underlying45
  have s0 := Nat.le_trans (kidS_size hx 0) (bnd_le 13 (by decide))
  have s1 := Nat.le_trans (kidS_size hx 1) (bnd_le 13 (by decide))
  have sm := mode_size s.f1
  have hsz : (lineS d [(⟨#[102, 101, 110, 99, 101]⟩ : ByteArray), ((modeS s.f1) ++ (⟨#[59]⟩ : ByteArray))]).size ≤ 1900000 := by
    refine Nat.le_trans (lineS_size d _) ?_
    simp only [List.map_cons, List.map_nil, List.sum_cons, List.sum_nil, ByteArray.size_append, z59, z44, show (⟨#[102, 101, 110, 99, 101]⟩ : ByteArray).size = 5 from rfl]
    omega
  have k1 : (9223372036854775807 < (kidS 13 s.f4 0).size + 1) = False := eq_false (by omega)
  have k2 : (9223372036854775807 < (kidS 13 s.f4 1).size + 1) = False := eq_false (by omega)
  have k3 : (9223372036854775807 < s.f3.size + 1) = False := eq_false (by omega)
  have k4 : (9223372036854775807 < (modeS s.f1).size + 1) = False := eq_false (by omega)
  have HP := Aside0.mk h
  have HR := Aside0.mk hr
  have HG := Aside0.mk hG
  have HB := Aside0.mk (Below.refl w.heap.size w)
  have HK := Aside0.mk (Lib.OthersKept.refl 5 (some g) w)
  have HS := Aside0.mk hsz
  clear h hr hG hsz s0 s1 sm
  go_enter Tryd.func46, Tryd.ntmps46
  go_upto_region 1 with ((with_reducible refine gate_dst (N := 3) rfl ?_); refine box_event ?hg (N := 3) ?hd (cs := #[.int .i64 s.f0, .int .i64 s.f1, .string s.f2, .string s.f3, .slice A4 s.f4.length c4, .slice A5 s.f5.length c5, .slice A6 s.f6.length c6]) (t := 45) ?hr ?_; (case hd => rfl); (case hg => rfl); (case hr => first | (go_simp; done) | (go_simp; rfl)); intro g1 hg1 w1 hbox hb1; have HX := Aside0.mk hbox; replace HP := Aside0.mk (HP.out.below hb1); replace HK := Aside0.mk (HK.out.trans (kept_below hb1)); replace HB := Aside0.mk (below_step HB.out hb1); clear hg1 hb1 hbox)
  have hz1 := blk_celln (HX.out) 1 _ rfl
  go_wp2_with (fail)
  refine (mode_c s.f1 _).mono ?_
  rintro e wm ⟨rfl, qb⟩
  replace HX := Aside0.mk (blk_below HX.out qb)
  replace HP := Aside0.mk (HP.out.below qb)
  replace HK := Aside0.mk (HK.out.trans (kept_below qb))
  replace HB := Aside0.mk (below_step HB.out qb)
  clear qb hz1
  go_wp2_with ((with_reducible refine gate_dst (N := 9) rfl ?_); refine lit_event ?hg (N := 9) ?hd (n := 2) (cs := ⟨[(⟨#[102, 101, 110, 99, 101]⟩ : ByteArray), ((modeS s.f1) ++ (⟨#[59]⟩ : ByteArray))].map Value.string⟩) (t := 9) ?hr ?_; (case hd => rfl); (case hg => rfl); (case hr => first | (go_simp; done) | (go_simp; rfl)); intro gs hg_ w9 hbox_ hq_; have HL := Aside0.mk hbox_; replace HX := Aside0.mk (blk_below HX.out hq_); replace HP := Aside0.mk (HP.out.below hq_); replace HK := Aside0.mk (HK.out.trans (kept_below hq_)); replace HB := Aside0.mk (below_step HB.out hq_); clear hg_ hbox_ hq_)
  have hW := line_c B g bs d _ (some ⟨gs, 0, none⟩) 2 [(⟨#[102, 101, 110, 99, 101]⟩ : ByteArray), ((modeS s.f1) ++ (⟨#[59]⟩ : ByteArray))] HP.out (by omega) (C_strs (show 2 ≤ 9223372036854775807 by decide) HL.out) (show 2 ≤ 2 by decide) (Nat.le_trans hBw HB.out.size) (show 2 ≤ 1000 by decide) (Nat.le_trans HS.out (by decide)) (by have := HS.out; omega)
  refine hW.mono ?_
  clear hW
  rintro e wz ⟨rfl, q1, q2, q3⟩
  go_wp2
  go_end0
  exact ⟨rfl, q1, (below_at HB.out hBw).trans q2, HK.out.trans q3⟩
end Go.Proofs.YtpldhihdlgghlaaDoor.PS
