/- show's page: a strings.Builder within a struct; its methods walked at the page's own cells. -/
import Derived.Test.YtpldhihdlgghlaaDoorSB
import Derived.Test.YtpldhihdlgghlaaDoorShelf
namespace Go.Proofs.YtpldhihdlgghlaaDoor.PS
open Go.RowKit Go.Proofs.YtpldhihdlgghlaaDoorW.PrintWords Go.Proofs.YtpldhihdlgghlaaDoorW.PrintLast Go.Proofs.YtpldhihdlgghlaaDoorW.PrintMore
set_option linter.unusedVariables false
set_option linter.unusedSimpArgs false
attribute [local go_sem] cell_set_some
/-- A page that stands at a block: its builder's address word, its bytes, how far in. -/
def PG (B g : Nat) (p : Value) (bs : List Value) (d : Int) (w : World) : Prop := B ≤ g ∧ ∃ v, w.heap[g]? = some (.cells #[p, v, .int .i64 d] 53 (0, 0)) ∧ w.ownsRow B 5 1 v bs.length bs ∧ v.ownBlock ≠ some g
/-- .. fresh or used. -/
def IsPG (B g : Nat) (bs : List Value) (d : Int) (w : World) : Prop := PG B g (.pointer none) bs d w ∨ PG B g (.pointer (some ⟨g, 0, none⟩)) bs d w
theorem size51 : (Tryd.prog.info? 51).map (·.size) = some 2 := by kernel_rfl
theorem lies51 : liesAt Tryd.prog Tryd.prog.depth 53 (3 / Tryd.prog.cellsOf 53) 0 51 1 = true := by kernel_rfl
theorem infoU8 : (Tryd.prog.info? 5).map (fun i => (i.zero, i.size, i.bytes)) = some (some (.int .u8 0), 1, 1) := by kernel_rfl
set_option maxHeartbeats 8000000 in
set_option maxRecDepth 100000 in
theorem copyCheck_used (g : Nat) (w : World) (h0 : w.cell? ⟨g, 0, none⟩ = some (.pointer (some ⟨g, 0, none⟩))) :
    Calls Tryd.prog 35 #[.pointer (some ⟨g, 0, none⟩)] w fun e w' => e = .returned (.tuple #[]) ∧ w' = w := by
  obtain ⟨j, hj, _⟩ := Option.map_eq_some_iff.1 size51
  have hu51 := Tryd.underlying51
  have hu48 := Tryd.underlying48
  go_enter Tryd.func35, Tryd.ntmps35
  go_wp2
  rw [Lib.run_neq_ptr_same w _ Tryd.underlying48 hj]
  go_wp2
  go_end0
  exact ⟨rfl, rfl⟩
set_option maxHeartbeats 8000000 in
set_option maxRecDepth 100000 in
theorem copyCheck_fresh (g : Nat) (w : World) (h0 : w.cell? ⟨g, 0, none⟩ = some (.pointer none)) (hsh : w.shape? g = some (53, 3)) (hfz : w.frozen? ⟨g, 0, none⟩ = false) :
    Calls Tryd.prog 35 #[.pointer (some ⟨g, 0, none⟩)] w fun e w' => e = .returned (.tuple #[]) ∧ w' = w.setCell ⟨g, 0, none⟩ (.pointer (some ⟨g, 0, none⟩)) := by
  obtain ⟨j, hj, hjs⟩ := Option.map_eq_some_iff.1 size51
  have hu51 := Tryd.underlying51
  have hu48 := Tryd.underlying48
  have hu80 := Tryd.underlying80
  go_enter Tryd.func35, Tryd.ntmps35
  go_wp2
  rw [Lib.run_to_unsafe w ⟨g, 0, none⟩ Tryd.underlying48 Tryd.underlying80 hj (by rw [hjs]; decide) hsh (show 0 < 3 by decide)]
  simp only [Result.andThen]
  rw [Oper.upon_value]
  go_wp2
  rw [run_callFunc_extern Tryd.func48 (by kernel_rfl) (by kernel_rfl) (by kernel_rfl) (e := Extern.AbiNoEscape.same) (by kernel_rfl)]
  rw [Lib.run_noEscape]
  simp only [Result.andThen]
  rw [Oper.upon_value]
  go_wp2
  rw [Lib.run_from_unsafe w ⟨g, 0, none⟩ Tryd.underlying80 Tryd.underlying48 hj hsh lies51]
  simp only [Result.andThen]
  rw [Oper.upon_value]
  go_wp2
  go_end0
  exact ⟨rfl, rfl⟩
theorem copyCheck_c (B g : Nat) (bs : List Value) (d : Int) (w : World) (h : IsPG B g bs d w) :
    Calls Tryd.prog 35 #[.pointer (some ⟨g, 0, none⟩)] w fun e w' => e = .returned (.tuple #[]) ∧ PG B g (.pointer (some ⟨g, 0, none⟩)) bs d w' ∧ Below B w w' ∧ Lib.OthersKept 5 (some g) w w' := by
  rcases h with h | h
  · obtain ⟨hB, v, hbk, hown, hne⟩ := h
    refine (copyCheck_fresh g w (blk_celln hbk 0 _ rfl) (by simp [World.shape?, hbk]) (blk_frozen hbk 0)).mono ?_
    rintro e w' ⟨rfl, rfl⟩
    refine ⟨rfl, ⟨hB, v, blk_put hbk 0 _ rfl, ?_, hne⟩, (Below.refl B w).setCell (p := ⟨g, 0, none⟩) hB _, (Lib.OthersKept.refl 5 (some g) w).setCell ⟨g, 0, none⟩ rfl _⟩
    exact own_move hown (fun k hk => Below.heap_setCell _ ⟨g, 0, none⟩ _ k (fun e => hne (by rw [hk, e])))
  · have h' := h
    obtain ⟨hB, v, hbk, hown, hne⟩ := h'
    refine (copyCheck_used g w (blk_celln hbk 0 _ rfl)).mono ?_
    rintro e w' ⟨rfl, rfl⟩
    exact ⟨rfl, h, Below.refl B _, Lib.OthersKept.refl _ _ _⟩
set_option maxHeartbeats 8000000 in
set_option maxRecDepth 100000 in
theorem writeString_c (B g : Nat) (bs : List Value) (s : ByteArray) (d : Int) (w : World) (h : IsPG B g bs d w) (hlen : bs.length + s.size ≤ 140737488355328) (hBw : B ≤ w.heap.size) :
    Calls Tryd.prog 29 #[.pointer (some ⟨g, 0, none⟩), .string s] w fun e w' => e = .returned (.tuple #[.int .i64 s.size, .nilIface]) ∧ PG B g (.pointer (some ⟨g, 0, none⟩)) (bs ++ Lib.strCells s) d w' ∧ Below B w w' ∧ Lib.OthersKept 5 (some g) w w' := by
  obtain ⟨i0, hi, hzz⟩ := Option.map_eq_some_iff.1 infoU8
  simp only [Prod.mk.injEq] at hzz
  obtain ⟨hz0, hz1, hz2⟩ := hzz
  have hu51 := Tryd.underlying51
  have hu48 := Tryd.underlying48
  go_enter Tryd.func29, Tryd.ntmps29
  go_wp2_with (fail)
  refine (copyCheck_c B g bs d _ h).mono ?_
  rintro e w1 ⟨rfl, h1, hb1, hk1⟩
  obtain ⟨hB, v, hbk, hown, hne⟩ := h1
  have c0 := blk_celln hbk 0 _ rfl
  have c1 := blk_celln hbk 1 _ rfl
  go_wp2_with (at_builtin; refine Lib.wpList_append_own_string _ rfl _ _ 49 9 rfl B 5 i0 Tryd.underlying49 Tryd.underlying9 hi hz0 hz1 hz2 _ _ _ rfl hown s rfl ?c3 ?c4 ?c5 ?_)
  case c3 => unfold maxLen; omega
  case c4 => omega
  case c5 => have := hb1.size; omega
  intro v' w2 hown' hgrow hat
  have hlt := blk_lt hbk
  have hb2 : w2.heap[g]? = some (.cells #[.pointer (some ⟨g, 0, none⟩), v, .int .i64 d] 53 (0, 0)) := (hgrow.block g hlt (fun e => hne e.symm)).trans hbk
  have d1 := blk_celln hb2 1 _ rfl
  have f1 := blk_frozen hb2 1
  obtain ⟨ao, n', cap, rfl⟩ : ∃ ao n' cap, v' = .slice ao n' cap := by
    rcases hown'.2 with ⟨hv, _⟩ | ⟨g', cap, cur, hv, _⟩
    · exact ⟨_, _, _, hv⟩
    · exact ⟨_, _, _, hv⟩
  have hne2 : (Value.slice ao n' cap).ownBlock ≠ some g := by
    intro e
    obtain ⟨cells, hc⟩ := own_typed hown' g e
    rw [hb2] at hc
    injection hc with hc
    injection hc with _ hc
    exact absurd hc (by decide)
  go_wp2
  go_ret2
  refine ⟨rfl, ⟨hB, _, blk_put hb2 1 _ rfl, ?_, hne2⟩, ?_, ?_⟩
  · have hm := own_move hown' (w1 := w2.setCell ⟨g, 1, none⟩ (.slice ao n' cap)) (fun k hk => Below.heap_setCell _ ⟨g, 1, none⟩ _ k (fun e => hne2 (by rw [hk, e])))
    simpa [Lib.strCells_length] using hm
  · exact (hb1.grown hgrow (by have := hb1.size; omega) (fun k hk => (hown.lt k hk).1)).setCell (p := ⟨g, 1, none⟩) hB _
  · exact (hk1.grown hgrow (fun k hk => by obtain ⟨c, hc⟩ := own_typed hown k hk; exact ⟨c, (0, 0), hc⟩)).setCell ⟨g, 1, none⟩ rfl _
theorem kept_below {e : TypeId} {b : Option Nat} {w w' : World} (h : Below w.heap.size w w') : Lib.OthersKept e b w w' := fun k o hk _ _ => blk_below hk h
theorem below_at {B : Nat} {w w' : World} (h : Below w.heap.size w w') (hB : B ≤ w.heap.size) : Below B w w' := h.mono hB
theorem PG.below {B g : Nat} {p : Value} {bs : List Value} {d : Int} {w w' : World} (h : PG B g p bs d w) (hb : Below w.heap.size w w') : PG B g p bs d w' := by
  obtain ⟨hB, v, hbk, hown, hne⟩ := h
  exact ⟨hB, v, blk_below hbk hb, own_move hown (fun k hk => by
    obtain ⟨c, hc⟩ := own_typed hown k hk
    rw [blk_below hc hb, hc]), hne⟩
theorem IsPG.below {B g : Nat} {bs : List Value} {d : Int} {w w' : World} (h : IsPG B g bs d w) (hb : Below w.heap.size w w') : IsPG B g bs d w' := h.imp (fun h => h.below hb) (fun h => h.below hb)
theorem IsPG.deep {B g : Nat} {bs : List Value} {d : Int} {w : World} (h : IsPG B g bs d w) : w.cell? ⟨g, 2, none⟩ = some (.int .i64 d) := by
  rcases h with ⟨_, v, hbk, _⟩ | ⟨_, v, hbk, _⟩ <;> exact blk_celln hbk 2 _ rfl
def inS (d : Nat) : ByteArray := ⟨(Go.Lib.repeatL (⟨#[32, 32]⟩ : ByteArray).data.toList d).toArray⟩
def joinS (l : List ByteArray) : ByteArray := ⟨(Go.Lib.join (l.map (·.data.toList)) (⟨#[32]⟩ : ByteArray).data.toList).toArray⟩
/-- A line's text. -/
def lineS (d : Nat) (l : List ByteArray) : ByteArray := inS d ++ joinS l ++ ⟨#[10]⟩
theorem repeat_c (d : Nat) (w : World) (hd : d ≤ 1000) : Calls Tryd.prog 30 #[.string (⟨#[32, 32]⟩ : ByteArray), .int .i64 (d : Int)] w fun e w' => e = .returned (.string (inS d)) ∧ Below w.heap.size w w' :=
  Tryd.strings_Repeat (⟨#[32, 32]⟩ : ByteArray) d w (by omega) (by show 2 * d ≤ _; omega)
def line.T0 : Bool × List (List Nat × List Nat) := (true, [([], []), ([0], [0]), ([1], [1]), ([], []), ([3], [3]), ([4], [4]), ([5], [5]), ([6], [6]), ([], []), ([8, 7], [8]), ([7, 9], [7, 9]), ([10], [10]), ([2, 11, 9], [2, 11])])
def line.B0 : List Nat := [0, 1, 3, 0, 8, 24, 56, 120, 0, 504, 1016, 2040, 4095]
theorem line.tab0 : rtab .any (opsOf Tryd.f17 0) = line.T0 := by kernel_rfl
theorem line.bits0 : waitsOk line.T0.2 line.B0 = true := by kernel_rfl
set_option maxHeartbeats 8000000 in
set_option maxRecDepth 100000 in
theorem line_c (B g : Nat) (bs : List Value) (d : Nat) (w : World) (A : Option Addr) (c : Nat) (l : List ByteArray) (h : IsPG B g bs d w) (hd : d ≤ 1000) (hr : Kd.C Kd.string w A l.length l) (hc : l.length ≤ c) (hBw : B ≤ w.heap.size)
    (hll : l.length ≤ 1000) (hs : (lineS d l).size ≤ 1000000000) (hlen : bs.length + (lineS d l).size ≤ 140737488355328) :
    Calls Tryd.prog 17 #[.pointer (some ⟨g, 0, none⟩), .slice A l.length c] w fun e w' => e = .returned (.tuple #[]) ∧ PG B g (.pointer (some ⟨g, 0, none⟩)) (bs ++ Lib.strCells (lineS d l)) d w' ∧ Below B w w' ∧ Lib.OthersKept 5 (some g) w w' := by
  have hu53 := Tryd.underlying53
  have hu51 := Tryd.underlying51
  unfold lineS at hs hlen ⊢
  have hs' : (inS d).size + (joinS l).size + 1 ≤ 1000000000 := by
    simpa only [ByteArray.size_append, show (⟨#[10]⟩ : ByteArray).size = 1 from rfl] using hs
  have hj : strings_Join.f l ⟨#[32]⟩ = some (joinS l) := by
    unfold strings_Join.f
    refine if_pos ⟨by omega, ?_⟩
    have e : (joinS l).size = (Go.Lib.join (l.map (·.data.toList)) (⟨#[32]⟩ : ByteArray).data.toList).length := by simp [joinS, ByteArray.size]
    omega
  have kl1 : (9223372036854775807 < ((inS d)).size + ((joinS l)).size) = False := eq_false (by omega)
  have kl2 : (9223372036854775807 < ((inS d)).size + ((joinS l)).size + 1) = False := eq_false (by omega)
  have HP := Aside0.mk h
  have HR := Aside0.mk hr
  have HB := Aside0.mk (Below.refl w.heap.size w)
  have HK := Aside0.mk (Lib.OthersKept.refl 5 (some g) w)
  clear h hr
  go_enter Tryd.func17, Tryd.ntmps17
  replace HP := Aside0.mk (HP.out.below (below_drew (Below.refl _ _)))
  replace HB := Aside0.mk (below_drew HB.out)
  replace HK := Aside0.mk HK.out.drew
  refine start_ (n := 13) (S := fun w' => w'.cell? ⟨g, 2, none⟩ = some (.int .i64 (d : Int))) (ds := [12]) #[Z,Z,Z,Z,Z,Z,Z,Z,Z,Z,Z,Z,Z] (by kernel_rfl) rfl rfl (IsPG.deep HP.out) (fun hHeld => ?_)
  refine with_tabW line.tab0 line.bits0 (fun HT_ HW_ => ?_)
  generalize World.drew _ = wa at HP HK HB hHeld ⊢
  refine pure_ (i := 0) (N := some 4) (v := ?_) (a' := ?_) #[Y,Z,Z,Z,Z,Z,Z,Z,Z,Z,Z,Z,Z] rfl rfl (any_of HT_.out (by kernel_rfl)) (fun _ _ _ h => h) (Or.inl ⟨by rfl, ?_⟩) ?_ ?_
  rotate_left
  · intro w'
    go_simp
    with_reducible rfl
  rotate_left
  · simp only [Act.put, pA, pB, pC, i64_w, i32_w]
    rfl
  refine pure_ (i := 1) (N := some 5) (v := ?_) (a' := ?_) #[Y,Y,Z,Z,Z,Z,Z,Z,Z,Z,Z,Z,Z] rfl rfl (any_of HT_.out (by kernel_rfl)) (fun _ _ _ h => h) (Or.inl ⟨by rfl, ?_⟩) ?_ ?_
  rotate_left
  · intro w'
    go_simp
    with_reducible rfl
  rotate_left
  · simp only [Act.put, pA, pB, pC, i64_w, i32_w]
    rfl
  refine pure_ (i := 2) (N := some 6) (v := ?_) (a' := ?_) #[Y,Y,Y,Z,Z,Z,Z,Z,Z,Z,Z,Z,Z] rfl rfl (any_of HT_.out (by kernel_rfl)) (fun _ _ _ h => h) (Or.inl ⟨by rfl, ?_⟩) ?_ ?_
  rotate_left
  · intro w'
    go_simp
    with_reducible rfl
  rotate_left
  · simp only [Act.put, pA, pB, pC, i64_w, i32_w]
    rfl
  refine pure_ (i := 3) (N := some 7) (v := ?_) (a' := ?_) #[Y,Y,Y,Y,Z,Z,Z,Z,Z,Z,Z,Z,Z] rfl rfl (any_of HT_.out (by kernel_rfl)) (fun _ _ _ h => h) (Or.inl ⟨by rfl, ?_⟩) ?_ ?_
  rotate_left
  · intro w'
    go_simp
    with_reducible rfl
  rotate_left
  · simp only [Act.put, pA, pB, pC, i64_w, i32_w]
    rfl
  refine pure_ (i := 4) (N := some 8) (v := ?_) (a' := ?_) #[Y,Y,Y,Y,Y,Z,Z,Z,Z,Z,Z,Z,Z] rfl rfl (any_of HT_.out (by kernel_rfl)) (fun _ _ _ h => h) (Or.inl ⟨by rfl, ?_⟩) ?_ ?_
  rotate_left
  · intro w'
    go_simp
    with_reducible rfl
  rotate_left
  · simp only [Act.put, pA, pB, pC, i64_w, i32_w]
    rfl
  refine pure_ (i := 5) (N := some 9) (v := ?_) (a' := ?_) #[Y,Y,Y,Y,Y,Y,Z,Z,Z,Z,Z,Z,Z] rfl rfl (any_of HT_.out (by kernel_rfl)) (fun _ _ _ h => h) (Or.inl ⟨by rfl, ?_⟩) ?_ ?_
  rotate_left
  · intro w'
    go_simp
    with_reducible rfl
  rotate_left
  · simp only [Act.put, pA, pB, pC, i64_w, i32_w]
    rfl
  refine take_ (i := 6) (N := some 10) (v := ?_) (a' := ?_) #[Y,Y,Y,Y,Y,Y,Y,Z,Z,Z,Z,Z,Z] rfl rfl (take_ofW HT_.out HW_.out (by kernel_rfl)) (fun _ _ _ h => h) (Or.inl ⟨by rfl, ?_⟩) hHeld ?_ ?_
  rotate_left
  · rintro w' s0
    go_simp
    with_reducible rfl
  rotate_left
  · simp only [Act.put, pA, pB, pC, i64_w, i32_w]
    rfl
  refine pure_ (i := 8) (N := some 12) (v := ?_) (a' := ?_) #[Y,Y,Y,Y,Y,Y,Y,Z,Y,Z,Z,Z,Z] rfl rfl (any_of HT_.out (by kernel_rfl)) (fun _ _ _ h => h) (Or.inl ⟨by rfl, ?_⟩) ?_ ?_
  rotate_left
  · intro w'
    go_simp
    with_reducible rfl
  rotate_left
  · simp only [Act.put, pA, pB, pC, i64_w, i32_w]
    rfl
  refine one_ (i := 7) (N := some 11) #[Y,Y,Y,Y,Y,Y,Y,Y,Y,Z,Z,Z,Z] rfl rfl (one_of HT_.out (by kernel_rfl)) (by decide) (fun K hK => ?_)
  refine goes_ Tryd.func30 (by kernel_rfl) rfl #[.string (⟨#[32, 32]⟩ : ByteArray), .int .i64 (d : Int)] (by rfl) rfl rfl (by (try simp only [List.map_toArray, List.map_cons, List.map_nil]); first | done | rfl) ?_
  refine (repeat_c d _ hd).mono ?_
  rintro e wx ⟨rfl, qb⟩
  refine ⟨_, rfl, ?_⟩
  replace HP := Aside0.mk (HP.out.below qb)
  replace HK := Aside0.mk (HK.out.trans (kept_below qb))
  replace HB := Aside0.mk (below_step HB.out qb)
  clear qb
  refine hK.out _ _ (IsPG.deep HP.out) (fun hHeld => ?_)
  clear hK K
  refine norm_ (a' := ?_) ?_ ?_
  rotate_left
  · show Act.put _ (some 11) _ = _
    simp only [Act.put, pA, pB, pC, i64_w, i32_w]
    rfl
  refine one_ (i := 9) (N := some 13) #[Y,Y,Y,Y,Y,Y,Y,Y,Y,Y,Z,Z,Z] rfl rfl (one_of HT_.out (by kernel_rfl)) (by decide) (fun K hK => ?_)
  refine goes_ Tryd.func31 (by kernel_rfl) rfl #[.slice A l.length c, .string (⟨#[32]⟩ : ByteArray)] (by rfl) rfl rfl (by (try simp only [List.map_toArray, List.map_cons, List.map_nil]); first | done | rfl) ?_
  refine (strings_Join.calls A c l ⟨#[32]⟩ (joinS l) _ (Kd.C_below HR.out HB.out) hc hj).mono ?_
  rintro e wy ⟨rfl, qb⟩
  refine ⟨_, rfl, ?_⟩
  replace HP := Aside0.mk (HP.out.below qb)
  replace HK := Aside0.mk (HK.out.trans (kept_below qb))
  replace HB := Aside0.mk (below_step HB.out qb)
  clear qb
  refine hK.out _ _ (IsPG.deep HP.out) (fun hHeld => ?_)
  clear hK K
  refine norm_ (a' := ?_) ?_ ?_
  rotate_left
  · show Act.put _ (some 13) _ = _
    simp only [Act.put, pA, pB, pC, i64_w, i32_w]
    rfl
  refine pure_ (i := 10) (N := some 14) (v := ?_) (a' := ?_) #[Y,Y,Y,Y,Y,Y,Y,Y,Y,Y,Y,Z,Z] rfl rfl (any_of HT_.out (by kernel_rfl)) (fun _ _ _ h => h) (Or.inl ⟨by rfl, ?_⟩) ?_ ?_
  rotate_left
  · intro w'
    go_simp
    with_reducible rfl
  rotate_left
  · simp only [Act.put, pA, pB, pC, i64_w, i32_w]
    rfl
  refine pure_ (i := 11) (N := some 15) (v := ?_) (a' := ?_) #[Y,Y,Y,Y,Y,Y,Y,Y,Y,Y,Y,Y,Z] rfl rfl (any_of HT_.out (by kernel_rfl)) (fun _ _ _ h => h) (Or.inl ⟨by rfl, ?_⟩) ?_ ?_
  rotate_left
  · intro w'
    go_simp
    with_reducible rfl
  rotate_left
  · simp only [Act.put, pA, pB, pC, i64_w, i32_w]
    rfl
  refine last_ (i := 12) (N := some 16) #[Y,Y,Y,Y,Y,Y,Y,Y,Y,Y,Y,Y,Y] rfl rfl (one_of HT_.out (by kernel_rfl)) (by decide) (fun K hK => ?_)
  refine goes_ Tryd.func29 (by kernel_rfl) rfl #[.pointer (some ⟨g, 0, none⟩), .string (inS d ++ joinS l ++ ⟨#[10]⟩)] (by rfl) rfl rfl (by (try simp only [List.map_toArray, List.map_cons, List.map_nil]); first | done | rfl) ?_
  have hW := writeString_c B g bs (inS d ++ joinS l ++ ⟨#[10]⟩) d _ HP.out hlen (Nat.le_trans hBw HB.out.size)
  refine hW.mono ?_
  clear hW
  rintro e wz ⟨rfl, q1, q2, q3⟩
  refine ⟨_, rfl, ?_⟩
  have HQ := Aside0.mk q1
  have HB2 := Aside0.mk ((below_at HB.out hBw).trans q2)
  replace HK := Aside0.mk (HK.out.trans q3)
  clear q1 q2 q3
  refine hK.out _ _ ?_
  clear hK K
  refine norm_ (a' := ?_) ?_ ?_
  rotate_left
  · show Act.put _ (some 16) _ = _
    simp only [Act.put, pA, pB, pC, i64_w, i32_w]
    rfl
  refine done_ (done_of HT_.out (by kernel_rfl)) ?_
  clear hHeld
  go_end0
  exact ⟨rfl, HQ.out, HB2.out, HK.out⟩
end Go.Proofs.YtpldhihdlgghlaaDoor.PS
