import Derived.Test.YtcldlfhnmkogeaaUnitFind
import Derived.Test.YtcldlfhnmkogeaaScaleFacts
/- The steps of a conversion (unit.times, plus, steps), walked. -/
set_option linter.unusedVariables false
set_option linter.unusedSimpArgs false
namespace Go.Proofs.Ytcldlfhnmkogeaa.Unit
open Go.RowKit Go.Proofs.YtcldlfhnmkogeaaW.PrintWords Go.Proofs.YtcldlfhnmkogeaaW.PrintLast Go.Proofs.Ytcldlfhnmkogeaa.Nats Go.Proofs.Ytcldlfhnmkogeaa.HeapKit Go.Proofs.Ytcldlfhnmkogeaa.RatPlain Go.Proofs.Ytcldlfhnmkogeaa.Scale

set_option maxRecDepth 100000 in
set_option maxHeartbeats 4000000 in
theorem times_made (n d : Int) (w : World) : Calls Try.prog 64 #[.agg #[.int .i64 n, .int .i64 d]] w fun e w' => ∃ b, e = .returned (.func (.func 84) #[] #[.pointer (some ⟨b, 0, none⟩)]) ∧ w.heap.size ≤ b ∧ w'.heap[b]? = some (.cells #[.int .i64 n, .int .i64 d] 29 (0, 0)) ∧ Below w.heap.size w w' := by
  go_enter Try.func64, Try.ntmps64
  go_wp2_with fail
  go_ret
  exact ⟨w.heap.size, rfl, Nat.le_refl _, blk_new _ _, below_alloc (Below.refl _ _) _⟩
set_option maxRecDepth 100000 in
set_option maxHeartbeats 4000000 in
theorem times_done {vn vd n d : Int} (h1 : I64 vn) (h2 : I64 vd) (h3 : I64 n) (h4 : I64 d) (b : Nat) (w : World) (hb : w.heap[b]? = some (.cells #[.int .i64 n, .int .i64 d] 29 (0, 0))) :
    Calls Try.prog 84 #[.agg #[.int .i64 vn, .int .i64 vd], .pointer (some ⟨b, 0, none⟩)] w fun e w' => e = ans (timesW (vn, vd, 0) n d) ∧ Below w.heap.size w w' := by
  have hc := fun w => mul_calls h1 h2 h3 h4 w
  have hM : timesW (vn, vd, 0) n d = told (Rt vn vd ∧ Rt n d) (mulR vn vd n d) := by unfold timesW; rw [if_pos rfl]
  rw [hM]
  obtain ⟨⟨r1, r2, r3⟩, hMM⟩ : ∃ M, told (Rt vn vd ∧ Rt n d) (mulR vn vd n d) = M := ⟨_, rfl⟩
  rw [hMM]
  simp only [hMM, ans] at hc
  clear hMM hM
  have HC := Lib.hid hc
  clear hc
  have hB := b2_start w (.cells #[.int .i64 vn, .int .i64 vd] 29) (.cells #[.int .i64 0, .int .i64 0] 29)
  have hb2 := blk_alloc (blk_alloc hb (.cells #[.int .i64 vn, .int .i64 vd] 29)) (.cells #[.int .i64 0, .int .i64 0] 29)
  have c0 : ((w.alloc (.cells #[.int .i64 vn, .int .i64 vd] 29)).alloc (.cells #[.int .i64 0, .int .i64 0] 29)).cell? ⟨b, 0, none⟩ = some (.int .i64 n) := blk_cell hb2 0
  have c1 : ((w.alloc (.cells #[.int .i64 vn, .int .i64 vd] 29)).alloc (.cells #[.int .i64 0, .int .i64 0] 29)).cell? ⟨b, 1, none⟩ = some (.int .i64 d) := blk_cell hb2 1
  have a0 : ((w.alloc (.cells #[.int .i64 vn, .int .i64 vd] 29)).alloc (.cells #[.int .i64 0, .int .i64 0] 29)).cell? ⟨w.heap.size, 0, none⟩ = some (.int .i64 vn) := blk_cell hB.b1 0
  have a1 : ((w.alloc (.cells #[.int .i64 vn, .int .i64 vd] 29)).alloc (.cells #[.int .i64 0, .int .i64 0] 29)).cell? ⟨w.heap.size, 1, none⟩ = some (.int .i64 vd) := blk_cell hB.b1 1
  go_enter Try.func84, Try.ntmps84
  go_wp2_with fail
  refine (HC.out _).mono ?_
  rintro e w1 ⟨rfl, hb1⟩
  replace hB := hB.step hb1
  clear hb1 c0 c1 a0 a1
  have hx_ := hB.b2
  have d_0 : w1.cell? ⟨w.heap.size + 1, 0, none⟩ = some (.int .i64 0) := blk_cell hx_ 0
  have df_0 : w1.frozen? ⟨w.heap.size + 1, 0, none⟩ = false := blk_frozen hx_ 0
  have d_1 : w1.cell? ⟨w.heap.size + 1, 1, none⟩ = some (.int .i64 0) := blk_cell hx_ 1
  have df_1 : w1.frozen? ⟨w.heap.size + 1, 1, none⟩ = false := blk_frozen hx_ 1
  go_wp2_with fail
  have k_ := (blk_set (blk_set hx_ 0 (.int .i64 r1)) 1 (.int .i64 r2))
  have hB_ := (Below.setCell (Below.setCell hB.be (p := ⟨w.heap.size + 1, 0, none⟩) ((by show w.heap.size ≤ w.heap.size + 1; omega)) (.int .i64 r1)) (p := ⟨w.heap.size + 1, 1, none⟩) ((by show w.heap.size ≤ w.heap.size + 1; omega)) (.int .i64 r2))
  obtain ⟨w_, hw_⟩ : ∃ w_, w_ = (World.setCell (World.setCell w1 ⟨w.heap.size + 1, 0, none⟩ (.int .i64 r1)) ⟨w.heap.size + 1, 1, none⟩ (.int .i64 r2)) := ⟨_, rfl⟩
  rw [← hw_] at k_ hB_
  try rw [← hw_]
  clear hw_
  have s_0 : w_.cell? ⟨w.heap.size + 1, 0, none⟩ = some (.int .i64 r1) := blk_cell k_ 0
  have s_1 : w_.cell? ⟨w.heap.size + 1, 1, none⟩ = some (.int .i64 r2) := blk_cell k_ 1
  refine bodyPost_ret (by simp [results, Try.results84, go_sem, s_0, s_1]; try rfl) rfl ?_
  exact ⟨rfl, hB_⟩

set_option maxRecDepth 100000 in
set_option maxHeartbeats 4000000 in
theorem plus_made (n d : Int) (w : World) : Calls Try.prog 65 #[.agg #[.int .i64 n, .int .i64 d]] w fun e w' => ∃ b, e = .returned (.func (.func 85) #[] #[.pointer (some ⟨b, 0, none⟩)]) ∧ w.heap.size ≤ b ∧ w'.heap[b]? = some (.cells #[.int .i64 n, .int .i64 d] 29 (0, 0)) ∧ Below w.heap.size w w' := by
  go_enter Try.func65, Try.ntmps65
  go_wp2_with fail
  go_ret
  exact ⟨w.heap.size, rfl, Nat.le_refl _, blk_new _ _, below_alloc (Below.refl _ _) _⟩
set_option maxRecDepth 100000 in
set_option maxHeartbeats 4000000 in
theorem plus_done {vn vd n d : Int} (h1 : I64 vn) (h2 : I64 vd) (h3 : I64 n) (h4 : I64 d) (b : Nat) (w : World) (hb : w.heap[b]? = some (.cells #[.int .i64 n, .int .i64 d] 29 (0, 0))) :
    Calls Try.prog 85 #[.agg #[.int .i64 vn, .int .i64 vd], .pointer (some ⟨b, 0, none⟩)] w fun e w' => e = ans (plusW (vn, vd, 0) n d) ∧ Below w.heap.size w w' := by
  have hc := fun w => add_calls h1 h2 h3 h4 w
  have hM : plusW (vn, vd, 0) n d = told (Rt vn vd ∧ Rt n d) (addR vn vd n d) := by unfold plusW; rw [if_pos rfl]
  rw [hM]
  obtain ⟨⟨r1, r2, r3⟩, hMM⟩ : ∃ M, told (Rt vn vd ∧ Rt n d) (addR vn vd n d) = M := ⟨_, rfl⟩
  rw [hMM]
  simp only [hMM, ans] at hc
  clear hMM hM
  have HC := Lib.hid hc
  clear hc
  have hB := b2_start w (.cells #[.int .i64 vn, .int .i64 vd] 29) (.cells #[.int .i64 0, .int .i64 0] 29)
  have hb2 := blk_alloc (blk_alloc hb (.cells #[.int .i64 vn, .int .i64 vd] 29)) (.cells #[.int .i64 0, .int .i64 0] 29)
  have c0 : ((w.alloc (.cells #[.int .i64 vn, .int .i64 vd] 29)).alloc (.cells #[.int .i64 0, .int .i64 0] 29)).cell? ⟨b, 0, none⟩ = some (.int .i64 n) := blk_cell hb2 0
  have c1 : ((w.alloc (.cells #[.int .i64 vn, .int .i64 vd] 29)).alloc (.cells #[.int .i64 0, .int .i64 0] 29)).cell? ⟨b, 1, none⟩ = some (.int .i64 d) := blk_cell hb2 1
  have a0 : ((w.alloc (.cells #[.int .i64 vn, .int .i64 vd] 29)).alloc (.cells #[.int .i64 0, .int .i64 0] 29)).cell? ⟨w.heap.size, 0, none⟩ = some (.int .i64 vn) := blk_cell hB.b1 0
  have a1 : ((w.alloc (.cells #[.int .i64 vn, .int .i64 vd] 29)).alloc (.cells #[.int .i64 0, .int .i64 0] 29)).cell? ⟨w.heap.size, 1, none⟩ = some (.int .i64 vd) := blk_cell hB.b1 1
  go_enter Try.func85, Try.ntmps85
  go_wp2_with fail
  refine (HC.out _).mono ?_
  rintro e w1 ⟨rfl, hb1⟩
  replace hB := hB.step hb1
  clear hb1 c0 c1 a0 a1
  have hx_ := hB.b2
  have d_0 : w1.cell? ⟨w.heap.size + 1, 0, none⟩ = some (.int .i64 0) := blk_cell hx_ 0
  have df_0 : w1.frozen? ⟨w.heap.size + 1, 0, none⟩ = false := blk_frozen hx_ 0
  have d_1 : w1.cell? ⟨w.heap.size + 1, 1, none⟩ = some (.int .i64 0) := blk_cell hx_ 1
  have df_1 : w1.frozen? ⟨w.heap.size + 1, 1, none⟩ = false := blk_frozen hx_ 1
  go_wp2_with fail
  have k_ := (blk_set (blk_set hx_ 0 (.int .i64 r1)) 1 (.int .i64 r2))
  have hB_ := (Below.setCell (Below.setCell hB.be (p := ⟨w.heap.size + 1, 0, none⟩) ((by show w.heap.size ≤ w.heap.size + 1; omega)) (.int .i64 r1)) (p := ⟨w.heap.size + 1, 1, none⟩) ((by show w.heap.size ≤ w.heap.size + 1; omega)) (.int .i64 r2))
  obtain ⟨w_, hw_⟩ : ∃ w_, w_ = (World.setCell (World.setCell w1 ⟨w.heap.size + 1, 0, none⟩ (.int .i64 r1)) ⟨w.heap.size + 1, 1, none⟩ (.int .i64 r2)) := ⟨_, rfl⟩
  rw [← hw_] at k_ hB_
  try rw [← hw_]
  clear hw_
  have s_0 : w_.cell? ⟨w.heap.size + 1, 0, none⟩ = some (.int .i64 r1) := blk_cell k_ 0
  have s_1 : w_.cell? ⟨w.heap.size + 1, 1, none⟩ = some (.int .i64 r2) := blk_cell k_ 1
  refine bodyPost_ret (by simp [results, Try.results85, go_sem, s_0, s_1]; try rfl) rfl ?_
  exact ⟨rfl, hB_⟩

/-- A step: whether it multiplies, where its fraction lies, the fraction. -/
structure Stp where
  mul : Bool
  b : Nat
  n : Int
  d : Int
def Stp.fn (s : Stp) : Value := .func (.func (if s.mul then 84 else 85)) #[] #[.pointer (some ⟨s.b, 0, none⟩)]
def Stp.go (r : Int × Int × Int) (s : Stp) : Int × Int × Int := if s.mul then timesW r s.n s.d else plusW r s.n s.d
/-- The steps lie in the heap. -/
def Steps (W : World) (l : List Stp) : Prop := ∀ s ∈ l, W.heap[s.b]? = some (.cells #[.int .i64 s.n, .int .i64 s.d] 29 (0, 0)) ∧ I64 s.n ∧ I64 s.d
theorem Steps.step {W w2 : World} {l : List Stp} (h : Steps W l) (hb : Below W.heap.size W w2) : Steps w2 l := fun s hs => ⟨blk_below (h s hs).1 hb, (h s hs).2⟩
theorem go_In {r : Int × Int × Int} {s : Stp} (h : In r) : In (s.go r) := by
  unfold Stp.go
  split
  · exact timesW_In h
  · exact plusW_In h
theorem go_err {r : Int × Int × Int} {s : Stp} (h : r.2.2 ≠ 0) : s.go r = r := by
  unfold Stp.go
  cases s.mul <;> simp [timesW, plusW, h]
theorem fold_err {r : Int × Int × Int} (h : r.2.2 ≠ 0) : ∀ l : List Stp, l.foldl (fun r s => s.go r) r = r := by
  intro l
  induction l with
  | nil => rfl
  | cons s l ih => rw [List.foldl_cons, go_err h, ih]
theorem told_err {P : Prop} [Decidable P] {r : Option (Int × Int)} (h : (told P r).2.2 ≠ 0) : (told P r).1 = 0 ∧ (told P r).2.1 = 0 := by
  rcases told_cases P r with ⟨h1, _⟩ | ⟨_, _, h1⟩ | ⟨_, p, _, h1⟩ <;> rw [h1] at h ⊢
  · exact ⟨rfl, rfl⟩
  · exact ⟨rfl, rfl⟩
  · exact absurd rfl h
theorem go_zero {vn vd : Int} {s : Stp} (h : (s.go (vn, vd, 0)).2.2 ≠ 0) : (s.go (vn, vd, 0)).1 = 0 ∧ (s.go (vn, vd, 0)).2.1 = 0 := by
  obtain ⟨m, b, n, d⟩ := s
  cases m with
  | true =>
    have e : Stp.go (vn, vd, 0) ⟨true, b, n, d⟩ = told (Rt vn vd ∧ Rt n d) (mulR vn vd n d) := by
      unfold Stp.go timesW
      rw [if_pos rfl, if_pos rfl]
    rw [e] at h ⊢
    exact told_err h
  | false =>
    have e : Stp.go (vn, vd, 0) ⟨false, b, n, d⟩ = told (Rt vn vd ∧ Rt n d) (addR vn vd n d) := by
      unfold Stp.go plusW
      rw [if_neg (by simp), if_pos rfl]
    rw [e] at h ⊢
    exact told_err h
theorem done_calls {vn vd : Int} (h1 : I64 vn) (h2 : I64 vd) (s : Stp) (hs : I64 s.n ∧ I64 s.d) (w : World) (hb : w.heap[s.b]? = some (.cells #[.int .i64 s.n, .int .i64 s.d] 29 (0, 0))) :
    Calls Try.prog (if s.mul then 84 else 85) #[.agg #[.int .i64 vn, .int .i64 vd], .pointer (some ⟨s.b, 0, none⟩)] w fun e w' => e = ans (s.go (vn, vd, 0)) ∧ Below w.heap.size w w' := by
  obtain ⟨m, b, n, d⟩ := s
  cases m with
  | true => exact times_done h1 h2 hs.1 hs.2 b w hb
  | false => exact plus_done h1 h2 hs.1 hs.2 b w hb

/-- Between two steps. -/
def RelS (w : World) (l : List Stp) (g N : Nat) (vn vd : Int) (s12 : Value) (wr : World) : Prop :=
  ∃ (k : Nat) (n d : Int), k ≤ N ∧ s12 = .int .i64 (k : Int) ∧ B2 w wr (.cells #[.int .i64 n, .int .i64 d] 29) (.cells #[.int .i64 0, .int .i64 0] 29) ∧
    wr.heap[g]? = some (.cells (l.map Stp.fn).toArray 103 (0, 0)) ∧ Steps wr l ∧ In (n, d, 0) ∧ (l.take k).foldl (fun r s => s.go r) (vn, vd, 0) = (n, d, 0) ∧ g < w.heap.size

set_option maxRecDepth 100000 in
set_option maxHeartbeats 4000000 in
theorem steps_calls {vn vd : Int} (h1 : I64 vn) (h2 : I64 vd) (l : List Stp) (hl : l.length ≤ 8) (g : Nat) (w : World) (hg : w.heap[g]? = some (.cells (l.map Stp.fn).toArray 103 (0, 0))) (hS : Steps w l) :
    Calls Try.prog 63 #[.agg #[.int .i64 vn, .int .i64 vd], .slice (some ⟨g, 0, none⟩) l.length l.length] w fun e w' => e = ans (l.foldl (fun r s => s.go r) (vn, vd, 0)) ∧ Below w.heap.size w w' := by
  obtain ⟨N, hN⟩ : ∃ N, l.length = N := ⟨_, rfl⟩
  rw [hN] at hl ⊢
  have HN := Lib.hid hN
  clear hN
  have hB := b2_start w (.cells #[.int .i64 vn, .int .i64 vd] 29) (.cells #[.int .i64 0, .int .i64 0] 29)
  go_enter Try.func63, Try.ntmps63
  go_wp2_with fail
  have hglt := blk_lt hg
  have hsb : ∀ s ∈ l, s.b < w.heap.size := fun s hs => blk_lt (hS s hs).1
  have HSB := Lib.hid hsb
  clear hsb
  have hb0 := hB.be
  go_loopw [12] (RelS w l g N vn vd) (fun i _ => N - (intOf i).toNat)
  case atStart => exact ⟨0, vn, vd, Nat.zero_le _, rfl, hB, blk_below hg hb0, hS.step hb0, ⟨h1, h2⟩, rfl, hglt⟩
  case round =>
    clear hB hb0 hg hS
    obtain ⟨k, n, d, hk, rfl, hB, hgr, hSr, hIn, hfold, _⟩ := hrel
    have HF := Lib.hid hfold
    clear hfold
    by_cases hlt : k < N
    · have hkl : k < l.length := by rw [HN.out]; exact hlt
      obtain ⟨s, hs⟩ : ∃ s, l[k]? = some s := ⟨l[k]'hkl, List.getElem?_eq_getElem _⟩
      have hsm : s ∈ l := List.mem_of_getElem? hs
      have hcell : wr.cell? ⟨g, k, none⟩ = some s.fn := by
        rw [blk_cell hgr k, List.getElem?_toArray, List.getElem?_map, hs]
        rfl
      have hdone := done_calls hIn.1 hIn.2 s (hSr s hsm).2 wr (hSr s hsm).1
      have hnext : (l.take (k + 1)).foldl (fun r s => s.go r) (vn, vd, 0) = s.go (n, d, 0) := by
        rw [List.take_add_one, hs, List.foldl_append, HF.out]
        rfl
      have hall : l.foldl (fun r s => s.go r) (vn, vd, 0) = (l.drop (k + 1)).foldl (fun r s => s.go r) (s.go (n, d, 0)) := by
        rw [← hnext, ← List.foldl_append, List.take_append_drop]
      have hzero := @go_zero n d s
      have hIn2 := go_In (s := s) hIn
      obtain ⟨⟨r1, r2, r3⟩, hr⟩ : ∃ r, s.go (n, d, 0) = r := ⟨_, rfl⟩
      rw [hr] at hnext hall hzero hIn2
      simp only [hr, ans] at hdone
      have HNX := Lib.hid hnext
      have HAL := Lib.hid hall
      clear hnext hall hr hs
      have hsz := hB.size
      have a0 : wr.cell? ⟨w.heap.size, 0, none⟩ = some (.int .i64 n) := blk_cell hB.b1 0
      have a1 : wr.cell? ⟨w.heap.size, 1, none⟩ = some (.int .i64 d) := blk_cell hB.b1 1
      unfold Stp.fn at hcell
      obtain ⟨sm, sb, sn, sd⟩ := s
      cases sm
      all_goals dsimp only at hcell hdone
      all_goals (first | rw [if_pos rfl] at hcell | rw [if_neg (by simp)] at hcell)
      all_goals (first | rw [if_pos rfl] at hdone | rw [if_neg (by simp)] at hdone)
      all_goals (go_wp2_with fail)
      all_goals (refine hdone.mono ?_)
      all_goals (rintro e w1 ⟨rfl, hb1⟩)
      all_goals (have hB1 := hB.step hb1)
      all_goals (have hg1 := blk_below hgr hb1)
      all_goals (have hS1 := hSr.step hb1)
      all_goals (have hk2 := blk_new w1 (.cells #[.int .i64 r1, .int .i64 r2] 29))
      all_goals (have hB2 := hB1.step (below_alloc (Below.refl _ _) (.cells #[.int .i64 r1, .int .i64 r2] 29)))
      all_goals (have hg2 := blk_below hg1 (below_alloc (Below.refl _ _) (.cells #[.int .i64 r1, .int .i64 r2] 29)))
      all_goals (have hS2 := hS1.step (below_alloc (Below.refl _ _) (.cells #[.int .i64 r1, .int .i64 r2] 29)))
      all_goals (have hl1 := hB1.size)
      all_goals clear a0 a1 hcell hB1 hg1 hS1 hb1 hdone hB hgr hSr
      all_goals (by_cases h3 : r3 = 0)
      all_goals (try subst h3)
      all_goals (have c0 : (w1.alloc (.cells #[.int .i64 r1, .int .i64 r2] 29)).cell? ⟨w1.heap.size, 0, none⟩ = some (.int .i64 r1) := blk_cell hk2 0)
      all_goals (have c1 : (w1.alloc (.cells #[.int .i64 r1, .int .i64 r2] 29)).cell? ⟨w1.heap.size, 1, none⟩ = some (.int .i64 r2) := blk_cell hk2 1)
      all_goals (have a0 : (w1.alloc (.cells #[.int .i64 r1, .int .i64 r2] 29)).cell? ⟨w.heap.size, 0, none⟩ = some (.int .i64 n) := blk_cell hB2.b1 0)
      all_goals (have af0 : (w1.alloc (.cells #[.int .i64 r1, .int .i64 r2] 29)).frozen? ⟨w.heap.size, 0, none⟩ = false := blk_frozen hB2.b1 0)
      all_goals (have a1 : (w1.alloc (.cells #[.int .i64 r1, .int .i64 r2] 29)).cell? ⟨w.heap.size, 1, none⟩ = some (.int .i64 d) := blk_cell hB2.b1 1)
      all_goals (have af1 : (w1.alloc (.cells #[.int .i64 r1, .int .i64 r2] 29)).frozen? ⟨w.heap.size, 1, none⟩ = false := blk_frozen hB2.b1 1)
      all_goals (have z0 : (w1.alloc (.cells #[.int .i64 r1, .int .i64 r2] 29)).cell? ⟨w.heap.size + 1, 0, none⟩ = some (.int .i64 0) := blk_cell hB2.b2 0)
      all_goals (have zf0 : (w1.alloc (.cells #[.int .i64 r1, .int .i64 r2] 29)).frozen? ⟨w.heap.size + 1, 0, none⟩ = false := blk_frozen hB2.b2 0)
      all_goals (have z1 : (w1.alloc (.cells #[.int .i64 r1, .int .i64 r2] 29)).cell? ⟨w.heap.size + 1, 1, none⟩ = some (.int .i64 0) := blk_cell hB2.b2 1)
      all_goals (have zf1 : (w1.alloc (.cells #[.int .i64 r1, .int .i64 r2] 29)).frozen? ⟨w.heap.size + 1, 1, none⟩ = false := blk_frozen hB2.b2 1)
      · have hgne : g ≠ w.heap.size := by omega
        have kb1 := blk_set (blk_set hB2.b1 0 (.int .i64 r1)) 1 (.int .i64 r2)
        have kb2 := blk_far (blk_far hB2.b2 (p := ⟨w.heap.size, 0, none⟩) (by show w.heap.size + 1 ≠ w.heap.size; omega) (.int .i64 r1)) (p := ⟨w.heap.size, 1, none⟩) (by show w.heap.size + 1 ≠ w.heap.size; omega) (.int .i64 r2)
        have kbe := (hB2.be.setCell (p := ⟨w.heap.size, 0, none⟩) (Nat.le_refl _) (.int .i64 r1)).setCell (p := ⟨w.heap.size, 1, none⟩) (Nat.le_refl _) (.int .i64 r2)
        have kg := blk_far (blk_far hg2 (p := ⟨w.heap.size, 0, none⟩) hgne (.int .i64 r1)) (p := ⟨w.heap.size, 1, none⟩) hgne (.int .i64 r2)
        have kS : Steps _ l := fun s hs => ⟨blk_far (blk_far (hS2 s hs).1 (p := ⟨w.heap.size, 0, none⟩) (by have := HSB.out s hs; show s.b ≠ w.heap.size; omega) (.int .i64 r1)) (p := ⟨w.heap.size, 1, none⟩) (by have := HSB.out s hs; show s.b ≠ w.heap.size; omega) (.int .i64 r2), (hS2 s hs).2⟩
        go_wp2_with fail
        refine ⟨⟨k + 1, r1, r2, by omega, by simp, ⟨kb1, kb2, kbe⟩, kg, kS, hIn2, HNX.out, hglt⟩, ?_⟩
        simp [intOf]
        omega
      · have hz := hzero h3
        obtain ⟨rfl, rfl⟩ := hz
        have e3 : (r3 == 0) = false := by simp [h3]
        have hfe := (HAL.out).trans (fold_err (by exact h3) _)
        have HFE := Lib.hid hfe
        clear hfe 
        have hx_ := hB2.b2
        have d_0 : (w1.alloc (.cells #[.int .i64 0, .int .i64 0] 29)).cell? ⟨w.heap.size + 1, 0, none⟩ = some (.int .i64 0) := blk_cell hx_ 0
        have df_0 : (w1.alloc (.cells #[.int .i64 0, .int .i64 0] 29)).frozen? ⟨w.heap.size + 1, 0, none⟩ = false := blk_frozen hx_ 0
        have d_1 : (w1.alloc (.cells #[.int .i64 0, .int .i64 0] 29)).cell? ⟨w.heap.size + 1, 1, none⟩ = some (.int .i64 0) := blk_cell hx_ 1
        have df_1 : (w1.alloc (.cells #[.int .i64 0, .int .i64 0] 29)).frozen? ⟨w.heap.size + 1, 1, none⟩ = false := blk_frozen hx_ 1
        go_wp2_with fail
        have k_ := (blk_set (blk_set hx_ 0 (.int .i64 0)) 1 (.int .i64 0))
        have hB_ := (Below.setCell (Below.setCell hB2.be (p := ⟨w.heap.size + 1, 0, none⟩) ((by show w.heap.size ≤ w.heap.size + 1; omega)) (.int .i64 0)) (p := ⟨w.heap.size + 1, 1, none⟩) ((by show w.heap.size ≤ w.heap.size + 1; omega)) (.int .i64 0))
        obtain ⟨w_, hw_⟩ : ∃ w_, w_ = (World.setCell (World.setCell (w1.alloc (.cells #[.int .i64 0, .int .i64 0] 29)) ⟨w.heap.size + 1, 0, none⟩ (.int .i64 0)) ⟨w.heap.size + 1, 1, none⟩ (.int .i64 0)) := ⟨_, rfl⟩
        rw [← hw_] at k_ hB_
        try rw [← hw_]
        clear hw_
        have s_0 : w_.cell? ⟨w.heap.size + 1, 0, none⟩ = some (.int .i64 0) := blk_cell k_ 0
        have s_1 : w_.cell? ⟨w.heap.size + 1, 1, none⟩ = some (.int .i64 0) := blk_cell k_ 1
        refine bodyPost_ret (by simp [results, Try.results63, go_sem, s_0, s_1]; try rfl) rfl ?_
        rw [HFE.out]
        exact ⟨rfl, hB_⟩
      · have hgne : g ≠ w.heap.size := by omega
        have kb1 := blk_set (blk_set hB2.b1 0 (.int .i64 r1)) 1 (.int .i64 r2)
        have kb2 := blk_far (blk_far hB2.b2 (p := ⟨w.heap.size, 0, none⟩) (by show w.heap.size + 1 ≠ w.heap.size; omega) (.int .i64 r1)) (p := ⟨w.heap.size, 1, none⟩) (by show w.heap.size + 1 ≠ w.heap.size; omega) (.int .i64 r2)
        have kbe := (hB2.be.setCell (p := ⟨w.heap.size, 0, none⟩) (Nat.le_refl _) (.int .i64 r1)).setCell (p := ⟨w.heap.size, 1, none⟩) (Nat.le_refl _) (.int .i64 r2)
        have kg := blk_far (blk_far hg2 (p := ⟨w.heap.size, 0, none⟩) hgne (.int .i64 r1)) (p := ⟨w.heap.size, 1, none⟩) hgne (.int .i64 r2)
        have kS : Steps _ l := fun s hs => ⟨blk_far (blk_far (hS2 s hs).1 (p := ⟨w.heap.size, 0, none⟩) (by have := HSB.out s hs; show s.b ≠ w.heap.size; omega) (.int .i64 r1)) (p := ⟨w.heap.size, 1, none⟩) (by have := HSB.out s hs; show s.b ≠ w.heap.size; omega) (.int .i64 r2), (hS2 s hs).2⟩
        go_wp2_with fail
        refine ⟨⟨k + 1, r1, r2, by omega, by simp, ⟨kb1, kb2, kbe⟩, kg, kS, hIn2, HNX.out, hglt⟩, ?_⟩
        simp [intOf]
        omega
      · have hz := hzero h3
        obtain ⟨rfl, rfl⟩ := hz
        have e3 : (r3 == 0) = false := by simp [h3]
        have hfe := (HAL.out).trans (fold_err (by exact h3) _)
        have HFE := Lib.hid hfe
        clear hfe 
        have hx_ := hB2.b2
        have d_0 : (w1.alloc (.cells #[.int .i64 0, .int .i64 0] 29)).cell? ⟨w.heap.size + 1, 0, none⟩ = some (.int .i64 0) := blk_cell hx_ 0
        have df_0 : (w1.alloc (.cells #[.int .i64 0, .int .i64 0] 29)).frozen? ⟨w.heap.size + 1, 0, none⟩ = false := blk_frozen hx_ 0
        have d_1 : (w1.alloc (.cells #[.int .i64 0, .int .i64 0] 29)).cell? ⟨w.heap.size + 1, 1, none⟩ = some (.int .i64 0) := blk_cell hx_ 1
        have df_1 : (w1.alloc (.cells #[.int .i64 0, .int .i64 0] 29)).frozen? ⟨w.heap.size + 1, 1, none⟩ = false := blk_frozen hx_ 1
        go_wp2_with fail
        have k_ := (blk_set (blk_set hx_ 0 (.int .i64 0)) 1 (.int .i64 0))
        have hB_ := (Below.setCell (Below.setCell hB2.be (p := ⟨w.heap.size + 1, 0, none⟩) ((by show w.heap.size ≤ w.heap.size + 1; omega)) (.int .i64 0)) (p := ⟨w.heap.size + 1, 1, none⟩) ((by show w.heap.size ≤ w.heap.size + 1; omega)) (.int .i64 0))
        obtain ⟨w_, hw_⟩ : ∃ w_, w_ = (World.setCell (World.setCell (w1.alloc (.cells #[.int .i64 0, .int .i64 0] 29)) ⟨w.heap.size + 1, 0, none⟩ (.int .i64 0)) ⟨w.heap.size + 1, 1, none⟩ (.int .i64 0)) := ⟨_, rfl⟩
        rw [← hw_] at k_ hB_
        try rw [← hw_]
        clear hw_
        have s_0 : w_.cell? ⟨w.heap.size + 1, 0, none⟩ = some (.int .i64 0) := blk_cell k_ 0
        have s_1 : w_.cell? ⟨w.heap.size + 1, 1, none⟩ = some (.int .i64 0) := blk_cell k_ 1
        refine bodyPost_ret (by simp [results, Try.results63, go_sem, s_0, s_1]; try rfl) rfl ?_
        rw [HFE.out]
        exact ⟨rfl, hB_⟩
    · obtain rfl : k = N := by omega
      have he : l.foldl (fun r s => s.go r) (vn, vd, 0) = (n, d, 0) := by
        have := HF.out
        rwa [List.take_of_length_le (by rw [HN.out]; omega)] at this
      have HE := Lib.hid he
      clear he
      have a0 : wr.cell? ⟨w.heap.size, 0, none⟩ = some (.int .i64 n) := blk_cell hB.b1 0
      have a1 : wr.cell? ⟨w.heap.size, 1, none⟩ = some (.int .i64 d) := blk_cell hB.b1 1
      have hx_ := hB.b2
      have d_0 : wr.cell? ⟨w.heap.size + 1, 0, none⟩ = some (.int .i64 0) := blk_cell hx_ 0
      have df_0 : wr.frozen? ⟨w.heap.size + 1, 0, none⟩ = false := blk_frozen hx_ 0
      have d_1 : wr.cell? ⟨w.heap.size + 1, 1, none⟩ = some (.int .i64 0) := blk_cell hx_ 1
      have df_1 : wr.frozen? ⟨w.heap.size + 1, 1, none⟩ = false := blk_frozen hx_ 1
      go_wp2_with fail
      have k_ := (blk_set (blk_set hx_ 0 (.int .i64 n)) 1 (.int .i64 d))
      have hB_ := (Below.setCell (Below.setCell hB.be (p := ⟨w.heap.size + 1, 0, none⟩) ((by show w.heap.size ≤ w.heap.size + 1; omega)) (.int .i64 n)) (p := ⟨w.heap.size + 1, 1, none⟩) ((by show w.heap.size ≤ w.heap.size + 1; omega)) (.int .i64 d))
      obtain ⟨w_, hw_⟩ : ∃ w_, w_ = (World.setCell (World.setCell wr ⟨w.heap.size + 1, 0, none⟩ (.int .i64 n)) ⟨w.heap.size + 1, 1, none⟩ (.int .i64 d)) := ⟨_, rfl⟩
      rw [← hw_] at k_ hB_
      try rw [← hw_]
      clear hw_
      have s_0 : w_.cell? ⟨w.heap.size + 1, 0, none⟩ = some (.int .i64 n) := blk_cell k_ 0
      have s_1 : w_.cell? ⟨w.heap.size + 1, 1, none⟩ = some (.int .i64 d) := blk_cell k_ 1
      refine bodyPost_ret (by simp [results, Try.results63, go_sem, s_0, s_1]; try rfl) rfl ?_
      rw [HE.out]
      exact ⟨rfl, hB_⟩
end Go.Proofs.Ytcldlfhnmkogeaa.Unit
