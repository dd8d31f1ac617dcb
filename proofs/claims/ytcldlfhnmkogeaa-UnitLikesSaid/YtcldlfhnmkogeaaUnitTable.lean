import Derived.Test.YtcldlfhnmkogeaaHeapKit
/- The units' table (unit.table), walked. -/
set_option linter.unusedVariables false
set_option linter.unusedSimpArgs false
namespace Go.Proofs.Ytcldlfhnmkogeaa.Unit
open Go.RowKit Go.Proofs.YtcldlfhnmkogeaaW.PrintWords Go.Proofs.YtcldlfhnmkogeaaW.PrintLast Go.Proofs.Ytcldlfhnmkogeaa.Nats Go.Proofs.Ytcldlfhnmkogeaa.HeapKit

/-- A unit, as the program has it. -/
structure URow where
  name : ByteArray
  d0 : Int
  d1 : Int
  d2 : Int
  d3 : Int
  fn : Int
  fd : Int
  on : Int
  od : Int
  code : Int
/-- Its cells. -/
def URow.cells (u : URow) : List Value := [.string u.name, .int .i64 u.d0, .int .i64 u.d1, .int .i64 u.d2, .int .i64 u.d3, .int .i64 u.fn, .int .i64 u.fd, .int .i64 u.on, .int .i64 u.od, .int .i64 u.code]
def URow.val (u : URow) : Value := .agg #[.string u.name, .int .i64 u.d0, .int .i64 u.d1, .int .i64 u.d2, .int .i64 u.d3, .int .i64 u.fn, .int .i64 u.fd, .int .i64 u.on, .int .i64 u.od, .int .i64 u.code]
/-- All units. -/
def units : List URow := [
  ⟨⟨#[111, 110, 101]⟩, 0, 0, 0, 0, 1, 1, 0, 1, 512⟩,
  ⟨⟨#[112, 99, 116]⟩, 0, 0, 0, 0, 1, 100, 0, 1, 544⟩,
  ⟨⟨#[107, 103]⟩, 1, 0, 0, 0, 1, 1, 0, 1, 1731⟩,
  ⟨⟨#[103]⟩, 1, 0, 0, 0, 1, 1000, 0, 1, 1728⟩,
  ⟨⟨#[108, 98]⟩, 1, 0, 0, 0, 45359237, 100000000, 0, 1, 1760⟩,
  ⟨⟨#[109]⟩, 0, 1, 0, 0, 1, 1, 0, 1, 1280⟩,
  ⟨⟨#[99, 109]⟩, 0, 1, 0, 0, 1, 100, 0, 1, 1297⟩,
  ⟨⟨#[109, 109]⟩, 0, 1, 0, 0, 1, 1000, 0, 1, 1298⟩,
  ⟨⟨#[105, 110]⟩, 0, 1, 0, 0, 127, 5000, 0, 1, 1376⟩,
  ⟨⟨#[115]⟩, 0, 0, 1, 0, 1, 1, 0, 1, 2176⟩,
  ⟨⟨#[109, 105, 110]⟩, 0, 0, 1, 0, 60, 1, 0, 1, 2208⟩,
  ⟨⟨#[104]⟩, 0, 0, 1, 0, 3600, 1, 0, 1, 2240⟩,
  ⟨⟨#[107]⟩, 0, 0, 0, 1, 1, 1, 0, 1, 3520⟩,
  ⟨⟨#[99]⟩, 0, 0, 0, 1, 1, 1, 5463, 20, 6048⟩,
  ⟨⟨#[102]⟩, 0, 0, 0, 1, 5, 9, 45967, 180, 4416⟩,
  ⟨⟨#[112, 97]⟩, 1, (-1), (-2), 0, 1, 1, 0, 1, 3840⟩,
  ⟨⟨#[107, 112, 97]⟩, 1, (-1), (-2), 0, 1000, 1, 0, 1, 3843⟩,
  ⟨⟨#[109, 109, 104, 103]⟩, 1, (-1), (-2), 0, 20265, 152, 0, 1, 3872⟩,
  ⟨⟨#[99, 109, 104, 111]⟩, 1, (-1), (-2), 0, 196133, 2000, 0, 1, 3904⟩,
  ⟨⟨#[108]⟩, 0, 3, 0, 0, 1, 1000, 0, 1, 1600⟩,
  ⟨⟨#[109, 108]⟩, 0, 3, 0, 0, 1, 1000000, 0, 1, 1618⟩,
  ⟨⟨#[108, 112, 109]⟩, 0, 3, (-1), 0, 1, 60000, 0, 1, 3072⟩,
  ⟨⟨#[109, 108, 104]⟩, 0, 3, (-1), 0, 1, 3600000000, 0, 1, 3122⟩,
  ⟨⟨#[98, 112, 109]⟩, 0, 0, (-1), 0, 1, 60, 0, 1, 2720⟩,
  ⟨⟨#[104, 122]⟩, 0, 0, (-1), 0, 1, 1, 0, 1, 2496⟩]

set_option maxRecDepth 100000 in
set_option maxHeartbeats 4000000 in
theorem row_calls (s : ByteArray) (d0 d1 d2 d3 f g o p c : Int) (w : World) :
    Calls Try.prog 101 #[.string s, .agg #[.int .i64 d0, .int .i64 d1, .int .i64 d2, .int .i64 d3], .int .i64 f, .int .i64 g, .int .i64 o, .int .i64 p, .int .i64 c] w fun e w' => e = .returned (.agg #[.string s, .int .i64 d0, .int .i64 d1, .int .i64 d2, .int .i64 d3, .int .i64 f, .int .i64 g, .int .i64 o, .int .i64 p, .int .i64 c]) ∧ Below w.heap.size w w' := by
  have hR := b2_start w (.cells #[.int .i64 d0, .int .i64 d1, .int .i64 d2, .int .i64 d3] 46) (.cells #[.string s, .int .i64 d0, .int .i64 d1, .int .i64 d2, .int .i64 d3, .int .i64 f, .int .i64 g, .int .i64 o, .int .i64 p, .int .i64 c] 70)
  go_enter Try.func101, Try.ntmps101
  go_wp2_with fail
  obtain ⟨w_, hw_⟩ : ∃ w_, w_ = ((w.alloc (.cells #[.int .i64 d0, .int .i64 d1, .int .i64 d2, .int .i64 d3] 46)).alloc (.cells #[.string s, .int .i64 d0, .int .i64 d1, .int .i64 d2, .int .i64 d3, .int .i64 f, .int .i64 g, .int .i64 o, .int .i64 p, .int .i64 c] 70)) := ⟨_, rfl⟩
  rw [← hw_] at hR
  try rw [← hw_]
  clear hw_
  have s0 : w_.cell? ⟨w.heap.size + 1, 0, none⟩ = some (.string s) := blk_cell hR.b2 0
  have s1 : w_.cell? ⟨w.heap.size + 1, 1, none⟩ = some (.int .i64 d0) := blk_cell hR.b2 1
  have s2 : w_.cell? ⟨w.heap.size + 1, 2, none⟩ = some (.int .i64 d1) := blk_cell hR.b2 2
  have s3 : w_.cell? ⟨w.heap.size + 1, 3, none⟩ = some (.int .i64 d2) := blk_cell hR.b2 3
  have s4 : w_.cell? ⟨w.heap.size + 1, 4, none⟩ = some (.int .i64 d3) := blk_cell hR.b2 4
  have s5 : w_.cell? ⟨w.heap.size + 1, 5, none⟩ = some (.int .i64 f) := blk_cell hR.b2 5
  have s6 : w_.cell? ⟨w.heap.size + 1, 6, none⟩ = some (.int .i64 g) := blk_cell hR.b2 6
  have s7 : w_.cell? ⟨w.heap.size + 1, 7, none⟩ = some (.int .i64 o) := blk_cell hR.b2 7
  have s8 : w_.cell? ⟨w.heap.size + 1, 8, none⟩ = some (.int .i64 p) := blk_cell hR.b2 8
  have s9 : w_.cell? ⟨w.heap.size + 1, 9, none⟩ = some (.int .i64 c) := blk_cell hR.b2 9
  refine bodyPost_ret (by simp [results, Try.results101, go_sem, s0, s1, s2, s3, s4, s5, s6, s7, s8, s9]; try rfl) rfl ?_
  exact ⟨rfl, hR.be⟩

section
variable {P : Program} {ops : Array Oper} {rest : List Oper} {o : Oper} {a : Act} {Q : Exit → Act → World → Prop}
theorem lit_event {W : World} (hgd : o.guard = none) {N : Tmp} (_hd : o.dst = some N) {cs : Array Value} {t : TypeId} {n : Nat}
    (hrun : (execOp a.eval o).run P W = .ok (.value (.slice (some ⟨W.heap.size, 0, none⟩) n n)) (W.alloc (.cells cs t (0, 0))))
    (h : ∀ g, g = W.heap.size → ∀ w1, w1.heap[g]? = some (.cells cs t (0, 0)) → Below W.heap.size W w1 → wpList P ops Q rest (a.put o.dst (.slice (some ⟨g, 0, none⟩) n n)) w1) : wpList P ops Q (o :: rest) a W :=
  Kd.event_run hgd hrun (h _ rfl _ (blk_new W _) (below_alloc (Below.refl _ _) _))
end
set_option maxRecDepth 100000 in
set_option maxHeartbeats 16000000 in
theorem table_calls (w : World) :
    Calls Try.prog 93 #[] w fun e w' => ∃ g, e = .returned (.slice (some ⟨g, 0, none⟩) 25 25) ∧ w.heap.size ≤ g ∧ w'.heap[g]? = some (.cells (units.flatMap URow.cells).toArray 70 (0, 0)) ∧ Below w.heap.size w w' := by
  go_enter Try.func93, Try.ntmps93
  have hB := Below.refl w.heap.size w
  go_wp2_with fail
  refine (row_calls _ _ _ _ _ _ _ _ _ _ _).mono ?_
  rintro e w0 ⟨rfl, hb⟩
  replace hB := bthen hB hb
  clear hb
  go_wp2_with fail
  refine (row_calls _ _ _ _ _ _ _ _ _ _ _).mono ?_
  rintro e w1 ⟨rfl, hb⟩
  replace hB := bthen hB hb
  clear hb
  go_wp2_with fail
  refine (row_calls _ _ _ _ _ _ _ _ _ _ _).mono ?_
  rintro e w2 ⟨rfl, hb⟩
  replace hB := bthen hB hb
  clear hb
  go_wp2_with fail
  refine (row_calls _ _ _ _ _ _ _ _ _ _ _).mono ?_
  rintro e w3 ⟨rfl, hb⟩
  replace hB := bthen hB hb
  clear hb
  go_wp2_with fail
  refine (row_calls _ _ _ _ _ _ _ _ _ _ _).mono ?_
  rintro e w4 ⟨rfl, hb⟩
  replace hB := bthen hB hb
  clear hb
  go_wp2_with fail
  refine (row_calls _ _ _ _ _ _ _ _ _ _ _).mono ?_
  rintro e w5 ⟨rfl, hb⟩
  replace hB := bthen hB hb
  clear hb
  go_wp2_with fail
  refine (row_calls _ _ _ _ _ _ _ _ _ _ _).mono ?_
  rintro e w6 ⟨rfl, hb⟩
  replace hB := bthen hB hb
  clear hb
  go_wp2_with fail
  refine (row_calls _ _ _ _ _ _ _ _ _ _ _).mono ?_
  rintro e w7 ⟨rfl, hb⟩
  replace hB := bthen hB hb
  clear hb
  go_wp2_with fail
  refine (row_calls _ _ _ _ _ _ _ _ _ _ _).mono ?_
  rintro e w8 ⟨rfl, hb⟩
  replace hB := bthen hB hb
  clear hb
  go_wp2_with fail
  refine (row_calls _ _ _ _ _ _ _ _ _ _ _).mono ?_
  rintro e w9 ⟨rfl, hb⟩
  replace hB := bthen hB hb
  clear hb
  go_wp2_with fail
  refine (row_calls _ _ _ _ _ _ _ _ _ _ _).mono ?_
  rintro e w10 ⟨rfl, hb⟩
  replace hB := bthen hB hb
  clear hb
  go_wp2_with fail
  refine (row_calls _ _ _ _ _ _ _ _ _ _ _).mono ?_
  rintro e w11 ⟨rfl, hb⟩
  replace hB := bthen hB hb
  clear hb
  go_wp2_with fail
  refine (row_calls _ _ _ _ _ _ _ _ _ _ _).mono ?_
  rintro e w12 ⟨rfl, hb⟩
  replace hB := bthen hB hb
  clear hb
  go_wp2_with fail
  refine (row_calls _ _ _ _ _ _ _ _ _ _ _).mono ?_
  rintro e w13 ⟨rfl, hb⟩
  replace hB := bthen hB hb
  clear hb
  go_wp2_with fail
  refine (row_calls _ _ _ _ _ _ _ _ _ _ _).mono ?_
  rintro e w14 ⟨rfl, hb⟩
  replace hB := bthen hB hb
  clear hb
  go_wp2_with fail
  refine (row_calls _ _ _ _ _ _ _ _ _ _ _).mono ?_
  rintro e w15 ⟨rfl, hb⟩
  replace hB := bthen hB hb
  clear hb
  go_wp2_with fail
  refine (row_calls _ _ _ _ _ _ _ _ _ _ _).mono ?_
  rintro e w16 ⟨rfl, hb⟩
  replace hB := bthen hB hb
  clear hb
  go_wp2_with fail
  refine (row_calls _ _ _ _ _ _ _ _ _ _ _).mono ?_
  rintro e w17 ⟨rfl, hb⟩
  replace hB := bthen hB hb
  clear hb
  go_wp2_with fail
  refine (row_calls _ _ _ _ _ _ _ _ _ _ _).mono ?_
  rintro e w18 ⟨rfl, hb⟩
  replace hB := bthen hB hb
  clear hb
  go_wp2_with fail
  refine (row_calls _ _ _ _ _ _ _ _ _ _ _).mono ?_
  rintro e w19 ⟨rfl, hb⟩
  replace hB := bthen hB hb
  clear hb
  go_wp2_with fail
  refine (row_calls _ _ _ _ _ _ _ _ _ _ _).mono ?_
  rintro e w20 ⟨rfl, hb⟩
  replace hB := bthen hB hb
  clear hb
  go_wp2_with fail
  refine (row_calls _ _ _ _ _ _ _ _ _ _ _).mono ?_
  rintro e w21 ⟨rfl, hb⟩
  replace hB := bthen hB hb
  clear hb
  go_wp2_with fail
  refine (row_calls _ _ _ _ _ _ _ _ _ _ _).mono ?_
  rintro e w22 ⟨rfl, hb⟩
  replace hB := bthen hB hb
  clear hb
  go_wp2_with fail
  refine (row_calls _ _ _ _ _ _ _ _ _ _ _).mono ?_
  rintro e w23 ⟨rfl, hb⟩
  replace hB := bthen hB hb
  clear hb
  go_wp2_with fail
  refine (row_calls _ _ _ _ _ _ _ _ _ _ _).mono ?_
  rintro e w24 ⟨rfl, hb⟩
  replace hB := bthen hB hb
  clear hb
  go_wp2_with (first | ((with_reducible refine gate_dst (N := 51) rfl ?_); refine lit_event ?hg (N := 51) ?hd (cs := (units.flatMap URow.cells).toArray) (t := 70) (n := 25) ?hr ?_; (case hd => rfl); (case hg => rfl); (case hr => kernel_rfl); intro g hg w26 hb26 hB26) | fail)
  go_ret
  subst hg
  exact ⟨w24.heap.size, rfl, hB.size, hb26, bthen hB hB26⟩
end Go.Proofs.Ytcldlfhnmkogeaa.Unit
