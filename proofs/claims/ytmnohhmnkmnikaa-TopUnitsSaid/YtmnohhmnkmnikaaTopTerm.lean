import Derived.Test.YtmnohhmnkmnikaaHeapKit
import Derived.Test.YtmnohhmnkmnikaaTopSums
import Derived.RangeFuncNested
import Derived.RangeFuncBound
import Derived.RangeFuncCalls
import Derived.RangeFuncLeaves
import Derived.RangeFuncBox
import Derived.Shelf.Abstract
import Derived.Shelf.RegionOpen
import Derived.WalkKit
import Derived.OwnWalkIn
import Derived.TacticsInMore
import Derived.LoopNIn
import Derived.LoopIn
import Derived.LoopTactic
import Derived.Test.YtmnohhmnkmnikaaTopRat
/- The terms' table (nomen.table), walked. -/
set_option linter.unusedVariables false
set_option linter.unusedSimpArgs false
namespace Go.Proofs.Ytmnohhmnkmnikaa.Term
open Go.RowKit Go.Proofs.YtmnohhmnkmnikaaW.PrintWords Go.Proofs.YtmnohhmnkmnikaaW.PrintLast Go.Proofs.Ytmnohhmnkmnikaa.Nats Go.Proofs.Ytmnohhmnkmnikaa.HeapKit

/-- A term, as the program has it. -/
structure TRow where
  label : ByteArray
  code : Int
  unit : ByteArray
  ln : Int
  ld : Int
  mn : Int
  md : Int
/-- Its cells. -/
def TRow.cells (u : TRow) : List Value := [.string u.label, .int .i64 u.code, .string u.unit, .int .i64 u.ln, .int .i64 u.ld, .int .i64 u.mn, .int .i64 u.md]
def TRow.val (u : TRow) : Value := .agg #[.string u.label, .int .i64 u.code, .string u.unit, .int .i64 u.ln, .int .i64 u.ld, .int .i64 u.mn, .int .i64 u.md]
/-- All terms. -/
def terms : List TRow := [
  ⟨⟨#[104, 114]⟩, 147842, ⟨#[98, 112, 109]⟩, 0, 1, 350, 1⟩,
  ⟨⟨#[112, 117, 108, 115, 101]⟩, 149530, ⟨#[98, 112, 109]⟩, 0, 1, 350, 1⟩,
  ⟨⟨#[115, 112, 111, 50]⟩, 150456, ⟨#[112, 99, 116]⟩, 0, 1, 100, 1⟩,
  ⟨⟨#[115, 121, 115]⟩, 150021, ⟨#[109, 109, 104, 103]⟩, 0, 1, 300, 1⟩,
  ⟨⟨#[100, 105, 97]⟩, 150022, ⟨#[109, 109, 104, 103]⟩, 0, 1, 300, 1⟩,
  ⟨⟨#[109, 101, 97, 110]⟩, 150023, ⟨#[109, 109, 104, 103]⟩, 0, 1, 300, 1⟩,
  ⟨⟨#[97, 114, 116, 115, 121, 115]⟩, 150033, ⟨#[109, 109, 104, 103]⟩, (-50), 1, 350, 1⟩,
  ⟨⟨#[97, 114, 116, 100, 105, 97]⟩, 150034, ⟨#[109, 109, 104, 103]⟩, (-50), 1, 350, 1⟩,
  ⟨⟨#[97, 114, 116, 109, 101, 97, 110]⟩, 150035, ⟨#[109, 109, 104, 103]⟩, (-50), 1, 350, 1⟩,
  ⟨⟨#[99, 118, 112]⟩, 150084, ⟨#[109, 109, 104, 103]⟩, (-50), 1, 100, 1⟩,
  ⟨⟨#[116, 101, 109, 112]⟩, 150364, ⟨#[99]⟩, 0, 1, 50, 1⟩,
  ⟨⟨#[114, 101, 115, 112]⟩, 151562, ⟨#[98, 112, 109]⟩, 0, 1, 200, 1⟩,
  ⟨⟨#[101, 116, 99, 111, 50]⟩, 151708, ⟨#[109, 109, 104, 103]⟩, 0, 1, 150, 1⟩,
  ⟨⟨#[102, 105, 111, 50]⟩, 152196, ⟨#[112, 99, 116]⟩, 0, 1, 100, 1⟩,
  ⟨⟨#[112, 101, 97, 107]⟩, 151973, ⟨#[99, 109, 104, 111]⟩, 0, 1, 120, 1⟩,
  ⟨⟨#[112, 101, 101, 112]⟩, 151976, ⟨#[99, 109, 104, 111]⟩, 0, 1, 50, 1⟩,
  ⟨⟨#[116, 105, 100, 97, 108]⟩, 151980, ⟨#[109, 108]⟩, 0, 1, 3000, 1⟩,
  ⟨⟨#[109, 105, 110, 118, 111, 108]⟩, 152004, ⟨#[108, 112, 109]⟩, 0, 1, 60, 1⟩,
  ⟨⟨#[102, 108, 111, 119]⟩, 157784, ⟨#[109, 108, 104]⟩, 0, 1, 2000, 1⟩,
  ⟨⟨#[103, 105, 118, 101, 110]⟩, 157864, ⟨#[109, 108]⟩, 0, 1, 100000, 1⟩,
  ⟨⟨#[108, 101, 102, 116]⟩, 157872, ⟨#[109, 108]⟩, 0, 1, 100000, 1⟩,
  ⟨⟨#[119, 101, 105, 103, 104, 116]⟩, 188736, ⟨#[107, 103]⟩, 0, 1, 500, 1⟩,
  ⟨⟨#[104, 101, 105, 103, 104, 116]⟩, 188740, ⟨#[99, 109]⟩, 0, 1, 300, 1⟩,
  ⟨⟨#[105, 110, 102, 117, 115, 101]⟩, 157916, ⟨#[109, 105, 110]⟩, 0, 1, 100000, 1⟩]

set_option maxRecDepth 100000 in
set_option maxHeartbeats 4000000 in
theorem row_calls (s : ByteArray) (c : Int) (u : ByteArray) (a b : Int) (w : World) :
    Calls Try.prog 58 #[.string s, .int .i64 c, .string u, .int .i64 a, .int .i64 b] w fun e w' => e = .returned (.agg #[.string s, .int .i64 c, .string u, .int .i64 a, .int .i64 1, .int .i64 b, .int .i64 1]) ∧ Below w.heap.size w w' := by
  have hR := b1_start w (.cells #[.string s, .int .i64 c, .string u, .int .i64 a, .int .i64 1, .int .i64 b, .int .i64 1] 58)
  go_enter Try.func58, Try.ntmps58
  go_wp2_with fail
  obtain ⟨w_, hw_⟩ : ∃ w_, w_ = w.alloc (.cells #[.string s, .int .i64 c, .string u, .int .i64 a, .int .i64 1, .int .i64 b, .int .i64 1] 58) := ⟨_, rfl⟩
  rw [← hw_] at hR
  try rw [← hw_]
  clear hw_
  have s0 : w_.cell? ⟨w.heap.size, 0, none⟩ = some (.string s) := blk_cell hR.b1 0
  have s1 : w_.cell? ⟨w.heap.size, 1, none⟩ = some (.int .i64 c) := blk_cell hR.b1 1
  have s2 : w_.cell? ⟨w.heap.size, 2, none⟩ = some (.string u) := blk_cell hR.b1 2
  have s3 : w_.cell? ⟨w.heap.size, 3, none⟩ = some (.int .i64 a) := blk_cell hR.b1 3
  have s4 : w_.cell? ⟨w.heap.size, 4, none⟩ = some (.int .i64 1) := blk_cell hR.b1 4
  have s5 : w_.cell? ⟨w.heap.size, 5, none⟩ = some (.int .i64 b) := blk_cell hR.b1 5
  have s6 : w_.cell? ⟨w.heap.size, 6, none⟩ = some (.int .i64 1) := blk_cell hR.b1 6
  refine bodyPost_ret (by simp [results, Try.results58, go_sem, s0, s1, s2, s3, s4, s5, s6]; try rfl) rfl ?_
  exact ⟨rfl, hR.be⟩

section
variable {P : Program} {ops : Array Oper} {rest : List Oper} {o : Oper} {a : Act} {Q : Exit → Act → World → Prop}
theorem lit_event {W : World} (hgd : o.guard = none) {N : Tmp} (_hd : o.dst = some N) {cs : Array Value} {t : TypeId} {n : Nat}
    (hrun : (execOp a.eval o).run P W = .ok (.value (.slice (some ⟨W.heap.size, 0, none⟩) n n)) (W.alloc (.cells cs t (0, 0))))
    (h : ∀ g, g = W.heap.size → ∀ w1, w1.heap[g]? = some (.cells cs t (0, 0)) → Below W.heap.size W w1 → wpList P ops Q rest (a.put o.dst (.slice (some ⟨g, 0, none⟩) n n)) w1) : wpList P ops Q (o :: rest) a W :=
  Kd.event_run hgd hrun (h _ rfl _ (blk_new W _) (below_alloc (Below.refl _ _) _))
end
set_option maxRecDepth 100000 in
set_option maxHeartbeats 16000000 in
theorem table_calls (w : World) :
    Calls Try.prog 33 #[] w fun e w' => ∃ g, e = .returned (.slice (some ⟨g, 0, none⟩) 24 24) ∧ w.heap.size ≤ g ∧ w'.heap[g]? = some (.cells (terms.flatMap TRow.cells).toArray 58 (0, 0)) ∧ Below w.heap.size w w' := by
  go_enter Try.func33, Try.ntmps33
  have hB := Below.refl w.heap.size w
  go_wp2_with fail
  refine (row_calls _ _ _ _ _ _).mono ?_
  rintro e w0 ⟨rfl, hb⟩
  replace hB := bthen hB hb
  clear hb
  go_wp2_with fail
  refine (row_calls _ _ _ _ _ _).mono ?_
  rintro e w1 ⟨rfl, hb⟩
  replace hB := bthen hB hb
  clear hb
  go_wp2_with fail
  refine (row_calls _ _ _ _ _ _).mono ?_
  rintro e w2 ⟨rfl, hb⟩
  replace hB := bthen hB hb
  clear hb
  go_wp2_with fail
  refine (row_calls _ _ _ _ _ _).mono ?_
  rintro e w3 ⟨rfl, hb⟩
  replace hB := bthen hB hb
  clear hb
  go_wp2_with fail
  refine (row_calls _ _ _ _ _ _).mono ?_
  rintro e w4 ⟨rfl, hb⟩
  replace hB := bthen hB hb
  clear hb
  go_wp2_with fail
  refine (row_calls _ _ _ _ _ _).mono ?_
  rintro e w5 ⟨rfl, hb⟩
  replace hB := bthen hB hb
  clear hb
  go_wp2_with fail
  refine (row_calls _ _ _ _ _ _).mono ?_
  rintro e w6 ⟨rfl, hb⟩
  replace hB := bthen hB hb
  clear hb
  go_wp2_with fail
  refine (row_calls _ _ _ _ _ _).mono ?_
  rintro e w7 ⟨rfl, hb⟩
  replace hB := bthen hB hb
  clear hb
  go_wp2_with fail
  refine (row_calls _ _ _ _ _ _).mono ?_
  rintro e w8 ⟨rfl, hb⟩
  replace hB := bthen hB hb
  clear hb
  go_wp2_with fail
  refine (row_calls _ _ _ _ _ _).mono ?_
  rintro e w9 ⟨rfl, hb⟩
  replace hB := bthen hB hb
  clear hb
  go_wp2_with fail
  refine (row_calls _ _ _ _ _ _).mono ?_
  rintro e w10 ⟨rfl, hb⟩
  replace hB := bthen hB hb
  clear hb
  go_wp2_with fail
  refine (row_calls _ _ _ _ _ _).mono ?_
  rintro e w11 ⟨rfl, hb⟩
  replace hB := bthen hB hb
  clear hb
  go_wp2_with fail
  refine (row_calls _ _ _ _ _ _).mono ?_
  rintro e w12 ⟨rfl, hb⟩
  replace hB := bthen hB hb
  clear hb
  go_wp2_with fail
  refine (row_calls _ _ _ _ _ _).mono ?_
  rintro e w13 ⟨rfl, hb⟩
  replace hB := bthen hB hb
  clear hb
  go_wp2_with fail
  refine (row_calls _ _ _ _ _ _).mono ?_
  rintro e w14 ⟨rfl, hb⟩
  replace hB := bthen hB hb
  clear hb
  go_wp2_with fail
  refine (row_calls _ _ _ _ _ _).mono ?_
  rintro e w15 ⟨rfl, hb⟩
  replace hB := bthen hB hb
  clear hb
  go_wp2_with fail
  refine (row_calls _ _ _ _ _ _).mono ?_
  rintro e w16 ⟨rfl, hb⟩
  replace hB := bthen hB hb
  clear hb
  go_wp2_with fail
  refine (row_calls _ _ _ _ _ _).mono ?_
  rintro e w17 ⟨rfl, hb⟩
  replace hB := bthen hB hb
  clear hb
  go_wp2_with fail
  refine (row_calls _ _ _ _ _ _).mono ?_
  rintro e w18 ⟨rfl, hb⟩
  replace hB := bthen hB hb
  clear hb
  go_wp2_with fail
  refine (row_calls _ _ _ _ _ _).mono ?_
  rintro e w19 ⟨rfl, hb⟩
  replace hB := bthen hB hb
  clear hb
  go_wp2_with fail
  refine (row_calls _ _ _ _ _ _).mono ?_
  rintro e w20 ⟨rfl, hb⟩
  replace hB := bthen hB hb
  clear hb
  go_wp2_with fail
  refine (row_calls _ _ _ _ _ _).mono ?_
  rintro e w21 ⟨rfl, hb⟩
  replace hB := bthen hB hb
  clear hb
  go_wp2_with fail
  refine (row_calls _ _ _ _ _ _).mono ?_
  rintro e w22 ⟨rfl, hb⟩
  replace hB := bthen hB hb
  clear hb
  go_wp2_with fail
  refine (row_calls _ _ _ _ _ _).mono ?_
  rintro e w23 ⟨rfl, hb⟩
  replace hB := bthen hB hb
  clear hb
  go_wp2_with (first | ((with_reducible refine gate_dst (N := 25) rfl ?_); refine lit_event ?hg (N := 25) ?hd (cs := (terms.flatMap TRow.cells).toArray) (t := 58) (n := 24) ?hr ?_; (case hd => rfl); (case hg => rfl); (case hr => kernel_rfl); intro g hg w26 hb26 hB26) | fail)
  go_ret
  subst hg
  exact ⟨w23.heap.size, rfl, hB.size, hb26, bthen hB hB26⟩
end Go.Proofs.Ytmnohhmnkmnikaa.Term

/- Vendors' words (nomen.words), walked. -/
set_option linter.unusedVariables false
set_option linter.unusedSimpArgs false
namespace Go.Proofs.Ytmnohhmnkmnikaa.Term
open Go.RowKit Go.Proofs.YtmnohhmnkmnikaaW.PrintWords Go.Proofs.YtmnohhmnkmnikaaW.PrintLast Go.Proofs.Ytmnohhmnkmnikaa.Nats Go.Proofs.Ytmnohhmnkmnikaa.HeapKit Go.Proofs.Ytmnohhmnkmnikaa.Sums

def wordsL : List (ByteArray × Int) := [(⟨#[104, 101, 97, 114, 116]⟩, 0), (⟨#[98, 101, 97, 116, 115]⟩, 0), (⟨#[112, 114]⟩, 1), (⟨#[115, 97, 116]⟩, 2), (⟨#[111, 120, 121, 103, 101, 110]⟩, 2), (⟨#[110, 105, 98, 112, 115]⟩, 3), (⟨#[110, 105, 98, 112, 100]⟩, 4), (⟨#[110, 105, 98, 112, 109]⟩, 5), (⟨#[112, 115]⟩, 6), (⟨#[112, 100]⟩, 7), (⟨#[112, 109]⟩, 8), (⟨#[116, 49]⟩, 10), (⟨#[98, 111, 100, 121]⟩, 10), (⟨#[114, 114]⟩, 11), (⟨#[98, 114, 101, 97, 116, 104, 115]⟩, 11), (⟨#[99, 111, 50]⟩, 12), (⟨#[111, 50]⟩, 13), (⟨#[112, 105, 112]⟩, 14), (⟨#[118, 116]⟩, 16), (⟨#[109, 118]⟩, 17), (⟨#[114, 97, 116, 101]⟩, 18), (⟨#[118, 111, 108, 117, 109, 101]⟩, 19), (⟨#[114, 101, 115, 116]⟩, 20), (⟨#[107, 103, 115]⟩, 21), (⟨#[115, 105, 122, 101]⟩, 22), (⟨#[116, 111, 103, 111]⟩, 23)]
def ents : Nat → List (ByteArray × Int) → List MapEntry
  | _, [] => []
  | i, p :: l => { key := .string p.1, val := .int .i64 p.2, born := i } :: ents (i + 1) l
def wtab (k : Nat) : Array MapEntry := (ents 0 (wordsL.take k)).toArray
/-- The place of a word's term. -/
def wordOf (s : ByteArray) : Option Int := (wordsL.find? (fun p => p.1.toList == s.toList)).map (·.2)
theorem beq_list (a b : ByteArray) : (a == b) = (b.toList == a.toList) := by
  cases e : a == b with
  | true => rw [(MapKept.bytes_beq a b).1 e]; simp
  | false =>
    symm
    rw [beq_eq_false_iff_ne]
    intro k
    rw [ByteArray.toList_eq, ByteArray.toList_eq] at k
    have : a = b := (ByteArray.ext (Array.toList_inj.1 k)).symm
    rw [(MapKept.bytes_beq a b).2 this] at e
    cases e
theorem find_ents (s : ByteArray) : ∀ (l : List (ByteArray × Int)) (i k : Nat),
    (l.find? (fun p => p.1.toList == s.toList) = none ∧ Instr.findNow .string (.string s) (ents i l) k = some none) ∨
    ∃ p j, l.find? (fun p => p.1.toList == s.toList) = some p ∧ Instr.findNow .string (.string s) (ents i l) k = some (some (j, .int .i64 p.2))
  | [], _, _ => .inl ⟨rfl, rfl⟩
  | q :: l, i, k => by
    cases h : (q.1.toList == s.toList) with
    | true =>
      refine .inr ⟨q, k, ?_, ?_⟩
      · rw [List.find?_cons, h]
      · simp [ents, Instr.findNow, Instr.sameNow, beq_list, h]
    | false =>
      have e : Instr.findNow .string (.string s) (ents i (q :: l)) k = Instr.findNow .string (.string s) (ents (i + 1) l) (k + 1) := by
        simp [ents, Instr.findNow, Instr.sameNow, beq_list, h]
      rw [e, List.find?_cons, h]
      exact find_ents s l (i + 1) (k + 1)
set_option maxRecDepth 100000 in
set_option maxHeartbeats 16000000 in
theorem words_calls (w : World) : Calls Try.prog 32 #[] w fun e w' => ∃ m, e = .returned (.map (some m)) ∧ w.heap.size ≤ m ∧ w'.heap[m]? = some (.map (wtab 26) 26) ∧ Below w.heap.size w w' := by
  have m0 : (w.alloc (.map #[] 0)).heap[w.heap.size]? = some (.map (wtab 0) 0) := blk_new w (.map #[] 0)
  have hB0 := below_alloc (Below.refl w.heap.size w) (.map #[] 0)
  have hmk : ∀ w, (Instr.makeMap 91 none).run Try.prog w = .ok (.map (some w.heap.size)) (w.alloc (.map #[] 0)) := fun w => rfl
  go_enter Try.func32, Try.ntmps32
  go_wp2_with (first | ((with_reducible refine gate_key (s := ⟨#[104, 101, 97, 114, 116]⟩) rfl ?_); refine put_event (s := ⟨#[104, 101, 97, 114, 116]⟩) rfl ?hg ?hd (m := w.heap.size) (es := wtab 0) (es' := wtab 1) (clock := 0) (val := .int .i64 0) Try.underlying91 Try.underlying9 ?hx ?hv m0 ?hf ?he ?_; (case hg => rfl); (case hd => rfl); (case hx => rfl); (case hv => rfl); (case hf => kernel_rfl); (case he => kernel_rfl); intro w1 hw1; have m1 := map_put (es' := wtab 1) (c' := 1) m0; have hB1 := below_put (es' := wtab 1) (c' := 1) hB0 (Nat.le_refl _) m0 (Nat.le_refl _); rw [← hw1] at m1 hB1; clear hw1 m0 hB0) | ((with_reducible refine gate_key (s := ⟨#[98, 101, 97, 116, 115]⟩) rfl ?_); refine put_event (s := ⟨#[98, 101, 97, 116, 115]⟩) rfl ?hg ?hd (m := w.heap.size) (es := wtab 1) (es' := wtab 2) (clock := 1) (val := .int .i64 0) Try.underlying91 Try.underlying9 ?hx ?hv m1 ?hf ?he ?_; (case hg => rfl); (case hd => rfl); (case hx => rfl); (case hv => rfl); (case hf => kernel_rfl); (case he => kernel_rfl); intro w2 hw2; have m2 := map_put (es' := wtab 2) (c' := 2) m1; have hB2 := below_put (es' := wtab 2) (c' := 2) hB1 (Nat.le_refl _) m1 (Nat.le_refl _); rw [← hw2] at m2 hB2; clear hw2 m1 hB1) | ((with_reducible refine gate_key (s := ⟨#[112, 114]⟩) rfl ?_); refine put_event (s := ⟨#[112, 114]⟩) rfl ?hg ?hd (m := w.heap.size) (es := wtab 2) (es' := wtab 3) (clock := 2) (val := .int .i64 1) Try.underlying91 Try.underlying9 ?hx ?hv m2 ?hf ?he ?_; (case hg => rfl); (case hd => rfl); (case hx => rfl); (case hv => rfl); (case hf => kernel_rfl); (case he => kernel_rfl); intro w3 hw3; have m3 := map_put (es' := wtab 3) (c' := 3) m2; have hB3 := below_put (es' := wtab 3) (c' := 3) hB2 (Nat.le_refl _) m2 (Nat.le_refl _); rw [← hw3] at m3 hB3; clear hw3 m2 hB2) | ((with_reducible refine gate_key (s := ⟨#[115, 97, 116]⟩) rfl ?_); refine put_event (s := ⟨#[115, 97, 116]⟩) rfl ?hg ?hd (m := w.heap.size) (es := wtab 3) (es' := wtab 4) (clock := 3) (val := .int .i64 2) Try.underlying91 Try.underlying9 ?hx ?hv m3 ?hf ?he ?_; (case hg => rfl); (case hd => rfl); (case hx => rfl); (case hv => rfl); (case hf => kernel_rfl); (case he => kernel_rfl); intro w4 hw4; have m4 := map_put (es' := wtab 4) (c' := 4) m3; have hB4 := below_put (es' := wtab 4) (c' := 4) hB3 (Nat.le_refl _) m3 (Nat.le_refl _); rw [← hw4] at m4 hB4; clear hw4 m3 hB3) | ((with_reducible refine gate_key (s := ⟨#[111, 120, 121, 103, 101, 110]⟩) rfl ?_); refine put_event (s := ⟨#[111, 120, 121, 103, 101, 110]⟩) rfl ?hg ?hd (m := w.heap.size) (es := wtab 4) (es' := wtab 5) (clock := 4) (val := .int .i64 2) Try.underlying91 Try.underlying9 ?hx ?hv m4 ?hf ?he ?_; (case hg => rfl); (case hd => rfl); (case hx => rfl); (case hv => rfl); (case hf => kernel_rfl); (case he => kernel_rfl); intro w5 hw5; have m5 := map_put (es' := wtab 5) (c' := 5) m4; have hB5 := below_put (es' := wtab 5) (c' := 5) hB4 (Nat.le_refl _) m4 (Nat.le_refl _); rw [← hw5] at m5 hB5; clear hw5 m4 hB4) | ((with_reducible refine gate_key (s := ⟨#[110, 105, 98, 112, 115]⟩) rfl ?_); refine put_event (s := ⟨#[110, 105, 98, 112, 115]⟩) rfl ?hg ?hd (m := w.heap.size) (es := wtab 5) (es' := wtab 6) (clock := 5) (val := .int .i64 3) Try.underlying91 Try.underlying9 ?hx ?hv m5 ?hf ?he ?_; (case hg => rfl); (case hd => rfl); (case hx => rfl); (case hv => rfl); (case hf => kernel_rfl); (case he => kernel_rfl); intro w6 hw6; have m6 := map_put (es' := wtab 6) (c' := 6) m5; have hB6 := below_put (es' := wtab 6) (c' := 6) hB5 (Nat.le_refl _) m5 (Nat.le_refl _); rw [← hw6] at m6 hB6; clear hw6 m5 hB5) | ((with_reducible refine gate_key (s := ⟨#[110, 105, 98, 112, 100]⟩) rfl ?_); refine put_event (s := ⟨#[110, 105, 98, 112, 100]⟩) rfl ?hg ?hd (m := w.heap.size) (es := wtab 6) (es' := wtab 7) (clock := 6) (val := .int .i64 4) Try.underlying91 Try.underlying9 ?hx ?hv m6 ?hf ?he ?_; (case hg => rfl); (case hd => rfl); (case hx => rfl); (case hv => rfl); (case hf => kernel_rfl); (case he => kernel_rfl); intro w7 hw7; have m7 := map_put (es' := wtab 7) (c' := 7) m6; have hB7 := below_put (es' := wtab 7) (c' := 7) hB6 (Nat.le_refl _) m6 (Nat.le_refl _); rw [← hw7] at m7 hB7; clear hw7 m6 hB6) | ((with_reducible refine gate_key (s := ⟨#[110, 105, 98, 112, 109]⟩) rfl ?_); refine put_event (s := ⟨#[110, 105, 98, 112, 109]⟩) rfl ?hg ?hd (m := w.heap.size) (es := wtab 7) (es' := wtab 8) (clock := 7) (val := .int .i64 5) Try.underlying91 Try.underlying9 ?hx ?hv m7 ?hf ?he ?_; (case hg => rfl); (case hd => rfl); (case hx => rfl); (case hv => rfl); (case hf => kernel_rfl); (case he => kernel_rfl); intro w8 hw8; have m8 := map_put (es' := wtab 8) (c' := 8) m7; have hB8 := below_put (es' := wtab 8) (c' := 8) hB7 (Nat.le_refl _) m7 (Nat.le_refl _); rw [← hw8] at m8 hB8; clear hw8 m7 hB7) | ((with_reducible refine gate_key (s := ⟨#[112, 115]⟩) rfl ?_); refine put_event (s := ⟨#[112, 115]⟩) rfl ?hg ?hd (m := w.heap.size) (es := wtab 8) (es' := wtab 9) (clock := 8) (val := .int .i64 6) Try.underlying91 Try.underlying9 ?hx ?hv m8 ?hf ?he ?_; (case hg => rfl); (case hd => rfl); (case hx => rfl); (case hv => rfl); (case hf => kernel_rfl); (case he => kernel_rfl); intro w9 hw9; have m9 := map_put (es' := wtab 9) (c' := 9) m8; have hB9 := below_put (es' := wtab 9) (c' := 9) hB8 (Nat.le_refl _) m8 (Nat.le_refl _); rw [← hw9] at m9 hB9; clear hw9 m8 hB8) | ((with_reducible refine gate_key (s := ⟨#[112, 100]⟩) rfl ?_); refine put_event (s := ⟨#[112, 100]⟩) rfl ?hg ?hd (m := w.heap.size) (es := wtab 9) (es' := wtab 10) (clock := 9) (val := .int .i64 7) Try.underlying91 Try.underlying9 ?hx ?hv m9 ?hf ?he ?_; (case hg => rfl); (case hd => rfl); (case hx => rfl); (case hv => rfl); (case hf => kernel_rfl); (case he => kernel_rfl); intro w10 hw10; have m10 := map_put (es' := wtab 10) (c' := 10) m9; have hB10 := below_put (es' := wtab 10) (c' := 10) hB9 (Nat.le_refl _) m9 (Nat.le_refl _); rw [← hw10] at m10 hB10; clear hw10 m9 hB9) | ((with_reducible refine gate_key (s := ⟨#[112, 109]⟩) rfl ?_); refine put_event (s := ⟨#[112, 109]⟩) rfl ?hg ?hd (m := w.heap.size) (es := wtab 10) (es' := wtab 11) (clock := 10) (val := .int .i64 8) Try.underlying91 Try.underlying9 ?hx ?hv m10 ?hf ?he ?_; (case hg => rfl); (case hd => rfl); (case hx => rfl); (case hv => rfl); (case hf => kernel_rfl); (case he => kernel_rfl); intro w11 hw11; have m11 := map_put (es' := wtab 11) (c' := 11) m10; have hB11 := below_put (es' := wtab 11) (c' := 11) hB10 (Nat.le_refl _) m10 (Nat.le_refl _); rw [← hw11] at m11 hB11; clear hw11 m10 hB10) | ((with_reducible refine gate_key (s := ⟨#[116, 49]⟩) rfl ?_); refine put_event (s := ⟨#[116, 49]⟩) rfl ?hg ?hd (m := w.heap.size) (es := wtab 11) (es' := wtab 12) (clock := 11) (val := .int .i64 10) Try.underlying91 Try.underlying9 ?hx ?hv m11 ?hf ?he ?_; (case hg => rfl); (case hd => rfl); (case hx => rfl); (case hv => rfl); (case hf => kernel_rfl); (case he => kernel_rfl); intro w12 hw12; have m12 := map_put (es' := wtab 12) (c' := 12) m11; have hB12 := below_put (es' := wtab 12) (c' := 12) hB11 (Nat.le_refl _) m11 (Nat.le_refl _); rw [← hw12] at m12 hB12; clear hw12 m11 hB11) | ((with_reducible refine gate_key (s := ⟨#[98, 111, 100, 121]⟩) rfl ?_); refine put_event (s := ⟨#[98, 111, 100, 121]⟩) rfl ?hg ?hd (m := w.heap.size) (es := wtab 12) (es' := wtab 13) (clock := 12) (val := .int .i64 10) Try.underlying91 Try.underlying9 ?hx ?hv m12 ?hf ?he ?_; (case hg => rfl); (case hd => rfl); (case hx => rfl); (case hv => rfl); (case hf => kernel_rfl); (case he => kernel_rfl); intro w13 hw13; have m13 := map_put (es' := wtab 13) (c' := 13) m12; have hB13 := below_put (es' := wtab 13) (c' := 13) hB12 (Nat.le_refl _) m12 (Nat.le_refl _); rw [← hw13] at m13 hB13; clear hw13 m12 hB12) | ((with_reducible refine gate_key (s := ⟨#[114, 114]⟩) rfl ?_); refine put_event (s := ⟨#[114, 114]⟩) rfl ?hg ?hd (m := w.heap.size) (es := wtab 13) (es' := wtab 14) (clock := 13) (val := .int .i64 11) Try.underlying91 Try.underlying9 ?hx ?hv m13 ?hf ?he ?_; (case hg => rfl); (case hd => rfl); (case hx => rfl); (case hv => rfl); (case hf => kernel_rfl); (case he => kernel_rfl); intro w14 hw14; have m14 := map_put (es' := wtab 14) (c' := 14) m13; have hB14 := below_put (es' := wtab 14) (c' := 14) hB13 (Nat.le_refl _) m13 (Nat.le_refl _); rw [← hw14] at m14 hB14; clear hw14 m13 hB13) | ((with_reducible refine gate_key (s := ⟨#[98, 114, 101, 97, 116, 104, 115]⟩) rfl ?_); refine put_event (s := ⟨#[98, 114, 101, 97, 116, 104, 115]⟩) rfl ?hg ?hd (m := w.heap.size) (es := wtab 14) (es' := wtab 15) (clock := 14) (val := .int .i64 11) Try.underlying91 Try.underlying9 ?hx ?hv m14 ?hf ?he ?_; (case hg => rfl); (case hd => rfl); (case hx => rfl); (case hv => rfl); (case hf => kernel_rfl); (case he => kernel_rfl); intro w15 hw15; have m15 := map_put (es' := wtab 15) (c' := 15) m14; have hB15 := below_put (es' := wtab 15) (c' := 15) hB14 (Nat.le_refl _) m14 (Nat.le_refl _); rw [← hw15] at m15 hB15; clear hw15 m14 hB14) | ((with_reducible refine gate_key (s := ⟨#[99, 111, 50]⟩) rfl ?_); refine put_event (s := ⟨#[99, 111, 50]⟩) rfl ?hg ?hd (m := w.heap.size) (es := wtab 15) (es' := wtab 16) (clock := 15) (val := .int .i64 12) Try.underlying91 Try.underlying9 ?hx ?hv m15 ?hf ?he ?_; (case hg => rfl); (case hd => rfl); (case hx => rfl); (case hv => rfl); (case hf => kernel_rfl); (case he => kernel_rfl); intro w16 hw16; have m16 := map_put (es' := wtab 16) (c' := 16) m15; have hB16 := below_put (es' := wtab 16) (c' := 16) hB15 (Nat.le_refl _) m15 (Nat.le_refl _); rw [← hw16] at m16 hB16; clear hw16 m15 hB15) | ((with_reducible refine gate_key (s := ⟨#[111, 50]⟩) rfl ?_); refine put_event (s := ⟨#[111, 50]⟩) rfl ?hg ?hd (m := w.heap.size) (es := wtab 16) (es' := wtab 17) (clock := 16) (val := .int .i64 13) Try.underlying91 Try.underlying9 ?hx ?hv m16 ?hf ?he ?_; (case hg => rfl); (case hd => rfl); (case hx => rfl); (case hv => rfl); (case hf => kernel_rfl); (case he => kernel_rfl); intro w17 hw17; have m17 := map_put (es' := wtab 17) (c' := 17) m16; have hB17 := below_put (es' := wtab 17) (c' := 17) hB16 (Nat.le_refl _) m16 (Nat.le_refl _); rw [← hw17] at m17 hB17; clear hw17 m16 hB16) | ((with_reducible refine gate_key (s := ⟨#[112, 105, 112]⟩) rfl ?_); refine put_event (s := ⟨#[112, 105, 112]⟩) rfl ?hg ?hd (m := w.heap.size) (es := wtab 17) (es' := wtab 18) (clock := 17) (val := .int .i64 14) Try.underlying91 Try.underlying9 ?hx ?hv m17 ?hf ?he ?_; (case hg => rfl); (case hd => rfl); (case hx => rfl); (case hv => rfl); (case hf => kernel_rfl); (case he => kernel_rfl); intro w18 hw18; have m18 := map_put (es' := wtab 18) (c' := 18) m17; have hB18 := below_put (es' := wtab 18) (c' := 18) hB17 (Nat.le_refl _) m17 (Nat.le_refl _); rw [← hw18] at m18 hB18; clear hw18 m17 hB17) | ((with_reducible refine gate_key (s := ⟨#[118, 116]⟩) rfl ?_); refine put_event (s := ⟨#[118, 116]⟩) rfl ?hg ?hd (m := w.heap.size) (es := wtab 18) (es' := wtab 19) (clock := 18) (val := .int .i64 16) Try.underlying91 Try.underlying9 ?hx ?hv m18 ?hf ?he ?_; (case hg => rfl); (case hd => rfl); (case hx => rfl); (case hv => rfl); (case hf => kernel_rfl); (case he => kernel_rfl); intro w19 hw19; have m19 := map_put (es' := wtab 19) (c' := 19) m18; have hB19 := below_put (es' := wtab 19) (c' := 19) hB18 (Nat.le_refl _) m18 (Nat.le_refl _); rw [← hw19] at m19 hB19; clear hw19 m18 hB18) | ((with_reducible refine gate_key (s := ⟨#[109, 118]⟩) rfl ?_); refine put_event (s := ⟨#[109, 118]⟩) rfl ?hg ?hd (m := w.heap.size) (es := wtab 19) (es' := wtab 20) (clock := 19) (val := .int .i64 17) Try.underlying91 Try.underlying9 ?hx ?hv m19 ?hf ?he ?_; (case hg => rfl); (case hd => rfl); (case hx => rfl); (case hv => rfl); (case hf => kernel_rfl); (case he => kernel_rfl); intro w20 hw20; have m20 := map_put (es' := wtab 20) (c' := 20) m19; have hB20 := below_put (es' := wtab 20) (c' := 20) hB19 (Nat.le_refl _) m19 (Nat.le_refl _); rw [← hw20] at m20 hB20; clear hw20 m19 hB19) | ((with_reducible refine gate_key (s := ⟨#[114, 97, 116, 101]⟩) rfl ?_); refine put_event (s := ⟨#[114, 97, 116, 101]⟩) rfl ?hg ?hd (m := w.heap.size) (es := wtab 20) (es' := wtab 21) (clock := 20) (val := .int .i64 18) Try.underlying91 Try.underlying9 ?hx ?hv m20 ?hf ?he ?_; (case hg => rfl); (case hd => rfl); (case hx => rfl); (case hv => rfl); (case hf => kernel_rfl); (case he => kernel_rfl); intro w21 hw21; have m21 := map_put (es' := wtab 21) (c' := 21) m20; have hB21 := below_put (es' := wtab 21) (c' := 21) hB20 (Nat.le_refl _) m20 (Nat.le_refl _); rw [← hw21] at m21 hB21; clear hw21 m20 hB20) | ((with_reducible refine gate_key (s := ⟨#[118, 111, 108, 117, 109, 101]⟩) rfl ?_); refine put_event (s := ⟨#[118, 111, 108, 117, 109, 101]⟩) rfl ?hg ?hd (m := w.heap.size) (es := wtab 21) (es' := wtab 22) (clock := 21) (val := .int .i64 19) Try.underlying91 Try.underlying9 ?hx ?hv m21 ?hf ?he ?_; (case hg => rfl); (case hd => rfl); (case hx => rfl); (case hv => rfl); (case hf => kernel_rfl); (case he => kernel_rfl); intro w22 hw22; have m22 := map_put (es' := wtab 22) (c' := 22) m21; have hB22 := below_put (es' := wtab 22) (c' := 22) hB21 (Nat.le_refl _) m21 (Nat.le_refl _); rw [← hw22] at m22 hB22; clear hw22 m21 hB21) | ((with_reducible refine gate_key (s := ⟨#[114, 101, 115, 116]⟩) rfl ?_); refine put_event (s := ⟨#[114, 101, 115, 116]⟩) rfl ?hg ?hd (m := w.heap.size) (es := wtab 22) (es' := wtab 23) (clock := 22) (val := .int .i64 20) Try.underlying91 Try.underlying9 ?hx ?hv m22 ?hf ?he ?_; (case hg => rfl); (case hd => rfl); (case hx => rfl); (case hv => rfl); (case hf => kernel_rfl); (case he => kernel_rfl); intro w23 hw23; have m23 := map_put (es' := wtab 23) (c' := 23) m22; have hB23 := below_put (es' := wtab 23) (c' := 23) hB22 (Nat.le_refl _) m22 (Nat.le_refl _); rw [← hw23] at m23 hB23; clear hw23 m22 hB22) | ((with_reducible refine gate_key (s := ⟨#[107, 103, 115]⟩) rfl ?_); refine put_event (s := ⟨#[107, 103, 115]⟩) rfl ?hg ?hd (m := w.heap.size) (es := wtab 23) (es' := wtab 24) (clock := 23) (val := .int .i64 21) Try.underlying91 Try.underlying9 ?hx ?hv m23 ?hf ?he ?_; (case hg => rfl); (case hd => rfl); (case hx => rfl); (case hv => rfl); (case hf => kernel_rfl); (case he => kernel_rfl); intro w24 hw24; have m24 := map_put (es' := wtab 24) (c' := 24) m23; have hB24 := below_put (es' := wtab 24) (c' := 24) hB23 (Nat.le_refl _) m23 (Nat.le_refl _); rw [← hw24] at m24 hB24; clear hw24 m23 hB23) | ((with_reducible refine gate_key (s := ⟨#[115, 105, 122, 101]⟩) rfl ?_); refine put_event (s := ⟨#[115, 105, 122, 101]⟩) rfl ?hg ?hd (m := w.heap.size) (es := wtab 24) (es' := wtab 25) (clock := 24) (val := .int .i64 22) Try.underlying91 Try.underlying9 ?hx ?hv m24 ?hf ?he ?_; (case hg => rfl); (case hd => rfl); (case hx => rfl); (case hv => rfl); (case hf => kernel_rfl); (case he => kernel_rfl); intro w25 hw25; have m25 := map_put (es' := wtab 25) (c' := 25) m24; have hB25 := below_put (es' := wtab 25) (c' := 25) hB24 (Nat.le_refl _) m24 (Nat.le_refl _); rw [← hw25] at m25 hB25; clear hw25 m24 hB24) | ((with_reducible refine gate_key (s := ⟨#[116, 111, 103, 111]⟩) rfl ?_); refine put_event (s := ⟨#[116, 111, 103, 111]⟩) rfl ?hg ?hd (m := w.heap.size) (es := wtab 25) (es' := wtab 26) (clock := 25) (val := .int .i64 23) Try.underlying91 Try.underlying9 ?hx ?hv m25 ?hf ?he ?_; (case hg => rfl); (case hd => rfl); (case hx => rfl); (case hv => rfl); (case hf => kernel_rfl); (case he => kernel_rfl); intro w26 hw26; have m26 := map_put (es' := wtab 26) (c' := 26) m25; have hB26 := below_put (es' := wtab 26) (c' := 26) hB25 (Nat.le_refl _) m25 (Nat.le_refl _); rw [← hw26] at m26 hB26; clear hw26 m25 hB25) | fail)
  go_ret
  exact ⟨w.heap.size, rfl, Nat.le_refl _, m26, hB26⟩
theorem words_look (s : ByteArray) (m : Nat) (W : World) (hb : W.heap[m]? = some (.map (wtab 26) 26)) :
    (Instr.lookup 91 (.map (some m)) (.string s) true).run Try.prog W = .ok (.tuple #[.int .i64 ((wordOf s).getD 0), .bool (wordOf s).isSome]) W := by
  have hl := run_look (P := Try.prog) (t := 91) (s := s) Try.underlying91 Try.underlying9 hb
  unfold wordOf
  rcases find_ents s wordsL 0 0 with ⟨h1, h2⟩ | ⟨p, j, h1, h2⟩
  · rw [h1]
    exact hl.2 (.int .i64 0) h2 (by kernel_rfl)
  · rw [h1]
    exact hl.1 j _ h2
end Go.Proofs.Ytmnohhmnkmnikaa.Term

/- The terms' iterator (nomen.terms), walked. -/
set_option linter.unusedVariables false
set_option linter.unusedSimpArgs false
namespace Go.Proofs.Ytmnohhmnkmnikaa.Term
open Go.RowKit Go.Shelf Go.Proofs.YtmnohhmnkmnikaaW.PrintWords Go.Proofs.Ytmnohhmnkmnikaa.Nats Go.Proofs.Ytmnohhmnkmnikaa.HeapKit
attribute [local go_sem] Oper.semAt_some

theorem flat_at : ∀ (l : List TRow) (k : Nat) (u : TRow), l[k]? = some u → ∀ j v, u.cells[j]? = some v → (l.flatMap TRow.cells)[k * 7 + j]? = some v := by
  intro l
  induction l with
  | nil => intro k u h; simp at h
  | cons a l ih =>
    intro k u h j v hv
    have hl : a.cells.length = 7 := rfl
    rw [List.flatMap_cons]
    cases k with
    | zero =>
      simp at h
      subst h
      rw [Nat.zero_mul, Nat.zero_add, List.getElem?_append_left (by rw [hl]; have := (List.getElem?_eq_some_iff.1 hv).1; simpa [TRow.cells] using this)]
      exact hv
    | succ k =>
      simp at h
      rw [List.getElem?_append_right (by rw [hl]; omega), hl, show (k + 1) * 7 + j - 7 = k * 7 + j from by omega]
      exact ih k u h j v hv

/-- What a round keeps: what lay below n₀, and every block of terms. -/
def isU : Obj → Bool
  | .cells _ t _ => t == 58
  | _ => false
theorem isU_cells {o : Obj} (h : o.isCells = false) : isU o = false := by
  cases o with
  | cells => cases h
  | _ => rfl
def Kp (n₀ : Nat) (A B : World) : Prop := Below n₀ A B ∧ ∀ (k : Nat) (o : Obj), A.heap[k]? = some o → isU o = true → B.heap[k]? = some o
theorem Kp.refl (n₀ : Nat) (W : World) : Kp n₀ W W := ⟨Below.refl _ _, fun _ _ h _ => h⟩
theorem Kp.trans {n₀ : Nat} {A B C : World} (h : Kp n₀ A B) (k : Kp n₀ B C) : Kp n₀ A C := ⟨h.1.trans k.1, fun i o ho hc => k.2 i o (h.2 i o ho hc) hc⟩
theorem Kp.book {n₀ : Nat} {w : World} (hn : n₀ ≤ w.heap.size) (W : World) (l : Nat) (o o' : Obj) (hl : w.heap.size ≤ l) (h : W.heap[l]? = some o) (h1 : o.isCells = false) (h2 : o.isWalk = false) : Kp n₀ W (W.putObj l o') :=
  ⟨belowK_b hn W l o o' hl h h1 h2, fun k q hq hc => by
    by_cases e : k = l
    · subst e
      rw [h] at hq
      cases hq
      rw [isU_cells h1] at hc
      cases hc
    · exact (World.putObj_heap_other e).trans hq⟩

set_option maxRecDepth 100000 in
set_option maxHeartbeats 4000000 in
theorem all1 (m : Nat) (hm : 1 ≤ m) (l n₀ : Nat) (J Jx : List TRow → World → Prop)
    (hY : ∀ pre x W, J pre W → pre.length < 24 → YieldAt Fence.wide (m - 1) Try.prog l #[x.val] W fun e W' =>
      (e = .returned (.bool true) ∧ J (pre ++ [x]) W' ∧ Kp n₀ W W') ∨ (e = .returned (.bool false) ∧ Jx (pre ++ [x]) W'))
    (W : World) (hs : n₀ ≤ W.heap.size) (hJw : ∀ pre A B, J pre A → Below A.heap.size A B → J pre B) (h0 : J [] W) :
    CallsIn Fence.wide m Try.prog 59 #[.func (.yield l) #[] #[]] W fun e W' => (∃ v, e = .returned v) ∧
      ((∃ ys, ys = terms ∧ J ys W') ∨ (∃ pre, (∃ k, k ≤ 24 ∧ pre = terms.take k) ∧ Jx pre W')) := by
  refine callsIn_of_wp Try.func59 rfl trivial ?_ rfl
  simp only [Try.ntmps59, List.size_toArray, List.length_cons, List.length_nil, Nat.reduceAdd, Nat.reduceSub, Array.replicate_succ, Array.replicate_zero, List.push_toArray, List.append_toArray, List.nil_append, List.cons_append]
  gi_wp2_with ((first | refine ⟨trivial, ?_⟩ | skip); gi_at_call 33; refine (callsIn_wide.2 (table_calls _)).mono ?_; rintro e w1 ⟨g, rfl, hg, hb, hB1⟩)
  have hJ1 := hJw _ _ _ h0 hB1
  have hs1 : n₀ ≤ w1.heap.size := Nat.le_trans hs hB1.size
  gi_loopw [6] (fun i wr => ∃ k : Nat, k ≤ 24 ∧ i = .int .i64 k ∧ J (terms.take k) wr ∧ wr.heap[g]? = some (.cells (terms.flatMap TRow.cells).toArray 58 (0, 0)) ∧ n₀ ≤ wr.heap.size)
    (fun i _ => 24 - (intOf i).toNat)
  case atStart => exact ⟨0, Nat.zero_le _, rfl, hJ1, hb, hs1⟩
  case round =>
    obtain ⟨k, hk, rfl, hJs, hgr, hsr⟩ := hrel
    by_cases hlt : k < 24
    · have hlu : terms.length = 24 := rfl
      obtain ⟨u, hku⟩ : ∃ u, terms[k]? = some u := ⟨terms[k]'(by omega), List.getElem?_eq_getElem _⟩
      obtain ⟨lb, cd, un, ln, ld, mn, md⟩ := u
      have c0 : wr.cell? ⟨g, k * 7, none⟩ = some (.string lb) := by
        rw [blk_cell hgr, List.getElem?_toArray]
        exact flat_at terms k _ hku 0 _ rfl
      have c1 : wr.cell? ⟨g, k * 7 + 1, none⟩ = some (.int .i64 cd) := by
        rw [blk_cell hgr, List.getElem?_toArray]
        exact flat_at terms k _ hku 1 _ rfl
      have c2 : wr.cell? ⟨g, k * 7 + 2, none⟩ = some (.string un) := by
        rw [blk_cell hgr, List.getElem?_toArray]
        exact flat_at terms k _ hku 2 _ rfl
      have c3 : wr.cell? ⟨g, k * 7 + 3, none⟩ = some (.int .i64 ln) := by
        rw [blk_cell hgr, List.getElem?_toArray]
        exact flat_at terms k _ hku 3 _ rfl
      have c4 : wr.cell? ⟨g, k * 7 + 4, none⟩ = some (.int .i64 ld) := by
        rw [blk_cell hgr, List.getElem?_toArray]
        exact flat_at terms k _ hku 4 _ rfl
      have c5 : wr.cell? ⟨g, k * 7 + 5, none⟩ = some (.int .i64 mn) := by
        rw [blk_cell hgr, List.getElem?_toArray]
        exact flat_at terms k _ hku 5 _ rfl
      have c6 : wr.cell? ⟨g, k * 7 + 6, none⟩ = some (.int .i64 md) := by
        rw [blk_cell hgr, List.getElem?_toArray]
        exact flat_at terms k _ hku 6 _ rfl
      have hU : (TRow.mk lb cd un ln ld mn md).val = .agg #[.string lb, .int .i64 cd, .string un, .int .i64 ln, .int .i64 ld, .int .i64 mn, .int .i64 md] := rfl
      have hbx := below_alloc (Below.refl wr.heap.size wr) (.cells #[.string lb, .int .i64 cd, .string un, .int .i64 ln, .int .i64 ld, .int .i64 mn, .int .i64 md] 58)
      obtain ⟨fnn, tmps, assign, body, hy, hRy⟩ := hY _ ⟨lb, cd, un, ln, ld, mn, md⟩ (wr.alloc (.cells #[.string lb, .int .i64 cd, .string un, .int .i64 ln, .int .i64 ld, .int .i64 mn, .int .i64 md] 58)) (hJw _ _ _ hJs hbx) (by rw [List.length_take]; omega)
      rw [hU] at hy
      have bx := blk_new wr (.cells #[.string lb, .int .i64 cd, .string un, .int .i64 ln, .int .i64 ld, .int .i64 mn, .int .i64 md] 58)
      have x0 : (wr.alloc (.cells #[.string lb, .int .i64 cd, .string un, .int .i64 ln, .int .i64 ld, .int .i64 mn, .int .i64 md] 58)).cell? ⟨wr.heap.size, 0, none⟩ = some (.string lb) := blk_cell bx 0
      have x1 : (wr.alloc (.cells #[.string lb, .int .i64 cd, .string un, .int .i64 ln, .int .i64 ld, .int .i64 mn, .int .i64 md] 58)).cell? ⟨wr.heap.size, 1, none⟩ = some (.int .i64 cd) := blk_cell bx 1
      have x2 : (wr.alloc (.cells #[.string lb, .int .i64 cd, .string un, .int .i64 ln, .int .i64 ld, .int .i64 mn, .int .i64 md] 58)).cell? ⟨wr.heap.size, 2, none⟩ = some (.string un) := blk_cell bx 2
      have x3 : (wr.alloc (.cells #[.string lb, .int .i64 cd, .string un, .int .i64 ln, .int .i64 ld, .int .i64 mn, .int .i64 md] 58)).cell? ⟨wr.heap.size, 3, none⟩ = some (.int .i64 ln) := blk_cell bx 3
      have x4 : (wr.alloc (.cells #[.string lb, .int .i64 cd, .string un, .int .i64 ln, .int .i64 ld, .int .i64 mn, .int .i64 md] 58)).cell? ⟨wr.heap.size, 4, none⟩ = some (.int .i64 ld) := blk_cell bx 4
      have x5 : (wr.alloc (.cells #[.string lb, .int .i64 cd, .string un, .int .i64 ln, .int .i64 ld, .int .i64 mn, .int .i64 md] 58)).cell? ⟨wr.heap.size, 5, none⟩ = some (.int .i64 mn) := blk_cell bx 5
      have x6 : (wr.alloc (.cells #[.string lb, .int .i64 cd, .string un, .int .i64 ln, .int .i64 ld, .int .i64 mn, .int .i64 md] 58)).cell? ⟨wr.heap.size, 6, none⟩ = some (.int .i64 md) := blk_cell bx 6
      gi_wp2_with (first
        | (refine hRy.mono ?_; rintro e W3 hcase; obtain ⟨bb, rfl, hc⟩ : ∃ bb, e = .returned (.bool bb) ∧ (bb = true ∧ J (terms.take k ++ [⟨lb, cd, un, ln, ld, mn, md⟩]) W3 ∧ Kp n₀ (wr.alloc (.cells #[.string lb, .int .i64 cd, .string un, .int .i64 ln, .int .i64 ld, .int .i64 mn, .int .i64 md] 58)) W3 ∨ bb = false ∧ Jx (terms.take k ++ [⟨lb, cd, un, ln, ld, mn, md⟩]) W3) := (by rcases hcase with ⟨h1, h2, h3⟩ | ⟨h1, h2⟩; exact ⟨true, h1, Or.inl ⟨rfl, h2, h3⟩⟩; exact ⟨false, h1, Or.inr ⟨rfl, h2⟩⟩))
        | fail)
      all_goals rename_i hbb
      all_goals have hw1 : terms.take k ++ [⟨lb, cd, un, ln, ld, mn, md⟩] = terms.take (k + 1) := by rw [List.take_add_one, hku]; rfl
      all_goals clear hcase
      all_goals first
        | (have hb1 : bb = false := by simpa using hbb
           have hJx3 := hc.elim (fun h => absurd h.1 (by rw [hb1]; simp)) (fun h => h.2)
           rw [hw1] at hJx3
           refine bodyPost_ret (results_none rfl _ _ _) rfl ?_
           exact ⟨⟨_, rfl⟩, .inr ⟨_, ⟨k + 1, by omega, rfl⟩, hJx3⟩⟩)
        | (have hb1 : bb = true := by simpa using hbb
           have h3 := hc.elim (fun h => h.2) (fun h => absurd h.1 (by rw [hb1]; simp))
           have hJ3 := h3.1
           rw [hw1] at hJ3
           refine ⟨⟨k + 1, by omega, by simp, hJ3, h3.2.2 _ _ (blk_alloc hgr _) rfl, Nat.le_trans hsr (Nat.le_trans hbx.size h3.2.1.size)⟩, ?_⟩
           simp [intOf]
           omega)
    · obtain rfl : k = 24 := by omega
      gi_wp2
      go_end0
      exact ⟨⟨_, rfl⟩, .inl ⟨_, rfl, hJs⟩⟩
end Go.Proofs.Ytmnohhmnkmnikaa.Term

/- A term by its name (nomen.Find), walked. -/
set_option linter.unusedVariables false
set_option linter.unusedSimpArgs false
namespace Go.Proofs.Ytmnohhmnkmnikaa.Term
open Go.RowKit Go.Shelf Go.Proofs.YtmnohhmnkmnikaaW.PrintWords Go.Proofs.Ytmnohhmnkmnikaa.Nats Go.Proofs.Ytmnohhmnkmnikaa.HeapKit
attribute [local go_sem] Oper.semAt_some

theorem grown_of_below {A B : World} (h : Below A.heap.size A B) : A.grownBy B none := ⟨h.os, h.tape, h.output, h.size, fun k hk _ => h.block k hk⟩
theorem all_stops (m : Nat) (hm : 1 ≤ m) (n₀ : Nat) (w : World) (hn₀ : n₀ ≤ w.heap.size) :
    SeqStopsK Fence.wide m Try.prog 59 #[] (fun x : TRow => #[x.val]) (Kp n₀) (fun ys => ys = terms) (fun pre => ∃ k, k ≤ 24 ∧ pre = terms.take k) 24 w := fun l J Jx W hW hJ hJx hY h0 =>
  all1 m hm l n₀ J Jx hY W (Nat.le_trans hn₀ hW.size) (fun pre A B hA hb => hJ pre A B none hA (grown_of_below hb) (fun r e => by cases e)) h0
set_option maxRecDepth 100000 in
set_option maxHeartbeats 1000000 in
theorem all_in (m : Nat) (w : World) :
    CallsIn Fence.wide m Try.prog 34 #[] w fun e w' => e = .returned (.func (.func 59) #[] #[]) ∧ w' = w := by
  refine callsIn_of_wp Try.func34 rfl trivial ?_ rfl
  simp only [Try.ntmps34, List.size_toArray, List.length_cons, List.length_nil, Nat.reduceAdd, Nat.reduceSub, Array.replicate_succ, Array.replicate_zero, List.push_toArray, List.append_toArray, List.nil_append, List.cons_append]
  gi_wp2
  go_ret
  exact ⟨rfl, rfl⟩
theorem own_blk {β : Type} {B k : Nat} {o : Obj} (ho : o.isCells = true) : OwnFrom B (fun (_ : β) W => W.heap[k]? = some o) := fun s X Y row hs hg hr =>
  (hg.block k (blk_lt hs) (fun e => by
    obtain ⟨_, o', h1, h2⟩ := hr k e.symm
    rw [show X.heap[k]? = some o from hs] at h1
    cases h1
    rw [ho] at h2
    cases h2)).trans hs
theorem own_pure {β : Type} {B : Nat} {p : β → Prop} : OwnFrom B (fun s (_ : World) => p s) := fun _ _ _ _ h _ _ => h
theorem keeps_set {B : Nat} {W W' : World} (h : KeepsFrom B W W') {p : Addr} (hp : p.block < B) (u : Value) : KeepsFrom B W (W'.setCell p u) :=
  ⟨by simpa using h.size, fun k o hk ho hc => (Below.heap_setCell W' p u k (by omega)).trans (h.same k o hk ho hc)⟩
theorem keeps_below {B : Nat} {W W' : World} (h : Below W.heap.size W W') : KeepsFrom B W W' :=
  ⟨h.size, fun k o _ ho _ => blk_below ho h⟩
/-- The term of a label. -/
def find (name : ByteArray) : Option TRow := terms.find? (fun u => u.label.toList == name.toList)
def zrow : TRow := ⟨⟨#[]⟩, 0, ⟨#[]⟩, 0, 0, 0, 0⟩
/-- A term stored into a box. -/
def put7 (W : World) (b : Nat) (u : TRow) : World := (World.setCell (World.setCell (World.setCell (World.setCell (World.setCell (World.setCell (World.setCell W ⟨b, 0, none⟩ (.string u.label)) ⟨b, 1, none⟩ (.int .i64 u.code)) ⟨b, 2, none⟩ (.string u.unit)) ⟨b, 3, none⟩ (.int .i64 u.ln)) ⟨b, 4, none⟩ (.int .i64 u.ld)) ⟨b, 5, none⟩ (.int .i64 u.mn)) ⟨b, 6, none⟩ (.int .i64 u.md))
theorem put7_blk {W : World} {b : Nat} {t : TypeId} (u : TRow) (h : W.heap[b]? = some (.cells zrow.cells.toArray t (0, 0))) : (put7 W b u).heap[b]? = some (.cells u.cells.toArray t (0, 0)) := by
  have h0 := blk_put (cs' := #[.string u.label, .int .i64 0, .string ⟨#[]⟩, .int .i64 0, .int .i64 0, .int .i64 0, .int .i64 0]) h 0 (.string u.label) rfl
  have h1 := blk_put (cs' := #[.string u.label, .int .i64 u.code, .string ⟨#[]⟩, .int .i64 0, .int .i64 0, .int .i64 0, .int .i64 0]) h0 1 (.int .i64 u.code) rfl
  have h2 := blk_put (cs' := #[.string u.label, .int .i64 u.code, .string u.unit, .int .i64 0, .int .i64 0, .int .i64 0, .int .i64 0]) h1 2 (.string u.unit) rfl
  have h3 := blk_put (cs' := #[.string u.label, .int .i64 u.code, .string u.unit, .int .i64 u.ln, .int .i64 0, .int .i64 0, .int .i64 0]) h2 3 (.int .i64 u.ln) rfl
  have h4 := blk_put (cs' := #[.string u.label, .int .i64 u.code, .string u.unit, .int .i64 u.ln, .int .i64 u.ld, .int .i64 0, .int .i64 0]) h3 4 (.int .i64 u.ld) rfl
  have h5 := blk_put (cs' := #[.string u.label, .int .i64 u.code, .string u.unit, .int .i64 u.ln, .int .i64 u.ld, .int .i64 u.mn, .int .i64 0]) h4 5 (.int .i64 u.mn) rfl
  have h6 := blk_put (cs' := #[.string u.label, .int .i64 u.code, .string u.unit, .int .i64 u.ln, .int .i64 u.ld, .int .i64 u.mn, .int .i64 u.md]) h5 6 (.int .i64 u.md) rfl
  exact h6
theorem put7_far {W : World} {b g : Nat} {o : Obj} (u : TRow) (h : W.heap[g]? = some o) (hne : g ≠ b) : (put7 W b u).heap[g]? = some o := by
  have h0 := (Below.heap_setCell _ ⟨b, 0, none⟩ (.string u.label) g hne).trans h
  have h1 := (Below.heap_setCell _ ⟨b, 1, none⟩ (.int .i64 u.code) g hne).trans h0
  have h2 := (Below.heap_setCell _ ⟨b, 2, none⟩ (.string u.unit) g hne).trans h1
  have h3 := (Below.heap_setCell _ ⟨b, 3, none⟩ (.int .i64 u.ln) g hne).trans h2
  have h4 := (Below.heap_setCell _ ⟨b, 4, none⟩ (.int .i64 u.ld) g hne).trans h3
  have h5 := (Below.heap_setCell _ ⟨b, 5, none⟩ (.int .i64 u.mn) g hne).trans h4
  have h6 := (Below.heap_setCell _ ⟨b, 6, none⟩ (.int .i64 u.md) g hne).trans h5
  exact h6
theorem put7_below {w W : World} {b n : Nat} (u : TRow) (h : Below n w W) (hb : n ≤ b) : Below n w (put7 W b u) := by
  have h0 := Below.setCell h (p := ⟨b, 0, none⟩) hb (.string u.label)
  have h1 := Below.setCell h0 (p := ⟨b, 1, none⟩) hb (.int .i64 u.code)
  have h2 := Below.setCell h1 (p := ⟨b, 2, none⟩) hb (.string u.unit)
  have h3 := Below.setCell h2 (p := ⟨b, 3, none⟩) hb (.int .i64 u.ln)
  have h4 := Below.setCell h3 (p := ⟨b, 4, none⟩) hb (.int .i64 u.ld)
  have h5 := Below.setCell h4 (p := ⟨b, 5, none⟩) hb (.int .i64 u.mn)
  have h6 := Below.setCell h5 (p := ⟨b, 6, none⟩) hb (.int .i64 u.md)
  exact h6
theorem put7_keeps {B : Nat} {W W' : World} {b : Nat} (u : TRow) (h : KeepsFrom B W W') (hb : b < B) : KeepsFrom B W (put7 W' b u) := by
  have h0 := keeps_set h (p := ⟨b, 0, none⟩) hb (.string u.label)
  have h1 := keeps_set h0 (p := ⟨b, 1, none⟩) hb (.int .i64 u.code)
  have h2 := keeps_set h1 (p := ⟨b, 2, none⟩) hb (.string u.unit)
  have h3 := keeps_set h2 (p := ⟨b, 3, none⟩) hb (.int .i64 u.ln)
  have h4 := keeps_set h3 (p := ⟨b, 4, none⟩) hb (.int .i64 u.ld)
  have h5 := keeps_set h4 (p := ⟨b, 5, none⟩) hb (.int .i64 u.mn)
  have h6 := keeps_set h5 (p := ⟨b, 6, none⟩) hb (.int .i64 u.md)
  exact h6

theorem find_hit {name : ByteArray} {pre : List TRow} {u : TRow} {k : Nat} (hk : pre ++ [u] = terms.take k) (h1 : ∀ x ∈ pre, x.label.toList ≠ name.toList) (h2 : u.label.toList = name.toList) : find name = some u := by
  unfold find
  rw [← List.take_append_drop k terms, ← hk, List.find?_append, List.find?_append]
  have h3 : pre.find? (fun u => u.label.toList == name.toList) = none := by
    rw [List.find?_eq_none]
    intro x hx
    simpa using h1 x hx
  rw [h3]
  simp [h2]
theorem find_miss {name : ByteArray} (h1 : ∀ x ∈ terms, x.label.toList ≠ name.toList) : find name = none := by
  unfold find
  rw [List.find?_eq_none]
  intro x hx
  simpa using h1 x hx

set_option maxRecDepth 100000 in
set_option maxHeartbeats 1000000 in
theorem find_in (m : Nat) (hm : 3 ≤ m) (name : ByteArray) (hwn : wordOf name = none) (w : World) :
    CallsIn Fence.wide m Try.prog 18 #[.string name] w fun e W' => e = .returned (.tuple #[((find name).getD zrow).val, .bool (find name).isSome]) ∧ Below w.heap.size w W' := by
  have h1 : 1 ≤ m := by omega
  refine callsIn_of_wp_marks Try.func18 rfl trivial ?_ rfl
  simp only [Try.ntmps18, List.size_toArray, List.length_cons, List.length_nil, Nat.reduceAdd, Nat.reduceSub, Array.replicate_succ, Array.replicate_zero, List.push_toArray, List.append_toArray, List.nil_append, List.cons_append]
  have hB := b3_start w (.cells #[.string name] 9) (.cells #[.string ⟨#[]⟩, .int .i64 0, .string ⟨#[]⟩, .int .i64 0, .int .i64 0, .int .i64 0, .int .i64 0] 58) (.cells #[.bool false] 4)
  have kn := hB.b1
  have kn0 : (((w.alloc (.cells #[.string name] 9)).alloc (.cells #[.string ⟨#[]⟩, .int .i64 0, .string ⟨#[]⟩, .int .i64 0, .int .i64 0, .int .i64 0, .int .i64 0] 58)).alloc (.cells #[.bool false] 4)).cell? ⟨w.heap.size, 0, none⟩ = some (.string name) := blk_cell kn 0
  have kn1 : (((w.alloc (.cells #[.string name] 9)).alloc (.cells #[.string ⟨#[]⟩, .int .i64 0, .string ⟨#[]⟩, .int .i64 0, .int .i64 0, .int .i64 0, .int .i64 0] 58)).alloc (.cells #[.bool false] 4)).drew.cell? ⟨w.heap.size, 0, none⟩ = some (.string name) := blk_cell (show (((w.alloc (.cells #[.string name] 9)).alloc (.cells #[.string ⟨#[]⟩, .int .i64 0, .string ⟨#[]⟩, .int .i64 0, .int .i64 0, .int .i64 0, .int .i64 0] 58)).alloc (.cells #[.bool false] 4)).drew.heap[w.heap.size]? = _ from kn) 0
  gi_wp2
  refine wpIn_mono (Q := fun e a' w' => match e with | .normal => ∃ mm, B3 w w' (.cells #[.string name] 9) (.cells #[.string ⟨#[]⟩, .int .i64 0, .string ⟨#[]⟩, .int .i64 0, .int .i64 0, .int .i64 0, .int .i64 0] 58) (.cells #[.bool false] 4) ∧ a' = { tmps := #[.string name, .pointer (some ⟨w.heap.size, 0, none⟩), .pointer (some ⟨w.heap.size + 1, 0, none⟩), .pointer (some ⟨w.heap.size + 1 + 1, 0, none⟩), .int .i64 0, .bool false, undef, .tuple #[.int .i64 0, .bool false], .map (some mm), .string name, .tuple #[.int .i64 0, .bool false], .int .i64 0, .bool false, undef, undef, undef, undef, undef, undef, undef, undef, undef, undef, undef, undef, undef], defers := [] } | _ => False) (wpIn_wide.2 ?reg) ?cont
  case reg =>
    go_region_with (go_at_call 32; refine (words_calls _).mono ?_; rintro e w' ⟨mm, rfl, hmm, hmb, hB1⟩; have hl := words_look name mm w' hmb; have hBw := hB.step (show Below (World.heap (((w.alloc (.cells #[.string name] 9)).alloc (.cells #[.string ⟨#[]⟩, .int .i64 0, .string ⟨#[]⟩, .int .i64 0, .int .i64 0, .int .i64 0, .int .i64 0] 58)).alloc (.cells #[.bool false] 4))).size (((w.alloc (.cells #[.string name] 9)).alloc (.cells #[.string ⟨#[]⟩, .int .i64 0, .string ⟨#[]⟩, .int .i64 0, .int .i64 0, .int .i64 0, .int .i64 0] 58)).alloc (.cells #[.bool false] 4)) w' from ⟨hB1.os, hB1.tape, hB1.output, hB1.size, hB1.block⟩); have kw : w'.cell? ⟨w.heap.size, 0, none⟩ = some (.string name) := blk_cell hBw.b1 0)
    all_goals exact ⟨mm, hBw, rfl⟩
  intro e a' W0 hq
  obtain rfl : e = .normal := by cases e <;> first | rfl | exact hq.elim
  obtain ⟨mm, hB, rfl⟩ := hq
  gi_wp2_with ((first | refine ⟨trivial, ?_⟩ | skip); gi_at_call 34; refine (all_in (m - 1) _).mono ?_; rintro e W0 ⟨rfl, rfl⟩)
  have hsz := hB.size
  refine wpIn_rangeFunc_ownH rfl h1 (gf := 59) (lb := #[]) rfl trivial (enters_of Try.func59 (by kernel_rfl) rfl)
    (all_stops (m - 1) (by omega) w.heap.size W0 (by omega)) Kp.trans (Kp.book (by omega)) (Below.refl _ _) (fun _ => rfl)
    (fun (pre : List TRow) W => ((((W.heap[w.heap.size]? = some (.cells #[.string name] 9 (0, 0)) ∧ W.heap[w.heap.size + 1]? = some (.cells #[.string ⟨#[]⟩, .int .i64 0, .string ⟨#[]⟩, .int .i64 0, .int .i64 0, .int .i64 0, .int .i64 0] 58 (0, 0))) ∧ W.heap[w.heap.size + 1 + 1]? = some (.cells #[.bool false] 4 (0, 0))) ∧ Below w.heap.size w W) ∧ ∀ x ∈ pre, x.label.toList ≠ name.toList))
    (fun c (pre : List TRow) W => (((∃ p u, c = .ret ∧ pre = p ++ [u] ∧ (∀ x ∈ p, x.label.toList ≠ name.toList) ∧ u.label.toList = name.toList ∧ W.heap[w.heap.size + 1]? = some (.cells u.cells.toArray 58 (0, 0))) ∧ W.heap[w.heap.size + 1 + 1]? = some (.cells #[.bool true] 4 (0, 0))) ∧ Below w.heap.size w W))
    (OwnFrom.and (OwnFrom.and (OwnFrom.and (OwnFrom.and (own_blk rfl) (own_blk rfl)) (own_blk rfl)) (ownFrom_below (Nat.le_refl _) (by omega))) own_pure)
    (fun c => OwnFrom.and (OwnFrom.and (fun s X Y row hs hg hr => by obtain ⟨p, u, h1, h2, h3, h4, h5⟩ := hs; exact ⟨p, u, h1, h2, h3, h4, own_blk (β := Unit) (B := W0.heap.size) rfl () X Y row h5 hg hr⟩) (own_blk rfl)) (ownFrom_below (Nat.le_refl _) (by omega)))
    ⟨⟨⟨⟨hB.b1, hB.b2⟩, hB.b3⟩, hB.be⟩, fun x hx => by cases hx⟩
    (fun (x : TRow) a' W => ∃ Bx, w.heap.size + 1 + 1 < Bx ∧ W.heap[Bx]? = some (.cells x.cells.toArray 58 (0, 0)) ∧ a' = { tmps := #[.string name, .pointer (some ⟨w.heap.size, 0, none⟩), .pointer (some ⟨w.heap.size + 1, 0, none⟩), .pointer (some ⟨w.heap.size + 1 + 1, 0, none⟩), .int .i64 0, .bool false, .pointer (some ⟨Bx, 0, none⟩), .tuple #[.int .i64 0, .bool false], .map (some mm), .string name, .tuple #[.int .i64 0, .bool false], .int .i64 0, .bool false, .bool false, undef, undef, undef, undef, .func (.func 59) #[] #[], x.val, undef, undef, undef, undef, undef, undef], defers := [] })
    (fun x a' _ X Y row hs hg hr => by
      obtain ⟨Bx, h1, h2, h3⟩ := hs
      exact ⟨Bx, h1, own_blk (β := Unit) (B := W0.heap.size) rfl () X Y row h2 hg hr, h3⟩)
    ?assign ?body ?done ?stop
  case assign =>
    rintro l pre x W K ⟨⟨⟨⟨i1, i2⟩, i3⟩, i4⟩, i5⟩ hK
    obtain ⟨lb, cd, un, ln, ld, mn, md⟩ := x
    dsimp only [TRow.val]
    have hlt := blk_lt i3
    gi_wp2
    exact hK _ _ ((KeepsOthers.alloc _ _).from _) ⟨(Below.refl _ W).alloc i4.size _, fun k o ho _ => blk_alloc ho _⟩ ⟨⟨⟨⟨blk_alloc i1 _, blk_alloc i2 _⟩, blk_alloc i3 _⟩, i4.alloc i4.size _⟩, i5⟩ ⟨W.heap.size, hlt, blk_new W _, rfl⟩
  case body =>
    rintro l pre x a' W hl ⟨r, hr⟩ ⟨⟨⟨⟨i1, i2⟩, i3⟩, i4⟩, i5⟩ ⟨Bx, hBx, bX, rfl⟩ hlt
    obtain ⟨lb, cd, un, ln, ld, mn, md⟩ := x
    replace bX : W.heap[Bx]? = some (.cells #[.string lb, .int .i64 cd, .string un, .int .i64 ln, .int .i64 ld, .int .i64 mn, .int .i64 md] 58 (0, 0)) := bX
    have k1 : W.cell? ⟨w.heap.size, 0, none⟩ = some (.string name) := blk_cell i1 0
    have c0 : W.cell? ⟨Bx, 0, none⟩ = some (.string lb) := blk_cell bX 0
    have c1 : W.cell? ⟨Bx, 1, none⟩ = some (.int .i64 cd) := blk_cell bX 1
    have c2 : W.cell? ⟨Bx, 2, none⟩ = some (.string un) := blk_cell bX 2
    have c3 : W.cell? ⟨Bx, 3, none⟩ = some (.int .i64 ln) := blk_cell bX 3
    have c4 : W.cell? ⟨Bx, 4, none⟩ = some (.int .i64 ld) := blk_cell bX 4
    have c5 : W.cell? ⟨Bx, 5, none⟩ = some (.int .i64 mn) := blk_cell bX 5
    have c6 : W.cell? ⟨Bx, 6, none⟩ = some (.int .i64 md) := blk_cell bX 6
    have d0 : W.cell? ⟨w.heap.size + 1, 0, none⟩ = some (.string ⟨#[]⟩) := blk_cell i2 0
    have df0 : W.frozen? ⟨w.heap.size + 1, 0, none⟩ = false := blk_frozen i2 0
    have d1 : W.cell? ⟨w.heap.size + 1, 1, none⟩ = some (.int .i64 0) := blk_cell i2 1
    have df1 : W.frozen? ⟨w.heap.size + 1, 1, none⟩ = false := blk_frozen i2 1
    have d2 : W.cell? ⟨w.heap.size + 1, 2, none⟩ = some (.string ⟨#[]⟩) := blk_cell i2 2
    have df2 : W.frozen? ⟨w.heap.size + 1, 2, none⟩ = false := blk_frozen i2 2
    have d3 : W.cell? ⟨w.heap.size + 1, 3, none⟩ = some (.int .i64 0) := blk_cell i2 3
    have df3 : W.frozen? ⟨w.heap.size + 1, 3, none⟩ = false := blk_frozen i2 3
    have d4 : W.cell? ⟨w.heap.size + 1, 4, none⟩ = some (.int .i64 0) := blk_cell i2 4
    have df4 : W.frozen? ⟨w.heap.size + 1, 4, none⟩ = false := blk_frozen i2 4
    have d5 : W.cell? ⟨w.heap.size + 1, 5, none⟩ = some (.int .i64 0) := blk_cell i2 5
    have df5 : W.frozen? ⟨w.heap.size + 1, 5, none⟩ = false := blk_frozen i2 5
    have d6 : W.cell? ⟨w.heap.size + 1, 6, none⟩ = some (.int .i64 0) := blk_cell i2 6
    have df6 : W.frozen? ⟨w.heap.size + 1, 6, none⟩ = false := blk_frozen i2 6
    have g0 : W.cell? ⟨w.heap.size + 1 + 1, 0, none⟩ = some (.bool false) := blk_cell i3 0
    have gf : W.frozen? ⟨w.heap.size + 1 + 1, 0, none⟩ = false := blk_frozen i3 0
    have n1 : Bx ≠ w.heap.size + 1 := by omega
    have n2 : Bx ≠ w.heap.size + 1 + 1 := by omega
    by_cases he : lb.toList = name.toList
    · have ee : (lb.toList == name.toList) = true := by simp [he]
      have HE := Lib.hid he
      clear he
      gi_wp2
      have hk := keeps_set (put7_keeps (b := w.heap.size + 1) ⟨lb, cd, un, ln, ld, mn, md⟩ (KeepsFrom.refl W0.heap.size W) (by omega)) (p := ⟨w.heap.size + 1 + 1, 0, none⟩) (by show w.heap.size + 1 + 1 < W0.heap.size; omega) (.bool true)
      have j1 := blk_far (put7_blk ⟨lb, cd, un, ln, ld, mn, md⟩ i2) (p := ⟨w.heap.size + 1 + 1, 0, none⟩) (by show w.heap.size + 1 ≠ w.heap.size + 1 + 1; omega) (.bool true)
      have j2 := blk_set (put7_far (b := w.heap.size + 1) ⟨lb, cd, un, ln, ld, mn, md⟩ i3 (by omega)) 0 (.bool true)
      have jB := Below.setCell (put7_below (b := w.heap.size + 1) ⟨lb, cd, un, ln, ld, mn, md⟩ i4 (by omega)) (p := ⟨w.heap.size + 1 + 1, 0, none⟩) (by show w.heap.size ≤ w.heap.size + 1 + 1; omega) (.bool true)
      exact ⟨hk, ⟨⟨pre, ⟨lb, cd, un, ln, ld, mn, md⟩, rfl, rfl, i5, HE.out, j1⟩, j2⟩, jB⟩
    · have ee : (lb.toList == name.toList) = false := by simp [he]
      gi_wp2
      exact ⟨KeepsFrom.refl _ _, Kp.refl _ _, ⟨⟨⟨⟨i1, i2⟩, i3⟩, i4⟩, fun x hx => by
        rcases List.mem_append.1 hx with h | h
        · exact i5 x h
        · rw [List.mem_singleton.1 h]; exact he⟩⟩
  case done =>
    rintro D ys W hD rfl ⟨⟨⟨⟨i1, i2⟩, i3⟩, i4⟩, i5⟩ hK
    have hf := find_miss i5
    have d0 : W.cell? ⟨w.heap.size + 1, 0, none⟩ = some (.string ⟨#[]⟩) := blk_cell i2 0
    have df0 : W.frozen? ⟨w.heap.size + 1, 0, none⟩ = false := blk_frozen i2 0
    have d1 : W.cell? ⟨w.heap.size + 1, 1, none⟩ = some (.int .i64 0) := blk_cell i2 1
    have df1 : W.frozen? ⟨w.heap.size + 1, 1, none⟩ = false := blk_frozen i2 1
    have d2 : W.cell? ⟨w.heap.size + 1, 2, none⟩ = some (.string ⟨#[]⟩) := blk_cell i2 2
    have df2 : W.frozen? ⟨w.heap.size + 1, 2, none⟩ = false := blk_frozen i2 2
    have d3 : W.cell? ⟨w.heap.size + 1, 3, none⟩ = some (.int .i64 0) := blk_cell i2 3
    have df3 : W.frozen? ⟨w.heap.size + 1, 3, none⟩ = false := blk_frozen i2 3
    have d4 : W.cell? ⟨w.heap.size + 1, 4, none⟩ = some (.int .i64 0) := blk_cell i2 4
    have df4 : W.frozen? ⟨w.heap.size + 1, 4, none⟩ = false := blk_frozen i2 4
    have d5 : W.cell? ⟨w.heap.size + 1, 5, none⟩ = some (.int .i64 0) := blk_cell i2 5
    have df5 : W.frozen? ⟨w.heap.size + 1, 5, none⟩ = false := blk_frozen i2 5
    have d6 : W.cell? ⟨w.heap.size + 1, 6, none⟩ = some (.int .i64 0) := blk_cell i2 6
    have df6 : W.frozen? ⟨w.heap.size + 1, 6, none⟩ = false := blk_frozen i2 6
    have g0 : W.cell? ⟨w.heap.size + 1 + 1, 0, none⟩ = some (.bool false) := blk_cell i3 0
    have gf : W.frozen? ⟨w.heap.size + 1 + 1, 0, none⟩ = false := blk_frozen i3 0
    gi_wp2
    have hK1 := (Below.heap_setCell (put7 W (w.heap.size + 1) zrow) ⟨w.heap.size + 1 + 1, 0, none⟩ (.bool false) D (by show D ≠ w.heap.size + 1 + 1; omega)).trans (put7_far (b := w.heap.size + 1) zrow hK (by omega))
    have j1 := blk_far (put7_blk zrow i2) (p := ⟨w.heap.size + 1 + 1, 0, none⟩) (by show w.heap.size + 1 ≠ w.heap.size + 1 + 1; omega) (.bool false)
    have j2 := blk_set (put7_far (b := w.heap.size + 1) zrow i3 (by omega)) 0 (.bool false)
    have jB := Below.setCell (put7_below (b := w.heap.size + 1) zrow i4 (by omega)) (p := ⟨w.heap.size + 1 + 1, 0, none⟩) (by show w.heap.size ≤ w.heap.size + 1 + 1; omega) (.bool false)
    obtain ⟨W1, hW1⟩ : ∃ W1, (put7 W (w.heap.size + 1) zrow).setCell ⟨w.heap.size + 1 + 1, 0, none⟩ (.bool false) = W1 := ⟨_, rfl⟩
    rw [hW1] at hK1 j1 j2 jB
    show bodyPostM Fence.wide m Try.prog Try.f18 _ _ _ ((put7 W (w.heap.size + 1) zrow).setCell ⟨w.heap.size + 1 + 1, 0, none⟩ (.bool false))
    rw [hW1]
    clear hW1
    obtain ⟨W2, hW2⟩ : ∃ W2, W1.putObj D (.deferred none) = W2 := ⟨_, rfl⟩
    have x1 : W2.heap[w.heap.size + 1]? = some (.cells #[.string ⟨#[]⟩, .int .i64 0, .string ⟨#[]⟩, .int .i64 0, .int .i64 0, .int .i64 0, .int .i64 0] 58 (0, 0)) := hW2 ▸ (World.putObj_heap_other (by omega)).trans j1
    have x2 : W2.heap[w.heap.size + 1 + 1]? = some (.cells #[.bool false] 4 (0, 0)) := hW2 ▸ (World.putObj_heap_other (by omega)).trans j2
    have hB2 : Below w.heap.size w W2 := hW2 ▸ jB.trans (belowK_b (w := w) (Nat.le_refl _) W1 D _ _ (by omega) hK1 rfl rfl)
    refine ⟨by simp, .inl ⟨_, _, rfl, run_takeDeferred hK1, ?_⟩⟩
    rw [hW2]
    clear hW2
    have s0 : W2.cell? ⟨w.heap.size + 1, 0, none⟩ = some (.string ⟨#[]⟩) := blk_cell x1 0
    have s1 : W2.cell? ⟨w.heap.size + 1, 1, none⟩ = some (.int .i64 0) := blk_cell x1 1
    have s2 : W2.cell? ⟨w.heap.size + 1, 2, none⟩ = some (.string ⟨#[]⟩) := blk_cell x1 2
    have s3 : W2.cell? ⟨w.heap.size + 1, 3, none⟩ = some (.int .i64 0) := blk_cell x1 3
    have s4 : W2.cell? ⟨w.heap.size + 1, 4, none⟩ = some (.int .i64 0) := blk_cell x1 4
    have s5 : W2.cell? ⟨w.heap.size + 1, 5, none⟩ = some (.int .i64 0) := blk_cell x1 5
    have s6 : W2.cell? ⟨w.heap.size + 1, 6, none⟩ = some (.int .i64 0) := blk_cell x1 6
    have s10 : W2.cell? ⟨w.heap.size + 1 + 1, 0, none⟩ = some (.bool false) := blk_cell x2 0
    refine ⟨_, by simp [results, Try.results18, go_sem, s0, s1, s2, s3, s4, s5, s6, s10]; try rfl, ?_⟩
    try rw [hf]
    exact ⟨rfl, hB2⟩
  case stop =>
    rintro D c pre W hD ⟨k, hk, hpre⟩ ⟨⟨⟨p, u, rfl, rfl, h3, h4, j1⟩, j2⟩, jB⟩ hK
    have hf := find_hit hpre h3 h4
    obtain ⟨lb, cd, un, ln, ld, mn, md⟩ := u
    gi_wp2
    have hK1 := hK
    obtain ⟨W1, hW1⟩ : ∃ W1, W = W1 := ⟨_, rfl⟩
    rw [hW1] at hK1 j1 j2 jB ⊢
    clear hW1 hK
    obtain ⟨W2, hW2⟩ : ∃ W2, W1.putObj D (.deferred none) = W2 := ⟨_, rfl⟩
    have x1 : W2.heap[w.heap.size + 1]? = some (.cells #[.string lb, .int .i64 cd, .string un, .int .i64 ln, .int .i64 ld, .int .i64 mn, .int .i64 md] 58 (0, 0)) := hW2 ▸ (World.putObj_heap_other (by omega)).trans j1
    have x2 : W2.heap[w.heap.size + 1 + 1]? = some (.cells #[.bool true] 4 (0, 0)) := hW2 ▸ (World.putObj_heap_other (by omega)).trans j2
    have hB2 : Below w.heap.size w W2 := hW2 ▸ jB.trans (belowK_b (w := w) (Nat.le_refl _) W1 D _ _ (by omega) hK1 rfl rfl)
    refine ⟨by simp, .inl ⟨_, _, rfl, run_takeDeferred hK1, ?_⟩⟩
    rw [hW2]
    clear hW2
    have s0 : W2.cell? ⟨w.heap.size + 1, 0, none⟩ = some (.string lb) := blk_cell x1 0
    have s1 : W2.cell? ⟨w.heap.size + 1, 1, none⟩ = some (.int .i64 cd) := blk_cell x1 1
    have s2 : W2.cell? ⟨w.heap.size + 1, 2, none⟩ = some (.string un) := blk_cell x1 2
    have s3 : W2.cell? ⟨w.heap.size + 1, 3, none⟩ = some (.int .i64 ln) := blk_cell x1 3
    have s4 : W2.cell? ⟨w.heap.size + 1, 4, none⟩ = some (.int .i64 ld) := blk_cell x1 4
    have s5 : W2.cell? ⟨w.heap.size + 1, 5, none⟩ = some (.int .i64 mn) := blk_cell x1 5
    have s6 : W2.cell? ⟨w.heap.size + 1, 6, none⟩ = some (.int .i64 md) := blk_cell x1 6
    have s10 : W2.cell? ⟨w.heap.size + 1 + 1, 0, none⟩ = some (.bool true) := blk_cell x2 0
    refine ⟨_, by simp [results, Try.results18, go_sem, s0, s1, s2, s3, s4, s5, s6, s10]; try rfl, ?_⟩
    try rw [hf]
    exact ⟨rfl, hB2⟩


theorem word_lt {name : ByteArray} {i : Int} (h : wordOf name = some i) : ∃ k : Nat, i = (k : Int) ∧ k < 24 := by
  unfold wordOf at h
  obtain ⟨p, hp, rfl⟩ := Option.map_eq_some_iff.1 h
  have hm := List.mem_of_find?_eq_some hp
  have hall : ∀ p ∈ wordsL, 0 ≤ p.2 ∧ p.2 < 24 := by decide +kernel
  obtain ⟨h1, h2⟩ := hall p hm
  exact ⟨p.2.toNat, by omega, by omega⟩
/-- The term of a name: of a vendor's word, or of a label. -/
def tfind (name : ByteArray) : Option TRow := match wordOf name with | some i => terms[i.toNat]? | none => find name
set_option maxRecDepth 100000 in
set_option maxHeartbeats 4000000 in
theorem find_word (name : ByteArray) (k : Nat) (hk : k < 24) (u : TRow) (hu : terms[k]? = some u) (hwn : wordOf name = some (k : Int)) (w : World) :
    Calls Try.prog 18 #[.string name] w fun e W' => e = .returned (.tuple #[u.val, .bool true]) ∧ Below w.heap.size w W' := by
  have hB := b3_start w (.cells #[.string name] 9) (.cells #[.string ⟨#[]⟩, .int .i64 0, .string ⟨#[]⟩, .int .i64 0, .int .i64 0, .int .i64 0, .int .i64 0] 58) (.cells #[.bool false] 4)
  have kn := hB.b1
  have kn0 : (((w.alloc (.cells #[.string name] 9)).alloc (.cells #[.string ⟨#[]⟩, .int .i64 0, .string ⟨#[]⟩, .int .i64 0, .int .i64 0, .int .i64 0, .int .i64 0] 58)).alloc (.cells #[.bool false] 4)).cell? ⟨w.heap.size, 0, none⟩ = some (.string name) := blk_cell kn 0
  have kn1 : (((w.alloc (.cells #[.string name] 9)).alloc (.cells #[.string ⟨#[]⟩, .int .i64 0, .string ⟨#[]⟩, .int .i64 0, .int .i64 0, .int .i64 0, .int .i64 0] 58)).alloc (.cells #[.bool false] 4)).drew.cell? ⟨w.heap.size, 0, none⟩ = some (.string name) := blk_cell (show (((w.alloc (.cells #[.string name] 9)).alloc (.cells #[.string ⟨#[]⟩, .int .i64 0, .string ⟨#[]⟩, .int .i64 0, .int .i64 0, .int .i64 0, .int .i64 0] 58)).alloc (.cells #[.bool false] 4)).drew.heap[w.heap.size]? = _ from kn) 0
  obtain ⟨lb, cd, un, ln, ld, mn, md⟩ := u
  dsimp only [TRow.val]
  go_enter Try.func18, Try.ntmps18
  go_wp2_with fail
  refine wp_mono (Q := fun e a' w' => match e with | .normal => ∃ mm, B3 w w' (.cells #[.string name] 9) (.cells #[.string ⟨#[]⟩, .int .i64 0, .string ⟨#[]⟩, .int .i64 0, .int .i64 0, .int .i64 0, .int .i64 0] 58) (.cells #[.bool false] 4) ∧ a' = { tmps := #[.string name, .pointer (some ⟨w.heap.size, 0, none⟩), .pointer (some ⟨w.heap.size + 1, 0, none⟩), .pointer (some ⟨w.heap.size + 1 + 1, 0, none⟩), .int .i64 (k : Int), .bool true, undef, .tuple #[.int .i64 (k : Int), .bool true], .map (some mm), .string name, .tuple #[.int .i64 (k : Int), .bool true], .int .i64 (k : Int), .bool true, undef, undef, undef, undef, undef, undef, undef, undef, undef, undef, undef, undef, undef], defers := [] } | _ => False) ?reg ?cont
  case reg =>
    go_region_with (go_at_call 32; refine (words_calls _).mono ?_; rintro e w' ⟨mm, rfl, hmm, hmb, hB1⟩; have hl := words_look name mm w' hmb; have hBw := hB.step (show Below (World.heap (((w.alloc (.cells #[.string name] 9)).alloc (.cells #[.string ⟨#[]⟩, .int .i64 0, .string ⟨#[]⟩, .int .i64 0, .int .i64 0, .int .i64 0, .int .i64 0] 58)).alloc (.cells #[.bool false] 4))).size (((w.alloc (.cells #[.string name] 9)).alloc (.cells #[.string ⟨#[]⟩, .int .i64 0, .string ⟨#[]⟩, .int .i64 0, .int .i64 0, .int .i64 0, .int .i64 0] 58)).alloc (.cells #[.bool false] 4)) w' from ⟨hB1.os, hB1.tape, hB1.output, hB1.size, hB1.block⟩); have kw : w'.cell? ⟨w.heap.size, 0, none⟩ = some (.string name) := blk_cell hBw.b1 0)
    all_goals exact ⟨mm, hBw, rfl⟩
  intro e a' W0 hq
  obtain rfl : e = .normal := by cases e <;> first | rfl | exact hq.elim
  obtain ⟨mm, hB, rfl⟩ := hq
  clear kn kn0 kn1
  go_wp2_with fail
  refine (table_calls _).mono ?_
  rintro e w2 ⟨g, rfl, hg, hb, hB1⟩
  have hs0 := hB.size
  replace hB := hB.step hB1
  have c0 : w2.cell? ⟨g, k * 7, none⟩ = some (.string lb) := by
    rw [blk_cell hb, List.getElem?_toArray]
    exact flat_at terms k _ hu 0 _ rfl
  have c1 : w2.cell? ⟨g, k * 7 + 1, none⟩ = some (.int .i64 cd) := by
    rw [blk_cell hb, List.getElem?_toArray]
    exact flat_at terms k _ hu 1 _ rfl
  have c2 : w2.cell? ⟨g, k * 7 + 2, none⟩ = some (.string un) := by
    rw [blk_cell hb, List.getElem?_toArray]
    exact flat_at terms k _ hu 2 _ rfl
  have c3 : w2.cell? ⟨g, k * 7 + 3, none⟩ = some (.int .i64 ln) := by
    rw [blk_cell hb, List.getElem?_toArray]
    exact flat_at terms k _ hu 3 _ rfl
  have c4 : w2.cell? ⟨g, k * 7 + 4, none⟩ = some (.int .i64 ld) := by
    rw [blk_cell hb, List.getElem?_toArray]
    exact flat_at terms k _ hu 4 _ rfl
  have c5 : w2.cell? ⟨g, k * 7 + 5, none⟩ = some (.int .i64 mn) := by
    rw [blk_cell hb, List.getElem?_toArray]
    exact flat_at terms k _ hu 5 _ rfl
  have c6 : w2.cell? ⟨g, k * 7 + 6, none⟩ = some (.int .i64 md) := by
    rw [blk_cell hb, List.getElem?_toArray]
    exact flat_at terms k _ hu 6 _ rfl
  have d0 : w2.cell? ⟨w.heap.size + 1, 0, none⟩ = some (.string ⟨#[]⟩) := blk_cell hB.b2 0
  have df0 : w2.frozen? ⟨w.heap.size + 1, 0, none⟩ = false := blk_frozen hB.b2 0
  have d1 : w2.cell? ⟨w.heap.size + 1, 1, none⟩ = some (.int .i64 0) := blk_cell hB.b2 1
  have df1 : w2.frozen? ⟨w.heap.size + 1, 1, none⟩ = false := blk_frozen hB.b2 1
  have d2 : w2.cell? ⟨w.heap.size + 1, 2, none⟩ = some (.string ⟨#[]⟩) := blk_cell hB.b2 2
  have df2 : w2.frozen? ⟨w.heap.size + 1, 2, none⟩ = false := blk_frozen hB.b2 2
  have d3 : w2.cell? ⟨w.heap.size + 1, 3, none⟩ = some (.int .i64 0) := blk_cell hB.b2 3
  have df3 : w2.frozen? ⟨w.heap.size + 1, 3, none⟩ = false := blk_frozen hB.b2 3
  have d4 : w2.cell? ⟨w.heap.size + 1, 4, none⟩ = some (.int .i64 0) := blk_cell hB.b2 4
  have df4 : w2.frozen? ⟨w.heap.size + 1, 4, none⟩ = false := blk_frozen hB.b2 4
  have d5 : w2.cell? ⟨w.heap.size + 1, 5, none⟩ = some (.int .i64 0) := blk_cell hB.b2 5
  have df5 : w2.frozen? ⟨w.heap.size + 1, 5, none⟩ = false := blk_frozen hB.b2 5
  have d6 : w2.cell? ⟨w.heap.size + 1, 6, none⟩ = some (.int .i64 0) := blk_cell hB.b2 6
  have df6 : w2.frozen? ⟨w.heap.size + 1, 6, none⟩ = false := blk_frozen hB.b2 6
  have g0 : w2.cell? ⟨w.heap.size + 1 + 1, 0, none⟩ = some (.bool false) := blk_cell hB.b3 0
  have gf : w2.frozen? ⟨w.heap.size + 1 + 1, 0, none⟩ = false := blk_frozen hB.b3 0
  have hk1 : (k : Int) < 24 := by omega
  have n1 : g ≠ w.heap.size + 1 := by omega
  have n2 : g ≠ w.heap.size + 1 + 1 := by omega
  have bk0 : (0 : Int) ≤ (k : Int) := by omega
  go_wp2_with fail
  have j1 := blk_far (put7_blk ⟨lb, cd, un, ln, ld, mn, md⟩ hB.b2) (p := ⟨w.heap.size + 1 + 1, 0, none⟩) (by show w.heap.size + 1 ≠ w.heap.size + 1 + 1; omega) (.bool true)
  have j2 := blk_set (put7_far (b := w.heap.size + 1) ⟨lb, cd, un, ln, ld, mn, md⟩ hB.b3 (by omega)) 0 (.bool true)
  have jB := Below.setCell (put7_below (b := w.heap.size + 1) ⟨lb, cd, un, ln, ld, mn, md⟩ hB.be (by omega)) (p := ⟨w.heap.size + 1 + 1, 0, none⟩) (by show w.heap.size ≤ w.heap.size + 1 + 1; omega) (.bool true)
  obtain ⟨W1, hW1⟩ : ∃ W1, (put7 w2 (w.heap.size + 1) ⟨lb, cd, un, ln, ld, mn, md⟩).setCell ⟨w.heap.size + 1 + 1, 0, none⟩ (.bool true) = W1 := ⟨_, rfl⟩
  rw [hW1] at j1 j2 jB
  show bodyPost Try.prog Try.f18 _ _ _ ((put7 w2 (w.heap.size + 1) ⟨lb, cd, un, ln, ld, mn, md⟩).setCell ⟨w.heap.size + 1 + 1, 0, none⟩ (.bool true))
  rw [hW1]
  clear hW1
  replace j1 : W1.heap[w.heap.size + 1]? = some (.cells #[.string lb, .int .i64 cd, .string un, .int .i64 ln, .int .i64 ld, .int .i64 mn, .int .i64 md] 58 (0, 0)) := j1
  replace j2 : W1.heap[w.heap.size + 1 + 1]? = some (.cells #[.bool true] 4 (0, 0)) := j2
  have s0 : W1.cell? ⟨w.heap.size + 1, 0, none⟩ = some (.string lb) := blk_cell j1 0
  have s1 : W1.cell? ⟨w.heap.size + 1, 1, none⟩ = some (.int .i64 cd) := blk_cell j1 1
  have s2 : W1.cell? ⟨w.heap.size + 1, 2, none⟩ = some (.string un) := blk_cell j1 2
  have s3 : W1.cell? ⟨w.heap.size + 1, 3, none⟩ = some (.int .i64 ln) := blk_cell j1 3
  have s4 : W1.cell? ⟨w.heap.size + 1, 4, none⟩ = some (.int .i64 ld) := blk_cell j1 4
  have s5 : W1.cell? ⟨w.heap.size + 1, 5, none⟩ = some (.int .i64 mn) := blk_cell j1 5
  have s6 : W1.cell? ⟨w.heap.size + 1, 6, none⟩ = some (.int .i64 md) := blk_cell j1 6
  have s10 : W1.cell? ⟨w.heap.size + 1 + 1, 0, none⟩ = some (.bool true) := blk_cell j2 0
  refine bodyPost_ret (by simp [results, Try.results18, go_sem, s0, s1, s2, s3, s4, s5, s6, s10]; try rfl) rfl ?_
  exact ⟨rfl, jB⟩
theorem find_calls (name : ByteArray) (w : World) : Calls Try.prog 18 #[.string name] w fun e W' => e = .returned (.tuple #[((tfind name).getD zrow).val, .bool (tfind name).isSome]) ∧ Below w.heap.size w W' := by
  unfold tfind
  cases hw : wordOf name with
  | none => exact (callsIn_wide (n := 3)).1 (find_in 3 (Nat.le_refl _) name hw w)
  | some i =>
    obtain ⟨k, rfl, hk⟩ := word_lt hw
    have hlu : terms.length = 24 := rfl
    have hu : terms[k]? = some (terms[k]'(by omega)) := List.getElem?_eq_getElem _
    dsimp only
    rw [Int.toNat_natCast, hu]
    exact find_word name k hk _ hu hw w
end Go.Proofs.Ytmnohhmnkmnikaa.Term

/- The code of what has no term (nomen.Private), walked. -/
set_option linter.unusedVariables false
set_option linter.unusedSimpArgs false
namespace Go.Proofs.Ytmnohhmnkmnikaa.Term
open Go.RowKit Go.Proofs.YtmnohhmnkmnikaaW.PrintWords Go.Proofs.YtmnohhmnkmnikaaW.PrintLast Go.Proofs.Ytmnohhmnkmnikaa.Nats Go.Proofs.Ytmnohhmnkmnikaa.HeapKit Go.Proofs.Ytmnohhmnkmnikaa.Sums Go.Proofs.Ytmnohhmnkmnikaa.CrcCalls

/-- A text's bytes. -/
def bytesL (s : ByteArray) : List Nat := s.data.toList.map fun b => b.toNat
theorem bytesL_length (s : ByteArray) : (bytesL s).length = s.size := by rw [bytesL, List.length_map]; exact data_length s
theorem bytesL_lt (s : ByteArray) : ∀ x ∈ bytesL s, x < 256 := by
  intro x hx
  obtain ⟨b, _, rfl⟩ := List.mem_map.1 hx
  exact b.toNat_lt
theorem C_bytes (W : World) (e : TypeId) (s : ByteArray) (hs : s.size ≤ 9223372036854775807) : Kd.C (Kd.int .u8) (Lib.bytesWorld W e s) (some ⟨W.heap.size, 0, none⟩) s.size (ints (bytesL s)) := by
  refine ⟨by rw [ints_length, bytesL_length], hs, fun _ => ⟨_, rfl, fun j p hp => ⟨[.int .u8 p], rfl, rfl, fun i u hu => ?_⟩⟩⟩
  have hj : j < (ints (bytesL s)).length := (List.getElem?_eq_some_iff.1 hp).1
  rw [ints_length, bytesL_length] at hj
  cases i with
  | zero =>
    simp at hu
    subst hu
    show (Lib.bytesWorld W e s).cell? (Addr.add ⟨W.heap.size, 0, none⟩ (j * 1 + 0)) = _
    rw [show Addr.add ⟨W.heap.size, 0, none⟩ (j * 1 + 0) = ⟨W.heap.size, j, none⟩ from by unfold Addr.add; split <;> simp_all, Lib.bytesWorld_cell W e s j hj]
    have h' : j < s.data.toList.length := by rw [data_length]; exact hj
    simp only [ints, bytesL, List.map_map, List.getElem?_map, List.getElem?_eq_getElem h', Option.map_some, Option.some.injEq, Function.comp] at hp
    rw [List.getD_eq_getElem?_getD, List.getElem?_eq_getElem h', Option.getD_some, ← hp]
  | succ i => simp at hu
theorem i64_or {a b : Nat} (ha : a < 256) (hb : b < 256) : Go.bits .or .i64 ((a : Int) * 256) (b : Int) = (a : Int) * 256 + (b : Int) := by
  have e : (a : Int) * 256 = ((a * 256 : Nat) : Int) := by omega
  have ho := Nat.shiftLeft_add_eq_or_of_lt (i := 8) (show b < 2 ^ 8 from hb) a
  rw [Nat.shiftLeft_eq] at ho
  rw [e]
  show IntKind.i64.wrap ((BitVec.ofInt 64 ((a * 256 : Nat) : Int) ||| BitVec.ofInt 64 (b : Int)).toNat : Int) = _
  rw [BitVec.toNat_or, BitVec.ofInt_natCast, BitVec.ofInt_natCast, BitVec.toNat_ofNat, BitVec.toNat_ofNat, Nat.mod_eq_of_lt (by omega), Nat.mod_eq_of_lt (by omega), ← ho, IntKind.wrap_i64]
  omega
theorem w64 {n : Int} (h : 0 ≤ n ∧ n < 16777216) : wrap64 n = n := by unfold wrap64; omega
theorem arith {hi lo : Nat} (h1 : hi < 256) (h2 : lo < 256) : (0 ≤ (hi : Int) ∧ (hi : Int) < 256) ∧ (0 ≤ (lo : Int) ∧ (lo : Int) < 256) ∧ (0 ≤ (hi : Int) * 256 + (lo : Int) ∧ (hi : Int) * 256 + (lo : Int) < 65536) ∧ (0 ≤ (((hi * 256 + lo) % 4096 : Nat) : Int) ∧ (((hi * 256 + lo) % 4096 : Nat) : Int) < 4096) ∧
    Go.bits .or .i64 ((hi : Int) * 256) (lo : Int) = (hi : Int) * 256 + (lo : Int) ∧ Go.bits .or .i64 0 (hi : Int) = (hi : Int) ∧ ((hi : Int) * 256 + (lo : Int)).tmod 4096 = (((hi * 256 + lo) % 4096 : Nat) : Int) := by
  refine ⟨⟨Int.natCast_nonneg _, Int.ofNat_lt.2 h1⟩, ⟨Int.natCast_nonneg _, Int.ofNat_lt.2 h2⟩, by omega, by omega, i64_or h1 h2, by simpa using i64_or (a := 0) (by decide) h1, ?_⟩
  rw [Int.tmod_eq_emod_of_nonneg (by omega)]
  omega
/-- The code of what has no term. -/
def privR (s : ByteArray) : Int := 61440 + ((CrcPlain.sum 16 32773 0 true 0 (bytesL s) % 4096 : Nat) : Int)
def RelV (w2 : World) (H X : Int) (s5 s18 : Value) (wr : World) : Prop := wr = w2 ∧ ((s18 = .int .i64 0 ∧ s5 = .int .i64 0) ∨ (s18 = .int .i64 1 ∧ s5 = .int .i64 H) ∨ (s18 = .int .i64 2 ∧ s5 = .int .i64 X))
set_option maxRecDepth 100000 in
set_option maxHeartbeats 4000000 in
theorem private_calls (s : ByteArray) (hs : s.size ≤ 4000) (w : World) :
    Calls Try.prog 65 #[.string s] w fun e w' => e = .returned (.int .i64 (privR s)) ∧ Below w.heap.size w w' := by
  have kb := fun W => print_bytes (P := Try.prog) 9 22 5 Try.underlying9 Try.underlying22 Try.underlying5 s W
  have hC := C_bytes w 5 s (by omega)
  have hB := bytes_below (Below.refl w.heap.size w) (Nat.le_refl _) 5 s
  have hcap := grownCap_ge w s.size 0 5
  have hcall := of6 (bytesL_lt s) (bytesL_length s) (by omega) hcap _ hC
  have HCALL := Lib.hid hcall
  clear hcall
  go_enter Try.func65, Try.ntmps65
  go_wp2_with fail
  refine HCALL.out.mono ?_
  rintro e w2 ⟨v, rfl, hR, hb⟩
  replace hB := bthen hB hb
  have hv16 := CrcPlain.sum_lt (w := 16) (p := 32773) (f := 0) (last := 0) (by decide) (by decide) (by decide) (by decide) true (bytesL_lt s)
  obtain ⟨x, hx⟩ : ∃ x, CrcPlain.sum 16 32773 0 true 0 (bytesL s) = x := ⟨_, rfl⟩
  rw [hx] at hv16 hR
  obtain ⟨g, c, rfl, _, _, _, hcell⟩ := list_form hR (by rw [endB_length]; decide)
  rw [endB_length] at hcell ⊢
  obtain ⟨hi, hhi⟩ : ∃ h, x / 256 % 256 = h := ⟨_, rfl⟩
  obtain ⟨lo, hlo⟩ : ∃ h, x % 256 = h := ⟨_, rfl⟩
  have c0 : w2.cell? ⟨g, 0, none⟩ = some (.int .u8 (hi : Int)) := by
    rw [hcell 0 (by decide), ← hhi]
    congr 3
    try simp [endB]
  have c1 : w2.cell? ⟨g, 1, none⟩ = some (.int .u8 (lo : Int)) := by
    rw [hcell 1 (by decide), ← hlo]
    congr 3
    try simp [endB]
  have hxx : x = hi * 256 + lo := by clear hcell hR hC hB HCALL kb hcap c0 c1; omega
  have hi256 : hi < 256 := by rw [← hhi]; exact Nat.mod_lt _ (by decide)
  have lo256 : lo < 256 := by rw [← hlo]; exact Nat.mod_lt _ (by decide)
  clear hcell hR hC hhi hlo hb HCALL kb hcap hv16
  obtain ⟨ph, pl, px, pr, o1, o2, er⟩ := arith hi256 lo256
  have HPR : privR s = 61440 + (((hi * 256 + lo) % 4096 : Nat) : Int) := by unfold privR; rw [hx, hxx]
  clear hx hxx hi256 lo256
  obtain ⟨R, hR⟩ : ∃ R : Int, (((hi * 256 + lo) % 4096 : Nat) : Int) = R := ⟨_, rfl⟩
  rw [hR] at er HPR pr
  obtain ⟨X, hX⟩ : ∃ R : Int, (hi : Int) * 256 + (lo : Int) = R := ⟨_, rfl⟩
  rw [hX] at er o1 px
  obtain ⟨H, hH⟩ : ∃ R : Int, (hi : Int) = R := ⟨_, rfl⟩
  obtain ⟨L, hL⟩ : ∃ R : Int, (lo : Int) = R := ⟨_, rfl⟩
  rw [hH] at c0 o1 o2 ph
  rw [hL] at c1 o1 pl
  have HPR := Lib.hid HPR
  clear hR hX hH hL
  have u0 := w64 (n := H * 256) (by omega)
  have u1 := w64 (n := 61440 + R) (by omega)
  have uh := w64 (n := H) (by omega)
  have ul := w64 (n := L) (by omega)
  go_wp2_with fail
  go_loopw [5, 18] (RelV w2 H X) (fun _ i _ => 2 - (intOf i).toNat)
  case atStart => exact ⟨rfl, .inl ⟨rfl, rfl⟩⟩
  case round =>
    obtain ⟨rfl, ⟨rfl, rfl⟩ | ⟨rfl, rfl⟩ | ⟨rfl, rfl⟩⟩ := hrel
    · go_wp2_with fail
      refine ⟨⟨rfl, .inr (.inl ⟨rfl, by first | rfl | rw [o2]⟩)⟩, by decide⟩
    · go_wp2_with fail
      refine ⟨⟨rfl, .inr (.inr ⟨rfl, by first | rfl | rw [ul, o1] | rw [o1]⟩)⟩, by decide⟩
    · go_wp2_with fail
      go_ret
      rw [HPR.out]
      exact ⟨rfl, hB⟩
end Go.Proofs.Ytmnohhmnkmnikaa.Term

/- What the laws of layer 20 share: nomen.Code, the example, nomen.Inside. -/
set_option linter.unusedVariables false
set_option linter.unusedSimpArgs false
namespace Go.Proofs.Ytmnohhmnkmnikaa.Term
open Go.RowKit Go.Proofs.YtmnohhmnkmnikaaW.PrintWords Go.Proofs.YtmnohhmnkmnikaaW.PrintLast Go.Proofs.Ytmnohhmnkmnikaa.Nats Go.Proofs.Ytmnohhmnkmnikaa.HeapKit

/-- A name's code; whether it has a term. -/
def codeR (s : ByteArray) : Int × Bool := match tfind s with | some u => (u.code, true) | none => (privR s, false)
set_option maxRecDepth 100000 in
set_option maxHeartbeats 4000000 in
theorem code_calls (s : ByteArray) (hs : s.size ≤ 4000) (w : World) :
    Calls Try.prog 45 #[.string s] w fun e w' => e = .returned (.tuple #[.int .i64 (codeR s).1, .bool (codeR s).2]) ∧ Below w.heap.size w w' := by
  have hf := fun w => find_calls s w
  have hp := fun w => private_calls s hs w
  have hc : codeR s = match tfind s with | some u => (u.code, true) | none => (privR s, false) := rfl
  cases hu : tfind s with
  | none =>
    rw [hu] at hc
    simp only [hu, Option.getD_none, Option.isSome_none, TRow.val] at hf
    rw [hc]
    have HF := Lib.hid hf
    have HP := Lib.hid hp
    clear hf hp hc hu
    go_enter Try.func45, Try.ntmps45
    go_wp2_with fail
    refine (HF.out _).mono ?_
    rintro e w1 ⟨rfl, hb⟩
    have hB := bthen hb (below_alloc (Below.refl _ _) (.cells #[.string zrow.label, .int .i64 zrow.code, .string zrow.unit, .int .i64 zrow.ln, .int .i64 zrow.ld, .int .i64 zrow.mn, .int .i64 zrow.md] 58))
    go_wp2_with fail
    refine (HP.out _).mono ?_
    rintro e w2 ⟨rfl, hb2⟩
    go_wp2_with fail
    go_ret2
    exact ⟨rfl, bthen hB hb2⟩
  | some u =>
    rw [hu] at hc
    simp only [hu, Option.getD_some, Option.isSome_some, TRow.val] at hf
    rw [hc]
    have HF := Lib.hid hf
    clear hf hp hc hu
    go_enter Try.func45, Try.ntmps45
    go_wp2_with fail
    refine (HF.out _).mono ?_
    rintro e w1 ⟨rfl, hb⟩
    have hB := bthen hb (below_alloc (Below.refl _ _) (.cells #[.string u.label, .int .i64 u.code, .string u.unit, .int .i64 u.ln, .int .i64 u.ld, .int .i64 u.mn, .int .i64 u.md] 58))
    have k := blk_new w1 (.cells #[.string u.label, .int .i64 u.code, .string u.unit, .int .i64 u.ln, .int .i64 u.ld, .int .i64 u.mn, .int .i64 u.md] 58)
    have c0 : (w1.alloc (.cells #[.string u.label, .int .i64 u.code, .string u.unit, .int .i64 u.ln, .int .i64 u.ld, .int .i64 u.mn, .int .i64 u.md] 58)).cell? ⟨w1.heap.size, 0, none⟩ = some (.string u.label) := blk_cell k 0
    have c1 : (w1.alloc (.cells #[.string u.label, .int .i64 u.code, .string u.unit, .int .i64 u.ln, .int .i64 u.ld, .int .i64 u.mn, .int .i64 u.md] 58)).cell? ⟨w1.heap.size, 1, none⟩ = some (.int .i64 u.code) := blk_cell k 1
    have c2 : (w1.alloc (.cells #[.string u.label, .int .i64 u.code, .string u.unit, .int .i64 u.ln, .int .i64 u.ld, .int .i64 u.mn, .int .i64 u.md] 58)).cell? ⟨w1.heap.size, 2, none⟩ = some (.string u.unit) := blk_cell k 2
    have c3 : (w1.alloc (.cells #[.string u.label, .int .i64 u.code, .string u.unit, .int .i64 u.ln, .int .i64 u.ld, .int .i64 u.mn, .int .i64 u.md] 58)).cell? ⟨w1.heap.size, 3, none⟩ = some (.int .i64 u.ln) := blk_cell k 3
    have c4 : (w1.alloc (.cells #[.string u.label, .int .i64 u.code, .string u.unit, .int .i64 u.ln, .int .i64 u.ld, .int .i64 u.mn, .int .i64 u.md] 58)).cell? ⟨w1.heap.size, 4, none⟩ = some (.int .i64 u.ld) := blk_cell k 4
    have c5 : (w1.alloc (.cells #[.string u.label, .int .i64 u.code, .string u.unit, .int .i64 u.ln, .int .i64 u.ld, .int .i64 u.mn, .int .i64 u.md] 58)).cell? ⟨w1.heap.size, 5, none⟩ = some (.int .i64 u.mn) := blk_cell k 5
    have c6 : (w1.alloc (.cells #[.string u.label, .int .i64 u.code, .string u.unit, .int .i64 u.ln, .int .i64 u.ld, .int .i64 u.mn, .int .i64 u.md] 58)).cell? ⟨w1.heap.size, 6, none⟩ = some (.int .i64 u.md) := blk_cell k 6
    go_wp2_with fail
    go_ret2
    exact ⟨rfl, hB⟩
theorem awake_code1 : (codeR ⟨#[104, 101, 97, 114, 116]⟩) = (147842, true) := by decide +kernel
theorem awake_code2 : (codeR ⟨#[]⟩) = (61440, false) := by decide +kernel
end Go.Proofs.Ytmnohhmnkmnikaa.Term

/- nomen.Inside, walked: whether a value lies between a term's least and its most. -/
set_option linter.unusedVariables false
set_option linter.unusedSimpArgs false
namespace Go.Proofs.Ytmnohhmnkmnikaa.Term
open Go.RowKit Go.Proofs.YtmnohhmnkmnikaaW.PrintWords Go.Proofs.YtmnohhmnkmnikaaW.PrintLast Go.Proofs.Ytmnohhmnkmnikaa.Nats Go.Proofs.Ytmnohhmnkmnikaa.HeapKit Go.Proofs.Ytmnohhmnkmnikaa.RatPlain

/-- A value that is right, not below the least and not above the most. -/
def insideR (u : TRow) (n d : Int) : Bool := (decide (Rt n d) && !decide ((Rt n d ∧ Rt u.ln u.ld) ∧ n * u.ld < u.ln * d)) && !decide ((Rt u.mn u.md ∧ Rt n d) ∧ u.mn * d < n * u.md)
set_option maxRecDepth 100000 in
set_option maxHeartbeats 4000000 in
theorem inside_calls (u : TRow) {n d : Int} (hn : I64 n) (hd : I64 d) (h1 : I64 u.ln) (h2 : I64 u.ld) (h3 : I64 u.mn) (h4 : I64 u.md) (w : World) :
    Calls Try.prog 47 #[.agg #[.string u.label, .int .i64 u.code, .string u.unit, .int .i64 u.ln, .int .i64 u.ld, .int .i64 u.mn, .int .i64 u.md], .agg #[.int .i64 n, .int .i64 d]] w fun e w' => e = .returned (.bool (insideR u n d)) ∧ Below w.heap.size w w' := by
  have hr := fun w => Scale.right_calls hn hd w
  have hl := fun w => less_calls hn hd h1 h2 w
  have hm := fun w => less_calls h3 h4 hn hd w
  unfold insideR
  obtain ⟨r1, e1⟩ : ∃ r, decide (Rt n d) = r := ⟨_, rfl⟩
  obtain ⟨r2, e2⟩ : ∃ r, decide ((Rt n d ∧ Rt u.ln u.ld) ∧ n * u.ld < u.ln * d) = r := ⟨_, rfl⟩
  obtain ⟨r3, e3⟩ : ∃ r, decide ((Rt u.mn u.md ∧ Rt n d) ∧ u.mn * d < n * u.md) = r := ⟨_, rfl⟩
  simp only [e1] at hr
  simp only [e2] at hl
  simp only [e3] at hm
  rw [e1, e2, e3]
  clear e1 e2 e3
  have HR := Lib.hid hr
  have HL := Lib.hid hl
  have HM := Lib.hid hm
  clear hr hl hm
  have hB := b2_start w (.cells #[.string u.label, .int .i64 u.code, .string u.unit, .int .i64 u.ln, .int .i64 u.ld, .int .i64 u.mn, .int .i64 u.md] 58) (.cells #[.int .i64 n, .int .i64 d] 53)
  go_enter Try.func47, Try.ntmps47
  go_wp2_with fail
  refine (HR.out _).mono ?_
  rintro e w1 ⟨rfl, hb1⟩
  replace hB := hB.step hb1
  clear hb1
  have a0 : w1.cell? ⟨w.heap.size, 0, none⟩ = some (.string u.label) := blk_cell hB.b1 0
  have a1 : w1.cell? ⟨w.heap.size, 1, none⟩ = some (.int .i64 u.code) := blk_cell hB.b1 1
  have a2 : w1.cell? ⟨w.heap.size, 2, none⟩ = some (.string u.unit) := blk_cell hB.b1 2
  have a3 : w1.cell? ⟨w.heap.size, 3, none⟩ = some (.int .i64 u.ln) := blk_cell hB.b1 3
  have a4 : w1.cell? ⟨w.heap.size, 4, none⟩ = some (.int .i64 u.ld) := blk_cell hB.b1 4
  have a5 : w1.cell? ⟨w.heap.size, 5, none⟩ = some (.int .i64 u.mn) := blk_cell hB.b1 5
  have a6 : w1.cell? ⟨w.heap.size, 6, none⟩ = some (.int .i64 u.md) := blk_cell hB.b1 6
  have av0 : w1.cell? ⟨(w.heap.size + 1), 0, none⟩ = some (.int .i64 n) := blk_cell hB.b2 0
  have av1 : w1.cell? ⟨(w.heap.size + 1), 1, none⟩ = some (.int .i64 d) := blk_cell hB.b2 1
  cases r1 with
  | false =>
    go_wp2_with fail
    go_ret
    exact ⟨by simp, hB.be⟩
  | true =>
    go_wp2_with fail
    refine (HL.out _).mono ?_
    rintro e w2 ⟨rfl, hb2⟩
    replace hB := hB.step hb2
    clear hb2
    have b0 : w2.cell? ⟨w.heap.size, 0, none⟩ = some (.string u.label) := blk_cell hB.b1 0
    have b1 : w2.cell? ⟨w.heap.size, 1, none⟩ = some (.int .i64 u.code) := blk_cell hB.b1 1
    have b2 : w2.cell? ⟨w.heap.size, 2, none⟩ = some (.string u.unit) := blk_cell hB.b1 2
    have b3 : w2.cell? ⟨w.heap.size, 3, none⟩ = some (.int .i64 u.ln) := blk_cell hB.b1 3
    have b4 : w2.cell? ⟨w.heap.size, 4, none⟩ = some (.int .i64 u.ld) := blk_cell hB.b1 4
    have b5 : w2.cell? ⟨w.heap.size, 5, none⟩ = some (.int .i64 u.mn) := blk_cell hB.b1 5
    have b6 : w2.cell? ⟨w.heap.size, 6, none⟩ = some (.int .i64 u.md) := blk_cell hB.b1 6
    have bv0 : w2.cell? ⟨(w.heap.size + 1), 0, none⟩ = some (.int .i64 n) := blk_cell hB.b2 0
    have bv1 : w2.cell? ⟨(w.heap.size + 1), 1, none⟩ = some (.int .i64 d) := blk_cell hB.b2 1
    cases r2 with
    | true =>
      go_wp2_with fail
      go_ret
      exact ⟨by simp, hB.be⟩
    | false =>
      go_wp2_with fail
      refine (HM.out _).mono ?_
      rintro e w3 ⟨rfl, hb3⟩
      replace hB := hB.step hb3
      clear hb3
      go_wp2_with fail
      go_ret
      exact ⟨by simp, hB.be⟩
end Go.Proofs.Ytmnohhmnkmnikaa.Term


