import Derived.Maps.AppendAt
import Derived.Test.YtcldlfhnmkogeaaTermBase
/- The terms' labels (nomen.Labels), walked. -/
set_option linter.unusedVariables false
set_option linter.unusedSimpArgs false
namespace Go.Proofs.Ytcldlfhnmkogeaa.Term
open Go.RowKit Go.Shelf Go.Proofs.YtcldlfhnmkogeaaW.PrintWords Go.Proofs.Ytcldlfhnmkogeaa.Nats Go.Proofs.Ytcldlfhnmkogeaa.HeapKit
attribute [local go_sem] Oper.semAt_some

theorem info_S : (Try.prog.info? 9).map (fun i => (i.zero, i.size, i.bytes)) = some (some (.string ⟨#[]⟩), 1, 16) := by kernel_rfl
def lbV (u : TRow) : Value := .string u.label
theorem kept_unit {W w1 : World} {B base n k : Nat} {v u : Value} {xs : List Value} {o : Obj} (h : W.heap[k]? = some o) (ho : isU o = true) (hv : Boxed W B 73 v) (hr : W.ownsRow base 9 1 v n xs) {o2 : Obj} (hg : (W.alloc o2).grownBy w1 v.ownBlock) : (w1.setCell ⟨B, 0, none⟩ u).heap[k]? = some o := by
  have h1 : some k ≠ v.ownBlock := by
    rcases hr.2 with ⟨rfl, _⟩ | ⟨g, cap, cur, rfl, _, hgb, _⟩
    · simp [Value.ownBlock]
    · intro e'
      obtain rfl : k = g := by simpa [Value.ownBlock] using e'
      rw [hgb] at h
      cases h
      cases ho
  have h2 : k ≠ B := by
    rintro rfl
    rw [show W.heap[k]? = _ from hv] at h
    cases h
    cases ho
  have h3 := blk_alloc h o2
  have h4 := (hg.block k (blk_lt h3) h1).trans h3
  exact (Below.heap_setCell w1 ⟨B, 0, none⟩ u k h2).trans h4
set_option maxRecDepth 100000 in
set_option maxHeartbeats 2000000 in
theorem labels_in (m : Nat) (hm : 3 ≤ m) (w : World) :
    CallsIn Fence.wide m Try.prog 46 #[] w fun e W' => ∃ v, e = .returned v ∧ W'.ownsRow w.heap.size 9 1 v 24 (terms.map lbV) ∧ Below w.heap.size w W' := by
  have h1 : 1 ≤ m := by omega
  obtain ⟨i0, hi, hz0, hz1, hz2⟩ := info_parts info_S
  refine callsIn_of_wp_marks Try.func46 rfl trivial ?_ rfl
  simp only [Try.ntmps46, List.size_toArray, List.length_cons, List.length_nil, Nat.reduceAdd, Nat.reduceSub, Array.replicate_succ, Array.replicate_zero, List.push_toArray, List.append_toArray, List.nil_append, List.cons_append]
  gi_wp2_with ((first | refine ⟨trivial, ?_⟩ | skip); gi_at_call 68; refine (all_in (m - 1) _).mono ?_; rintro e w' ⟨rfl, rfl⟩)
  have bO := Boxed.new w 73 (.slice none 0 0)
  have hB0 : Below w.heap.size w (w.alloc (.cells #[.slice none 0 0] 73)) := (Below.refl _ w).alloc (Nat.le_refl _) _
  have hsz : (w.alloc (.cells #[.slice none 0 0] 73)).heap.size = w.heap.size + 1 := by simp
  obtain ⟨W0, hW0⟩ : ∃ W0, w.alloc (.cells #[.slice none 0 0] 73) = W0 := ⟨_, rfl⟩
  rw [hW0] at bO hB0 hsz ⊢
  clear hW0
  refine wpIn_rangeFunc_ownH rfl h1 (gf := 87) (lb := #[]) rfl trivial (enters_of Try.func87 (by kernel_rfl) rfl)
    (all_stops (m - 1) (by omega) w.heap.size W0 (by omega)) Kp.trans (Kp.book (by omega)) (Below.refl _ _) (fun _ => rfl)
    (fun (pre : List TRow) W => (∃ v, Boxed W w.heap.size 73 v ∧ W.ownsRow w.heap.size 9 1 v pre.length (pre.map lbV) ∧ True) ∧ Below w.heap.size w W)
    (fun _ _ _ => False)
    (OwnFrom.and (Own.from (holdsRow_own w.heap.size w.heap.size 73 9 1 (fun pre : List TRow => pre.length) (fun pre : List TRow => pre.map lbV) (fun (pre : List TRow) v => True)) _) (ownFrom_below (Nat.le_refl _) (by omega)))
    (fun _ _ _ _ _ hs _ _ => hs)
    ⟨⟨_, bO, World.ownsRow_nil _ _ _ _, trivial⟩, hB0⟩
    (fun (x : TRow) a' W => ∃ Bx, w.heap.size < Bx ∧ W.heap[Bx]? = some (.cells x.cells.toArray 57 (0, 0)) ∧ a' = { tmps := #[.slice none 0 0, .pointer (some ⟨w.heap.size, 0, none⟩), .pointer (some ⟨Bx, 0, none⟩), .func (.func 87) #[] #[], x.val, undef, undef, undef, undef, undef, undef], defers := [] })
    (fun x a' _ X Y row hs hg hr => by
      obtain ⟨Bx, h1, h2, h3⟩ := hs
      exact ⟨Bx, h1, own_blk (β := Unit) (B := W0.heap.size) rfl () X Y row h2 hg hr, h3⟩)
    ?assign ?body ?done ?stop
  case assign =>
    rintro l pre x W K ⟨⟨v, hv, hrow, _⟩, hB⟩ hK
    obtain ⟨lb, cd, un, ln, ld, mn, md⟩ := x
    dsimp only [TRow.val]
    have hlt := blk_lt (show W.heap[w.heap.size]? = _ from hv)
    gi_wp2
    exact hK _ _ ((KeepsOthers.alloc _ _).from _) ⟨(Below.refl _ W).alloc hB.size _, fun k o ho _ => blk_alloc ho _⟩ ⟨⟨v, hv.alloc _, hrow.alloc _, trivial⟩, hB.alloc hB.size _⟩ ⟨W.heap.size, hlt, blk_new W _, rfl⟩
  case body =>
    rintro l pre x a' W hl ⟨r, hr⟩ ⟨⟨v, hv, hrow, _⟩, hB⟩ ⟨Bx, hBx, bX, rfl⟩ hlt
    have hc := hv.cell
    have k0 : W.cell? ⟨Bx, 0, none⟩ = some (.string x.label) := blk_cell bX 0
    gi_wp2_with (gi_at_builtin; refine wpListIn_append_own _ rfl _ _ 73 rfl w.heap.size 9 i0 (.string ⟨#[]⟩) 1 16 Try.underlying73 hi hz0 hz1 hz2 rfl (by decide) _ _ _ rfl (hrow.alloc _) ⟨W.heap.size, 0, none⟩ 1 1 [.string x.label] rfl rfl (cell_one_new _ _ _) (by simp [Value.oneCell']) (Nat.le_trans (show pre.length + 1 ≤ 65 by omega) (by decide)) (by omega) (by have := hB.size; simp; omega) ?_; intro v' w1 hown' hgrow _; obtain ⟨g', cap', rfl⟩ := ownsRow_succ hown'; obtain ⟨hv1, hv2, hr2, hk2, hb2⟩ := hv.appended (by decide) hrow hB.size (Nat.le_refl _) hown' hgrow; have hc1 := hv1.cell; have hf1 := hv1.frozen)
    exact ⟨hk2.from _, ⟨hb2, fun k o ho hu => kept_unit ho hu hv hrow hgrow⟩, ⟨⟨_, hv2, by simpa [lbV] using hr2, trivial⟩, hB.trans hb2⟩⟩
  case done =>
    rintro D ys W hD rfl ⟨⟨v, hv, hrow, _⟩, hB⟩ hK
    have hc := hv.cell
    gi_wp2
    refine ⟨by simp, .inl ⟨_, _, rfl, run_takeDeferred hK, ?_⟩⟩
    refine ⟨_, results_tmp rfl _ _ _, v, rfl, ?_, hB.trans (belowK_b (w := w) (Nat.le_refl _) W D _ _ (by omega) hK rfl rfl)⟩
    exact ownsRow_putObj hrow (.deferred none) hK rfl
  case stop =>
    rintro D c pre W _ _ h _
    exact h.elim

theorem labels_calls (w : World) : Calls Try.prog 46 #[] w fun e W' => ∃ v, e = .returned v ∧ W'.ownsRow w.heap.size 9 1 v 24 (terms.map lbV) ∧ Below w.heap.size w W' :=
  (callsIn_wide (n := 3)).1 (labels_in 3 (Nat.le_refl _) w)
end Go.Proofs.Ytcldlfhnmkogeaa.Term
