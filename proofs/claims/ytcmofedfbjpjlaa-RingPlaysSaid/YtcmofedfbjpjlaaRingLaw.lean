import Derived.Test.YtcmofedfbjpjlaaRingQInt
import Derived.WalkKit
import Derived.LoopTactic
import Derived.Lib.Hide
/- The ring's awake; the acts. -/
set_option linter.unusedVariables false
set_option linter.unusedSimpArgs false
namespace Go.Proofs.Ytcmofedfbjpjlaa.RingLaw
open Go.RowKit Go.Proofs.YtcmofedfbjpjlaaW.PrintWords Go.Proofs.Ytcmofedfbjpjlaa.Nats Go.Proofs.Ytcmofedfbjpjlaa.RingInt Go.Proofs.Ytcmofedfbjpjlaa.RingQInt

theorem bthen {w w1 w2 : World} (h : Below w.heap.size w w1) (k : Below w1.heap.size w1 w2) : Below w.heap.size w w2 := h.trans (k.mono h.size)

/-- The acts, read. -/
def Acts (W : World) (A : Option Addr) (l : List (Bool × Int)) : Prop := ∀ i, i < l.length → ∃ ad, A = some ad ∧ W.cell? (ad.add (i * 2)) = some (.bool (l.getD i (false, 0)).1) ∧ W.cell? (ad.add (i * 2 + 1)) = some (.int .i64 (l.getD i (false, 0)).2)
theorem Acts.step {W w2 : World} {A : Option Addr} {l : List (Bool × Int)} (h : Acts W A l) (hb : Below W.heap.size W w2) : Acts w2 A l := fun i hi => by
  obtain ⟨ad, h1, h2, h3⟩ := h i hi
  exact ⟨ad, h1, (hb.cell (World.block_lt_of_cell? W _ h2)).trans h2, (hb.cell (World.block_lt_of_cell? W _ h3)).trans h3⟩

set_option maxRecDepth 100000 in
set_option maxHeartbeats 1000000 in
theorem awake (W : World) : Calls Try.prog 16 #[] W fun e w' => e = .returned (.bool true) ∧ Below W.heap.size W w' := by
  go_enter Try.func16, Try.ntmps16
  go_wp2_with fail
  refine (newQ 2 (by decide) (by decide) _).mono ?_
  rintro e w1 ⟨gb, ga, rfl, q1, hgb, hga, hb1⟩
  go_wp2_with fail
  refine (put q1 (by decide) 1).mono ?_
  rintro e w2 ⟨rfl, q2, hb2⟩
  go_wp2_with fail
  refine (put q2 (by decide) 2).mono ?_
  rintro e w3 ⟨rfl, q3, hb3⟩
  go_wp2_with fail
  refine (put q3 (by decide) 3).mono ?_
  rintro e w4 ⟨rfl, q4, hb4⟩
  go_wp2_with fail
  refine (listQ q4).mono ?_
  rintro e w5 ⟨v, rfl, hv, hb5⟩
  have q5 := q4.step hb5
  have hB : Below W.heap.size W w5 := bthen (((hb2.trans hb3).trans hb4).up hb1 hgb hga) hb5
  rcases hv with ⟨_, h0⟩ | ⟨g, c, rfl, hc, hcell⟩
  · exact absurd h0 (by decide)
  · have r0 : w5.cell? ⟨g, 0, none⟩ = some (.int .i64 2) := hcell 0 (by decide)
    have r1 : w5.cell? ⟨g, 1, none⟩ = some (.int .i64 3) := hcell 1 (by decide)
    have hl : (putQ 2 (putQ 2 (putQ 2 [] 1) 2) 3).length = 2 := by decide
    rw [hl] at hc ⊢
    clear hcell hl
    go_wp2_with fail
    refine (lostQ q5).mono ?_
    rintro e w6 ⟨rfl, hb6⟩
    go_wp2_with fail
    go_ret
    exact ⟨rfl, bthen hB hb6⟩
end Go.Proofs.Ytcmofedfbjpjlaa.RingLaw
