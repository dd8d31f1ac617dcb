import Derived.Test.YtcmofedfbjpjlaaSumsOf
/- What the laws of layer 5 share: the document's example. -/
set_option linter.unusedVariables false
set_option linter.unusedSimpArgs false
namespace Go.Proofs.Ytcmofedfbjpjlaa.Sums
open Go.RowKit Go.Proofs.YtcmofedfbjpjlaaW.PrintWords Go.Proofs.YtcmofedfbjpjlaaW.PrintLast Go.Proofs.Ytcmofedfbjpjlaa.Nats Go.Proofs.Ytcmofedfbjpjlaa.HeapKit Go.Proofs.Ytcmofedfbjpjlaa.CrcCalls

/-- An owned row of bytes: where it lies, and what its cells are. -/
theorem list_form {w : World} {base : Nat} {ok : Nat → Prop} {v : Value} {l : List Nat} (h : Kd.R (Kd.int .u8) 5 w base ok v (ints l)) (hn : 0 < l.length) :
    ∃ g c, v = .slice (some ⟨g, 0, none⟩) l.length c ∧ l.length ≤ c ∧ base ≤ g ∧ Kd.C (Kd.int .u8) w (some ⟨g, 0, none⟩) l.length (ints l) ∧ ∀ i, i < l.length → w.cell? ⟨g, i, none⟩ = some (.int .u8 (l.getD i 0 : Nat)) := by
  obtain ⟨g, c, rfl, hg, _, _⟩ := Kd.R_form h (by rw [ints_length]; exact hn)
  have e := ints_length l
  rw [e] at h ⊢
  obtain ⟨_, h2, h3⟩ := Kd.R_reads' h
  rw [e] at h3
  refine ⟨g, c, rfl, h2, hg, h3, fun i hi => ?_⟩
  have hc := (Kd.R_celln 0 h (i : Int) (by omega) (by omega)).1
  rw [show ((i : Int)).toNat = i from rfl] at hc
  rw [hc]
  congr 2
  simp [rdOf, ints, List.getD_eq_getElem?_getD, hi]
theorem awake_fl : endB 2 (flS [97, 98, 99, 100, 101]) = [200, 240] := by decide +kernel
set_option maxRecDepth 100000 in
set_option maxHeartbeats 1000000 in
theorem awake05 (w : World) : Calls Try.prog 46 #[] w fun e w' => e = .returned (.bool true) ∧ Below w.heap.size w w' := by
  have kc : ∀ (w : World) (C : Array Value) (n c : Nat), (convert 54 54 (.slice (some ⟨w.heap.size, 0, none⟩) n c)).run Try.prog (w.alloc (.cells C 5)) = .ok (.slice (some ⟨w.heap.size, 0, none⟩) n c) (w.alloc (.cells C 5 (C.size, C.size + 1))) := fun w C n c => by
    exact Lib.run_convert_bytes_const (P := Try.prog) w 54 5 C n c Try.underlying54 Try.underlying5
  go_enter Try.func46, Try.ntmps46
  go_wp2_with fail
  have hC : Kd.C (Kd.int .u8) (w.alloc (.cells #[.int .u8 97, .int .u8 98, .int .u8 99, .int .u8 100, .int .u8 101] 5 (5, 6))) (some ⟨w.heap.size, 0, none⟩) 5 (ints [97, 98, 99, 100, 101]) :=
    reads_block (cs := #[.int .u8 97, .int .u8 98, .int .u8 99, .int .u8 100, .int .u8 101]) (t := 5) (fz := (5, 6)) [97, 98, 99, 100, 101] (heap_alloc_new w _) rfl (by decide)
  refine (of4 (l := [97, 98, 99, 100, 101]) (by decide) rfl (by decide) (Nat.le_refl 5) _ hC).mono ?_
  rintro e w1 ⟨v, rfl, hR, hb⟩
  have hB := bthen (below_alloc (Below.refl w.heap.size w) (.cells #[.int .u8 97, .int .u8 98, .int .u8 99, .int .u8 100, .int .u8 101] 5 (5, 6))) hb
  rw [awake_fl] at hR
  obtain ⟨g, c, rfl, _, _, _, hcell⟩ := list_form hR (by decide)
  have c0 : w1.cell? ⟨g, 0, none⟩ = some (.int .u8 200) := hcell 0 (by decide)
  have c1 : w1.cell? ⟨g, 1, none⟩ = some (.int .u8 240) := hcell 1 (by decide)
  clear hcell hR hC kc
  simp only [List.length_cons, List.length_nil, Nat.reduceAdd]
  go_wp2_with fail
  go_ret
  exact ⟨rfl, hB⟩
end Go.Proofs.Ytcmofedfbjpjlaa.Sums
