import Derived.Test.YtcmofedfbjpjlaaSumsMore
import Derived.Test.YtcmofedfbjpjlaaPNamesx1
import Derived.LoopTactic
import Derived.RegionTactic
import Derived.BigRegion
import Derived.Test.YtcmofedfbjpjlaaCrcRefSum
/- The nine names of the kinds of endings. -/
set_option linter.unusedVariables false
set_option linter.unusedSimpArgs false
namespace Go.Proofs.Ytcmofedfbjpjlaa.Sums
open Go.RowKit Go.Proofs.YtcmofedfbjpjlaaW.PrintWords Go.Proofs.YtcmofedfbjpjlaaW.PrintLast Go.Proofs.Ytcmofedfbjpjlaa.Nats Go.Proofs.Ytcmofedfbjpjlaa.HeapKit Go.Proofs.Ytcmofedfbjpjlaa.CrcCalls

def nine : List ByteArray := [⟨#[110, 111, 110, 101]⟩, ⟨#[115, 117, 109]⟩, ⟨#[108, 114, 99]⟩, ⟨#[120, 111, 114]⟩, ⟨#[102, 108, 101, 116, 99, 104, 101, 114]⟩, ⟨#[99, 114, 99, 56]⟩, ⟨#[99, 114, 99, 49, 54]⟩, ⟨#[99, 99, 105, 116, 116]⟩, ⟨#[99, 114, 99, 51, 50]⟩]
theorem nine_apart : ∀ i < 9, ∀ k < i, ((nine.getD i ByteArray.empty).toList == (nine.getD k ByteArray.empty).toList) = false := by decide +kernel
theorem nine_kind (j : Nat) (hj : j < 9) : ∃ n F, kindOf (nine.getD j ByteArray.empty) = some (n, F) ∧ n ≤ 4 := by
  have h : j = 0 ∨ j = 1 ∨ j = 2 ∨ j = 3 ∨ j = 4 ∨ j = 5 ∨ j = 6 ∨ j = 7 ∨ j = 8 := by omega
  rcases h with rfl | rfl | rfl | rfl | rfl | rfl | rfl | rfl | rfl
  · exact ⟨0, sumS, by kernel_rfl, by decide⟩
  · exact ⟨1, sumS, by kernel_rfl, by decide⟩
  · exact ⟨1, negS, by kernel_rfl, by decide⟩
  · exact ⟨1, mixS, by kernel_rfl, by decide⟩
  · exact ⟨2, flS, by kernel_rfl, by decide⟩
  · exact ⟨1, fun l => CrcPlain.sum 8 7 0 false 0 l, by kernel_rfl, by decide⟩
  · exact ⟨2, fun l => CrcPlain.sum 16 32773 0 true 0 l, by kernel_rfl, by decide⟩
  · exact ⟨2, fun l => CrcPlain.sum 16 4129 65535 false 0 l, by kernel_rfl, by decide⟩
  · exact ⟨4, fun l => CrcPlain.sum 32 79764919 4294967295 true 4294967295 l, by kernel_rfl, by decide⟩
theorem names_calls (w : World) : Calls Try.prog 48 #[] w fun e w' => ∃ v, e = .returned v ∧ Kd.R Kd.string 9 w' w.heap.size (fun _ => True) v nine ∧ Below w.heap.size w w' :=
  PNames.sums_Names.calls nine w rfl
theorem nine_form {w : World} {base : Nat} {v : Value} (h : Kd.R Kd.string 9 w base (fun _ => True) v nine) : ∃ g c, v = .slice (some ⟨g, 0, none⟩) 9 c := by
  obtain ⟨g, c, rfl, _⟩ := Kd.R_form h (by decide)
  exact ⟨g, c, rfl⟩
theorem nine_cell {w : World} {base g c : Nat} (h : Kd.R Kd.string 9 w base (fun _ => True) (.slice (some ⟨g, 0, none⟩) 9 c) nine) (i : Nat) (hi : i < 9) : w.cell? ⟨g, i, none⟩ = some (.string (nine.getD i ByteArray.empty)) := by
  obtain ⟨_, _, hC⟩ := Kd.R_reads' h
  obtain ⟨ad, hA, hc⟩ := Kd.at_string hC (i : Int) (by omega) (by show (i : Int) < ((nine.length : Nat) : Int); have : nine.length = 9 := rfl; omega)
  cases hA
  rw [Int.toNat_natCast, show Addr.add ⟨g, 0, none⟩ i = ⟨g, i, none⟩ from by unfold Addr.add; split <;> simp_all] at hc
  rw [hc]
  congr 2
theorem C_nil (w : World) : Kd.C (Kd.int .u8) w none 0 (ints []) := ⟨rfl, by decide, fun h => absurd h (by decide)⟩
end Go.Proofs.Ytcmofedfbjpjlaa.Sums

/- One byte changed, in plain Lean: just when the ending stays. -/
set_option linter.unusedVariables false
set_option linter.unusedSimpArgs false
namespace Go.Proofs.Ytcmofedfbjpjlaa.Sums
open Go.RowKit Go.Proofs.YtcmofedfbjpjlaaW.PrintWords Go.Proofs.Ytcmofedfbjpjlaa.Nats

theorem dec_end : ∀ (n v a : Nat), (endB n v).foldl (fun a b => a * 256 + b) a = a * 256 ^ n + v % 256 ^ n
  | 0, v, a => by simp [endB, Nat.mod_one]
  | n + 1, v, a => by
    rw [endB_succ, List.foldl_cons, dec_end n v, Nat.pow_succ, Nat.mod_mul, Nat.add_mul, Nat.mul_assoc, Nat.mul_comm 256 (256 ^ n), Nat.mul_comm (v / 256 ^ n % 256) (256 ^ n)]
    omega
theorem end_inj {n v v' : Nat} (hv : v < 256 ^ n) (hv' : v' < 256 ^ n) (h : endB n v = endB n v') : v = v' := by
  have h1 := dec_end n v 0
  have h2 := dec_end n v' 0
  rw [h, h2] at h1
  rw [Nat.mod_eq_of_lt hv, Nat.mod_eq_of_lt hv'] at h1
  omega
theorem refP_sum (l : List Nat) : (refP l).1 = l.sum := by
  refine CrcPlain.snocInd (P := fun l => (refP l).1 = l.sum) rfl ?_ l
  intro l c ih
  rw [refP_snoc, List.sum_append]
  unfold refA
  dsimp only
  rw [ih]
  simp
theorem mix_fold (l : List Nat) : ∀ s, l.foldl (fun x c => x ^^^ c) s = s ^^^ mixS l := by
  refine CrcPlain.snocInd (P := fun l => ∀ s, l.foldl (fun x c => x ^^^ c) s = s ^^^ mixS l) (by intro s; simp [mixS]) ?_ l
  intro l c ih s
  rw [List.foldl_append, ih, mixS_snoc]
  simp only [List.foldl_cons, List.foldl_nil, Nat.xor_assoc]
theorem mix_mid (a b : List Nat) (x : Nat) : mixS (a ++ x :: b) = mixS a ^^^ x ^^^ mixS b := by
  have h := mix_fold b (mixS a ^^^ x)
  unfold mixS at *
  rw [List.foldl_append, List.foldl_cons]
  exact h
theorem fl_mid (a b : List Nat) {x y : Nat} (h : x % 255 = y % 255) : flP (a ++ x :: b) = flP (a ++ y :: b) := by
  unfold flP
  rw [List.foldl_append, List.foldl_append, List.foldl_cons, List.foldl_cons]
  congr 1
  generalize a.foldl flA (0, 0) = q
  show ((q.1 + x) % 255, (q.2 + (q.1 + x) % 255) % 255) = ((q.1 + y) % 255, (q.2 + (q.1 + y) % 255) % 255)
  rw [show (q.1 + x) % 255 = (q.1 + y) % 255 from by omega]
theorem flP_lt (l : List Nat) : (flP l).1 < 255 ∧ (flP l).2 < 255 := by
  refine CrcPlain.snocInd (P := fun l => (flP l).1 < 255 ∧ (flP l).2 < 255) (by decide) ?_ l
  intro l c ih
  rw [flP_snoc]
  exact ⟨Nat.mod_lt _ (by decide), Nat.mod_lt _ (by decide)⟩
theorem mid_lt {a b : List Nat} {x y : Nat} (h : ∀ z ∈ a ++ x :: b, z < 256) (hy : y < 256) : ∀ z ∈ a ++ y :: b, z < 256 := by
  intro z hz
  rcases List.mem_append.1 hz with k | k
  · exact h z (List.mem_append_left _ k)
  · rcases List.mem_cons.1 k with k | k
    · rw [k]; exact hy
    · exact h z (List.mem_append_right _ (.tail _ k))
section
variable {a b : List Nat} {x y : Nat} (hl : ∀ z ∈ a ++ x :: b, z < 256) (hy : y < 256) (hn : (a ++ x :: b).length ≤ 300)
include hl hy hn
theorem sums_mid : sumS (a ++ x :: b) = a.sum + x + b.sum ∧ sumS (a ++ y :: b) = a.sum + y + b.sum ∧ x < 256 ∧ a.sum + x + b.sum ≤ 76500 ∧ a.sum + y + b.sum ≤ 76500 := by
  obtain ⟨h1, _, _, h2, _⟩ := bounds _ hl hn
  have hl2 := mid_lt hl hy
  have hn2 : (a ++ y :: b).length ≤ 300 := by rw [List.length_append, List.length_cons] at *; exact hn
  obtain ⟨k1, _, _, k2, _⟩ := bounds _ hl2 hn2
  rw [refP_sum] at h1 h2 k1 k2
  rw [List.sum_append, List.sum_cons] at h1 h2 k1 k2
  refine ⟨by omega, by omega, hl x (by simp), by omega, by omega⟩
theorem one_sum : decide (endB 1 (sumS (a ++ y :: b)) = endB 1 (sumS (a ++ x :: b))) = decide (x = y) := by
  obtain ⟨h1, h2, h3, h4, h5⟩ := sums_mid hl hy hn
  rw [h1, h2]
  refine decide_eq_decide.2 ?_
  simp only [endB, List.range_succ, List.range_zero, List.nil_append, List.map_cons, List.map_nil, List.cons.injEq, and_true]
  simp
  omega
theorem one_neg : decide (endB 1 (negS (a ++ y :: b)) = endB 1 (negS (a ++ x :: b))) = decide (x = y) := by
  obtain ⟨h1, h2, h3, h4, h5⟩ := sums_mid hl hy hn
  unfold negS
  rw [h1, h2]
  refine decide_eq_decide.2 ?_
  simp only [endB, List.range_succ, List.range_zero, List.nil_append, List.map_cons, List.map_nil, List.cons.injEq, and_true]
  simp
  omega
theorem one_mix : decide (endB 1 (mixS (a ++ y :: b)) = endB 1 (mixS (a ++ x :: b))) = decide (x = y) := by
  have hx := hl x (by simp)
  have hl2 := mid_lt hl hy
  have hn2 : (a ++ y :: b).length ≤ 300 := by rw [List.length_append, List.length_cons] at *; exact hn
  obtain ⟨_, _, h1, _⟩ := bounds _ hl hn
  obtain ⟨_, _, h2, _⟩ := bounds _ hl2 hn2
  refine decide_eq_decide.2 ⟨fun h => ?_, fun h => by rw [h]⟩
  have e := end_inj (n := 1) (by omega) (by omega) h
  rw [mix_mid, mix_mid] at e
  exact (CrcPlain.xor_cancel_l (CrcPlain.xor_cancel_r e)).symm
theorem one_fl : decide (endB 2 (flS (a ++ y :: b)) = endB 2 (flS (a ++ x :: b))) = decide (x = y ∨ (x = 0 ∧ y = 255) ∨ (x = 255 ∧ y = 0)) := by
  have hx := hl x (by simp)
  have hl2 := mid_lt hl hy
  have hn2 : (a ++ y :: b).length ≤ 300 := by rw [List.length_append, List.length_cons] at *; exact hn
  obtain ⟨_, _, _, h1, h3, _⟩ := bounds _ hl hn
  obtain ⟨_, _, _, h2, h4, _⟩ := bounds _ hl2 hn2
  obtain ⟨k1, k2, _⟩ := sums_mid hl hy hn
  have f1 := flP_lt (a ++ x :: b)
  have f2 := flP_lt (a ++ y :: b)
  refine decide_eq_decide.2 ⟨fun h => ?_, fun h => ?_⟩
  · have e := end_inj (n := 2) (by unfold flS; omega) (by unfold flS; omega) h
    unfold flS at e
    omega
  · have e : x % 255 = y % 255 := by omega
    unfold flS
    rw [fl_mid a b e]
end
theorem one_crc {a b : List Nat} {x y : Nat} (hl : ∀ z ∈ a ++ x :: b, z < 256) (hy : y < 256) {w p f last : Nat} {t : Bool} {N : Nat} (hw : 8 ≤ w) (hp : p < 2 ^ w) (hf : f < 2 ^ w) (hla : last < 2 ^ w) (hodd : p.testBit 0 = true) (hN : 2 ^ w = 256 ^ N) : decide (endB N (CrcPlain.sum w p f t last (a ++ y :: b)) = endB N (CrcPlain.sum w p f t last (a ++ x :: b))) = decide (x = y) := by
  have hx := hl x (by simp)
  have hl2 := mid_lt hl hy
  refine decide_eq_decide.2 ⟨fun h => ?_, fun h => by rw [h]⟩
  have s1 := CrcPlain.sum_lt hw hp hf hla t hl
  have s2 := CrcPlain.sum_lt hw hp hf hla t hl2
  rw [hN] at s1 s2
  have e := end_inj s2 s1 h
  exact (CrcPlain.sum_one hw hp hf hodd t a b y x (fun z hz => hl z (List.mem_append_left _ hz)) (fun z hz => hl z (List.mem_append_right _ (.tail _ hz))) hy hx e).symm
end Go.Proofs.Ytcmofedfbjpjlaa.Sums

