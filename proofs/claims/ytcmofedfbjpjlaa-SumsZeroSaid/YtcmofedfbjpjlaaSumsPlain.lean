import Derived.Test.YtcmofedfbjpjlaaPsummedx1
import Derived.Test.YtcmofedfbjpjlaaPmixedx1
import Derived.Test.YtcmofedfbjpjlaaPfletcherx1
import Derived.Test.YtcmofedfbjpjlaaPnegativex1
import Derived.Test.YtcmofedfbjpjlaaCrcRunPSum
/- The sums of bytes (sums.summed, negative, mixed, fletcher) in plain Lean, and as contracts. -/
set_option linter.unusedVariables false
set_option linter.unusedSimpArgs false
namespace Go.Proofs.Ytcmofedfbjpjlaa.Sums
open Go.RowKit Go.Proofs.YtcmofedfbjpjlaaW.PrintWords Go.Proofs.YtcmofedfbjpjlaaW.PrintLast Go.Proofs.Ytcmofedfbjpjlaa.Nats

def addS (s c : Nat) : Nat := (s + c) % 4294967296
def sumS (l : List Nat) : Nat := l.foldl addS 0
def negS (l : List Nat) : Nat := (4294967296 - sumS l) % 4294967296
def mixS (l : List Nat) : Nat := l.foldl (fun x c => x ^^^ c) 0
def flA (p : Nat × Nat) (c : Nat) : Nat × Nat := ((p.1 + c) % 255, (p.2 + (p.1 + c) % 255) % 255)
def flP (l : List Nat) : Nat × Nat := l.foldl flA (0, 0)
def flS (l : List Nat) : Nat := (flP l).2 * 256 + (flP l).1

theorem fold_lt : ∀ (l : List Nat) (s : Nat), s < 4294967296 → l.foldl addS s < 4294967296
  | [], s, h => h
  | c :: l, s, h => fold_lt l _ (Nat.mod_lt _ (by decide))
theorem sumS_lt (l : List Nat) : sumS l < 4294967296 := fold_lt l 0 (by decide)
theorem addS_lt (s c : Nat) : addS s c < 4294967296 := Nat.mod_lt _ (by decide)
theorem w64 {i : Int} (h0 : 0 ≤ i) (h : i < 9223372036854775807) : wrap64 (i + 1) = i + 1 := by unfold wrap64; omega
theorem rd_nat (l : List Nat) (i : Nat) (h : i < l.length) : rd (ints l) (i : Int) = ((l[i] : Nat) : Int) := RunPSum.rd_nat l i h
theorem nat_i {i : Nat} (h : (i : Int) < 9223372036854775807) : wrap64 ((i : Int) + 1) = ((i + 1 : Nat) : Int) := by rw [w64 (by omega) h]; rfl
theorem or_low (y x : Nat) (hx : x < 256) (hy : y < 256) : Go.bits .or .u32 (((y : Int) * 256) % 4294967296) (x : Int) = ((y * 256 + x : Nat) : Int) := by
  have e : ((y : Int) * 256) % 4294967296 = ((y * 256 : Nat) : Int) := by omega
  rw [e, Go.u32_or_nat (y * 256) x (by omega) (by omega)]
  congr 1
  have := Nat.shiftLeft_add_eq_or_of_lt (i := 8) (show x < 2 ^ 8 from hx) y
  rw [Nat.shiftLeft_eq] at this
  exact this.symm
section
variable (l : List Nat) (hl : ∀ x ∈ l, x < 256) (hlen : l.length < 9223372036854775807)
include hl hlen
theorem summed_l0 : ∀ (d s i : Nat), i + d = l.length → s < 4294967296 → Ev (fun k => Psummed.sums_summed.l0 k (s : Int) (ints l) (l.length : Int) (i : Int)) (((l.drop i).foldl addS s : Nat) : Int)
  | 0, s, i, hi, hs => by
    have e : l.drop i = [] := List.drop_of_length_le (by omega)
    rw [e]
    refine Ev.step (f := fun _ => some (s : Int)) (fun k => ?_) (Ev.now _)
    simp only [Psummed.sums_summed.l0]; rw [if_neg (by omega)]
  | d + 1, s, i, hi, hs => by
    have hlt : i < l.length := by omega
    have hc : l[i] < 256 := hl _ (List.getElem_mem hlt)
    have ih := summed_l0 d (addS s l[i]) (i + 1) (by omega) (addS_lt _ _)
    rw [List.drop_eq_getElem_cons hlt, List.foldl_cons]
    refine Ev.step (fun k => ?_) ih
    simp only [Psummed.sums_summed.l0]
    rw [if_pos (by omega), if_pos (by omega), if_pos (by rw [ints_length]; omega), rd_nat l i hlt, nat_i (by omega)]
    congr 1
    unfold addS
    omega
theorem summed_ev : Ev (fun k => Psummed.sums_summed.f k (ints l)) ((sumS l : Nat) : Int) := by
  have h := summed_l0 l hl hlen l.length 0 0 (by omega) (by omega)
  refine Ev.congr (fun k => ?_) h
  simp only [Psummed.sums_summed.f, ints_length]
  rfl
theorem nsummed_l0 : ∀ (d s i : Nat), i + d = l.length → s < 4294967296 → Ev (fun k => Pnegative.sums_summed.l0 k (s : Int) (ints l) (l.length : Int) (i : Int)) (((l.drop i).foldl addS s : Nat) : Int)
  | 0, s, i, hi, hs => by
    have e : l.drop i = [] := List.drop_of_length_le (by omega)
    rw [e]
    refine Ev.step (f := fun _ => some (s : Int)) (fun k => ?_) (Ev.now _)
    simp only [Pnegative.sums_summed.l0]; rw [if_neg (by omega)]
  | d + 1, s, i, hi, hs => by
    have hlt : i < l.length := by omega
    have hc : l[i] < 256 := hl _ (List.getElem_mem hlt)
    have ih := nsummed_l0 d (addS s l[i]) (i + 1) (by omega) (addS_lt _ _)
    rw [List.drop_eq_getElem_cons hlt, List.foldl_cons]
    refine Ev.step (fun k => ?_) ih
    simp only [Pnegative.sums_summed.l0]
    rw [if_pos (by omega), if_pos (by omega), if_pos (by rw [ints_length]; omega), rd_nat l i hlt, nat_i (by omega)]
    congr 1
    unfold addS
    omega
theorem negative_ev : Ev (fun k => Pnegative.sums_negative.f k (ints l)) ((negS l : Nat) : Int) := by
  have h := nsummed_l0 l hl hlen l.length 0 0 (by omega) (by omega)
  have h' : Ev (fun k => Pnegative.sums_summed.f k (ints l)) ((sumS l : Nat) : Int) := by
    refine Ev.congr (fun k => ?_) h
    simp only [Pnegative.sums_summed.f, ints_length]
    rfl
  have hlt := sumS_lt l
  have e : ((negS l : Nat) : Int) = (-((sumS l : Nat) : Int)) % 4294967296 := by
    unfold negS
    omega
  rw [e]
  exact Ev.bind (f := fun _ (t : Int) => some ((-t) % 4294967296)) h' (Ev.now _)
theorem mixed_l0 : ∀ (d s i : Nat), i + d = l.length → s < 256 → Ev (fun k => Pmixed.sums_mixed.l0 k (s : Int) (ints l) (l.length : Int) (i : Int)) (((l.drop i).foldl (fun x c => x ^^^ c) s : Nat) : Int)
  | 0, s, i, hi, hs => by
    have e : l.drop i = [] := List.drop_of_length_le (by omega)
    rw [e]
    refine Ev.step (f := fun _ => some (s : Int)) (fun k => ?_) (Ev.now _)
    simp only [Pmixed.sums_mixed.l0]; rw [if_neg (by omega)]
    congr 1
    omega
  | d + 1, s, i, hi, hs => by
    have hlt : i < l.length := by omega
    have hc : l[i] < 256 := hl _ (List.getElem_mem hlt)
    have hx : s ^^^ l[i] < 256 := Nat.xor_lt_two_pow (n := 8) hs hc
    have ih := mixed_l0 d (s ^^^ l[i]) (i + 1) (by omega) hx
    rw [List.drop_eq_getElem_cons hlt, List.foldl_cons]
    refine Ev.step (fun k => ?_) ih
    simp only [Pmixed.sums_mixed.l0]
    rw [if_pos (by omega), if_pos (by omega), if_pos (by rw [ints_length]; omega), rd_nat l i hlt, nat_i (by omega), Go.u8_xor_nat s l[i] hs hc]
theorem mixed_ev : Ev (fun k => Pmixed.sums_mixed.f k (ints l)) ((mixS l : Nat) : Int) := by
  have h := mixed_l0 l hl hlen l.length 0 0 (by omega) (by omega)
  refine Ev.congr (fun k => ?_) h
  simp only [Pmixed.sums_mixed.f, ints_length]
  rfl
theorem fletcher_l0 : ∀ (d : Nat) (p : Nat × Nat) (i : Nat), i + d = l.length → p.1 < 255 → p.2 < 255 → Ev (fun k => Pfletcher.sums_fletcher.l0 k (p.1 : Int) (p.2 : Int) (ints l) (l.length : Int) (i : Int)) ((((l.drop i).foldl flA p).2 * 256 + ((l.drop i).foldl flA p).1 : Nat) : Int)
  | 0, p, i, hi, h1, h2 => by
    have e : l.drop i = [] := List.drop_of_length_le (by omega)
    rw [e]
    refine Ev.step (f := fun _ => some ((p.2 * 256 + p.1 : Nat) : Int)) (fun k => ?_) (Ev.now _)
    simp only [Pfletcher.sums_fletcher.l0]; rw [if_neg (by omega), or_low p.2 p.1 (by omega) (by omega)]
  | d + 1, p, i, hi, h1, h2 => by
    have hlt : i < l.length := by omega
    have hc : l[i] < 256 := hl _ (List.getElem_mem hlt)
    have ih := fletcher_l0 d (flA p l[i]) (i + 1) (by omega) (Nat.mod_lt _ (by decide)) (Nat.mod_lt _ (by decide))
    rw [List.drop_eq_getElem_cons hlt, List.foldl_cons]
    refine Ev.step (fun k => ?_) ih
    simp only [Pfletcher.sums_fletcher.l0]
    rw [if_pos (by omega), if_pos (by omega), if_pos (by rw [ints_length]; omega), rd_nat l i hlt, nat_i (by omega)]
    have e1 : (((p.1 : Int) + (((l[i] : Nat) : Int) % 4294967296)) % 4294967296) % 255 = (((flA p l[i]).1 : Nat) : Int) := by
      show _ = (((p.1 + l[i]) % 255 : Nat) : Int)
      omega
    have e2 : (((p.2 : Int) + (((flA p l[i]).1 : Nat) : Int)) % 4294967296) % 255 = (((flA p l[i]).2 : Nat) : Int) := by
      show ((p.2 : Int) + (((p.1 + l[i]) % 255 : Nat) : Int)) % 4294967296 % 255 = (((p.2 + (p.1 + l[i]) % 255) % 255 : Nat) : Int)
      omega
    rw [e1, e2]
theorem fletcher_ev : Ev (fun k => Pfletcher.sums_fletcher.f k (ints l)) ((flS l : Nat) : Int) := by
  have h := fletcher_l0 l hl hlen l.length (0, 0) 0 (by omega) (by decide) (by decide)
  refine Ev.congr (fun k => ?_) h
  simp only [Pfletcher.sums_fletcher.f, ints_length]
  rfl
end
theorem summed_calls {l : List Nat} (hl : ∀ x ∈ l, x < 256) {A : Option Addr} {n c : Nat} (hn : l.length = n) (hm : n < 9223372036854775807) (hc : n ≤ c) (W : World) (hC : Kd.C (Kd.int .u8) W A n (ints l)) :
    Calls Try.prog 71 #[.slice A n c] W fun e w' => e = .returned (.int .u32 ((sumS l : Nat) : Int)) ∧ Below W.heap.size W w' := by
  subst hn
  obtain ⟨k, hk⟩ := (summed_ev l hl hm).rounds
  have e : (ints l).length = l.length := ints_length l
  have h := Psummed.sums_summed.calls k A c (ints l) _ W (by rw [e]; exact hC) (by rw [e]; exact hc) hk
  rw [e] at h
  exact h.mono (fun e w' hh => ⟨hh.1, hh.2.below⟩)
theorem negative_calls {l : List Nat} (hl : ∀ x ∈ l, x < 256) {A : Option Addr} {n c : Nat} (hn : l.length = n) (hm : n < 9223372036854775807) (hc : n ≤ c) (W : World) (hC : Kd.C (Kd.int .u8) W A n (ints l)) :
    Calls Try.prog 72 #[.slice A n c] W fun e w' => e = .returned (.int .u32 ((negS l : Nat) : Int)) ∧ Below W.heap.size W w' := by
  subst hn
  obtain ⟨k, hk⟩ := (negative_ev l hl hm).rounds
  have e : (ints l).length = l.length := ints_length l
  have h := Pnegative.sums_negative.calls k A c (ints l) _ W (by rw [e]; exact hC) (by rw [e]; exact hc) hk
  rw [e] at h
  exact h.mono (fun e w' hh => ⟨hh.1, hh.2.below⟩)
theorem mixed_calls {l : List Nat} (hl : ∀ x ∈ l, x < 256) {A : Option Addr} {n c : Nat} (hn : l.length = n) (hm : n < 9223372036854775807) (hc : n ≤ c) (W : World) (hC : Kd.C (Kd.int .u8) W A n (ints l)) :
    Calls Try.prog 73 #[.slice A n c] W fun e w' => e = .returned (.int .u32 ((mixS l : Nat) : Int)) ∧ Below W.heap.size W w' := by
  subst hn
  obtain ⟨k, hk⟩ := (mixed_ev l hl hm).rounds
  have e : (ints l).length = l.length := ints_length l
  have h := Pmixed.sums_mixed.calls k A c (ints l) _ W (by rw [e]; exact hC) (by rw [e]; exact hc) hk
  rw [e] at h
  exact h.mono (fun e w' hh => ⟨hh.1, hh.2.below⟩)
theorem fletcher_calls {l : List Nat} (hl : ∀ x ∈ l, x < 256) {A : Option Addr} {n c : Nat} (hn : l.length = n) (hm : n < 9223372036854775807) (hc : n ≤ c) (W : World) (hC : Kd.C (Kd.int .u8) W A n (ints l)) :
    Calls Try.prog 74 #[.slice A n c] W fun e w' => e = .returned (.int .u32 ((flS l : Nat) : Int)) ∧ Below W.heap.size W w' := by
  subst hn
  obtain ⟨k, hk⟩ := (fletcher_ev l hl hm).rounds
  have e : (ints l).length = l.length := ints_length l
  have h := Pfletcher.sums_fletcher.calls k A c (ints l) _ W (by rw [e]; exact hC) (by rw [e]; exact hc) hk
  rw [e] at h
  exact h.mono (fun e w' hh => ⟨hh.1, hh.2.below⟩)
end Go.Proofs.Ytcmofedfbjpjlaa.Sums
