import Derived.Test.YtcldlfhnmkogeaaPNamedx1
import Derived.Test.YtcldlfhnmkogeaaCrcRunPSum
import Derived.WalkKit
import Derived.Outline
import Derived.Deep.QuietTactic
import Derived.BigQuiet
import Derived.Lib.SlBytesConst
/- The sums by dividing, as contracts in plain words: Sum of a right kind, Turn; the example of the document. -/
set_option linter.unusedVariables false
namespace Go.Proofs.Ytcldlfhnmkogeaa.CrcCalls
open Go.RowKit Go.Proofs.Ytcldlfhnmkogeaa.PNamed Go.Proofs.Ytcldlfhnmkogeaa.PSum Go.Proofs.YtcldlfhnmkogeaaW.PrintWords Go.Proofs.Ytcldlfhnmkogeaa.Nats Go.Proofs.Ytcldlfhnmkogeaa.CrcPlain Go.Proofs.Ytcldlfhnmkogeaa.RunPSum

theorem ints_of (n : Nat) (l : List Nat) (h : l.length = n) : (ints l).length = n := by rw [ints_length, h]
theorem sum8 (p f last : Nat) (t : Bool) (l : List Nat) (hp : p < 2 ^ 8) (hf : f < 2 ^ 8) (hlast : last < 2 ^ 8) (hl : ∀ x ∈ l, x < 256) (hlen : l.length < 9223372036854775807)
    (A : Option Addr) (n c : Nat) (w : World) (hn : l.length = n) (hc : n ≤ c) (hr : Kd.C (Kd.int .u8) w A n (ints l)) :
    Calls Try.prog 104 #[.agg #[.int .i64 8, .int .u32 (p : Int), .int .u32 (f : Int), .bool t, .int .u32 (last : Int)], .slice A n c] w fun e w' => e = .returned (.tuple #[.int .u32 ((CrcPlain.sum 8 p f t last l : Nat) : Int), .int .i64 0]) ∧ Below w.heap.size w w' := by
  subst hn
  obtain ⟨k, hk⟩ := (sum8_ev p f last t l hp hf hlast hl hlen).rounds
  have h := crc_Sum.calls k 8 p f t last A c (ints l) _ _ w (by rw [ints_length]; exact hr) (by rw [ints_length]; exact hc) hk
  rw [ints_length] at h
  exact h
theorem sum16 (p f last : Nat) (t : Bool) (l : List Nat) (hp : p < 2 ^ 16) (hf : f < 2 ^ 16) (hlast : last < 2 ^ 16) (hl : ∀ x ∈ l, x < 256) (hlen : l.length < 9223372036854775807)
    (A : Option Addr) (n c : Nat) (w : World) (hn : l.length = n) (hc : n ≤ c) (hr : Kd.C (Kd.int .u8) w A n (ints l)) :
    Calls Try.prog 104 #[.agg #[.int .i64 16, .int .u32 (p : Int), .int .u32 (f : Int), .bool t, .int .u32 (last : Int)], .slice A n c] w fun e w' => e = .returned (.tuple #[.int .u32 ((CrcPlain.sum 16 p f t last l : Nat) : Int), .int .i64 0]) ∧ Below w.heap.size w w' := by
  subst hn
  obtain ⟨k, hk⟩ := (sum16_ev p f last t l hp hf hlast hl hlen).rounds
  have h := crc_Sum.calls k 16 p f t last A c (ints l) _ _ w (by rw [ints_length]; exact hr) (by rw [ints_length]; exact hc) hk
  rw [ints_length] at h
  exact h
theorem sum32 (p f last : Nat) (t : Bool) (l : List Nat) (hp : p < 2 ^ 32) (hf : f < 2 ^ 32) (hlast : last < 2 ^ 32) (hl : ∀ x ∈ l, x < 256) (hlen : l.length < 9223372036854775807)
    (A : Option Addr) (n c : Nat) (w : World) (hn : l.length = n) (hc : n ≤ c) (hr : Kd.C (Kd.int .u8) w A n (ints l)) :
    Calls Try.prog 104 #[.agg #[.int .i64 32, .int .u32 (p : Int), .int .u32 (f : Int), .bool t, .int .u32 (last : Int)], .slice A n c] w fun e w' => e = .returned (.tuple #[.int .u32 ((CrcPlain.sum 32 p f t last l : Nat) : Int), .int .i64 0]) ∧ Below w.heap.size w w' := by
  subst hn
  obtain ⟨k, hk⟩ := (sum32_ev p f last t l hp hf hlast hl hlen).rounds
  have h := crc_Sum.calls k 32 p f t last A c (ints l) _ _ w (by rw [ints_length]; exact hr) (by rw [ints_length]; exact hc) hk
  rw [ints_length] at h
  exact h
theorem turn_calls (v n : Nat) (hv : v < 4294967296) (h1 : 1 ≤ n) (h2 : n ≤ 32) (w : World) :
    Calls Try.prog 109 #[.int .u32 (v : Int), .int .i64 (n : Int)] w fun e w' => e = .returned (.int .u32 ((turn n v : Nat) : Int)) ∧ Drawn0 w w' := by
  obtain ⟨k, hk⟩ := (turn_ev v n hv h1 h2).rounds
  exact crc_Turn.calls k v n _ w hk
theorem turn_calls_zero (v n : Int) (h : n < 1 ∨ 32 < n) (w : World) :
    Calls Try.prog 109 #[.int .u32 v, .int .i64 n] w fun e w' => e = .returned (.int .u32 0) ∧ Drawn0 w w' := by
  obtain ⟨k, hk⟩ := (turn_ev_zero v n h).rounds
  exact crc_Turn.calls k v n _ w hk

/-- A row that lies whole in a block reads as it lies there. -/
theorem reads_block {w : World} {b : Nat} {cs : Array Value} {t : TypeId} {fz : Nat × Nat} (l : List Nat) (hb : w.heap[b]? = some (.cells cs t fz)) (hcs : cs.toList = (ints l).map (Value.int .u8)) (hl : l.length ≤ 9223372036854775807) :
    Kd.C (Kd.int .u8) w (some ⟨b, 0, none⟩) l.length (ints l) := by
  refine Kd.C_of_reads (d := 0) ⟨ints_length l, hl, fun _ => ⟨_, rfl, fun j hj => ?_⟩⟩
  have hsz : cs.size = l.length := by rw [← Array.length_toList, hcs, List.length_map, ints_length]
  have hj2 : j < cs.size := by omega
  have hj3 : j < (ints l).length := by rw [ints_length]; exact hj
  have e : cs[j] = .int .u8 ((ints l).getD j 0) := by
    rw [← Array.getElem_toList]
    simp only [hcs, List.getElem_map, List.getD_eq_getElem?_getD, List.getElem?_eq_getElem hj3, Option.getD_some]
  have ea : (⟨b, 0, none⟩ : Addr).add j = ⟨b, j, none⟩ := by unfold Addr.add; split <;> simp_all
  rw [ea]
  simp [World.cell?, hb, Array.getElem?_eq_getElem hj2, e]

theorem crc_example : CrcPlain.sum 16 32773 0 true 0 [49, 50, 51, 52, 53, 54, 55, 56, 57] = 47933 := by decide +kernel

end Go.Proofs.Ytcldlfhnmkogeaa.CrcCalls
