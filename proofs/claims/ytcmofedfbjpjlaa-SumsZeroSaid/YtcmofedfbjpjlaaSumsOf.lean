import Derived.Test.YtcmofedfbjpjlaaSumsKinds
import Derived.LoopTactic
import Derived.RegionTactic
import Derived.Lib.Hide
/- What bytes end with (sums.Of, Size), walked. -/
set_option linter.unusedVariables false
set_option linter.unusedSimpArgs false
namespace Go.Proofs.Ytcmofedfbjpjlaa.Sums
open Go.RowKit Go.Proofs.YtcmofedfbjpjlaaW.PrintWords Go.Proofs.YtcmofedfbjpjlaaW.PrintLast Go.Proofs.Ytcmofedfbjpjlaa.Nats Go.Proofs.Ytcmofedfbjpjlaa.HeapKit Go.Proofs.Ytcmofedfbjpjlaa.CrcCalls

/-- A number's bytes, the highest first. -/
def endB (n v : Nat) : List Nat := (List.range n).map fun i => v / 256 ^ (n - 1 - i) % 256
theorem endB_length (n v : Nat) : (endB n v).length = n := by simp [endB]
theorem endB_take {n v k i : Nat} (h : i + 1 + k = n) : (endB n v).take (k + 1) = (endB n v).take k ++ [v / 256 ^ i % 256] := by
  rw [List.take_add_one]
  congr 1
  unfold endB
  rw [List.getElem?_map, List.getElem?_range (by omega)]
  simp only [Option.map_some, Option.toList_some]
  congr 4
  omega
theorem run_store_func {P : Program} {w : World} {a : Addr} {m : Mode} (f : Fn) (first cap : Array Value) : (store a (.func f first cap) m).run P w = stored P w a (.func f first cap) m := run_store P w a _ m rfl
theorem run_store_nilFunc {P : Program} {w : World} {a : Addr} {m : Mode} : (store a .nilFunc m).run P w = stored P w a .nilFunc m := run_store P w a _ m rfl
attribute [local go_sem] run_store_func run_store_nilFunc
theorem info_u8 : (Try.prog.info? 5).map (fun i => (i.zero, i.size, i.bytes)) = some (some (.int .u8 0), 1, 1) := by kernel_rfl

set_option maxRecDepth 100000 in
set_option maxHeartbeats 1000000 in
theorem dsum0 {l : List Nat} (hl : ∀ x ∈ l, x < 256) {A : Option Addr} {n c : Nat} (hn : l.length = n) (hm : n < 9223372036854775807) (hc : n ≤ c) (b : Nat) (W : World) (hk : W.heap[b]? = some (.cells (kcells 8 7 0 false 0) 65 (0, 0))) (hC : Kd.C (Kd.int .u8) W A n (ints l)) :
    Calls Try.prog 76 #[.slice A n c, .pointer (some ⟨b, 0, none⟩)] W fun e w' => e = .returned (.int .u32 ((CrcPlain.sum 8 7 0 false 0 l : Nat) : Int)) ∧ Below W.heap.size W w' := by
  have hs := sum8 7 0 0 false l (by decide) (by decide) (by decide) hl (by omega) A n c W hn hc hC
  have HS := Lib.hid hs
  clear hs
  have k0 : W.cell? ⟨b, 0, none⟩ = some (.int .i64 8) := blk_cell hk 0
  have k1 : W.cell? ⟨b, 1, none⟩ = some (.int .u32 7) := blk_cell hk 1
  have k2 : W.cell? ⟨b, 2, none⟩ = some (.int .u32 0) := blk_cell hk 2
  have k3 : W.cell? ⟨b, 3, none⟩ = some (.bool false) := blk_cell hk 3
  have k4 : W.cell? ⟨b, 4, none⟩ = some (.int .u32 0) := blk_cell hk 4
  go_enter Try.func76, Try.ntmps76
  go_wp2_with fail
  refine HS.out.mono ?_
  rintro e w1 ⟨rfl, hb⟩
  go_wp2_with fail
  go_ret
  exact ⟨rfl, hb⟩

set_option maxRecDepth 100000 in
set_option maxHeartbeats 1000000 in
theorem dsum1 {l : List Nat} (hl : ∀ x ∈ l, x < 256) {A : Option Addr} {n c : Nat} (hn : l.length = n) (hm : n < 9223372036854775807) (hc : n ≤ c) (b : Nat) (W : World) (hk : W.heap[b]? = some (.cells (kcells 16 32773 0 true 0) 65 (0, 0))) (hC : Kd.C (Kd.int .u8) W A n (ints l)) :
    Calls Try.prog 76 #[.slice A n c, .pointer (some ⟨b, 0, none⟩)] W fun e w' => e = .returned (.int .u32 ((CrcPlain.sum 16 32773 0 true 0 l : Nat) : Int)) ∧ Below W.heap.size W w' := by
  have hs := sum16 32773 0 0 true l (by decide) (by decide) (by decide) hl (by omega) A n c W hn hc hC
  have HS := Lib.hid hs
  clear hs
  have k0 : W.cell? ⟨b, 0, none⟩ = some (.int .i64 16) := blk_cell hk 0
  have k1 : W.cell? ⟨b, 1, none⟩ = some (.int .u32 32773) := blk_cell hk 1
  have k2 : W.cell? ⟨b, 2, none⟩ = some (.int .u32 0) := blk_cell hk 2
  have k3 : W.cell? ⟨b, 3, none⟩ = some (.bool true) := blk_cell hk 3
  have k4 : W.cell? ⟨b, 4, none⟩ = some (.int .u32 0) := blk_cell hk 4
  go_enter Try.func76, Try.ntmps76
  go_wp2_with fail
  refine HS.out.mono ?_
  rintro e w1 ⟨rfl, hb⟩
  go_wp2_with fail
  go_ret
  exact ⟨rfl, hb⟩

set_option maxRecDepth 100000 in
set_option maxHeartbeats 1000000 in
theorem dsum2 {l : List Nat} (hl : ∀ x ∈ l, x < 256) {A : Option Addr} {n c : Nat} (hn : l.length = n) (hm : n < 9223372036854775807) (hc : n ≤ c) (b : Nat) (W : World) (hk : W.heap[b]? = some (.cells (kcells 16 4129 65535 false 0) 65 (0, 0))) (hC : Kd.C (Kd.int .u8) W A n (ints l)) :
    Calls Try.prog 76 #[.slice A n c, .pointer (some ⟨b, 0, none⟩)] W fun e w' => e = .returned (.int .u32 ((CrcPlain.sum 16 4129 65535 false 0 l : Nat) : Int)) ∧ Below W.heap.size W w' := by
  have hs := sum16 4129 65535 0 false l (by decide) (by decide) (by decide) hl (by omega) A n c W hn hc hC
  have HS := Lib.hid hs
  clear hs
  have k0 : W.cell? ⟨b, 0, none⟩ = some (.int .i64 16) := blk_cell hk 0
  have k1 : W.cell? ⟨b, 1, none⟩ = some (.int .u32 4129) := blk_cell hk 1
  have k2 : W.cell? ⟨b, 2, none⟩ = some (.int .u32 65535) := blk_cell hk 2
  have k3 : W.cell? ⟨b, 3, none⟩ = some (.bool false) := blk_cell hk 3
  have k4 : W.cell? ⟨b, 4, none⟩ = some (.int .u32 0) := blk_cell hk 4
  go_enter Try.func76, Try.ntmps76
  go_wp2_with fail
  refine HS.out.mono ?_
  rintro e w1 ⟨rfl, hb⟩
  go_wp2_with fail
  go_ret
  exact ⟨rfl, hb⟩

set_option maxRecDepth 100000 in
set_option maxHeartbeats 1000000 in
theorem dsum3 {l : List Nat} (hl : ∀ x ∈ l, x < 256) {A : Option Addr} {n c : Nat} (hn : l.length = n) (hm : n < 9223372036854775807) (hc : n ≤ c) (b : Nat) (W : World) (hk : W.heap[b]? = some (.cells (kcells 32 79764919 4294967295 true 4294967295) 65 (0, 0))) (hC : Kd.C (Kd.int .u8) W A n (ints l)) :
    Calls Try.prog 76 #[.slice A n c, .pointer (some ⟨b, 0, none⟩)] W fun e w' => e = .returned (.int .u32 ((CrcPlain.sum 32 79764919 4294967295 true 4294967295 l : Nat) : Int)) ∧ Below W.heap.size W w' := by
  have hs := sum32 79764919 4294967295 4294967295 true l (by decide) (by decide) (by decide) hl (by omega) A n c W hn hc hC
  have HS := Lib.hid hs
  clear hs
  have k0 : W.cell? ⟨b, 0, none⟩ = some (.int .i64 32) := blk_cell hk 0
  have k1 : W.cell? ⟨b, 1, none⟩ = some (.int .u32 79764919) := blk_cell hk 1
  have k2 : W.cell? ⟨b, 2, none⟩ = some (.int .u32 4294967295) := blk_cell hk 2
  have k3 : W.cell? ⟨b, 3, none⟩ = some (.bool true) := blk_cell hk 3
  have k4 : W.cell? ⟨b, 4, none⟩ = some (.int .u32 4294967295) := blk_cell hk 4
  go_enter Try.func76, Try.ntmps76
  go_wp2_with fail
  refine HS.out.mono ?_
  rintro e w1 ⟨rfl, hb⟩
  go_wp2_with fail
  go_ret
  exact ⟨rfl, hb⟩

/-- The loop that lays the bytes. -/
def RelO (w : World) (N v : Nat) (s9 s10 : Value) (wr : World) : Prop := ∃ j k : Nat, j + k = N ∧ s10 = .int .i64 ((j : Int) - 1) ∧ Kd.R (Kd.int .u8) 5 wr w.heap.size (fun _ => True) s9 (ints ((endB N v).take k)) ∧ Below w.heap.size w wr
theorem shr_at (v i : Nat) (hi : i ≤ 4) : shr .u32 (v : Int) ((8 * i : Nat) : Int) = ((v / 256 ^ i : Nat) : Int) := by
  rw [RunPSum.shr_u32 v (8 * i) (by omega), show (2 : Nat) ^ (8 * i) = 256 ^ i from by rw [Nat.pow_mul]]
theorem byte_pow (v i : Nat) : ((v : Nat) : Int) / 2 ^ (8 * i) % 256 = ((v / 256 ^ i % 256 : Nat) : Int) := by
  rw [show ((256 : Nat) ^ i) = 2 ^ (8 * i) from by rw [show (256 : Nat) = 2 ^ 8 from rfl, ← Nat.pow_mul]]
  simp
theorem byte_at (x : Nat) : ((x : Nat) : Int) % 256 = ((x % 256 : Nat) : Int) := by omega

set_option maxRecDepth 100000 in
set_option maxHeartbeats 2000000 in
theorem of0 {l : List Nat} (hl : ∀ x ∈ l, x < 256) {A : Option Addr} {n c : Nat} (hn : l.length = n) (hm : n < 9223372036854775807) (hc : n ≤ c) (w : World) (hC : Kd.C (Kd.int .u8) w A n (ints l)) :
    Calls Try.prog 47 #[.string ⟨#[110, 111, 110, 101]⟩, .slice A n c] w fun e w' => ∃ v, e = .returned (.tuple #[v, .int .i64 0]) ∧ Kd.R (Kd.int .u8) 5 w' w.heap.size (fun _ => True) v (ints (endB 0 (sumS l))) ∧ Below w.heap.size w w' := by
  have hinfo := info_u8
  go_enter Try.func47, Try.ntmps47
  go_wp2_with fail
  refine (kinds_calls _).mono ?_
  rintro e w1 ⟨m, b1, b2, b3, b4, rfl, hm1, hT, hB⟩
  have hlk := (run_look (P := Try.prog) (t := 115) (s := ⟨#[110, 111, 110, 101]⟩) Try.underlying115 Try.underlying9 hT.m).1 0 (.agg #[.int .i64 0, .func (.func 71) #[] #[]]) (by kernel_rfl)
  have kx := blk_new w1 (.cells #[.int .i64 0, .func (.func 71) #[] #[]] 113)
  have hb1 := below_alloc (Below.refl w1.heap.size w1) (.cells #[.int .i64 0, .func (.func 71) #[] #[]] 113)
  have hT2 := hT.step hb1
  have hC2 := Kd.C_below (Kd.C_below hC hB) hb1
  replace hB := bthen hB hb1
  have x0 : (w1.alloc (.cells #[.int .i64 0, .func (.func 71) #[] #[]] 113)).cell? ⟨w1.heap.size, 0, none⟩ = some (.int .i64 0) := blk_cell kx 0
  have x1 : (w1.alloc (.cells #[.int .i64 0, .func (.func 71) #[] #[]] 113)).cell? ⟨w1.heap.size, 1, none⟩ = some (.func (.func 71) #[] #[]) := blk_cell kx 1
  have hcall := summed_calls hl hn hm hc _ hC2
  have HCALL := Lib.hid hcall
  clear hcall
  go_wp2_with fail
  refine HCALL.out.mono ?_
  rintro e w2 ⟨rfl, hb2⟩
  obtain ⟨v, hv⟩ : ∃ v, sumS l = v := ⟨_, rfl⟩
  rw [hv]
  have HV := Lib.hid hv
  have y0 : w2.cell? ⟨w1.heap.size, 0, none⟩ = some (.int .i64 0) := blk_cell (blk_below kx hb2) 0
  replace hB := bthen hB hb2
  clear hb2 x0 x1 kx hT hT2 hC2 hb1 hlk HCALL hv
  go_wp2_with fail
  clear y0
  go_loopw [9, 10] (RelO w 0 v) (fun _ i _ => (intOf i + 1).toNat)
  case atStart => exact ⟨0, 0, rfl, rfl, Kd.R_nil _ _ _ _ _, hB⟩
  case round =>
    obtain ⟨j, k, hjk, rfl, hR, hBr⟩ := hrel
    rename_i s9 _
    have HJ := Lib.hid hjk
    clear hjk
    cases j with
    | zero =>
      have hk : k = 0 := by have := HJ.out; omega
      subst hk
      rw [List.take_of_length_le (by rw [endB_length]; exact Nat.le_refl _)] at hR
      go_wp2_with fail
      go_ret2
      rw [HV.out]
      exact ⟨_, rfl, hR, hBr⟩
    | succ i =>
      have hi : i ≤ 3 := by have := HJ.out; omega
      rw [show ((i + 1 : Nat) : Int) - 1 = (i : Int) from by omega]
      have e8 : wrap64 (8 * (i : Int)) = ((8 * i : Nat) : Int) := by unfold wrap64; omega
      have eb := byte_pow v i
      have EB := Lib.hid eb
      clear eb
      have et := endB_take (v := v) (n := 0) (k := k) (i := i) (by have := HJ.out; omega)
      have ET := Lib.hid et
      clear et
      have g0 : decide ((i : Int) ≥ 0) = true := by simp
      have g1 : decide (((8 * i : Nat) : Int) < 0) = false := by simp; omega
      have em : IntKind.i64.wrap ((i : Int) - 1) = (i : Int) - 1 := by rw [i64_w]; unfold wrap64; omega
      go_wp2_with (first | ((with_reducible refine gate_dst (N := 37) rfl ?_); refine Kd.R_append (Kd.int .u8) _ rfl (.tmp 30) (.tmp 36) 54 5 (.int .u8 0) 1 rfl Try.underlying54 hinfo rfl (by decide) (by decide) _ _ ((v : Int) / 2 ^ (8 * i) % 256) [.int .u8 ((v : Int) / 2 ^ (8 * i) % 256)] (fun _ => True) (fun _ => False) rfl rfl ?aM (fun _ h => h.elim) (fun _ _ => trivial) hR hBr hBr.size ?aZ ?_; (case aM => exact rfl); (case aZ => rw [ints_length, List.length_take, endB_length]; have := HJ.out; omega); intro v6 w6 hR6 hb6 hg6 hn6) | fail)
      refine ⟨⟨i, k + 1, by have := HJ.out; omega, rfl, ?_, hb6⟩, ?_⟩
      · rw [ET.out]
        rw [EB.out] at hR6
        simpa [ints] using hR6
      · simp [intOf] <;> omega

set_option maxRecDepth 100000 in
set_option maxHeartbeats 2000000 in
theorem of1 {l : List Nat} (hl : ∀ x ∈ l, x < 256) {A : Option Addr} {n c : Nat} (hn : l.length = n) (hm : n < 9223372036854775807) (hc : n ≤ c) (w : World) (hC : Kd.C (Kd.int .u8) w A n (ints l)) :
    Calls Try.prog 47 #[.string ⟨#[115, 117, 109]⟩, .slice A n c] w fun e w' => ∃ v, e = .returned (.tuple #[v, .int .i64 0]) ∧ Kd.R (Kd.int .u8) 5 w' w.heap.size (fun _ => True) v (ints (endB 1 (sumS l))) ∧ Below w.heap.size w w' := by
  have hinfo := info_u8
  go_enter Try.func47, Try.ntmps47
  go_wp2_with fail
  refine (kinds_calls _).mono ?_
  rintro e w1 ⟨m, b1, b2, b3, b4, rfl, hm1, hT, hB⟩
  have hlk := (run_look (P := Try.prog) (t := 115) (s := ⟨#[115, 117, 109]⟩) Try.underlying115 Try.underlying9 hT.m).1 1 (.agg #[.int .i64 1, .func (.func 71) #[] #[]]) (by kernel_rfl)
  have kx := blk_new w1 (.cells #[.int .i64 1, .func (.func 71) #[] #[]] 113)
  have hb1 := below_alloc (Below.refl w1.heap.size w1) (.cells #[.int .i64 1, .func (.func 71) #[] #[]] 113)
  have hT2 := hT.step hb1
  have hC2 := Kd.C_below (Kd.C_below hC hB) hb1
  replace hB := bthen hB hb1
  have x0 : (w1.alloc (.cells #[.int .i64 1, .func (.func 71) #[] #[]] 113)).cell? ⟨w1.heap.size, 0, none⟩ = some (.int .i64 1) := blk_cell kx 0
  have x1 : (w1.alloc (.cells #[.int .i64 1, .func (.func 71) #[] #[]] 113)).cell? ⟨w1.heap.size, 1, none⟩ = some (.func (.func 71) #[] #[]) := blk_cell kx 1
  have hcall := summed_calls hl hn hm hc _ hC2
  have HCALL := Lib.hid hcall
  clear hcall
  go_wp2_with fail
  refine HCALL.out.mono ?_
  rintro e w2 ⟨rfl, hb2⟩
  obtain ⟨v, hv⟩ : ∃ v, sumS l = v := ⟨_, rfl⟩
  rw [hv]
  have HV := Lib.hid hv
  have y0 : w2.cell? ⟨w1.heap.size, 0, none⟩ = some (.int .i64 1) := blk_cell (blk_below kx hb2) 0
  replace hB := bthen hB hb2
  clear hb2 x0 x1 kx hT hT2 hC2 hb1 hlk HCALL hv
  go_wp2_with fail
  clear y0
  go_loopw [9, 10] (RelO w 1 v) (fun _ i _ => (intOf i + 1).toNat)
  case atStart => exact ⟨1, 0, rfl, rfl, Kd.R_nil _ _ _ _ _, hB⟩
  case round =>
    obtain ⟨j, k, hjk, rfl, hR, hBr⟩ := hrel
    rename_i s9 _
    have HJ := Lib.hid hjk
    clear hjk
    cases j with
    | zero =>
      have hk : k = 1 := by have := HJ.out; omega
      subst hk
      rw [List.take_of_length_le (by rw [endB_length]; exact Nat.le_refl _)] at hR
      go_wp2_with fail
      go_ret2
      rw [HV.out]
      exact ⟨_, rfl, hR, hBr⟩
    | succ i =>
      have hi : i ≤ 3 := by have := HJ.out; omega
      rw [show ((i + 1 : Nat) : Int) - 1 = (i : Int) from by omega]
      have e8 : wrap64 (8 * (i : Int)) = ((8 * i : Nat) : Int) := by unfold wrap64; omega
      have eb := byte_pow v i
      have EB := Lib.hid eb
      clear eb
      have et := endB_take (v := v) (n := 1) (k := k) (i := i) (by have := HJ.out; omega)
      have ET := Lib.hid et
      clear et
      have g0 : decide ((i : Int) ≥ 0) = true := by simp
      have g1 : decide (((8 * i : Nat) : Int) < 0) = false := by simp; omega
      have em : IntKind.i64.wrap ((i : Int) - 1) = (i : Int) - 1 := by rw [i64_w]; unfold wrap64; omega
      go_wp2_with (first | ((with_reducible refine gate_dst (N := 37) rfl ?_); refine Kd.R_append (Kd.int .u8) _ rfl (.tmp 30) (.tmp 36) 54 5 (.int .u8 0) 1 rfl Try.underlying54 hinfo rfl (by decide) (by decide) _ _ ((v : Int) / 2 ^ (8 * i) % 256) [.int .u8 ((v : Int) / 2 ^ (8 * i) % 256)] (fun _ => True) (fun _ => False) rfl rfl ?aM (fun _ h => h.elim) (fun _ _ => trivial) hR hBr hBr.size ?aZ ?_; (case aM => exact rfl); (case aZ => rw [ints_length, List.length_take, endB_length]; have := HJ.out; omega); intro v6 w6 hR6 hb6 hg6 hn6) | fail)
      refine ⟨⟨i, k + 1, by have := HJ.out; omega, rfl, ?_, hb6⟩, ?_⟩
      · rw [ET.out]
        rw [EB.out] at hR6
        simpa [ints] using hR6
      · simp [intOf] <;> omega

set_option maxRecDepth 100000 in
set_option maxHeartbeats 2000000 in
theorem of2 {l : List Nat} (hl : ∀ x ∈ l, x < 256) {A : Option Addr} {n c : Nat} (hn : l.length = n) (hm : n < 9223372036854775807) (hc : n ≤ c) (w : World) (hC : Kd.C (Kd.int .u8) w A n (ints l)) :
    Calls Try.prog 47 #[.string ⟨#[108, 114, 99]⟩, .slice A n c] w fun e w' => ∃ v, e = .returned (.tuple #[v, .int .i64 0]) ∧ Kd.R (Kd.int .u8) 5 w' w.heap.size (fun _ => True) v (ints (endB 1 (negS l))) ∧ Below w.heap.size w w' := by
  have hinfo := info_u8
  go_enter Try.func47, Try.ntmps47
  go_wp2_with fail
  refine (kinds_calls _).mono ?_
  rintro e w1 ⟨m, b1, b2, b3, b4, rfl, hm1, hT, hB⟩
  have hlk := (run_look (P := Try.prog) (t := 115) (s := ⟨#[108, 114, 99]⟩) Try.underlying115 Try.underlying9 hT.m).1 2 (.agg #[.int .i64 1, .func (.func 72) #[] #[]]) (by kernel_rfl)
  have kx := blk_new w1 (.cells #[.int .i64 1, .func (.func 72) #[] #[]] 113)
  have hb1 := below_alloc (Below.refl w1.heap.size w1) (.cells #[.int .i64 1, .func (.func 72) #[] #[]] 113)
  have hT2 := hT.step hb1
  have hC2 := Kd.C_below (Kd.C_below hC hB) hb1
  replace hB := bthen hB hb1
  have x0 : (w1.alloc (.cells #[.int .i64 1, .func (.func 72) #[] #[]] 113)).cell? ⟨w1.heap.size, 0, none⟩ = some (.int .i64 1) := blk_cell kx 0
  have x1 : (w1.alloc (.cells #[.int .i64 1, .func (.func 72) #[] #[]] 113)).cell? ⟨w1.heap.size, 1, none⟩ = some (.func (.func 72) #[] #[]) := blk_cell kx 1
  have hcall := negative_calls hl hn hm hc _ hC2
  have HCALL := Lib.hid hcall
  clear hcall
  go_wp2_with fail
  refine HCALL.out.mono ?_
  rintro e w2 ⟨rfl, hb2⟩
  obtain ⟨v, hv⟩ : ∃ v, negS l = v := ⟨_, rfl⟩
  rw [hv]
  have HV := Lib.hid hv
  have y0 : w2.cell? ⟨w1.heap.size, 0, none⟩ = some (.int .i64 1) := blk_cell (blk_below kx hb2) 0
  replace hB := bthen hB hb2
  clear hb2 x0 x1 kx hT hT2 hC2 hb1 hlk HCALL hv
  go_wp2_with fail
  clear y0
  go_loopw [9, 10] (RelO w 1 v) (fun _ i _ => (intOf i + 1).toNat)
  case atStart => exact ⟨1, 0, rfl, rfl, Kd.R_nil _ _ _ _ _, hB⟩
  case round =>
    obtain ⟨j, k, hjk, rfl, hR, hBr⟩ := hrel
    rename_i s9 _
    have HJ := Lib.hid hjk
    clear hjk
    cases j with
    | zero =>
      have hk : k = 1 := by have := HJ.out; omega
      subst hk
      rw [List.take_of_length_le (by rw [endB_length]; exact Nat.le_refl _)] at hR
      go_wp2_with fail
      go_ret2
      rw [HV.out]
      exact ⟨_, rfl, hR, hBr⟩
    | succ i =>
      have hi : i ≤ 3 := by have := HJ.out; omega
      rw [show ((i + 1 : Nat) : Int) - 1 = (i : Int) from by omega]
      have e8 : wrap64 (8 * (i : Int)) = ((8 * i : Nat) : Int) := by unfold wrap64; omega
      have eb := byte_pow v i
      have EB := Lib.hid eb
      clear eb
      have et := endB_take (v := v) (n := 1) (k := k) (i := i) (by have := HJ.out; omega)
      have ET := Lib.hid et
      clear et
      have g0 : decide ((i : Int) ≥ 0) = true := by simp
      have g1 : decide (((8 * i : Nat) : Int) < 0) = false := by simp; omega
      have em : IntKind.i64.wrap ((i : Int) - 1) = (i : Int) - 1 := by rw [i64_w]; unfold wrap64; omega
      go_wp2_with (first | ((with_reducible refine gate_dst (N := 37) rfl ?_); refine Kd.R_append (Kd.int .u8) _ rfl (.tmp 30) (.tmp 36) 54 5 (.int .u8 0) 1 rfl Try.underlying54 hinfo rfl (by decide) (by decide) _ _ ((v : Int) / 2 ^ (8 * i) % 256) [.int .u8 ((v : Int) / 2 ^ (8 * i) % 256)] (fun _ => True) (fun _ => False) rfl rfl ?aM (fun _ h => h.elim) (fun _ _ => trivial) hR hBr hBr.size ?aZ ?_; (case aM => exact rfl); (case aZ => rw [ints_length, List.length_take, endB_length]; have := HJ.out; omega); intro v6 w6 hR6 hb6 hg6 hn6) | fail)
      refine ⟨⟨i, k + 1, by have := HJ.out; omega, rfl, ?_, hb6⟩, ?_⟩
      · rw [ET.out]
        rw [EB.out] at hR6
        simpa [ints] using hR6
      · simp [intOf] <;> omega

set_option maxRecDepth 100000 in
set_option maxHeartbeats 2000000 in
theorem of3 {l : List Nat} (hl : ∀ x ∈ l, x < 256) {A : Option Addr} {n c : Nat} (hn : l.length = n) (hm : n < 9223372036854775807) (hc : n ≤ c) (w : World) (hC : Kd.C (Kd.int .u8) w A n (ints l)) :
    Calls Try.prog 47 #[.string ⟨#[120, 111, 114]⟩, .slice A n c] w fun e w' => ∃ v, e = .returned (.tuple #[v, .int .i64 0]) ∧ Kd.R (Kd.int .u8) 5 w' w.heap.size (fun _ => True) v (ints (endB 1 (mixS l))) ∧ Below w.heap.size w w' := by
  have hinfo := info_u8
  go_enter Try.func47, Try.ntmps47
  go_wp2_with fail
  refine (kinds_calls _).mono ?_
  rintro e w1 ⟨m, b1, b2, b3, b4, rfl, hm1, hT, hB⟩
  have hlk := (run_look (P := Try.prog) (t := 115) (s := ⟨#[120, 111, 114]⟩) Try.underlying115 Try.underlying9 hT.m).1 3 (.agg #[.int .i64 1, .func (.func 73) #[] #[]]) (by kernel_rfl)
  have kx := blk_new w1 (.cells #[.int .i64 1, .func (.func 73) #[] #[]] 113)
  have hb1 := below_alloc (Below.refl w1.heap.size w1) (.cells #[.int .i64 1, .func (.func 73) #[] #[]] 113)
  have hT2 := hT.step hb1
  have hC2 := Kd.C_below (Kd.C_below hC hB) hb1
  replace hB := bthen hB hb1
  have x0 : (w1.alloc (.cells #[.int .i64 1, .func (.func 73) #[] #[]] 113)).cell? ⟨w1.heap.size, 0, none⟩ = some (.int .i64 1) := blk_cell kx 0
  have x1 : (w1.alloc (.cells #[.int .i64 1, .func (.func 73) #[] #[]] 113)).cell? ⟨w1.heap.size, 1, none⟩ = some (.func (.func 73) #[] #[]) := blk_cell kx 1
  have hcall := mixed_calls hl hn hm hc _ hC2
  have HCALL := Lib.hid hcall
  clear hcall
  go_wp2_with fail
  refine HCALL.out.mono ?_
  rintro e w2 ⟨rfl, hb2⟩
  obtain ⟨v, hv⟩ : ∃ v, mixS l = v := ⟨_, rfl⟩
  rw [hv]
  have HV := Lib.hid hv
  have y0 : w2.cell? ⟨w1.heap.size, 0, none⟩ = some (.int .i64 1) := blk_cell (blk_below kx hb2) 0
  replace hB := bthen hB hb2
  clear hb2 x0 x1 kx hT hT2 hC2 hb1 hlk HCALL hv
  go_wp2_with fail
  clear y0
  go_loopw [9, 10] (RelO w 1 v) (fun _ i _ => (intOf i + 1).toNat)
  case atStart => exact ⟨1, 0, rfl, rfl, Kd.R_nil _ _ _ _ _, hB⟩
  case round =>
    obtain ⟨j, k, hjk, rfl, hR, hBr⟩ := hrel
    rename_i s9 _
    have HJ := Lib.hid hjk
    clear hjk
    cases j with
    | zero =>
      have hk : k = 1 := by have := HJ.out; omega
      subst hk
      rw [List.take_of_length_le (by rw [endB_length]; exact Nat.le_refl _)] at hR
      go_wp2_with fail
      go_ret2
      rw [HV.out]
      exact ⟨_, rfl, hR, hBr⟩
    | succ i =>
      have hi : i ≤ 3 := by have := HJ.out; omega
      rw [show ((i + 1 : Nat) : Int) - 1 = (i : Int) from by omega]
      have e8 : wrap64 (8 * (i : Int)) = ((8 * i : Nat) : Int) := by unfold wrap64; omega
      have eb := byte_pow v i
      have EB := Lib.hid eb
      clear eb
      have et := endB_take (v := v) (n := 1) (k := k) (i := i) (by have := HJ.out; omega)
      have ET := Lib.hid et
      clear et
      have g0 : decide ((i : Int) ≥ 0) = true := by simp
      have g1 : decide (((8 * i : Nat) : Int) < 0) = false := by simp; omega
      have em : IntKind.i64.wrap ((i : Int) - 1) = (i : Int) - 1 := by rw [i64_w]; unfold wrap64; omega
      go_wp2_with (first | ((with_reducible refine gate_dst (N := 37) rfl ?_); refine Kd.R_append (Kd.int .u8) _ rfl (.tmp 30) (.tmp 36) 54 5 (.int .u8 0) 1 rfl Try.underlying54 hinfo rfl (by decide) (by decide) _ _ ((v : Int) / 2 ^ (8 * i) % 256) [.int .u8 ((v : Int) / 2 ^ (8 * i) % 256)] (fun _ => True) (fun _ => False) rfl rfl ?aM (fun _ h => h.elim) (fun _ _ => trivial) hR hBr hBr.size ?aZ ?_; (case aM => exact rfl); (case aZ => rw [ints_length, List.length_take, endB_length]; have := HJ.out; omega); intro v6 w6 hR6 hb6 hg6 hn6) | fail)
      refine ⟨⟨i, k + 1, by have := HJ.out; omega, rfl, ?_, hb6⟩, ?_⟩
      · rw [ET.out]
        rw [EB.out] at hR6
        simpa [ints] using hR6
      · simp [intOf] <;> omega

set_option maxRecDepth 100000 in
set_option maxHeartbeats 2000000 in
theorem of4 {l : List Nat} (hl : ∀ x ∈ l, x < 256) {A : Option Addr} {n c : Nat} (hn : l.length = n) (hm : n < 9223372036854775807) (hc : n ≤ c) (w : World) (hC : Kd.C (Kd.int .u8) w A n (ints l)) :
    Calls Try.prog 47 #[.string ⟨#[102, 108, 101, 116, 99, 104, 101, 114]⟩, .slice A n c] w fun e w' => ∃ v, e = .returned (.tuple #[v, .int .i64 0]) ∧ Kd.R (Kd.int .u8) 5 w' w.heap.size (fun _ => True) v (ints (endB 2 (flS l))) ∧ Below w.heap.size w w' := by
  have hinfo := info_u8
  go_enter Try.func47, Try.ntmps47
  go_wp2_with fail
  refine (kinds_calls _).mono ?_
  rintro e w1 ⟨m, b1, b2, b3, b4, rfl, hm1, hT, hB⟩
  have hlk := (run_look (P := Try.prog) (t := 115) (s := ⟨#[102, 108, 101, 116, 99, 104, 101, 114]⟩) Try.underlying115 Try.underlying9 hT.m).1 4 (.agg #[.int .i64 2, .func (.func 74) #[] #[]]) (by kernel_rfl)
  have kx := blk_new w1 (.cells #[.int .i64 2, .func (.func 74) #[] #[]] 113)
  have hb1 := below_alloc (Below.refl w1.heap.size w1) (.cells #[.int .i64 2, .func (.func 74) #[] #[]] 113)
  have hT2 := hT.step hb1
  have hC2 := Kd.C_below (Kd.C_below hC hB) hb1
  replace hB := bthen hB hb1
  have x0 : (w1.alloc (.cells #[.int .i64 2, .func (.func 74) #[] #[]] 113)).cell? ⟨w1.heap.size, 0, none⟩ = some (.int .i64 2) := blk_cell kx 0
  have x1 : (w1.alloc (.cells #[.int .i64 2, .func (.func 74) #[] #[]] 113)).cell? ⟨w1.heap.size, 1, none⟩ = some (.func (.func 74) #[] #[]) := blk_cell kx 1
  have hcall := fletcher_calls hl hn hm hc _ hC2
  have HCALL := Lib.hid hcall
  clear hcall
  go_wp2_with fail
  refine HCALL.out.mono ?_
  rintro e w2 ⟨rfl, hb2⟩
  obtain ⟨v, hv⟩ : ∃ v, flS l = v := ⟨_, rfl⟩
  rw [hv]
  have HV := Lib.hid hv
  have y0 : w2.cell? ⟨w1.heap.size, 0, none⟩ = some (.int .i64 2) := blk_cell (blk_below kx hb2) 0
  replace hB := bthen hB hb2
  clear hb2 x0 x1 kx hT hT2 hC2 hb1 hlk HCALL hv
  go_wp2_with fail
  clear y0
  go_loopw [9, 10] (RelO w 2 v) (fun _ i _ => (intOf i + 1).toNat)
  case atStart => exact ⟨2, 0, rfl, rfl, Kd.R_nil _ _ _ _ _, hB⟩
  case round =>
    obtain ⟨j, k, hjk, rfl, hR, hBr⟩ := hrel
    rename_i s9 _
    have HJ := Lib.hid hjk
    clear hjk
    cases j with
    | zero =>
      have hk : k = 2 := by have := HJ.out; omega
      subst hk
      rw [List.take_of_length_le (by rw [endB_length]; exact Nat.le_refl _)] at hR
      go_wp2_with fail
      go_ret2
      rw [HV.out]
      exact ⟨_, rfl, hR, hBr⟩
    | succ i =>
      have hi : i ≤ 3 := by have := HJ.out; omega
      rw [show ((i + 1 : Nat) : Int) - 1 = (i : Int) from by omega]
      have e8 : wrap64 (8 * (i : Int)) = ((8 * i : Nat) : Int) := by unfold wrap64; omega
      have eb := byte_pow v i
      have EB := Lib.hid eb
      clear eb
      have et := endB_take (v := v) (n := 2) (k := k) (i := i) (by have := HJ.out; omega)
      have ET := Lib.hid et
      clear et
      have g0 : decide ((i : Int) ≥ 0) = true := by simp
      have g1 : decide (((8 * i : Nat) : Int) < 0) = false := by simp; omega
      have em : IntKind.i64.wrap ((i : Int) - 1) = (i : Int) - 1 := by rw [i64_w]; unfold wrap64; omega
      go_wp2_with (first | ((with_reducible refine gate_dst (N := 37) rfl ?_); refine Kd.R_append (Kd.int .u8) _ rfl (.tmp 30) (.tmp 36) 54 5 (.int .u8 0) 1 rfl Try.underlying54 hinfo rfl (by decide) (by decide) _ _ ((v : Int) / 2 ^ (8 * i) % 256) [.int .u8 ((v : Int) / 2 ^ (8 * i) % 256)] (fun _ => True) (fun _ => False) rfl rfl ?aM (fun _ h => h.elim) (fun _ _ => trivial) hR hBr hBr.size ?aZ ?_; (case aM => exact rfl); (case aZ => rw [ints_length, List.length_take, endB_length]; have := HJ.out; omega); intro v6 w6 hR6 hb6 hg6 hn6) | fail)
      refine ⟨⟨i, k + 1, by have := HJ.out; omega, rfl, ?_, hb6⟩, ?_⟩
      · rw [ET.out]
        rw [EB.out] at hR6
        simpa [ints] using hR6
      · simp [intOf] <;> omega

set_option maxRecDepth 100000 in
set_option maxHeartbeats 2000000 in
theorem of5 {l : List Nat} (hl : ∀ x ∈ l, x < 256) {A : Option Addr} {n c : Nat} (hn : l.length = n) (hm : n < 9223372036854775807) (hc : n ≤ c) (w : World) (hC : Kd.C (Kd.int .u8) w A n (ints l)) :
    Calls Try.prog 47 #[.string ⟨#[99, 114, 99, 56]⟩, .slice A n c] w fun e w' => ∃ v, e = .returned (.tuple #[v, .int .i64 0]) ∧ Kd.R (Kd.int .u8) 5 w' w.heap.size (fun _ => True) v (ints (endB 1 (CrcPlain.sum 8 7 0 false 0 l))) ∧ Below w.heap.size w w' := by
  have hinfo := info_u8
  go_enter Try.func47, Try.ntmps47
  go_wp2_with fail
  refine (kinds_calls _).mono ?_
  rintro e w1 ⟨m, b1, b2, b3, b4, rfl, hm1, hT, hB⟩
  have hlk := (run_look (P := Try.prog) (t := 115) (s := ⟨#[99, 114, 99, 56]⟩) Try.underlying115 Try.underlying9 hT.m).1 5 (.agg #[.int .i64 1, .func (.func 76) #[] #[.pointer (some ⟨b1, 0, none⟩)]]) (by kernel_rfl)
  have kx := blk_new w1 (.cells #[.int .i64 1, .func (.func 76) #[] #[.pointer (some ⟨b1, 0, none⟩)]] 113)
  have hb1 := below_alloc (Below.refl w1.heap.size w1) (.cells #[.int .i64 1, .func (.func 76) #[] #[.pointer (some ⟨b1, 0, none⟩)]] 113)
  have hT2 := hT.step hb1
  have hC2 := Kd.C_below (Kd.C_below hC hB) hb1
  replace hB := bthen hB hb1
  have x0 : (w1.alloc (.cells #[.int .i64 1, .func (.func 76) #[] #[.pointer (some ⟨b1, 0, none⟩)]] 113)).cell? ⟨w1.heap.size, 0, none⟩ = some (.int .i64 1) := blk_cell kx 0
  have x1 : (w1.alloc (.cells #[.int .i64 1, .func (.func 76) #[] #[.pointer (some ⟨b1, 0, none⟩)]] 113)).cell? ⟨w1.heap.size, 1, none⟩ = some (.func (.func 76) #[] #[.pointer (some ⟨b1, 0, none⟩)]) := blk_cell kx 1
  have hcall := dsum0 hl hn hm hc b1 _ hT2.k1 hC2
  have HCALL := Lib.hid hcall
  clear hcall
  go_wp2_with fail
  refine HCALL.out.mono ?_
  rintro e w2 ⟨rfl, hb2⟩
  obtain ⟨v, hv⟩ : ∃ v, CrcPlain.sum 8 7 0 false 0 l = v := ⟨_, rfl⟩
  rw [hv]
  have HV := Lib.hid hv
  have y0 : w2.cell? ⟨w1.heap.size, 0, none⟩ = some (.int .i64 1) := blk_cell (blk_below kx hb2) 0
  replace hB := bthen hB hb2
  clear hb2 x0 x1 kx hT hT2 hC2 hb1 hlk HCALL hv
  go_wp2_with fail
  clear y0
  go_loopw [9, 10] (RelO w 1 v) (fun _ i _ => (intOf i + 1).toNat)
  case atStart => exact ⟨1, 0, rfl, rfl, Kd.R_nil _ _ _ _ _, hB⟩
  case round =>
    obtain ⟨j, k, hjk, rfl, hR, hBr⟩ := hrel
    rename_i s9 _
    have HJ := Lib.hid hjk
    clear hjk
    cases j with
    | zero =>
      have hk : k = 1 := by have := HJ.out; omega
      subst hk
      rw [List.take_of_length_le (by rw [endB_length]; exact Nat.le_refl _)] at hR
      go_wp2_with fail
      go_ret2
      rw [HV.out]
      exact ⟨_, rfl, hR, hBr⟩
    | succ i =>
      have hi : i ≤ 3 := by have := HJ.out; omega
      rw [show ((i + 1 : Nat) : Int) - 1 = (i : Int) from by omega]
      have e8 : wrap64 (8 * (i : Int)) = ((8 * i : Nat) : Int) := by unfold wrap64; omega
      have eb := byte_pow v i
      have EB := Lib.hid eb
      clear eb
      have et := endB_take (v := v) (n := 1) (k := k) (i := i) (by have := HJ.out; omega)
      have ET := Lib.hid et
      clear et
      have g0 : decide ((i : Int) ≥ 0) = true := by simp
      have g1 : decide (((8 * i : Nat) : Int) < 0) = false := by simp; omega
      have em : IntKind.i64.wrap ((i : Int) - 1) = (i : Int) - 1 := by rw [i64_w]; unfold wrap64; omega
      go_wp2_with (first | ((with_reducible refine gate_dst (N := 37) rfl ?_); refine Kd.R_append (Kd.int .u8) _ rfl (.tmp 30) (.tmp 36) 54 5 (.int .u8 0) 1 rfl Try.underlying54 hinfo rfl (by decide) (by decide) _ _ ((v : Int) / 2 ^ (8 * i) % 256) [.int .u8 ((v : Int) / 2 ^ (8 * i) % 256)] (fun _ => True) (fun _ => False) rfl rfl ?aM (fun _ h => h.elim) (fun _ _ => trivial) hR hBr hBr.size ?aZ ?_; (case aM => exact rfl); (case aZ => rw [ints_length, List.length_take, endB_length]; have := HJ.out; omega); intro v6 w6 hR6 hb6 hg6 hn6) | fail)
      refine ⟨⟨i, k + 1, by have := HJ.out; omega, rfl, ?_, hb6⟩, ?_⟩
      · rw [ET.out]
        rw [EB.out] at hR6
        simpa [ints] using hR6
      · simp [intOf] <;> omega

set_option maxRecDepth 100000 in
set_option maxHeartbeats 2000000 in
theorem of6 {l : List Nat} (hl : ∀ x ∈ l, x < 256) {A : Option Addr} {n c : Nat} (hn : l.length = n) (hm : n < 9223372036854775807) (hc : n ≤ c) (w : World) (hC : Kd.C (Kd.int .u8) w A n (ints l)) :
    Calls Try.prog 47 #[.string ⟨#[99, 114, 99, 49, 54]⟩, .slice A n c] w fun e w' => ∃ v, e = .returned (.tuple #[v, .int .i64 0]) ∧ Kd.R (Kd.int .u8) 5 w' w.heap.size (fun _ => True) v (ints (endB 2 (CrcPlain.sum 16 32773 0 true 0 l))) ∧ Below w.heap.size w w' := by
  have hinfo := info_u8
  go_enter Try.func47, Try.ntmps47
  go_wp2_with fail
  refine (kinds_calls _).mono ?_
  rintro e w1 ⟨m, b1, b2, b3, b4, rfl, hm1, hT, hB⟩
  have hlk := (run_look (P := Try.prog) (t := 115) (s := ⟨#[99, 114, 99, 49, 54]⟩) Try.underlying115 Try.underlying9 hT.m).1 6 (.agg #[.int .i64 2, .func (.func 76) #[] #[.pointer (some ⟨b2, 0, none⟩)]]) (by kernel_rfl)
  have kx := blk_new w1 (.cells #[.int .i64 2, .func (.func 76) #[] #[.pointer (some ⟨b2, 0, none⟩)]] 113)
  have hb1 := below_alloc (Below.refl w1.heap.size w1) (.cells #[.int .i64 2, .func (.func 76) #[] #[.pointer (some ⟨b2, 0, none⟩)]] 113)
  have hT2 := hT.step hb1
  have hC2 := Kd.C_below (Kd.C_below hC hB) hb1
  replace hB := bthen hB hb1
  have x0 : (w1.alloc (.cells #[.int .i64 2, .func (.func 76) #[] #[.pointer (some ⟨b2, 0, none⟩)]] 113)).cell? ⟨w1.heap.size, 0, none⟩ = some (.int .i64 2) := blk_cell kx 0
  have x1 : (w1.alloc (.cells #[.int .i64 2, .func (.func 76) #[] #[.pointer (some ⟨b2, 0, none⟩)]] 113)).cell? ⟨w1.heap.size, 1, none⟩ = some (.func (.func 76) #[] #[.pointer (some ⟨b2, 0, none⟩)]) := blk_cell kx 1
  have hcall := dsum1 hl hn hm hc b2 _ hT2.k2 hC2
  have HCALL := Lib.hid hcall
  clear hcall
  go_wp2_with fail
  refine HCALL.out.mono ?_
  rintro e w2 ⟨rfl, hb2⟩
  obtain ⟨v, hv⟩ : ∃ v, CrcPlain.sum 16 32773 0 true 0 l = v := ⟨_, rfl⟩
  rw [hv]
  have HV := Lib.hid hv
  have y0 : w2.cell? ⟨w1.heap.size, 0, none⟩ = some (.int .i64 2) := blk_cell (blk_below kx hb2) 0
  replace hB := bthen hB hb2
  clear hb2 x0 x1 kx hT hT2 hC2 hb1 hlk HCALL hv
  go_wp2_with fail
  clear y0
  go_loopw [9, 10] (RelO w 2 v) (fun _ i _ => (intOf i + 1).toNat)
  case atStart => exact ⟨2, 0, rfl, rfl, Kd.R_nil _ _ _ _ _, hB⟩
  case round =>
    obtain ⟨j, k, hjk, rfl, hR, hBr⟩ := hrel
    rename_i s9 _
    have HJ := Lib.hid hjk
    clear hjk
    cases j with
    | zero =>
      have hk : k = 2 := by have := HJ.out; omega
      subst hk
      rw [List.take_of_length_le (by rw [endB_length]; exact Nat.le_refl _)] at hR
      go_wp2_with fail
      go_ret2
      rw [HV.out]
      exact ⟨_, rfl, hR, hBr⟩
    | succ i =>
      have hi : i ≤ 3 := by have := HJ.out; omega
      rw [show ((i + 1 : Nat) : Int) - 1 = (i : Int) from by omega]
      have e8 : wrap64 (8 * (i : Int)) = ((8 * i : Nat) : Int) := by unfold wrap64; omega
      have eb := byte_pow v i
      have EB := Lib.hid eb
      clear eb
      have et := endB_take (v := v) (n := 2) (k := k) (i := i) (by have := HJ.out; omega)
      have ET := Lib.hid et
      clear et
      have g0 : decide ((i : Int) ≥ 0) = true := by simp
      have g1 : decide (((8 * i : Nat) : Int) < 0) = false := by simp; omega
      have em : IntKind.i64.wrap ((i : Int) - 1) = (i : Int) - 1 := by rw [i64_w]; unfold wrap64; omega
      go_wp2_with (first | ((with_reducible refine gate_dst (N := 37) rfl ?_); refine Kd.R_append (Kd.int .u8) _ rfl (.tmp 30) (.tmp 36) 54 5 (.int .u8 0) 1 rfl Try.underlying54 hinfo rfl (by decide) (by decide) _ _ ((v : Int) / 2 ^ (8 * i) % 256) [.int .u8 ((v : Int) / 2 ^ (8 * i) % 256)] (fun _ => True) (fun _ => False) rfl rfl ?aM (fun _ h => h.elim) (fun _ _ => trivial) hR hBr hBr.size ?aZ ?_; (case aM => exact rfl); (case aZ => rw [ints_length, List.length_take, endB_length]; have := HJ.out; omega); intro v6 w6 hR6 hb6 hg6 hn6) | fail)
      refine ⟨⟨i, k + 1, by have := HJ.out; omega, rfl, ?_, hb6⟩, ?_⟩
      · rw [ET.out]
        rw [EB.out] at hR6
        simpa [ints] using hR6
      · simp [intOf] <;> omega

set_option maxRecDepth 100000 in
set_option maxHeartbeats 2000000 in
theorem of7 {l : List Nat} (hl : ∀ x ∈ l, x < 256) {A : Option Addr} {n c : Nat} (hn : l.length = n) (hm : n < 9223372036854775807) (hc : n ≤ c) (w : World) (hC : Kd.C (Kd.int .u8) w A n (ints l)) :
    Calls Try.prog 47 #[.string ⟨#[99, 99, 105, 116, 116]⟩, .slice A n c] w fun e w' => ∃ v, e = .returned (.tuple #[v, .int .i64 0]) ∧ Kd.R (Kd.int .u8) 5 w' w.heap.size (fun _ => True) v (ints (endB 2 (CrcPlain.sum 16 4129 65535 false 0 l))) ∧ Below w.heap.size w w' := by
  have hinfo := info_u8
  go_enter Try.func47, Try.ntmps47
  go_wp2_with fail
  refine (kinds_calls _).mono ?_
  rintro e w1 ⟨m, b1, b2, b3, b4, rfl, hm1, hT, hB⟩
  have hlk := (run_look (P := Try.prog) (t := 115) (s := ⟨#[99, 99, 105, 116, 116]⟩) Try.underlying115 Try.underlying9 hT.m).1 7 (.agg #[.int .i64 2, .func (.func 76) #[] #[.pointer (some ⟨b3, 0, none⟩)]]) (by kernel_rfl)
  have kx := blk_new w1 (.cells #[.int .i64 2, .func (.func 76) #[] #[.pointer (some ⟨b3, 0, none⟩)]] 113)
  have hb1 := below_alloc (Below.refl w1.heap.size w1) (.cells #[.int .i64 2, .func (.func 76) #[] #[.pointer (some ⟨b3, 0, none⟩)]] 113)
  have hT2 := hT.step hb1
  have hC2 := Kd.C_below (Kd.C_below hC hB) hb1
  replace hB := bthen hB hb1
  have x0 : (w1.alloc (.cells #[.int .i64 2, .func (.func 76) #[] #[.pointer (some ⟨b3, 0, none⟩)]] 113)).cell? ⟨w1.heap.size, 0, none⟩ = some (.int .i64 2) := blk_cell kx 0
  have x1 : (w1.alloc (.cells #[.int .i64 2, .func (.func 76) #[] #[.pointer (some ⟨b3, 0, none⟩)]] 113)).cell? ⟨w1.heap.size, 1, none⟩ = some (.func (.func 76) #[] #[.pointer (some ⟨b3, 0, none⟩)]) := blk_cell kx 1
  have hcall := dsum2 hl hn hm hc b3 _ hT2.k3 hC2
  have HCALL := Lib.hid hcall
  clear hcall
  go_wp2_with fail
  refine HCALL.out.mono ?_
  rintro e w2 ⟨rfl, hb2⟩
  obtain ⟨v, hv⟩ : ∃ v, CrcPlain.sum 16 4129 65535 false 0 l = v := ⟨_, rfl⟩
  rw [hv]
  have HV := Lib.hid hv
  have y0 : w2.cell? ⟨w1.heap.size, 0, none⟩ = some (.int .i64 2) := blk_cell (blk_below kx hb2) 0
  replace hB := bthen hB hb2
  clear hb2 x0 x1 kx hT hT2 hC2 hb1 hlk HCALL hv
  go_wp2_with fail
  clear y0
  go_loopw [9, 10] (RelO w 2 v) (fun _ i _ => (intOf i + 1).toNat)
  case atStart => exact ⟨2, 0, rfl, rfl, Kd.R_nil _ _ _ _ _, hB⟩
  case round =>
    obtain ⟨j, k, hjk, rfl, hR, hBr⟩ := hrel
    rename_i s9 _
    have HJ := Lib.hid hjk
    clear hjk
    cases j with
    | zero =>
      have hk : k = 2 := by have := HJ.out; omega
      subst hk
      rw [List.take_of_length_le (by rw [endB_length]; exact Nat.le_refl _)] at hR
      go_wp2_with fail
      go_ret2
      rw [HV.out]
      exact ⟨_, rfl, hR, hBr⟩
    | succ i =>
      have hi : i ≤ 3 := by have := HJ.out; omega
      rw [show ((i + 1 : Nat) : Int) - 1 = (i : Int) from by omega]
      have e8 : wrap64 (8 * (i : Int)) = ((8 * i : Nat) : Int) := by unfold wrap64; omega
      have eb := byte_pow v i
      have EB := Lib.hid eb
      clear eb
      have et := endB_take (v := v) (n := 2) (k := k) (i := i) (by have := HJ.out; omega)
      have ET := Lib.hid et
      clear et
      have g0 : decide ((i : Int) ≥ 0) = true := by simp
      have g1 : decide (((8 * i : Nat) : Int) < 0) = false := by simp; omega
      have em : IntKind.i64.wrap ((i : Int) - 1) = (i : Int) - 1 := by rw [i64_w]; unfold wrap64; omega
      go_wp2_with (first | ((with_reducible refine gate_dst (N := 37) rfl ?_); refine Kd.R_append (Kd.int .u8) _ rfl (.tmp 30) (.tmp 36) 54 5 (.int .u8 0) 1 rfl Try.underlying54 hinfo rfl (by decide) (by decide) _ _ ((v : Int) / 2 ^ (8 * i) % 256) [.int .u8 ((v : Int) / 2 ^ (8 * i) % 256)] (fun _ => True) (fun _ => False) rfl rfl ?aM (fun _ h => h.elim) (fun _ _ => trivial) hR hBr hBr.size ?aZ ?_; (case aM => exact rfl); (case aZ => rw [ints_length, List.length_take, endB_length]; have := HJ.out; omega); intro v6 w6 hR6 hb6 hg6 hn6) | fail)
      refine ⟨⟨i, k + 1, by have := HJ.out; omega, rfl, ?_, hb6⟩, ?_⟩
      · rw [ET.out]
        rw [EB.out] at hR6
        simpa [ints] using hR6
      · simp [intOf] <;> omega

set_option maxRecDepth 100000 in
set_option maxHeartbeats 2000000 in
theorem of8 {l : List Nat} (hl : ∀ x ∈ l, x < 256) {A : Option Addr} {n c : Nat} (hn : l.length = n) (hm : n < 9223372036854775807) (hc : n ≤ c) (w : World) (hC : Kd.C (Kd.int .u8) w A n (ints l)) :
    Calls Try.prog 47 #[.string ⟨#[99, 114, 99, 51, 50]⟩, .slice A n c] w fun e w' => ∃ v, e = .returned (.tuple #[v, .int .i64 0]) ∧ Kd.R (Kd.int .u8) 5 w' w.heap.size (fun _ => True) v (ints (endB 4 (CrcPlain.sum 32 79764919 4294967295 true 4294967295 l))) ∧ Below w.heap.size w w' := by
  have hinfo := info_u8
  go_enter Try.func47, Try.ntmps47
  go_wp2_with fail
  refine (kinds_calls _).mono ?_
  rintro e w1 ⟨m, b1, b2, b3, b4, rfl, hm1, hT, hB⟩
  have hlk := (run_look (P := Try.prog) (t := 115) (s := ⟨#[99, 114, 99, 51, 50]⟩) Try.underlying115 Try.underlying9 hT.m).1 8 (.agg #[.int .i64 4, .func (.func 76) #[] #[.pointer (some ⟨b4, 0, none⟩)]]) (by kernel_rfl)
  have kx := blk_new w1 (.cells #[.int .i64 4, .func (.func 76) #[] #[.pointer (some ⟨b4, 0, none⟩)]] 113)
  have hb1 := below_alloc (Below.refl w1.heap.size w1) (.cells #[.int .i64 4, .func (.func 76) #[] #[.pointer (some ⟨b4, 0, none⟩)]] 113)
  have hT2 := hT.step hb1
  have hC2 := Kd.C_below (Kd.C_below hC hB) hb1
  replace hB := bthen hB hb1
  have x0 : (w1.alloc (.cells #[.int .i64 4, .func (.func 76) #[] #[.pointer (some ⟨b4, 0, none⟩)]] 113)).cell? ⟨w1.heap.size, 0, none⟩ = some (.int .i64 4) := blk_cell kx 0
  have x1 : (w1.alloc (.cells #[.int .i64 4, .func (.func 76) #[] #[.pointer (some ⟨b4, 0, none⟩)]] 113)).cell? ⟨w1.heap.size, 1, none⟩ = some (.func (.func 76) #[] #[.pointer (some ⟨b4, 0, none⟩)]) := blk_cell kx 1
  have hcall := dsum3 hl hn hm hc b4 _ hT2.k4 hC2
  have HCALL := Lib.hid hcall
  clear hcall
  go_wp2_with fail
  refine HCALL.out.mono ?_
  rintro e w2 ⟨rfl, hb2⟩
  obtain ⟨v, hv⟩ : ∃ v, CrcPlain.sum 32 79764919 4294967295 true 4294967295 l = v := ⟨_, rfl⟩
  rw [hv]
  have HV := Lib.hid hv
  have y0 : w2.cell? ⟨w1.heap.size, 0, none⟩ = some (.int .i64 4) := blk_cell (blk_below kx hb2) 0
  replace hB := bthen hB hb2
  clear hb2 x0 x1 kx hT hT2 hC2 hb1 hlk HCALL hv
  go_wp2_with fail
  clear y0
  go_loopw [9, 10] (RelO w 4 v) (fun _ i _ => (intOf i + 1).toNat)
  case atStart => exact ⟨4, 0, rfl, rfl, Kd.R_nil _ _ _ _ _, hB⟩
  case round =>
    obtain ⟨j, k, hjk, rfl, hR, hBr⟩ := hrel
    rename_i s9 _
    have HJ := Lib.hid hjk
    clear hjk
    cases j with
    | zero =>
      have hk : k = 4 := by have := HJ.out; omega
      subst hk
      rw [List.take_of_length_le (by rw [endB_length]; exact Nat.le_refl _)] at hR
      go_wp2_with fail
      go_ret2
      rw [HV.out]
      exact ⟨_, rfl, hR, hBr⟩
    | succ i =>
      have hi : i ≤ 3 := by have := HJ.out; omega
      rw [show ((i + 1 : Nat) : Int) - 1 = (i : Int) from by omega]
      have e8 : wrap64 (8 * (i : Int)) = ((8 * i : Nat) : Int) := by unfold wrap64; omega
      have eb := byte_pow v i
      have EB := Lib.hid eb
      clear eb
      have et := endB_take (v := v) (n := 4) (k := k) (i := i) (by have := HJ.out; omega)
      have ET := Lib.hid et
      clear et
      have g0 : decide ((i : Int) ≥ 0) = true := by simp
      have g1 : decide (((8 * i : Nat) : Int) < 0) = false := by simp; omega
      have em : IntKind.i64.wrap ((i : Int) - 1) = (i : Int) - 1 := by rw [i64_w]; unfold wrap64; omega
      go_wp2_with (first | ((with_reducible refine gate_dst (N := 37) rfl ?_); refine Kd.R_append (Kd.int .u8) _ rfl (.tmp 30) (.tmp 36) 54 5 (.int .u8 0) 1 rfl Try.underlying54 hinfo rfl (by decide) (by decide) _ _ ((v : Int) / 2 ^ (8 * i) % 256) [.int .u8 ((v : Int) / 2 ^ (8 * i) % 256)] (fun _ => True) (fun _ => False) rfl rfl ?aM (fun _ h => h.elim) (fun _ _ => trivial) hR hBr hBr.size ?aZ ?_; (case aM => exact rfl); (case aZ => rw [ints_length, List.length_take, endB_length]; have := HJ.out; omega); intro v6 w6 hR6 hb6 hg6 hn6) | fail)
      refine ⟨⟨i, k + 1, by have := HJ.out; omega, rfl, ?_, hb6⟩, ?_⟩
      · rw [ET.out]
        rw [EB.out] at hR6
        simpa [ints] using hR6
      · simp [intOf] <;> omega

theorem beq_no {a b : ByteArray} (h : a ≠ b) : (a == b) = false := by
  cases e : a == b with
  | false => rfl
  | true => exact absurd ((MapKept.bytes_beq a b).1 e) h
theorem find_none {s : ByteArray} (h0 : s ≠ ⟨#[110, 111, 110, 101]⟩) (h1 : s ≠ ⟨#[115, 117, 109]⟩) (h2 : s ≠ ⟨#[108, 114, 99]⟩) (h3 : s ≠ ⟨#[120, 111, 114]⟩) (h4 : s ≠ ⟨#[102, 108, 101, 116, 99, 104, 101, 114]⟩) (h5 : s ≠ ⟨#[99, 114, 99, 56]⟩) (h6 : s ≠ ⟨#[99, 114, 99, 49, 54]⟩) (h7 : s ≠ ⟨#[99, 99, 105, 116, 116]⟩) (h8 : s ≠ ⟨#[99, 114, 99, 51, 50]⟩) (b1 b2 b3 b4 : Nat) : Instr.findNow .string (.string s) (table b1 b2 b3 b4).toList 0 = some none := by
  have g0 := beq_no h0
  have g1 := beq_no h1
  have g2 := beq_no h2
  have g3 := beq_no h3
  have g4 := beq_no h4
  have g5 := beq_no h5
  have g6 := beq_no h6
  have g7 := beq_no h7
  have g8 := beq_no h8
  simp [table, Instr.findNow, Instr.sameNow, g0, g1, g2, g3, g4, g5, g6, g7, g8]
set_option maxRecDepth 100000 in
set_option maxHeartbeats 2000000 in
theorem of_unknown {s : ByteArray} (h0 : s ≠ ⟨#[110, 111, 110, 101]⟩) (h1 : s ≠ ⟨#[115, 117, 109]⟩) (h2 : s ≠ ⟨#[108, 114, 99]⟩) (h3 : s ≠ ⟨#[120, 111, 114]⟩) (h4 : s ≠ ⟨#[102, 108, 101, 116, 99, 104, 101, 114]⟩) (h5 : s ≠ ⟨#[99, 114, 99, 56]⟩) (h6 : s ≠ ⟨#[99, 114, 99, 49, 54]⟩) (h7 : s ≠ ⟨#[99, 99, 105, 116, 116]⟩) (h8 : s ≠ ⟨#[99, 114, 99, 51, 50]⟩) (A : Option Addr) (n c : Nat) (w : World) :
    Calls Try.prog 47 #[.string s, .slice A n c] w fun e w' => e = .returned (.tuple #[.slice none 0 0, .int .i64 4]) ∧ Below w.heap.size w w' := by
  have hf := find_none h0 h1 h2 h3 h4 h5 h6 h7 h8
  have HF := Lib.hid hf
  clear hf h0 h1 h2 h3 h4 h5 h6 h7 h8
  go_enter Try.func47, Try.ntmps47
  go_wp2_with fail
  refine (kinds_calls _).mono ?_
  rintro e w1 ⟨m, b1, b2, b3, b4, rfl, hm1, hT, hB⟩
  have hlk := (run_look (P := Try.prog) (t := 115) (s := s) Try.underlying115 Try.underlying9 hT.m).2 (.agg #[.int .i64 0, .nilFunc]) (HF.out b1 b2 b3 b4) (by kernel_rfl)
  replace hB := bthen hB (below_alloc (Below.refl w1.heap.size w1) (.cells #[.int .i64 0, .nilFunc] 113))
  go_wp2_with fail
  go_ret2
  exact ⟨rfl, hB⟩

set_option maxRecDepth 100000 in
set_option maxHeartbeats 2000000 in
theorem size0 (w : World) :
    Calls Try.prog 50 #[.string ⟨#[110, 111, 110, 101]⟩] w fun e w' => e = .returned (.tuple #[.int .i64 0, .bool true]) ∧ Below w.heap.size w w' := by
  go_enter Try.func50, Try.ntmps50
  go_wp2_with fail
  refine (kinds_calls _).mono ?_
  rintro e w1 ⟨m, b1, b2, b3, b4, rfl, hm1, hT, hB⟩
  have hlk := (run_look (P := Try.prog) (t := 115) (s := ⟨#[110, 111, 110, 101]⟩) Try.underlying115 Try.underlying9 hT.m).1 0 (.agg #[.int .i64 0, .func (.func 71) #[] #[]]) (by kernel_rfl)
  have kx := blk_new w1 (.cells #[.int .i64 0, .func (.func 71) #[] #[]] 113)
  have x0 : (w1.alloc (.cells #[.int .i64 0, .func (.func 71) #[] #[]] 113)).cell? ⟨w1.heap.size, 0, none⟩ = some (.int .i64 0) := blk_cell kx 0
  replace hB := bthen hB (below_alloc (Below.refl w1.heap.size w1) (.cells #[.int .i64 0, .func (.func 71) #[] #[]] 113))
  go_wp2_with fail
  go_ret2
  exact ⟨rfl, hB⟩

set_option maxRecDepth 100000 in
set_option maxHeartbeats 2000000 in
theorem size1 (w : World) :
    Calls Try.prog 50 #[.string ⟨#[115, 117, 109]⟩] w fun e w' => e = .returned (.tuple #[.int .i64 1, .bool true]) ∧ Below w.heap.size w w' := by
  go_enter Try.func50, Try.ntmps50
  go_wp2_with fail
  refine (kinds_calls _).mono ?_
  rintro e w1 ⟨m, b1, b2, b3, b4, rfl, hm1, hT, hB⟩
  have hlk := (run_look (P := Try.prog) (t := 115) (s := ⟨#[115, 117, 109]⟩) Try.underlying115 Try.underlying9 hT.m).1 1 (.agg #[.int .i64 1, .func (.func 71) #[] #[]]) (by kernel_rfl)
  have kx := blk_new w1 (.cells #[.int .i64 1, .func (.func 71) #[] #[]] 113)
  have x0 : (w1.alloc (.cells #[.int .i64 1, .func (.func 71) #[] #[]] 113)).cell? ⟨w1.heap.size, 0, none⟩ = some (.int .i64 1) := blk_cell kx 0
  replace hB := bthen hB (below_alloc (Below.refl w1.heap.size w1) (.cells #[.int .i64 1, .func (.func 71) #[] #[]] 113))
  go_wp2_with fail
  go_ret2
  exact ⟨rfl, hB⟩

set_option maxRecDepth 100000 in
set_option maxHeartbeats 2000000 in
theorem size2 (w : World) :
    Calls Try.prog 50 #[.string ⟨#[108, 114, 99]⟩] w fun e w' => e = .returned (.tuple #[.int .i64 1, .bool true]) ∧ Below w.heap.size w w' := by
  go_enter Try.func50, Try.ntmps50
  go_wp2_with fail
  refine (kinds_calls _).mono ?_
  rintro e w1 ⟨m, b1, b2, b3, b4, rfl, hm1, hT, hB⟩
  have hlk := (run_look (P := Try.prog) (t := 115) (s := ⟨#[108, 114, 99]⟩) Try.underlying115 Try.underlying9 hT.m).1 2 (.agg #[.int .i64 1, .func (.func 72) #[] #[]]) (by kernel_rfl)
  have kx := blk_new w1 (.cells #[.int .i64 1, .func (.func 72) #[] #[]] 113)
  have x0 : (w1.alloc (.cells #[.int .i64 1, .func (.func 72) #[] #[]] 113)).cell? ⟨w1.heap.size, 0, none⟩ = some (.int .i64 1) := blk_cell kx 0
  replace hB := bthen hB (below_alloc (Below.refl w1.heap.size w1) (.cells #[.int .i64 1, .func (.func 72) #[] #[]] 113))
  go_wp2_with fail
  go_ret2
  exact ⟨rfl, hB⟩

set_option maxRecDepth 100000 in
set_option maxHeartbeats 2000000 in
theorem size3 (w : World) :
    Calls Try.prog 50 #[.string ⟨#[120, 111, 114]⟩] w fun e w' => e = .returned (.tuple #[.int .i64 1, .bool true]) ∧ Below w.heap.size w w' := by
  go_enter Try.func50, Try.ntmps50
  go_wp2_with fail
  refine (kinds_calls _).mono ?_
  rintro e w1 ⟨m, b1, b2, b3, b4, rfl, hm1, hT, hB⟩
  have hlk := (run_look (P := Try.prog) (t := 115) (s := ⟨#[120, 111, 114]⟩) Try.underlying115 Try.underlying9 hT.m).1 3 (.agg #[.int .i64 1, .func (.func 73) #[] #[]]) (by kernel_rfl)
  have kx := blk_new w1 (.cells #[.int .i64 1, .func (.func 73) #[] #[]] 113)
  have x0 : (w1.alloc (.cells #[.int .i64 1, .func (.func 73) #[] #[]] 113)).cell? ⟨w1.heap.size, 0, none⟩ = some (.int .i64 1) := blk_cell kx 0
  replace hB := bthen hB (below_alloc (Below.refl w1.heap.size w1) (.cells #[.int .i64 1, .func (.func 73) #[] #[]] 113))
  go_wp2_with fail
  go_ret2
  exact ⟨rfl, hB⟩

set_option maxRecDepth 100000 in
set_option maxHeartbeats 2000000 in
theorem size4 (w : World) :
    Calls Try.prog 50 #[.string ⟨#[102, 108, 101, 116, 99, 104, 101, 114]⟩] w fun e w' => e = .returned (.tuple #[.int .i64 2, .bool true]) ∧ Below w.heap.size w w' := by
  go_enter Try.func50, Try.ntmps50
  go_wp2_with fail
  refine (kinds_calls _).mono ?_
  rintro e w1 ⟨m, b1, b2, b3, b4, rfl, hm1, hT, hB⟩
  have hlk := (run_look (P := Try.prog) (t := 115) (s := ⟨#[102, 108, 101, 116, 99, 104, 101, 114]⟩) Try.underlying115 Try.underlying9 hT.m).1 4 (.agg #[.int .i64 2, .func (.func 74) #[] #[]]) (by kernel_rfl)
  have kx := blk_new w1 (.cells #[.int .i64 2, .func (.func 74) #[] #[]] 113)
  have x0 : (w1.alloc (.cells #[.int .i64 2, .func (.func 74) #[] #[]] 113)).cell? ⟨w1.heap.size, 0, none⟩ = some (.int .i64 2) := blk_cell kx 0
  replace hB := bthen hB (below_alloc (Below.refl w1.heap.size w1) (.cells #[.int .i64 2, .func (.func 74) #[] #[]] 113))
  go_wp2_with fail
  go_ret2
  exact ⟨rfl, hB⟩

set_option maxRecDepth 100000 in
set_option maxHeartbeats 2000000 in
theorem size5 (w : World) :
    Calls Try.prog 50 #[.string ⟨#[99, 114, 99, 56]⟩] w fun e w' => e = .returned (.tuple #[.int .i64 1, .bool true]) ∧ Below w.heap.size w w' := by
  go_enter Try.func50, Try.ntmps50
  go_wp2_with fail
  refine (kinds_calls _).mono ?_
  rintro e w1 ⟨m, b1, b2, b3, b4, rfl, hm1, hT, hB⟩
  have hlk := (run_look (P := Try.prog) (t := 115) (s := ⟨#[99, 114, 99, 56]⟩) Try.underlying115 Try.underlying9 hT.m).1 5 (.agg #[.int .i64 1, .func (.func 76) #[] #[.pointer (some ⟨b1, 0, none⟩)]]) (by kernel_rfl)
  have kx := blk_new w1 (.cells #[.int .i64 1, .func (.func 76) #[] #[.pointer (some ⟨b1, 0, none⟩)]] 113)
  have x0 : (w1.alloc (.cells #[.int .i64 1, .func (.func 76) #[] #[.pointer (some ⟨b1, 0, none⟩)]] 113)).cell? ⟨w1.heap.size, 0, none⟩ = some (.int .i64 1) := blk_cell kx 0
  replace hB := bthen hB (below_alloc (Below.refl w1.heap.size w1) (.cells #[.int .i64 1, .func (.func 76) #[] #[.pointer (some ⟨b1, 0, none⟩)]] 113))
  go_wp2_with fail
  go_ret2
  exact ⟨rfl, hB⟩

set_option maxRecDepth 100000 in
set_option maxHeartbeats 2000000 in
theorem size6 (w : World) :
    Calls Try.prog 50 #[.string ⟨#[99, 114, 99, 49, 54]⟩] w fun e w' => e = .returned (.tuple #[.int .i64 2, .bool true]) ∧ Below w.heap.size w w' := by
  go_enter Try.func50, Try.ntmps50
  go_wp2_with fail
  refine (kinds_calls _).mono ?_
  rintro e w1 ⟨m, b1, b2, b3, b4, rfl, hm1, hT, hB⟩
  have hlk := (run_look (P := Try.prog) (t := 115) (s := ⟨#[99, 114, 99, 49, 54]⟩) Try.underlying115 Try.underlying9 hT.m).1 6 (.agg #[.int .i64 2, .func (.func 76) #[] #[.pointer (some ⟨b2, 0, none⟩)]]) (by kernel_rfl)
  have kx := blk_new w1 (.cells #[.int .i64 2, .func (.func 76) #[] #[.pointer (some ⟨b2, 0, none⟩)]] 113)
  have x0 : (w1.alloc (.cells #[.int .i64 2, .func (.func 76) #[] #[.pointer (some ⟨b2, 0, none⟩)]] 113)).cell? ⟨w1.heap.size, 0, none⟩ = some (.int .i64 2) := blk_cell kx 0
  replace hB := bthen hB (below_alloc (Below.refl w1.heap.size w1) (.cells #[.int .i64 2, .func (.func 76) #[] #[.pointer (some ⟨b2, 0, none⟩)]] 113))
  go_wp2_with fail
  go_ret2
  exact ⟨rfl, hB⟩

set_option maxRecDepth 100000 in
set_option maxHeartbeats 2000000 in
theorem size7 (w : World) :
    Calls Try.prog 50 #[.string ⟨#[99, 99, 105, 116, 116]⟩] w fun e w' => e = .returned (.tuple #[.int .i64 2, .bool true]) ∧ Below w.heap.size w w' := by
  go_enter Try.func50, Try.ntmps50
  go_wp2_with fail
  refine (kinds_calls _).mono ?_
  rintro e w1 ⟨m, b1, b2, b3, b4, rfl, hm1, hT, hB⟩
  have hlk := (run_look (P := Try.prog) (t := 115) (s := ⟨#[99, 99, 105, 116, 116]⟩) Try.underlying115 Try.underlying9 hT.m).1 7 (.agg #[.int .i64 2, .func (.func 76) #[] #[.pointer (some ⟨b3, 0, none⟩)]]) (by kernel_rfl)
  have kx := blk_new w1 (.cells #[.int .i64 2, .func (.func 76) #[] #[.pointer (some ⟨b3, 0, none⟩)]] 113)
  have x0 : (w1.alloc (.cells #[.int .i64 2, .func (.func 76) #[] #[.pointer (some ⟨b3, 0, none⟩)]] 113)).cell? ⟨w1.heap.size, 0, none⟩ = some (.int .i64 2) := blk_cell kx 0
  replace hB := bthen hB (below_alloc (Below.refl w1.heap.size w1) (.cells #[.int .i64 2, .func (.func 76) #[] #[.pointer (some ⟨b3, 0, none⟩)]] 113))
  go_wp2_with fail
  go_ret2
  exact ⟨rfl, hB⟩

set_option maxRecDepth 100000 in
set_option maxHeartbeats 2000000 in
theorem size8 (w : World) :
    Calls Try.prog 50 #[.string ⟨#[99, 114, 99, 51, 50]⟩] w fun e w' => e = .returned (.tuple #[.int .i64 4, .bool true]) ∧ Below w.heap.size w w' := by
  go_enter Try.func50, Try.ntmps50
  go_wp2_with fail
  refine (kinds_calls _).mono ?_
  rintro e w1 ⟨m, b1, b2, b3, b4, rfl, hm1, hT, hB⟩
  have hlk := (run_look (P := Try.prog) (t := 115) (s := ⟨#[99, 114, 99, 51, 50]⟩) Try.underlying115 Try.underlying9 hT.m).1 8 (.agg #[.int .i64 4, .func (.func 76) #[] #[.pointer (some ⟨b4, 0, none⟩)]]) (by kernel_rfl)
  have kx := blk_new w1 (.cells #[.int .i64 4, .func (.func 76) #[] #[.pointer (some ⟨b4, 0, none⟩)]] 113)
  have x0 : (w1.alloc (.cells #[.int .i64 4, .func (.func 76) #[] #[.pointer (some ⟨b4, 0, none⟩)]] 113)).cell? ⟨w1.heap.size, 0, none⟩ = some (.int .i64 4) := blk_cell kx 0
  replace hB := bthen hB (below_alloc (Below.refl w1.heap.size w1) (.cells #[.int .i64 4, .func (.func 76) #[] #[.pointer (some ⟨b4, 0, none⟩)]] 113))
  go_wp2_with fail
  go_ret2
  exact ⟨rfl, hB⟩

set_option maxRecDepth 100000 in
set_option maxHeartbeats 2000000 in
theorem size_unknown {s : ByteArray} (h0 : s ≠ ⟨#[110, 111, 110, 101]⟩) (h1 : s ≠ ⟨#[115, 117, 109]⟩) (h2 : s ≠ ⟨#[108, 114, 99]⟩) (h3 : s ≠ ⟨#[120, 111, 114]⟩) (h4 : s ≠ ⟨#[102, 108, 101, 116, 99, 104, 101, 114]⟩) (h5 : s ≠ ⟨#[99, 114, 99, 56]⟩) (h6 : s ≠ ⟨#[99, 114, 99, 49, 54]⟩) (h7 : s ≠ ⟨#[99, 99, 105, 116, 116]⟩) (h8 : s ≠ ⟨#[99, 114, 99, 51, 50]⟩) (w : World) :
    Calls Try.prog 50 #[.string s] w fun e w' => e = .returned (.tuple #[.int .i64 0, .bool false]) ∧ Below w.heap.size w w' := by
  have hf := find_none h0 h1 h2 h3 h4 h5 h6 h7 h8
  have HF := Lib.hid hf
  clear hf h0 h1 h2 h3 h4 h5 h6 h7 h8
  go_enter Try.func50, Try.ntmps50
  go_wp2_with fail
  refine (kinds_calls _).mono ?_
  rintro e w1 ⟨m, b1, b2, b3, b4, rfl, hm1, hT, hB⟩
  have hlk := (run_look (P := Try.prog) (t := 115) (s := s) Try.underlying115 Try.underlying9 hT.m).2 (.agg #[.int .i64 0, .nilFunc]) (HF.out b1 b2 b3 b4) (by kernel_rfl)
  have kx := blk_new w1 (.cells #[.int .i64 0, .nilFunc] 113)
  have x0 : (w1.alloc (.cells #[.int .i64 0, .nilFunc] 113)).cell? ⟨w1.heap.size, 0, none⟩ = some (.int .i64 0) := blk_cell kx 0
  replace hB := bthen hB (below_alloc (Below.refl w1.heap.size w1) (.cells #[.int .i64 0, .nilFunc] 113))
  go_wp2_with fail
  go_ret2
  exact ⟨rfl, hB⟩
end Go.Proofs.Ytcmofedfbjpjlaa.Sums
