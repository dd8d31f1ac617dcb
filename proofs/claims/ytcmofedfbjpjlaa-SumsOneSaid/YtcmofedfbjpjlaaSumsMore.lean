import Derived.Test.YtcmofedfbjpjlaaSumsBase
import Derived.BigRegion
import Derived.Test.YtcmofedfbjpjlaaCrcRefSum
/- Whether an ending is right (bytes.Equal, sums.Good), walked. -/
set_option linter.unusedVariables false
set_option linter.unusedSimpArgs false
namespace Go.Proofs.Ytcmofedfbjpjlaa.Sums
open Go.RowKit Go.Proofs.YtcmofedfbjpjlaaW.PrintWords Go.Proofs.YtcmofedfbjpjlaaW.PrintLast Go.Proofs.Ytcmofedfbjpjlaa.Nats Go.Proofs.Ytcmofedfbjpjlaa.HeapKit Go.Proofs.Ytcmofedfbjpjlaa.CrcCalls

theorem u8_inj : ∀ {a b : List Nat}, (∀ x ∈ a, x < 256) → (∀ x ∈ b, x < 256) → a.map (fun x => UInt8.ofNat x) = b.map (fun x => UInt8.ofNat x) → a = b
  | [], [], _, _, _ => rfl
  | [], _ :: _, _, _, h => by cases h
  | _ :: _, [], _, _, h => by cases h
  | x :: a, y :: b, ha, hb, h => by
    rw [List.map_cons, List.map_cons] at h
    injection h with h1 h2
    have e : x = y := by
      have h3 := congrArg UInt8.toNat h1
      rw [UInt8.toNat_ofNat', UInt8.toNat_ofNat'] at h3
      have := ha x (.head _)
      have := hb y (.head _)
      omega
    rw [e, u8_inj (fun z hz => ha z (.tail _ hz)) (fun z hz => hb z (.tail _ hz)) h2]
theorem txt_list (a : List Nat) : (strOfNums (ints a)).toList = a.map (fun x => UInt8.ofNat x) := by
  rw [ByteArray.toList_eq, strOfNums_data, ints, List.map_map]
  rfl
theorem txt_eq {a b : List Nat} (ha : ∀ x ∈ a, x < 256) (hb : ∀ x ∈ b, x < 256) : ((strOfNums (ints a)).toList == (strOfNums (ints b)).toList) = decide (a = b) := by
  rw [txt_list, txt_list]
  by_cases h : a = b
  · subst h; simp
  · rw [decide_eq_false h, beq_eq_false_iff_ne]
    exact fun k => h (u8_inj ha hb k)
theorem end_small (n v : Nat) : ∀ x ∈ endB n v, x < 256 := by
  intro x hx
  unfold endB at hx
  obtain ⟨i, _, rfl⟩ := List.mem_map.1 hx
  exact Nat.mod_lt _ (by decide)
theorem conv_row {w : World} {A : Option Addr} {n c : Nat} {l : List Nat} (hC : Kd.C (Kd.int .u8) w A n (ints l)) : (convert 54 9 (.slice A n c)).run Try.prog w = .ok (.string (strOfNums (ints l))) w :=
  Kd.C_string Try.underlying54 Try.underlying5 Try.underlying9 hC
theorem equal_calls {a b : List Nat} (ha : ∀ x ∈ a, x < 256) (hb : ∀ x ∈ b, x < 256) {A B : Option Addr} {n m c d : Nat} (w : World) (hA : Kd.C (Kd.int .u8) w A n (ints a)) (hB : Kd.C (Kd.int .u8) w B m (ints b)) :
    Calls Try.prog 67 #[.slice A n c, .slice B m d] w fun e w' => e = .returned (.bool (decide (a = b))) ∧ Below w.heap.size w w' := by
  have e := txt_eq ha hb
  have k1 := conv_row (c := c) hA
  have k2 := conv_row (c := d) hB
  go_enter Try.func67, Try.ntmps67
  go_wp2_with fail
  go_ret
  exact ⟨rfl, Below.refl _ _⟩

set_option maxRecDepth 100000 in
set_option maxHeartbeats 1000000 in
theorem good0 {l : List Nat} (hl : ∀ x ∈ l, x < 256) {A : Option Addr} {n c : Nat} (hn : l.length = n) (hm : n < 9223372036854775807) (hc : n ≤ c) (w : World) (hC : Kd.C (Kd.int .u8) w A n (ints l)) {s : List Nat} (hs : ∀ x ∈ s, x < 256) {B : Option Addr} {m d : Nat} (hS : Kd.C (Kd.int .u8) w B m (ints s)) :
    Calls Try.prog 51 #[.string ⟨#[110, 111, 110, 101]⟩, .slice A n c, .slice B m d] w fun e w' => e = .returned (.bool (decide (endB 0 (sumS l) = s))) ∧ Below w.heap.size w w' := by
  have ho := of0 hl hn hm hc w hC
  have HO := Lib.hid ho
  clear ho
  go_enter Try.func51, Try.ntmps51
  go_wp2_with fail
  refine HO.out.mono ?_
  rintro e w1 ⟨v, rfl, hR, hb⟩
  obtain ⟨A7, c7, rfl, _, hC7⟩ := Kd.R_reads hR
  rw [ints_length, endB_length] at hC7 ⊢
  have hS2 := Kd.C_below hS hb
  clear hR
  go_wp2_with fail
  refine (equal_calls (end_small _ _) hs _ hC7 hS2).mono ?_
  rintro e w2 ⟨rfl, hb2⟩
  go_wp2_with fail
  go_ret
  exact ⟨rfl, bthen hb hb2⟩

set_option maxRecDepth 100000 in
set_option maxHeartbeats 1000000 in
theorem good1 {l : List Nat} (hl : ∀ x ∈ l, x < 256) {A : Option Addr} {n c : Nat} (hn : l.length = n) (hm : n < 9223372036854775807) (hc : n ≤ c) (w : World) (hC : Kd.C (Kd.int .u8) w A n (ints l)) {s : List Nat} (hs : ∀ x ∈ s, x < 256) {B : Option Addr} {m d : Nat} (hS : Kd.C (Kd.int .u8) w B m (ints s)) :
    Calls Try.prog 51 #[.string ⟨#[115, 117, 109]⟩, .slice A n c, .slice B m d] w fun e w' => e = .returned (.bool (decide (endB 1 (sumS l) = s))) ∧ Below w.heap.size w w' := by
  have ho := of1 hl hn hm hc w hC
  have HO := Lib.hid ho
  clear ho
  go_enter Try.func51, Try.ntmps51
  go_wp2_with fail
  refine HO.out.mono ?_
  rintro e w1 ⟨v, rfl, hR, hb⟩
  obtain ⟨A7, c7, rfl, _, hC7⟩ := Kd.R_reads hR
  rw [ints_length, endB_length] at hC7 ⊢
  have hS2 := Kd.C_below hS hb
  clear hR
  go_wp2_with fail
  refine (equal_calls (end_small _ _) hs _ hC7 hS2).mono ?_
  rintro e w2 ⟨rfl, hb2⟩
  go_wp2_with fail
  go_ret
  exact ⟨rfl, bthen hb hb2⟩

set_option maxRecDepth 100000 in
set_option maxHeartbeats 1000000 in
theorem good2 {l : List Nat} (hl : ∀ x ∈ l, x < 256) {A : Option Addr} {n c : Nat} (hn : l.length = n) (hm : n < 9223372036854775807) (hc : n ≤ c) (w : World) (hC : Kd.C (Kd.int .u8) w A n (ints l)) {s : List Nat} (hs : ∀ x ∈ s, x < 256) {B : Option Addr} {m d : Nat} (hS : Kd.C (Kd.int .u8) w B m (ints s)) :
    Calls Try.prog 51 #[.string ⟨#[108, 114, 99]⟩, .slice A n c, .slice B m d] w fun e w' => e = .returned (.bool (decide (endB 1 (negS l) = s))) ∧ Below w.heap.size w w' := by
  have ho := of2 hl hn hm hc w hC
  have HO := Lib.hid ho
  clear ho
  go_enter Try.func51, Try.ntmps51
  go_wp2_with fail
  refine HO.out.mono ?_
  rintro e w1 ⟨v, rfl, hR, hb⟩
  obtain ⟨A7, c7, rfl, _, hC7⟩ := Kd.R_reads hR
  rw [ints_length, endB_length] at hC7 ⊢
  have hS2 := Kd.C_below hS hb
  clear hR
  go_wp2_with fail
  refine (equal_calls (end_small _ _) hs _ hC7 hS2).mono ?_
  rintro e w2 ⟨rfl, hb2⟩
  go_wp2_with fail
  go_ret
  exact ⟨rfl, bthen hb hb2⟩

set_option maxRecDepth 100000 in
set_option maxHeartbeats 1000000 in
theorem good3 {l : List Nat} (hl : ∀ x ∈ l, x < 256) {A : Option Addr} {n c : Nat} (hn : l.length = n) (hm : n < 9223372036854775807) (hc : n ≤ c) (w : World) (hC : Kd.C (Kd.int .u8) w A n (ints l)) {s : List Nat} (hs : ∀ x ∈ s, x < 256) {B : Option Addr} {m d : Nat} (hS : Kd.C (Kd.int .u8) w B m (ints s)) :
    Calls Try.prog 51 #[.string ⟨#[120, 111, 114]⟩, .slice A n c, .slice B m d] w fun e w' => e = .returned (.bool (decide (endB 1 (mixS l) = s))) ∧ Below w.heap.size w w' := by
  have ho := of3 hl hn hm hc w hC
  have HO := Lib.hid ho
  clear ho
  go_enter Try.func51, Try.ntmps51
  go_wp2_with fail
  refine HO.out.mono ?_
  rintro e w1 ⟨v, rfl, hR, hb⟩
  obtain ⟨A7, c7, rfl, _, hC7⟩ := Kd.R_reads hR
  rw [ints_length, endB_length] at hC7 ⊢
  have hS2 := Kd.C_below hS hb
  clear hR
  go_wp2_with fail
  refine (equal_calls (end_small _ _) hs _ hC7 hS2).mono ?_
  rintro e w2 ⟨rfl, hb2⟩
  go_wp2_with fail
  go_ret
  exact ⟨rfl, bthen hb hb2⟩

set_option maxRecDepth 100000 in
set_option maxHeartbeats 1000000 in
theorem good4 {l : List Nat} (hl : ∀ x ∈ l, x < 256) {A : Option Addr} {n c : Nat} (hn : l.length = n) (hm : n < 9223372036854775807) (hc : n ≤ c) (w : World) (hC : Kd.C (Kd.int .u8) w A n (ints l)) {s : List Nat} (hs : ∀ x ∈ s, x < 256) {B : Option Addr} {m d : Nat} (hS : Kd.C (Kd.int .u8) w B m (ints s)) :
    Calls Try.prog 51 #[.string ⟨#[102, 108, 101, 116, 99, 104, 101, 114]⟩, .slice A n c, .slice B m d] w fun e w' => e = .returned (.bool (decide (endB 2 (flS l) = s))) ∧ Below w.heap.size w w' := by
  have ho := of4 hl hn hm hc w hC
  have HO := Lib.hid ho
  clear ho
  go_enter Try.func51, Try.ntmps51
  go_wp2_with fail
  refine HO.out.mono ?_
  rintro e w1 ⟨v, rfl, hR, hb⟩
  obtain ⟨A7, c7, rfl, _, hC7⟩ := Kd.R_reads hR
  rw [ints_length, endB_length] at hC7 ⊢
  have hS2 := Kd.C_below hS hb
  clear hR
  go_wp2_with fail
  refine (equal_calls (end_small _ _) hs _ hC7 hS2).mono ?_
  rintro e w2 ⟨rfl, hb2⟩
  go_wp2_with fail
  go_ret
  exact ⟨rfl, bthen hb hb2⟩

set_option maxRecDepth 100000 in
set_option maxHeartbeats 1000000 in
theorem good5 {l : List Nat} (hl : ∀ x ∈ l, x < 256) {A : Option Addr} {n c : Nat} (hn : l.length = n) (hm : n < 9223372036854775807) (hc : n ≤ c) (w : World) (hC : Kd.C (Kd.int .u8) w A n (ints l)) {s : List Nat} (hs : ∀ x ∈ s, x < 256) {B : Option Addr} {m d : Nat} (hS : Kd.C (Kd.int .u8) w B m (ints s)) :
    Calls Try.prog 51 #[.string ⟨#[99, 114, 99, 56]⟩, .slice A n c, .slice B m d] w fun e w' => e = .returned (.bool (decide (endB 1 (CrcPlain.sum 8 7 0 false 0 l) = s))) ∧ Below w.heap.size w w' := by
  have ho := of5 hl hn hm hc w hC
  have HO := Lib.hid ho
  clear ho
  go_enter Try.func51, Try.ntmps51
  go_wp2_with fail
  refine HO.out.mono ?_
  rintro e w1 ⟨v, rfl, hR, hb⟩
  obtain ⟨A7, c7, rfl, _, hC7⟩ := Kd.R_reads hR
  rw [ints_length, endB_length] at hC7 ⊢
  have hS2 := Kd.C_below hS hb
  clear hR
  go_wp2_with fail
  refine (equal_calls (end_small _ _) hs _ hC7 hS2).mono ?_
  rintro e w2 ⟨rfl, hb2⟩
  go_wp2_with fail
  go_ret
  exact ⟨rfl, bthen hb hb2⟩

set_option maxRecDepth 100000 in
set_option maxHeartbeats 1000000 in
theorem good6 {l : List Nat} (hl : ∀ x ∈ l, x < 256) {A : Option Addr} {n c : Nat} (hn : l.length = n) (hm : n < 9223372036854775807) (hc : n ≤ c) (w : World) (hC : Kd.C (Kd.int .u8) w A n (ints l)) {s : List Nat} (hs : ∀ x ∈ s, x < 256) {B : Option Addr} {m d : Nat} (hS : Kd.C (Kd.int .u8) w B m (ints s)) :
    Calls Try.prog 51 #[.string ⟨#[99, 114, 99, 49, 54]⟩, .slice A n c, .slice B m d] w fun e w' => e = .returned (.bool (decide (endB 2 (CrcPlain.sum 16 32773 0 true 0 l) = s))) ∧ Below w.heap.size w w' := by
  have ho := of6 hl hn hm hc w hC
  have HO := Lib.hid ho
  clear ho
  go_enter Try.func51, Try.ntmps51
  go_wp2_with fail
  refine HO.out.mono ?_
  rintro e w1 ⟨v, rfl, hR, hb⟩
  obtain ⟨A7, c7, rfl, _, hC7⟩ := Kd.R_reads hR
  rw [ints_length, endB_length] at hC7 ⊢
  have hS2 := Kd.C_below hS hb
  clear hR
  go_wp2_with fail
  refine (equal_calls (end_small _ _) hs _ hC7 hS2).mono ?_
  rintro e w2 ⟨rfl, hb2⟩
  go_wp2_with fail
  go_ret
  exact ⟨rfl, bthen hb hb2⟩

set_option maxRecDepth 100000 in
set_option maxHeartbeats 1000000 in
theorem good7 {l : List Nat} (hl : ∀ x ∈ l, x < 256) {A : Option Addr} {n c : Nat} (hn : l.length = n) (hm : n < 9223372036854775807) (hc : n ≤ c) (w : World) (hC : Kd.C (Kd.int .u8) w A n (ints l)) {s : List Nat} (hs : ∀ x ∈ s, x < 256) {B : Option Addr} {m d : Nat} (hS : Kd.C (Kd.int .u8) w B m (ints s)) :
    Calls Try.prog 51 #[.string ⟨#[99, 99, 105, 116, 116]⟩, .slice A n c, .slice B m d] w fun e w' => e = .returned (.bool (decide (endB 2 (CrcPlain.sum 16 4129 65535 false 0 l) = s))) ∧ Below w.heap.size w w' := by
  have ho := of7 hl hn hm hc w hC
  have HO := Lib.hid ho
  clear ho
  go_enter Try.func51, Try.ntmps51
  go_wp2_with fail
  refine HO.out.mono ?_
  rintro e w1 ⟨v, rfl, hR, hb⟩
  obtain ⟨A7, c7, rfl, _, hC7⟩ := Kd.R_reads hR
  rw [ints_length, endB_length] at hC7 ⊢
  have hS2 := Kd.C_below hS hb
  clear hR
  go_wp2_with fail
  refine (equal_calls (end_small _ _) hs _ hC7 hS2).mono ?_
  rintro e w2 ⟨rfl, hb2⟩
  go_wp2_with fail
  go_ret
  exact ⟨rfl, bthen hb hb2⟩

set_option maxRecDepth 100000 in
set_option maxHeartbeats 1000000 in
theorem good8 {l : List Nat} (hl : ∀ x ∈ l, x < 256) {A : Option Addr} {n c : Nat} (hn : l.length = n) (hm : n < 9223372036854775807) (hc : n ≤ c) (w : World) (hC : Kd.C (Kd.int .u8) w A n (ints l)) {s : List Nat} (hs : ∀ x ∈ s, x < 256) {B : Option Addr} {m d : Nat} (hS : Kd.C (Kd.int .u8) w B m (ints s)) :
    Calls Try.prog 51 #[.string ⟨#[99, 114, 99, 51, 50]⟩, .slice A n c, .slice B m d] w fun e w' => e = .returned (.bool (decide (endB 4 (CrcPlain.sum 32 79764919 4294967295 true 4294967295 l) = s))) ∧ Below w.heap.size w w' := by
  have ho := of8 hl hn hm hc w hC
  have HO := Lib.hid ho
  clear ho
  go_enter Try.func51, Try.ntmps51
  go_wp2_with fail
  refine HO.out.mono ?_
  rintro e w1 ⟨v, rfl, hR, hb⟩
  obtain ⟨A7, c7, rfl, _, hC7⟩ := Kd.R_reads hR
  rw [ints_length, endB_length] at hC7 ⊢
  have hS2 := Kd.C_below hS hb
  clear hR
  go_wp2_with fail
  refine (equal_calls (end_small _ _) hs _ hC7 hS2).mono ?_
  rintro e w2 ⟨rfl, hb2⟩
  go_wp2_with fail
  go_ret
  exact ⟨rfl, bthen hb hb2⟩

set_option maxRecDepth 100000 in
set_option maxHeartbeats 1000000 in
theorem good_unknown {s : ByteArray} (h0 : s ≠ ⟨#[110, 111, 110, 101]⟩) (h1 : s ≠ ⟨#[115, 117, 109]⟩) (h2 : s ≠ ⟨#[108, 114, 99]⟩) (h3 : s ≠ ⟨#[120, 111, 114]⟩) (h4 : s ≠ ⟨#[102, 108, 101, 116, 99, 104, 101, 114]⟩) (h5 : s ≠ ⟨#[99, 114, 99, 56]⟩) (h6 : s ≠ ⟨#[99, 114, 99, 49, 54]⟩) (h7 : s ≠ ⟨#[99, 99, 105, 116, 116]⟩) (h8 : s ≠ ⟨#[99, 114, 99, 51, 50]⟩) (A B : Option Addr) (n c m d : Nat) (w : World) :
    Calls Try.prog 51 #[.string s, .slice A n c, .slice B m d] w fun e w' => e = .returned (.bool false) ∧ Below w.heap.size w w' := by
  have ho := of_unknown h0 h1 h2 h3 h4 h5 h6 h7 h8 A n c w
  have HO := Lib.hid ho
  clear ho h0 h1 h2 h3 h4 h5 h6 h7 h8
  go_enter Try.func51, Try.ntmps51
  go_wp2_with fail
  refine HO.out.mono ?_
  rintro e w1 ⟨rfl, hb⟩
  go_wp2_with fail
  go_ret
  exact ⟨rfl, hb⟩
end Go.Proofs.Ytcmofedfbjpjlaa.Sums

/- A number's bytes, as the document lays them (lancetref05.big), walked. -/
set_option linter.unusedVariables false
set_option linter.unusedSimpArgs false
namespace Go.Proofs.Ytcmofedfbjpjlaa.Sums
open Go.RowKit Go.Proofs.YtcmofedfbjpjlaaW.PrintWords Go.Proofs.YtcmofedfbjpjlaaW.PrintLast Go.Proofs.Ytcmofedfbjpjlaa.Nats Go.Proofs.Ytcmofedfbjpjlaa.HeapKit Go.Proofs.Ytcmofedfbjpjlaa.CrcCalls

theorem endB_succ (k v : Nat) : endB (k + 1) v = (v / 256 ^ k % 256) :: endB k v := by
  unfold endB
  rw [List.range_succ_eq_map, List.map_cons, List.map_map]
  congr 1
  apply List.map_congr_left
  intro i hi
  show v / 256 ^ (k + 1 - 1 - (i + 1)) % 256 = v / 256 ^ (k - 1 - i) % 256
  rw [show k + 1 - 1 - (i + 1) = k - 1 - i from by omega]
theorem u32w (x : Int) : IntKind.u32.wrap x = x % 4294967296 := by
  simp only [IntKind.wrap, IntKind.bits, IntKind.signed]
  rfl
def RelG (w : World) (N v : Nat) (s0 s5 s6 : Value) (wr : World) : Prop := ∃ k : Nat, k ≤ N ∧ s0 = .int .u32 ((v / 256 ^ k : Nat) : Int) ∧ s6 = .int .i64 (k : Int) ∧ Kd.R (Kd.int .u8) 5 wr w.heap.size (fun _ => True) s5 (ints (endB k v)) ∧ Below w.heap.size w wr
set_option maxRecDepth 100000 in
set_option maxHeartbeats 2000000 in
theorem big_calls (v N : Nat) (hv : v < 4294967296) (hN : N ≤ 4) (w : World) :
    Calls Try.prog 66 #[.int .u32 (v : Int), .int .i64 (N : Int)] w fun e w' => ∃ a, e = .returned a ∧ Kd.R (Kd.int .u8) 5 w' w.heap.size (fun _ => True) a (ints (endB N v)) ∧ Below w.heap.size w w' := by
  have hinfo := info_u8
  go_enter Try.func66, Try.ntmps66
  go_wp2_with fail
  go_loopw [0, 5, 6] (RelG w N v) (fun _ _ i _ => N - (intOf i).toNat)
  case atStart => exact ⟨0, Nat.zero_le _, by simp, rfl, Kd.R_nil _ _ _ _ _, Below.refl _ _⟩
  case round =>
    obtain ⟨k, hk, rfl, rfl, hR, hB⟩ := hrel
    by_cases hlt : k < N
    · have g0 : decide ((k : Int) < (N : Int)) = true := by simp; omega
      obtain ⟨q, hq⟩ : ∃ q, v / 256 ^ k = q := ⟨_, rfl⟩
      have hq4 : q < 4294967296 := by rw [← hq]; exact Nat.lt_of_le_of_lt (Nat.div_le_self _ _) hv
      have hq2 : v / 256 ^ (k + 1) = q / 256 := by rw [Nat.pow_succ, ← Nat.div_div_eq_div_mul, hq]
      have he : endB (k + 1) v = (q % 256) :: endB k v := by rw [endB_succ, hq]
      rw [hq]
      have HQ := Lib.hid hq2
      have HE := Lib.hid he
      clear hq hq2 he
      obtain ⟨A5, c5, rfl, _, hC5⟩ := Kd.R_reads hR
      rw [ints_length, endB_length] at hC5
      rw [show (ints (endB k v)).length = k from by rw [ints_length, endB_length]] at hR ⊢
      have e1 : (q : Int).tmod 256 = ((q % 256 : Nat) : Int) := by rw [Int.tmod_eq_emod_of_nonneg (by omega)]; omega
      have e2 : (q : Int) % 256 % 256 = ((q % 256 : Nat) : Int) := by omega
      have e3 : (q : Int) / 256 = ((q / 256 : Nat) : Int) := by omega
      have e4 : (q : Int).tdiv 256 = ((q / 256 : Nat) : Int) := by rw [Int.tdiv_eq_ediv_of_nonneg (by omega)]; omega
      have hw := hB.size
      have e5 : IntKind.u32.wrap ((q : Int).tdiv 256) = ((q / 256 : Nat) : Int) := by rw [e4, u32w]; omega
      clear e1 e2 e3 e4
      go_wp2_with (first
        | ((with_reducible refine gate_dst (N := 15) rfl ?_); refine Kd.R_lit (Kd.int .u8) _ 5 ?hg (N := 15) ?hd (xs := [(q : Int) % 256]) (inner := [.int .u8 ((q : Int) % 256)]) (ok := fun _ => True) (okp := fun _ => True) ?hr ?hp (fun _ hk => hk) trivial (Below.refl _ _) (Nat.le_refl _) (by simp) ?_; (case hd => rfl); (case hg => rfl); (case hr => first | (go_simp; done) | (go_simp; rfl)); (case hp => exact Reps.one (show Kd.M (Kd.int .u8) _ _ _ _ [_] from rfl) (Reps.none _ _)); intro va wa hRa hba hga hna; have hCa := Kd.C_below hC5 hba)
        | ((with_reducible refine gate_dst (N := 17) rfl ?_); refine Kd.R_append_row (Value.int .u8) 0 _ rfl (.tmp 15) (.tmp 16) 54 5 (.int .u8 0) 1 rfl Try.underlying54 hinfo rfl (by decide) va [(q : Int) % 256] (ints (endB k v)) _ _ _ (fun _ => True) rfl rfl (fun _ _ => trivial) hRa hCa hba hba.size ?aZ ?_; (case aZ => simp; omega); intro vb wb hRb hbb hgb hnb)
        | fail)
      have hRc := Kd.R_lower hRb hw
      have hBc := bthen hB hbb
      clear hRa hRb hCa hC5 hR hba hbb hga hgb hna hnb
      refine ⟨⟨k + 1, by omega, by rw [HQ.out]; simp, by simp, ?_, hBc⟩, ?_⟩
      · rw [HE.out]
        rw [show ints ((q % 256) :: endB k v) = [(q : Int) % 256] ++ ints (endB k v) from by simp [ints]]
        exact hRc
      · simp [intOf] <;> omega
    · obtain rfl : k = N := by omega
      go_wp2_with fail
      go_ret
      exact ⟨_, rfl, hR, hB⟩
end Go.Proofs.Ytcmofedfbjpjlaa.Sums

/- The ending as the document has it (lancetref05.Of), walked. -/
set_option linter.unusedVariables false
set_option linter.unusedSimpArgs false
namespace Go.Proofs.Ytcmofedfbjpjlaa.Sums
open Go.RowKit Go.Proofs.YtcmofedfbjpjlaaW.PrintWords Go.Proofs.YtcmofedfbjpjlaaW.PrintLast Go.Proofs.Ytcmofedfbjpjlaa.Nats Go.Proofs.Ytcmofedfbjpjlaa.HeapKit Go.Proofs.Ytcmofedfbjpjlaa.CrcCalls

/-- The kind of a name: how many bytes, of which number. -/
def kindOf (s : ByteArray) : Option (Nat × (List Nat → Nat)) :=
  if s = ⟨#[110, 111, 110, 101]⟩ then some (0, sumS) else
  if s = ⟨#[115, 117, 109]⟩ then some (1, sumS) else
  if s = ⟨#[108, 114, 99]⟩ then some (1, negS) else
  if s = ⟨#[120, 111, 114]⟩ then some (1, mixS) else
  if s = ⟨#[102, 108, 101, 116, 99, 104, 101, 114]⟩ then some (2, flS) else
  if s = ⟨#[99, 114, 99, 56]⟩ then some (1, fun l => CrcPlain.sum 8 7 0 false 0 l) else
  if s = ⟨#[99, 114, 99, 49, 54]⟩ then some (2, fun l => CrcPlain.sum 16 32773 0 true 0 l) else
  if s = ⟨#[99, 99, 105, 116, 116]⟩ then some (2, fun l => CrcPlain.sum 16 4129 65535 false 0 l) else
  if s = ⟨#[99, 114, 99, 51, 50]⟩ then some (4, fun l => CrcPlain.sum 32 79764919 4294967295 true 4294967295 l) else
  none
/-- What is told of a kind's ending. -/
def Told (o : Option (Nat × (List Nat → Nat))) (l : List Nat) (base : Nat) (w' : World) (v : Value) (ok : Bool) : Prop :=
  match o with
  | some k => ok = true ∧ Kd.R (Kd.int .u8) 5 w' base (fun _ => True) v (ints (endB k.1 (k.2 l)))
  | none => ok = false ∧ v = .slice none 0 0
def refA (p : Nat × Nat) (c : Nat) : Nat × Nat := (p.1 + c, p.2 + (p.1 + c))
def refP (l : List Nat) : Nat × Nat := l.foldl refA (0, 0)
theorem refP_snoc (l : List Nat) (c : Nat) : refP (l ++ [c]) = refA (refP l) c := by unfold refP; rw [List.foldl_append]; rfl
theorem mixS_snoc (l : List Nat) (c : Nat) : mixS (l ++ [c]) = mixS l ^^^ c := by unfold mixS; rw [List.foldl_append]; rfl
theorem sumS_snoc (l : List Nat) (c : Nat) : sumS (l ++ [c]) = addS (sumS l) c := by unfold sumS; rw [List.foldl_append]; rfl
theorem flP_snoc (l : List Nat) (c : Nat) : flP (l ++ [c]) = flA (flP l) c := by unfold flP; rw [List.foldl_append]; rfl
theorem bounds (l : List Nat) : (∀ x ∈ l, x < 256) → l.length ≤ 300 → (refP l).1 ≤ 255 * l.length ∧ (refP l).2 ≤ 76500 * l.length ∧ mixS l < 256 ∧ sumS l = (refP l).1 ∧ (flP l).1 = (refP l).1 % 255 ∧ (flP l).2 = (refP l).2 % 255 := by
  refine CrcPlain.snocInd (P := fun l => (∀ x ∈ l, x < 256) → l.length ≤ 300 → (refP l).1 ≤ 255 * l.length ∧ (refP l).2 ≤ 76500 * l.length ∧ mixS l < 256 ∧ sumS l = (refP l).1 ∧ (flP l).1 = (refP l).1 % 255 ∧ (flP l).2 = (refP l).2 % 255) ?_ ?_ l
  · intro _ _
    exact ⟨by decide, by decide, by decide, by decide, by decide, by decide⟩
  · intro l c ih hl hn
    rw [List.length_append, List.length_singleton] at hn ⊢
    have hc := hl c (by simp)
    obtain ⟨h1, h2, h3, h4, h5, h6⟩ := ih (fun x hx => hl x (by simp [hx])) (by omega)
    rw [refP_snoc, mixS_snoc, sumS_snoc, flP_snoc]
    unfold refA addS flA
    dsimp only
    refine ⟨by omega, by omega, Nat.xor_lt_two_pow (n := 8) h3 hc, by omega, by omega, by omega⟩
theorem wrap_pos {x : Int} (h0 : 0 ≤ x) (h : x < 9223372036854775807) : wrap64 x = x := by unfold wrap64; omega
theorem add_at {a b c : Nat} (h : a + b = c) (hc : c < 9223372036854775807) : wrap64 ((a : Int) + (b : Int)) = (c : Int) := by
  subst h
  rw [wrap_pos (by omega) (by omega)]
  simp
theorem i64_xor {a b : Nat} (ha : a < 256) (hb : b < 256) : Go.bits .xor .i64 (a : Int) (b : Int) = ((a ^^^ b : Nat) : Int) := by
  have hx : a ^^^ b < 2 ^ 8 := Nat.xor_lt_two_pow (n := 8) ha hb
  show IntKind.i64.wrap ((BitVec.ofInt 64 (a : Int) ^^^ BitVec.ofInt 64 (b : Int)).toNat : Int) = _
  rw [BitVec.toNat_xor, BitVec.ofInt_natCast, BitVec.ofInt_natCast, BitVec.toNat_ofNat, BitVec.toNat_ofNat, Nat.mod_eq_of_lt (by omega), Nat.mod_eq_of_lt (by omega), IntKind.wrap_i64]
  omega
theorem ne_list {s t : ByteArray} (h : s ≠ t) : (s.toList == t.toList) = false := by
  rw [beq_eq_false_iff_ne]
  intro k
  rw [ByteArray.toList_eq, ByteArray.toList_eq] at k
  exact h (ByteArray.ext (Array.toList_inj.1 k))
/-- Between two rounds. -/
def RelF (l : List Nat) (w : World) (s6 s7 s8 s9 s10 : Value) (wr : World) : Prop :=
  ∃ k : Nat, k ≤ l.length ∧ s6 = .int .i64 ((refP (l.take k)).1 : Int) ∧ s7 = .int .i64 (mixS (l.take k) : Int) ∧ s8 = .int .i64 ((refP (l.take k)).2 : Int) ∧ s9 = .int .i64 ((refP (l.take k)).1 : Int) ∧ s10 = .int .i64 (k : Int) ∧ wr = w
set_option maxRecDepth 100000 in
set_option maxHeartbeats 8000000 in
theorem refof_calls (s : ByteArray) {l : List Nat} (hl : ∀ x ∈ l, x < 256) {A : Option Addr} {n c : Nat} (hn : l.length = n) (hm : n ≤ 300) (hc : n ≤ c) (w : World) (hC : Kd.C (Kd.int .u8) w A n (ints l)) :
    Calls Try.prog 49 #[.string s, .slice A n c] w fun e w' => ∃ v ok, e = .returned (.tuple #[v, .bool ok]) ∧ Told (kindOf s) l w.heap.size w' v ok ∧ Below w.heap.size w w' := by
  have Hn := Lib.hid hn
  clear hn
  have HC := Lib.hid hC
  clear hC
  go_enter Try.func49, Try.ntmps49
  go_wp2_with fail
  go_loopw [6, 7, 8, 9, 10] (RelF l w) (fun _ _ _ _ i _ => n - (intOf i).toNat)
  case atStart => exact ⟨0, Nat.zero_le _, rfl, rfl, rfl, rfl, rfl, rfl⟩
  case round =>
    obtain ⟨k, hk, rfl, rfl, rfl, rfl, rfl, rfl⟩ := hrel
    by_cases hlt : k < n
    · have g0 : decide ((k : Int) < (n : Int)) = true := by simp; omega
      have hkl : k < l.length := by rw [Hn.out]; exact hlt
      obtain ⟨b, hb⟩ : ∃ b, b = l[k] := ⟨_, rfl⟩
      have hb256 : b < 256 := by rw [hb]; exact hl _ (List.getElem_mem hkl)
      obtain ⟨ad, rfl, hcl⟩ := Kd.at_int HC.out (k : Int) (by omega) (by omega)
      rw [Int.toNat_natCast, show rd (ints l) (k : Int) = (b : Int) from by rw [hb]; simp [rd, ints, List.getD_eq_getElem?_getD, hkl]] at hcl
      obtain ⟨h1, h2, h3, _⟩ := bounds (l.take k) (fun x hx => hl x (List.mem_of_mem_take hx)) (by rw [List.length_take]; omega)
      rw [List.length_take, Nat.min_eq_left (by omega)] at h1 h2
      have ht : l.take (k + 1) = l.take k ++ [b] := by rw [List.take_add_one, List.getElem?_eq_getElem hkl, hb]; rfl
      have r1 := refP_snoc (l.take k) b
      have r2 := mixS_snoc (l.take k) b
      rw [← ht] at r1 r2
      obtain ⟨S, hS⟩ : ∃ S, (refP (l.take k)).1 = S := ⟨_, rfl⟩
      obtain ⟨T, hT⟩ : ∃ S, (refP (l.take k)).2 = S := ⟨_, rfl⟩
      obtain ⟨M, hM⟩ : ∃ S, mixS (l.take k) = S := ⟨_, rfl⟩
      unfold refA at r1
      rw [hS] at h1 r1
      rw [hT] at h2 r1
      rw [hM] at h3 r2
      rw [hS, hT, hM]
      obtain ⟨S', hS'⟩ : ∃ S', S + b = S' := ⟨_, rfl⟩
      rw [hS'] at r1
      obtain ⟨T', hT'⟩ : ∃ X, T + S' = X := ⟨_, rfl⟩
      rw [hT'] at r1
      obtain ⟨M', hM'⟩ : ∃ S', M ^^^ b = S' := ⟨_, rfl⟩
      have ex := i64_xor h3 hb256
      rw [hM'] at ex r2
      have bS : S' < 100000 := by omega
      have bT : T' < 100000000 := by omega
      have e1 := add_at hS' (by omega)
      have e2 := add_at hT' (by omega)
      have R1 := Lib.hid r1
      have R2 := Lib.hid r2
      clear r1 r2 hS hT hM hS' hT' hM' h1 h2 h3 ht hb bS bT
      go_wp2_with fail
      refine ⟨⟨k + 1, by omega, ?_, ?_, ?_, ?_, by simp, rfl⟩, ?_⟩
      · rw [e1, R1.out]
      · rw [R2.out]
      · rw [e2, R1.out]
      · rw [e1, R1.out]
      · simp [intOf] <;> omega
    · obtain rfl : k = l.length := by have := Hn.out; omega
      have g0 : decide (((l.length : Nat) : Int) < (n : Int)) = false := by simp; omega
      obtain ⟨b1, b2, b3, b4, b5, b6⟩ := bounds l hl (by have := Hn.out; omega)
      rw [List.take_length]
      obtain ⟨S, hS⟩ : ∃ S, (refP l).1 = S := ⟨_, rfl⟩
      obtain ⟨T, hT⟩ : ∃ S, (refP l).2 = S := ⟨_, rfl⟩
      obtain ⟨M, hM⟩ : ∃ S, mixS l = S := ⟨_, rfl⟩
      rw [hS] at b1 b4 b5
      rw [hT] at b2 b6
      rw [hM] at b3
      rw [hS, hT, hM]
      have B4 := Lib.hid b4
      have B5 := Lib.hid b5
      have B6 := Lib.hid b6
      have HM := Lib.hid hM
      clear hS hT hM b4 b5 b6
      by_cases h0 : s = ⟨#[110, 111, 110, 101]⟩
      · subst h0
        have hk : kindOf ⟨#[110, 111, 110, 101]⟩ = some (0, sumS) := by kernel_rfl
        have HK := Lib.hid hk
        clear hk
        go_wp2_with fail
        go_ret2
        rw [HK.out]
        exact ⟨_, _, rfl, ⟨rfl, Kd.R_nil _ _ _ _ _⟩, Below.refl _ _⟩
      have n0 := ne_list h0
      rw [show (⟨#[110, 111, 110, 101]⟩ : ByteArray).toList = ([110, 111, 110, 101] : List UInt8) from by decide +kernel] at n0
      by_cases h1 : s = ⟨#[115, 117, 109]⟩
      · subst h1
        clear h0 n0
        have hk : kindOf ⟨#[115, 117, 109]⟩ = some (1, sumS) := by kernel_rfl
        have HK := Lib.hid hk
        clear hk
        obtain ⟨r, hr⟩ : ∃ r, S % 256 = r := ⟨_, rfl⟩
        have f1 : (S : Int).tmod 256 = (r : Int) := by rw [Int.tmod_eq_emod_of_nonneg (by omega)]; omega
        have f2 : (r : Int) % 256 = (r : Int) := by omega
        have f3 : (S : Int) % 256 = (r : Int) := by omega
        have hf : endB 1 (sumS l) = [r] := by rw [B4.out]; simp [endB, hr]
        have HF := Lib.hid hf
        clear hf hr
        go_wp2_with (first | ((with_reducible refine gate_dst (N := 48) rfl ?_); refine Kd.R_lit (Kd.int .u8) _ 5 ?hg (N := 48) ?hd (xs := [(r : Int)]) (inner := [.int .u8 (r : Int)]) (ok := fun _ => True) (okp := fun _ => True) ?hr ?hp (fun _ hk => hk) trivial (Below.refl _ _) (Nat.le_refl _) (by simp) ?_; (case hd => rfl); (case hg => rfl); (case hr => first | (go_simp; done) | (go_simp; rfl)); (case hp => exact Reps.one (show Kd.M (Kd.int .u8) _ _ _ _ [_] from rfl) (Reps.none _ _)); intro va wa hRa hba hga hna) | fail)
        go_ret2
        rw [HK.out]
        refine ⟨_, _, rfl, ⟨rfl, ?_⟩, hba⟩
        dsimp only
        rw [HF.out]
        exact hRa
      have n1 := ne_list h1
      rw [show (⟨#[115, 117, 109]⟩ : ByteArray).toList = ([115, 117, 109] : List UInt8) from by decide +kernel] at n1
      by_cases h2 : s = ⟨#[108, 114, 99]⟩
      · subst h2
        clear h0 n0 h1 n1
        have hk : kindOf ⟨#[108, 114, 99]⟩ = some (1, negS) := by kernel_rfl
        have HK := Lib.hid hk
        clear hk
        obtain ⟨q, hq⟩ : ∃ r, S % 256 = r := ⟨_, rfl⟩
        obtain ⟨r, hr⟩ : ∃ r, (256 - q) % 256 = r := ⟨_, rfl⟩
        have f1 : (S : Int).tmod 256 = (q : Int) := by rw [Int.tmod_eq_emod_of_nonneg (by omega)]; omega
        have f3 : (S : Int) % 256 = (q : Int) := by omega
        obtain ⟨z, hz⟩ : ∃ z, 256 - q = z := ⟨_, rfl⟩
        have f4 : wrap64 (256 - (q : Int)) = (z : Int) := by rw [wrap_pos (by omega) (by omega)]; omega
        have f5 : (z : Int).tmod 256 = (r : Int) := by rw [Int.tmod_eq_emod_of_nonneg (by omega)]; omega
        have f6 : (z : Int) % 256 = (r : Int) := by omega
        have f2 : (r : Int) % 256 = (r : Int) := by omega
        have hrq : (r : Int) = -(q : Int) % 256 := by omega
        have HRQ := Lib.hid hrq
        clear hrq
        have hf : endB 1 (negS l) = [r] := by have := Hn.out; simp only [endB, negS, B4.out]; simp; omega
        have HF := Lib.hid hf
        clear hf hr hq hz
        go_wp2_with (first | ((with_reducible refine gate_dst (N := 56) rfl ?_); refine Kd.R_lit (Kd.int .u8) _ 5 ?hg (N := 56) ?hd (xs := [(-(q : Int) % 256 : Int)]) (inner := [.int .u8 (-(q : Int) % 256 : Int)]) (ok := fun _ => True) (okp := fun _ => True) ?hr ?hp (fun _ hk => hk) trivial (Below.refl _ _) (Nat.le_refl _) (by simp) ?_; (case hd => rfl); (case hg => rfl); (case hr => first | (go_simp; done) | (go_simp; rfl)); (case hp => exact Reps.one (show Kd.M (Kd.int .u8) _ _ _ _ [_] from rfl) (Reps.none _ _)); intro va wa hRa hba hga hna) | fail)
        go_ret2
        rw [HK.out]
        refine ⟨_, _, rfl, ⟨rfl, ?_⟩, hba⟩
        dsimp only
        rw [HF.out, show ints [r] = [-(q : Int) % 256] from by simp only [ints, List.map_cons, List.map_nil]; rw [HRQ.out]]
        exact hRa
      have n2 := ne_list h2
      rw [show (⟨#[108, 114, 99]⟩ : ByteArray).toList = ([108, 114, 99] : List UInt8) from by decide +kernel] at n2
      by_cases h3 : s = ⟨#[120, 111, 114]⟩
      · subst h3
        clear h0 n0 h1 n1 h2 n2
        have hk : kindOf ⟨#[120, 111, 114]⟩ = some (1, mixS) := by kernel_rfl
        have HK := Lib.hid hk
        clear hk
        obtain ⟨r, hr⟩ : ∃ r, M = r := ⟨_, rfl⟩
        have f2 : (M : Int) % 256 = (M : Int) := by omega
        have hf : endB 1 (mixS l) = [M] := by rw [HM.out]; simp [endB]; omega
        have HF := Lib.hid hf
        clear hf hr
        go_wp2_with (first | ((with_reducible refine gate_dst (N := 61) rfl ?_); refine Kd.R_lit (Kd.int .u8) _ 5 ?hg (N := 61) ?hd (xs := [(M : Int)]) (inner := [.int .u8 (M : Int)]) (ok := fun _ => True) (okp := fun _ => True) ?hr ?hp (fun _ hk => hk) trivial (Below.refl _ _) (Nat.le_refl _) (by simp) ?_; (case hd => rfl); (case hg => rfl); (case hr => first | (go_simp; done) | (go_simp; rfl)); (case hp => exact Reps.one (show Kd.M (Kd.int .u8) _ _ _ _ [_] from rfl) (Reps.none _ _)); intro va wa hRa hba hga hna) | fail)
        go_ret2
        rw [HK.out]
        refine ⟨_, _, rfl, ⟨rfl, ?_⟩, hba⟩
        dsimp only
        rw [HF.out]
        exact hRa
      have n3 := ne_list h3
      rw [show (⟨#[120, 111, 114]⟩ : ByteArray).toList = ([120, 111, 114] : List UInt8) from by decide +kernel] at n3
      by_cases h4 : s = ⟨#[102, 108, 101, 116, 99, 104, 101, 114]⟩
      · subst h4
        clear h0 n0 h1 n1 h2 n2 h3 n3
        have hk : kindOf ⟨#[102, 108, 101, 116, 99, 104, 101, 114]⟩ = some (2, flS) := by kernel_rfl
        have HK := Lib.hid hk
        clear hk
        obtain ⟨x, hx⟩ : ∃ r, S % 255 = r := ⟨_, rfl⟩
        obtain ⟨y, hy⟩ : ∃ r, T % 255 = r := ⟨_, rfl⟩
        have fx1 : (S : Int).tmod 255 = (x : Int) := by rw [Int.tmod_eq_emod_of_nonneg (by omega)]; omega
        have fx2 : (S : Int) % 255 = (x : Int) := by omega
        have fx3 : (x : Int) % 256 = (x : Int) := by omega
        have fy1 : (T : Int).tmod 255 = (y : Int) := by rw [Int.tmod_eq_emod_of_nonneg (by omega)]; omega
        have fy2 : (T : Int) % 255 = (y : Int) := by omega
        have fy3 : (y : Int) % 256 = (y : Int) := by omega
        have hf : endB 2 (flS l) = [y, x] := by
          have h1 := B5.out
          have h2 := B6.out
          rw [hx] at h1
          rw [hy] at h2
          unfold flS
          rw [h1, h2, endB_succ, endB_succ]
          simp only [Nat.pow_one, Nat.pow_zero, Nat.div_one, endB, List.range_zero, List.map_nil]
          congr 1
          · omega
          · congr 1
            omega
        have HF := Lib.hid hf
        clear hf hx hy
        go_wp2_with (first | ((with_reducible refine gate_dst (N := 70) rfl ?_); refine Kd.R_lit (Kd.int .u8) _ 5 ?hg (N := 70) ?hd (xs := [(y : Int), (x : Int)]) (inner := [.int .u8 (y : Int), .int .u8 (x : Int)]) (ok := fun _ => True) (okp := fun _ => True) ?hr ?hp (fun _ hk => hk) trivial (Below.refl _ _) (Nat.le_refl _) (by simp) ?_; (case hd => rfl); (case hg => rfl); (case hr => first | (go_simp; done) | (go_simp; rfl)); (case hp => exact Reps.one (show Kd.M (Kd.int .u8) _ _ _ _ [_] from rfl) (Reps.one (show Kd.M (Kd.int .u8) _ _ _ _ [_] from rfl) (Reps.none _ _))); intro va wa hRa hba hga hna) | fail)
        go_ret2
        rw [HK.out]
        refine ⟨_, _, rfl, ⟨rfl, ?_⟩, hba⟩
        dsimp only
        rw [HF.out]
        exact hRa
      have n4 := ne_list h4
      rw [show (⟨#[102, 108, 101, 116, 99, 104, 101, 114]⟩ : ByteArray).toList = ([102, 108, 101, 116, 99, 104, 101, 114] : List UInt8) from by decide +kernel] at n4
      by_cases h5 : s = ⟨#[99, 114, 99, 56]⟩
      · subst h5
        clear h0 n0 h1 n1 h2 n2 h3 n3 h4 n4
        have hk : kindOf ⟨#[99, 114, 99, 56]⟩ = some (1, fun l => CrcPlain.sum 8 7 0 false 0 l) := by kernel_rfl
        have HK := Lib.hid hk
        clear hk
        have hs := CrcRefSum.refSum 8 7 0 0 false l (by decide) (by decide) (by decide) (by decide) (by decide) (by decide) (by decide) hl A n c Hn.out (by omega) _ HC.out
        have HS := Lib.hid hs
        clear hs
        go_wp2_with fail
        refine HS.out.mono ?_
        rintro e w1 ⟨rfl, hb1⟩
        obtain ⟨v, hv⟩ : ∃ v, CrcPlain.sum 8 7 0 false 0 l = v := ⟨_, rfl⟩
        have hv4 : v < 4294967296 := by rw [← hv]; exact Nat.lt_of_lt_of_le (CrcPlain.sum_lt (by decide) (by decide) (by decide) (by decide) false hl) (by decide)
        rw [hv]
        have HV := Lib.hid hv
        clear hv
        go_wp2_with fail
        refine (big_calls v 1 hv4 (by decide) _).mono ?_
        rintro e w2 ⟨a, rfl, hRa, hb2⟩
        go_wp2_with fail
        go_ret2
        rw [HK.out]
        refine ⟨_, _, rfl, ⟨rfl, ?_⟩, bthen hb1 hb2⟩
        dsimp only
        rw [HV.out]
        exact Kd.R_lower hRa hb1.size
      have n5 := ne_list h5
      rw [show (⟨#[99, 114, 99, 56]⟩ : ByteArray).toList = ([99, 114, 99, 56] : List UInt8) from by decide +kernel] at n5
      by_cases h6 : s = ⟨#[99, 114, 99, 49, 54]⟩
      · subst h6
        clear h0 n0 h1 n1 h2 n2 h3 n3 h4 n4 h5 n5
        have hk : kindOf ⟨#[99, 114, 99, 49, 54]⟩ = some (2, fun l => CrcPlain.sum 16 32773 0 true 0 l) := by kernel_rfl
        have HK := Lib.hid hk
        clear hk
        have hs := CrcRefSum.refSum 16 32773 0 0 true l (by decide) (by decide) (by decide) (by decide) (by decide) (by decide) (by decide) hl A n c Hn.out (by omega) _ HC.out
        have HS := Lib.hid hs
        clear hs
        go_wp2_with fail
        refine HS.out.mono ?_
        rintro e w1 ⟨rfl, hb1⟩
        obtain ⟨v, hv⟩ : ∃ v, CrcPlain.sum 16 32773 0 true 0 l = v := ⟨_, rfl⟩
        have hv4 : v < 4294967296 := by rw [← hv]; exact Nat.lt_of_lt_of_le (CrcPlain.sum_lt (by decide) (by decide) (by decide) (by decide) true hl) (by decide)
        rw [hv]
        have HV := Lib.hid hv
        clear hv
        go_wp2_with fail
        refine (big_calls v 2 hv4 (by decide) _).mono ?_
        rintro e w2 ⟨a, rfl, hRa, hb2⟩
        go_wp2_with fail
        go_ret2
        rw [HK.out]
        refine ⟨_, _, rfl, ⟨rfl, ?_⟩, bthen hb1 hb2⟩
        dsimp only
        rw [HV.out]
        exact Kd.R_lower hRa hb1.size
      have n6 := ne_list h6
      rw [show (⟨#[99, 114, 99, 49, 54]⟩ : ByteArray).toList = ([99, 114, 99, 49, 54] : List UInt8) from by decide +kernel] at n6
      by_cases h7 : s = ⟨#[99, 99, 105, 116, 116]⟩
      · subst h7
        clear h0 n0 h1 n1 h2 n2 h3 n3 h4 n4 h5 n5 h6 n6
        have hk : kindOf ⟨#[99, 99, 105, 116, 116]⟩ = some (2, fun l => CrcPlain.sum 16 4129 65535 false 0 l) := by kernel_rfl
        have HK := Lib.hid hk
        clear hk
        have hs := CrcRefSum.refSum 16 4129 65535 0 false l (by decide) (by decide) (by decide) (by decide) (by decide) (by decide) (by decide) hl A n c Hn.out (by omega) _ HC.out
        have HS := Lib.hid hs
        clear hs
        go_wp2_with fail
        refine HS.out.mono ?_
        rintro e w1 ⟨rfl, hb1⟩
        obtain ⟨v, hv⟩ : ∃ v, CrcPlain.sum 16 4129 65535 false 0 l = v := ⟨_, rfl⟩
        have hv4 : v < 4294967296 := by rw [← hv]; exact Nat.lt_of_lt_of_le (CrcPlain.sum_lt (by decide) (by decide) (by decide) (by decide) false hl) (by decide)
        rw [hv]
        have HV := Lib.hid hv
        clear hv
        go_wp2_with fail
        refine (big_calls v 2 hv4 (by decide) _).mono ?_
        rintro e w2 ⟨a, rfl, hRa, hb2⟩
        go_wp2_with fail
        go_ret2
        rw [HK.out]
        refine ⟨_, _, rfl, ⟨rfl, ?_⟩, bthen hb1 hb2⟩
        dsimp only
        rw [HV.out]
        exact Kd.R_lower hRa hb1.size
      have n7 := ne_list h7
      rw [show (⟨#[99, 99, 105, 116, 116]⟩ : ByteArray).toList = ([99, 99, 105, 116, 116] : List UInt8) from by decide +kernel] at n7
      by_cases h8 : s = ⟨#[99, 114, 99, 51, 50]⟩
      · subst h8
        clear h0 n0 h1 n1 h2 n2 h3 n3 h4 n4 h5 n5 h6 n6 h7 n7
        have hk : kindOf ⟨#[99, 114, 99, 51, 50]⟩ = some (4, fun l => CrcPlain.sum 32 79764919 4294967295 true 4294967295 l) := by kernel_rfl
        have HK := Lib.hid hk
        clear hk
        have hs := CrcRefSum.refSum 32 79764919 4294967295 4294967295 true l (by decide) (by decide) (by decide) (by decide) (by decide) (by decide) (by decide) hl A n c Hn.out (by omega) _ HC.out
        have HS := Lib.hid hs
        clear hs
        go_wp2_with fail
        refine HS.out.mono ?_
        rintro e w1 ⟨rfl, hb1⟩
        obtain ⟨v, hv⟩ : ∃ v, CrcPlain.sum 32 79764919 4294967295 true 4294967295 l = v := ⟨_, rfl⟩
        have hv4 : v < 4294967296 := by rw [← hv]; exact Nat.lt_of_lt_of_le (CrcPlain.sum_lt (by decide) (by decide) (by decide) (by decide) true hl) (by decide)
        rw [hv]
        have HV := Lib.hid hv
        clear hv
        go_wp2_with fail
        refine (big_calls v 4 hv4 (by decide) _).mono ?_
        rintro e w2 ⟨a, rfl, hRa, hb2⟩
        go_wp2_with fail
        go_ret2
        rw [HK.out]
        refine ⟨_, _, rfl, ⟨rfl, ?_⟩, bthen hb1 hb2⟩
        dsimp only
        rw [HV.out]
        exact Kd.R_lower hRa hb1.size
      have n8 := ne_list h8
      rw [show (⟨#[99, 114, 99, 51, 50]⟩ : ByteArray).toList = ([99, 114, 99, 51, 50] : List UInt8) from by decide +kernel] at n8
      have hk : kindOf s = none := by unfold kindOf; rw [if_neg h0, if_neg h1, if_neg h2, if_neg h3, if_neg h4, if_neg h5, if_neg h6, if_neg h7, if_neg h8]
      have HK := Lib.hid hk
      clear hk h0 h1 h2 h3 h4 h5 h6 h7 h8
      go_wp2_with fail
      go_ret2
      rw [HK.out]
      exact ⟨_, _, rfl, ⟨rfl, rfl⟩, Below.refl _ _⟩
end Go.Proofs.Ytcmofedfbjpjlaa.Sums

/- The endings at any name: the contracts of sums.Of, Size and Good, made one. -/
set_option linter.unusedVariables false
set_option linter.unusedSimpArgs false
namespace Go.Proofs.Ytcmofedfbjpjlaa.Sums
open Go.RowKit Go.Proofs.YtcmofedfbjpjlaaW.PrintWords Go.Proofs.YtcmofedfbjpjlaaW.PrintLast Go.Proofs.Ytcmofedfbjpjlaa.Nats Go.Proofs.Ytcmofedfbjpjlaa.HeapKit Go.Proofs.Ytcmofedfbjpjlaa.CrcCalls

theorem kindOf_cases (s : ByteArray) : ((s = ⟨#[110, 111, 110, 101]⟩ ∧ kindOf s = some (0, sumS)) ∨ (s = ⟨#[115, 117, 109]⟩ ∧ kindOf s = some (1, sumS)) ∨ (s = ⟨#[108, 114, 99]⟩ ∧ kindOf s = some (1, negS)) ∨ (s = ⟨#[120, 111, 114]⟩ ∧ kindOf s = some (1, mixS)) ∨ (s = ⟨#[102, 108, 101, 116, 99, 104, 101, 114]⟩ ∧ kindOf s = some (2, flS)) ∨ (s = ⟨#[99, 114, 99, 56]⟩ ∧ kindOf s = some (1, fun l => CrcPlain.sum 8 7 0 false 0 l)) ∨ (s = ⟨#[99, 114, 99, 49, 54]⟩ ∧ kindOf s = some (2, fun l => CrcPlain.sum 16 32773 0 true 0 l)) ∨ (s = ⟨#[99, 99, 105, 116, 116]⟩ ∧ kindOf s = some (2, fun l => CrcPlain.sum 16 4129 65535 false 0 l)) ∨ (s = ⟨#[99, 114, 99, 51, 50]⟩ ∧ kindOf s = some (4, fun l => CrcPlain.sum 32 79764919 4294967295 true 4294967295 l))) ∨ (kindOf s = none ∧ s ≠ ⟨#[110, 111, 110, 101]⟩ ∧ s ≠ ⟨#[115, 117, 109]⟩ ∧ s ≠ ⟨#[108, 114, 99]⟩ ∧ s ≠ ⟨#[120, 111, 114]⟩ ∧ s ≠ ⟨#[102, 108, 101, 116, 99, 104, 101, 114]⟩ ∧ s ≠ ⟨#[99, 114, 99, 56]⟩ ∧ s ≠ ⟨#[99, 114, 99, 49, 54]⟩ ∧ s ≠ ⟨#[99, 99, 105, 116, 116]⟩ ∧ s ≠ ⟨#[99, 114, 99, 51, 50]⟩) := by
  by_cases h0 : s = ⟨#[110, 111, 110, 101]⟩
  · left
    subst h0
    have hk : kindOf ⟨#[110, 111, 110, 101]⟩ = some (0, sumS) := by kernel_rfl
    exact .inl ⟨rfl, hk⟩
  by_cases h1 : s = ⟨#[115, 117, 109]⟩
  · left
    subst h1
    have hk : kindOf ⟨#[115, 117, 109]⟩ = some (1, sumS) := by kernel_rfl
    exact .inr (.inl ⟨rfl, hk⟩)
  by_cases h2 : s = ⟨#[108, 114, 99]⟩
  · left
    subst h2
    have hk : kindOf ⟨#[108, 114, 99]⟩ = some (1, negS) := by kernel_rfl
    exact .inr (.inr (.inl ⟨rfl, hk⟩))
  by_cases h3 : s = ⟨#[120, 111, 114]⟩
  · left
    subst h3
    have hk : kindOf ⟨#[120, 111, 114]⟩ = some (1, mixS) := by kernel_rfl
    exact .inr (.inr (.inr (.inl ⟨rfl, hk⟩)))
  by_cases h4 : s = ⟨#[102, 108, 101, 116, 99, 104, 101, 114]⟩
  · left
    subst h4
    have hk : kindOf ⟨#[102, 108, 101, 116, 99, 104, 101, 114]⟩ = some (2, flS) := by kernel_rfl
    exact .inr (.inr (.inr (.inr (.inl ⟨rfl, hk⟩))))
  by_cases h5 : s = ⟨#[99, 114, 99, 56]⟩
  · left
    subst h5
    have hk : kindOf ⟨#[99, 114, 99, 56]⟩ = some (1, fun l => CrcPlain.sum 8 7 0 false 0 l) := by kernel_rfl
    exact .inr (.inr (.inr (.inr (.inr (.inl ⟨rfl, hk⟩)))))
  by_cases h6 : s = ⟨#[99, 114, 99, 49, 54]⟩
  · left
    subst h6
    have hk : kindOf ⟨#[99, 114, 99, 49, 54]⟩ = some (2, fun l => CrcPlain.sum 16 32773 0 true 0 l) := by kernel_rfl
    exact .inr (.inr (.inr (.inr (.inr (.inr (.inl ⟨rfl, hk⟩))))))
  by_cases h7 : s = ⟨#[99, 99, 105, 116, 116]⟩
  · left
    subst h7
    have hk : kindOf ⟨#[99, 99, 105, 116, 116]⟩ = some (2, fun l => CrcPlain.sum 16 4129 65535 false 0 l) := by kernel_rfl
    exact .inr (.inr (.inr (.inr (.inr (.inr (.inr (.inl ⟨rfl, hk⟩)))))))
  by_cases h8 : s = ⟨#[99, 114, 99, 51, 50]⟩
  · left
    subst h8
    have hk : kindOf ⟨#[99, 114, 99, 51, 50]⟩ = some (4, fun l => CrcPlain.sum 32 79764919 4294967295 true 4294967295 l) := by kernel_rfl
    exact .inr (.inr (.inr (.inr (.inr (.inr (.inr (.inr (⟨rfl, hk⟩))))))))
  right
  refine ⟨by unfold kindOf; rw [if_neg h0, if_neg h1, if_neg h2, if_neg h3, if_neg h4, if_neg h5, if_neg h6, if_neg h7, if_neg h8], h0, h1, h2, h3, h4, h5, h6, h7, h8⟩
/-- What the program tells of a kind's ending. -/
def ToldP (o : Option (Nat × (List Nat → Nat))) (l : List Nat) (base : Nat) (w' : World) (v : Value) (k : Int) : Prop :=
  match o with
  | some q => k = 0 ∧ Kd.R (Kd.int .u8) 5 w' base (fun _ => True) v (ints (endB q.1 (q.2 l)))
  | none => k = 4 ∧ v = .slice none 0 0
theorem of_calls (s : ByteArray) {l : List Nat} (hl : ∀ x ∈ l, x < 256) {A : Option Addr} {n c : Nat} (hn : l.length = n) (hm : n < 9223372036854775807) (hc : n ≤ c) (w : World) (hC : Kd.C (Kd.int .u8) w A n (ints l)) :
    Calls Try.prog 47 #[.string s, .slice A n c] w fun e w' => ∃ v k, e = .returned (.tuple #[v, .int .i64 k]) ∧ ToldP (kindOf s) l w.heap.size w' v k ∧ Below w.heap.size w w' := by
  rcases kindOf_cases s with (⟨rfl, hk⟩ | ⟨rfl, hk⟩ | ⟨rfl, hk⟩ | ⟨rfl, hk⟩ | ⟨rfl, hk⟩ | ⟨rfl, hk⟩ | ⟨rfl, hk⟩ | ⟨rfl, hk⟩ | ⟨rfl, hk⟩) | ⟨hk, h0, h1, h2, h3, h4, h5, h6, h7, h8⟩
  · rw [hk]
    exact (of0 hl hn hm hc w hC).mono (fun e w' h => by obtain ⟨v, h1, h2, h3⟩ := h; exact ⟨v, 0, h1, ⟨rfl, h2⟩, h3⟩)
  · rw [hk]
    exact (of1 hl hn hm hc w hC).mono (fun e w' h => by obtain ⟨v, h1, h2, h3⟩ := h; exact ⟨v, 0, h1, ⟨rfl, h2⟩, h3⟩)
  · rw [hk]
    exact (of2 hl hn hm hc w hC).mono (fun e w' h => by obtain ⟨v, h1, h2, h3⟩ := h; exact ⟨v, 0, h1, ⟨rfl, h2⟩, h3⟩)
  · rw [hk]
    exact (of3 hl hn hm hc w hC).mono (fun e w' h => by obtain ⟨v, h1, h2, h3⟩ := h; exact ⟨v, 0, h1, ⟨rfl, h2⟩, h3⟩)
  · rw [hk]
    exact (of4 hl hn hm hc w hC).mono (fun e w' h => by obtain ⟨v, h1, h2, h3⟩ := h; exact ⟨v, 0, h1, ⟨rfl, h2⟩, h3⟩)
  · rw [hk]
    exact (of5 hl hn hm hc w hC).mono (fun e w' h => by obtain ⟨v, h1, h2, h3⟩ := h; exact ⟨v, 0, h1, ⟨rfl, h2⟩, h3⟩)
  · rw [hk]
    exact (of6 hl hn hm hc w hC).mono (fun e w' h => by obtain ⟨v, h1, h2, h3⟩ := h; exact ⟨v, 0, h1, ⟨rfl, h2⟩, h3⟩)
  · rw [hk]
    exact (of7 hl hn hm hc w hC).mono (fun e w' h => by obtain ⟨v, h1, h2, h3⟩ := h; exact ⟨v, 0, h1, ⟨rfl, h2⟩, h3⟩)
  · rw [hk]
    exact (of8 hl hn hm hc w hC).mono (fun e w' h => by obtain ⟨v, h1, h2, h3⟩ := h; exact ⟨v, 0, h1, ⟨rfl, h2⟩, h3⟩)
  · rw [hk]
    exact (of_unknown h0 h1 h2 h3 h4 h5 h6 h7 h8 A n c w).mono (fun e w' h => ⟨_, 4, h.1, ⟨rfl, rfl⟩, h.2⟩)
def goodOf (o : Option (Nat × (List Nat → Nat))) (l t : List Nat) : Bool := match o with | some q => decide (endB q.1 (q.2 l) = t) | none => false
theorem good_calls (s : ByteArray) {l : List Nat} (hl : ∀ x ∈ l, x < 256) {A : Option Addr} {n c : Nat} (hn : l.length = n) (hm : n < 9223372036854775807) (hc : n ≤ c) (w : World) (hC : Kd.C (Kd.int .u8) w A n (ints l)) {t : List Nat} (hs : ∀ x ∈ t, x < 256) {B : Option Addr} {m d : Nat} (hS : Kd.C (Kd.int .u8) w B m (ints t)) :
    Calls Try.prog 51 #[.string s, .slice A n c, .slice B m d] w fun e w' => e = .returned (.bool (goodOf (kindOf s) l t)) ∧ Below w.heap.size w w' := by
  rcases kindOf_cases s with (⟨rfl, hk⟩ | ⟨rfl, hk⟩ | ⟨rfl, hk⟩ | ⟨rfl, hk⟩ | ⟨rfl, hk⟩ | ⟨rfl, hk⟩ | ⟨rfl, hk⟩ | ⟨rfl, hk⟩ | ⟨rfl, hk⟩) | ⟨hk, h0, h1, h2, h3, h4, h5, h6, h7, h8⟩
  · rw [hk]
    exact good0 hl hn hm hc w hC hs hS
  · rw [hk]
    exact good1 hl hn hm hc w hC hs hS
  · rw [hk]
    exact good2 hl hn hm hc w hC hs hS
  · rw [hk]
    exact good3 hl hn hm hc w hC hs hS
  · rw [hk]
    exact good4 hl hn hm hc w hC hs hS
  · rw [hk]
    exact good5 hl hn hm hc w hC hs hS
  · rw [hk]
    exact good6 hl hn hm hc w hC hs hS
  · rw [hk]
    exact good7 hl hn hm hc w hC hs hS
  · rw [hk]
    exact good8 hl hn hm hc w hC hs hS
  · rw [hk]
    exact good_unknown h0 h1 h2 h3 h4 h5 h6 h7 h8 A B n c m d w
-- [round 1
def kindSize (o : Option (Nat × (List Nat → Nat))) : Nat := match o with | some q => q.1 | none => 0
theorem size_calls (s : ByteArray) (w : World) :
    Calls Try.prog 50 #[.string s] w fun e w' => e = .returned (.tuple #[.int .i64 (kindSize (kindOf s) : Nat), .bool (kindOf s).isSome]) ∧ Below w.heap.size w w' := by
  rcases kindOf_cases s with (⟨rfl, hk⟩ | ⟨rfl, hk⟩ | ⟨rfl, hk⟩ | ⟨rfl, hk⟩ | ⟨rfl, hk⟩ | ⟨rfl, hk⟩ | ⟨rfl, hk⟩ | ⟨rfl, hk⟩ | ⟨rfl, hk⟩) | ⟨hk, h0, h1, h2, h3, h4, h5, h6, h7, h8⟩
  · rw [hk]
    exact size0 w
  · rw [hk]
    exact size1 w
  · rw [hk]
    exact size2 w
  · rw [hk]
    exact size3 w
  · rw [hk]
    exact size4 w
  · rw [hk]
    exact size5 w
  · rw [hk]
    exact size6 w
  · rw [hk]
    exact size7 w
  · rw [hk]
    exact size8 w
  · rw [hk]
    exact size_unknown h0 h1 h2 h3 h4 h5 h6 h7 h8 w
-- round 1]
end Go.Proofs.Ytcmofedfbjpjlaa.Sums

