import Derived.Test.YtcldlfhnmkogeaaSumsBase
import Derived.LoopTactic
import Derived.Test.YtcldlfhnmkogeaaTermBase
import Derived.Test.YtcldlfhnmkogeaaRatPlain
import Derived.Test.YtcldlfhnmkogeaaPLessx1
import Derived.Test.YtcldlfhnmkogeaaHeapKit
import Derived.Laws.Bits64b
import Derived.Test.YtcldlfhnmkogeaaPRawx1
import Derived.Test.YtcldlfhnmkogeaaPOfx1
/- The code of what has no term (nomen.Private), walked. -/
set_option linter.unusedVariables false
set_option linter.unusedSimpArgs false
namespace Go.Proofs.Ytcldlfhnmkogeaa.Term
open Go.RowKit Go.Proofs.YtcldlfhnmkogeaaW.PrintWords Go.Proofs.YtcldlfhnmkogeaaW.PrintLast Go.Proofs.Ytcldlfhnmkogeaa.Nats Go.Proofs.Ytcldlfhnmkogeaa.HeapKit Go.Proofs.Ytcldlfhnmkogeaa.Sums Go.Proofs.Ytcldlfhnmkogeaa.CrcCalls

/-- A text's bytes. -/
def bytesL (s : ByteArray) : List Nat := s.data.toList.map fun b => b.toNat
theorem bytesL_length (s : ByteArray) : (bytesL s).length = s.size := by rw [bytesL, List.length_map]; exact data_length s
theorem bytesL_lt (s : ByteArray) : ∀ x ∈ bytesL s, x < 256 := by
  intro x hx
  obtain ⟨b, _, rfl⟩ := List.mem_map.1 hx
  exact b.toNat_lt
theorem C_bytes (W : World) (e : TypeId) (s : ByteArray) (hs : s.size ≤ 9223372036854775807) : Kd.C (Kd.int .u8) (Lib.bytesWorld W e s) (some ⟨W.heap.size, 0, none⟩) s.size (ints (bytesL s)) := by
  refine ⟨by rw [ints_length, bytesL_length], hs, fun _ => ⟨_, rfl, fun j p hp => ⟨[.int .u8 p], rfl, rfl, fun i u hu => ?_⟩⟩⟩
  have hj : j < (ints (bytesL s)).length := (List.getElem?_eq_some_iff.1 hp).1
  rw [ints_length, bytesL_length] at hj
  cases i with
  | zero =>
    simp at hu
    subst hu
    show (Lib.bytesWorld W e s).cell? (Addr.add ⟨W.heap.size, 0, none⟩ (j * 1 + 0)) = _
    rw [show Addr.add ⟨W.heap.size, 0, none⟩ (j * 1 + 0) = ⟨W.heap.size, j, none⟩ from by unfold Addr.add; split <;> simp_all, Lib.bytesWorld_cell W e s j hj]
    have h' : j < s.data.toList.length := by rw [data_length]; exact hj
    simp only [ints, bytesL, List.map_map, List.getElem?_map, List.getElem?_eq_getElem h', Option.map_some, Option.some.injEq, Function.comp] at hp
    rw [List.getD_eq_getElem?_getD, List.getElem?_eq_getElem h', Option.getD_some, ← hp]
  | succ i => simp at hu
theorem i64_or {a b : Nat} (ha : a < 256) (hb : b < 256) : Go.bits .or .i64 ((a : Int) * 256) (b : Int) = (a : Int) * 256 + (b : Int) := by
  have e : (a : Int) * 256 = ((a * 256 : Nat) : Int) := by omega
  have ho := Nat.shiftLeft_add_eq_or_of_lt (i := 8) (show b < 2 ^ 8 from hb) a
  rw [Nat.shiftLeft_eq] at ho
  rw [e]
  show IntKind.i64.wrap ((BitVec.ofInt 64 ((a * 256 : Nat) : Int) ||| BitVec.ofInt 64 (b : Int)).toNat : Int) = _
  rw [BitVec.toNat_or, BitVec.ofInt_natCast, BitVec.ofInt_natCast, BitVec.toNat_ofNat, BitVec.toNat_ofNat, Nat.mod_eq_of_lt (by omega), Nat.mod_eq_of_lt (by omega), ← ho, IntKind.wrap_i64]
  omega
theorem w64 {n : Int} (h : 0 ≤ n ∧ n < 16777216) : wrap64 n = n := by unfold wrap64; omega
theorem arith {hi lo : Nat} (h1 : hi < 256) (h2 : lo < 256) : (0 ≤ (hi : Int) ∧ (hi : Int) < 256) ∧ (0 ≤ (lo : Int) ∧ (lo : Int) < 256) ∧ (0 ≤ (hi : Int) * 256 + (lo : Int) ∧ (hi : Int) * 256 + (lo : Int) < 65536) ∧ (0 ≤ (((hi * 256 + lo) % 4096 : Nat) : Int) ∧ (((hi * 256 + lo) % 4096 : Nat) : Int) < 4096) ∧
    Go.bits .or .i64 ((hi : Int) * 256) (lo : Int) = (hi : Int) * 256 + (lo : Int) ∧ Go.bits .or .i64 0 (hi : Int) = (hi : Int) ∧ ((hi : Int) * 256 + (lo : Int)).tmod 4096 = (((hi * 256 + lo) % 4096 : Nat) : Int) := by
  refine ⟨⟨Int.natCast_nonneg _, Int.ofNat_lt.2 h1⟩, ⟨Int.natCast_nonneg _, Int.ofNat_lt.2 h2⟩, by omega, by omega, i64_or h1 h2, by simpa using i64_or (a := 0) (by decide) h1, ?_⟩
  rw [Int.tmod_eq_emod_of_nonneg (by omega)]
  omega
/-- The code of what has no term. -/
def privR (s : ByteArray) : Int := 61440 + ((CrcPlain.sum 16 32773 0 true 0 (bytesL s) % 4096 : Nat) : Int)
def RelV (w2 : World) (H X : Int) (s5 s18 : Value) (wr : World) : Prop := wr = w2 ∧ ((s18 = .int .i64 0 ∧ s5 = .int .i64 0) ∨ (s18 = .int .i64 1 ∧ s5 = .int .i64 H) ∨ (s18 = .int .i64 2 ∧ s5 = .int .i64 X))
set_option maxRecDepth 100000 in
set_option maxHeartbeats 4000000 in
theorem private_calls (s : ByteArray) (hs : s.size ≤ 4000) (w : World) :
    Calls Try.prog 38 #[.string s] w fun e w' => e = .returned (.int .i64 (privR s)) ∧ Below w.heap.size w w' := by
  have kb := fun W => print_bytes (P := Try.prog) 9 122 5 Try.underlying9 Try.underlying122 Try.underlying5 s W
  have hC := C_bytes w 5 s (by omega)
  have hB := bytes_below (Below.refl w.heap.size w) (Nat.le_refl _) 5 s
  have hcap := grownCap_ge w s.size 0 5
  have hcall := of6 (bytesL_lt s) (bytesL_length s) (by omega) hcap _ hC
  have HCALL := Lib.hid hcall
  clear hcall
  go_enter Try.func38, Try.ntmps38
  go_wp2_with fail
  refine HCALL.out.mono ?_
  rintro e w2 ⟨v, rfl, hR, hb⟩
  replace hB := bthen hB hb
  have hv16 := CrcPlain.sum_lt (w := 16) (p := 32773) (f := 0) (last := 0) (by decide) (by decide) (by decide) (by decide) true (bytesL_lt s)
  obtain ⟨x, hx⟩ : ∃ x, CrcPlain.sum 16 32773 0 true 0 (bytesL s) = x := ⟨_, rfl⟩
  rw [hx] at hv16 hR
  obtain ⟨g, c, rfl, _, _, _, hcell⟩ := list_form hR (by rw [endB_length]; decide)
  rw [endB_length] at hcell ⊢
  obtain ⟨hi, hhi⟩ : ∃ h, x / 256 % 256 = h := ⟨_, rfl⟩
  obtain ⟨lo, hlo⟩ : ∃ h, x % 256 = h := ⟨_, rfl⟩
  have c0 : w2.cell? ⟨g, 0, none⟩ = some (.int .u8 (hi : Int)) := by
    rw [hcell 0 (by decide), ← hhi]
    congr 3
    try simp [endB]
  have c1 : w2.cell? ⟨g, 1, none⟩ = some (.int .u8 (lo : Int)) := by
    rw [hcell 1 (by decide), ← hlo]
    congr 3
    try simp [endB]
  have hxx : x = hi * 256 + lo := by clear hcell hR hC hB HCALL kb hcap c0 c1; omega
  have hi256 : hi < 256 := by rw [← hhi]; exact Nat.mod_lt _ (by decide)
  have lo256 : lo < 256 := by rw [← hlo]; exact Nat.mod_lt _ (by decide)
  clear hcell hR hC hhi hlo hb HCALL kb hcap hv16
  obtain ⟨ph, pl, px, pr, o1, o2, er⟩ := arith hi256 lo256
  have HPR : privR s = 61440 + (((hi * 256 + lo) % 4096 : Nat) : Int) := by unfold privR; rw [hx, hxx]
  clear hx hxx hi256 lo256
  obtain ⟨R, hR⟩ : ∃ R : Int, (((hi * 256 + lo) % 4096 : Nat) : Int) = R := ⟨_, rfl⟩
  rw [hR] at er HPR pr
  obtain ⟨X, hX⟩ : ∃ R : Int, (hi : Int) * 256 + (lo : Int) = R := ⟨_, rfl⟩
  rw [hX] at er o1 px
  obtain ⟨H, hH⟩ : ∃ R : Int, (hi : Int) = R := ⟨_, rfl⟩
  obtain ⟨L, hL⟩ : ∃ R : Int, (lo : Int) = R := ⟨_, rfl⟩
  rw [hH] at c0 o1 o2 ph
  rw [hL] at c1 o1 pl
  have HPR := Lib.hid HPR
  clear hR hX hH hL
  have u0 := w64 (n := H * 256) (by omega)
  have u1 := w64 (n := 61440 + R) (by omega)
  have uh := w64 (n := H) (by omega)
  have ul := w64 (n := L) (by omega)
  go_wp2_with fail
  go_loopw [5, 18] (RelV w2 H X) (fun _ i _ => 2 - (intOf i).toNat)
  case atStart => exact ⟨rfl, .inl ⟨rfl, rfl⟩⟩
  case round =>
    obtain ⟨rfl, ⟨rfl, rfl⟩ | ⟨rfl, rfl⟩ | ⟨rfl, rfl⟩⟩ := hrel
    · go_wp2_with fail
      refine ⟨⟨rfl, .inr (.inl ⟨rfl, by first | rfl | rw [o2]⟩)⟩, by decide⟩
    · go_wp2_with fail
      refine ⟨⟨rfl, .inr (.inr ⟨rfl, by first | rfl | rw [ul, o1] | rw [o1]⟩)⟩, by decide⟩
    · go_wp2_with fail
      go_ret
      rw [HPR.out]
      exact ⟨rfl, hB⟩
end Go.Proofs.Ytcldlfhnmkogeaa.Term

/- What the laws of layer 20 share: nomen.Code, the example, nomen.Inside. -/
set_option linter.unusedVariables false
set_option linter.unusedSimpArgs false
namespace Go.Proofs.Ytcldlfhnmkogeaa.Term
open Go.RowKit Go.Proofs.YtcldlfhnmkogeaaW.PrintWords Go.Proofs.YtcldlfhnmkogeaaW.PrintLast Go.Proofs.Ytcldlfhnmkogeaa.Nats Go.Proofs.Ytcldlfhnmkogeaa.HeapKit

/-- A name's code; whether it has a term. -/
def codeR (s : ByteArray) : Int × Bool := match tfind s with | some u => (u.code, true) | none => (privR s, false)
set_option maxRecDepth 100000 in
set_option maxHeartbeats 4000000 in
theorem code_calls (s : ByteArray) (hs : s.size ≤ 4000) (w : World) :
    Calls Try.prog 36 #[.string s] w fun e w' => e = .returned (.tuple #[.int .i64 (codeR s).1, .bool (codeR s).2]) ∧ Below w.heap.size w w' := by
  have hf := fun w => find_calls s w
  have hp := fun w => private_calls s hs w
  have hc : codeR s = match tfind s with | some u => (u.code, true) | none => (privR s, false) := rfl
  cases hu : tfind s with
  | none =>
    rw [hu] at hc
    simp only [hu, Option.getD_none, Option.isSome_none, TRow.val] at hf
    rw [hc]
    have HF := Lib.hid hf
    have HP := Lib.hid hp
    clear hf hp hc hu
    go_enter Try.func36, Try.ntmps36
    go_wp2_with fail
    refine (HF.out _).mono ?_
    rintro e w1 ⟨rfl, hb⟩
    have hB := bthen hb (below_alloc (Below.refl _ _) (.cells #[.string zrow.label, .int .i64 zrow.code, .string zrow.unit, .int .i64 zrow.ln, .int .i64 zrow.ld, .int .i64 zrow.mn, .int .i64 zrow.md] 57))
    go_wp2_with fail
    refine (HP.out _).mono ?_
    rintro e w2 ⟨rfl, hb2⟩
    go_wp2_with fail
    go_ret2
    exact ⟨rfl, bthen hB hb2⟩
  | some u =>
    rw [hu] at hc
    simp only [hu, Option.getD_some, Option.isSome_some, TRow.val] at hf
    rw [hc]
    have HF := Lib.hid hf
    clear hf hp hc hu
    go_enter Try.func36, Try.ntmps36
    go_wp2_with fail
    refine (HF.out _).mono ?_
    rintro e w1 ⟨rfl, hb⟩
    have hB := bthen hb (below_alloc (Below.refl _ _) (.cells #[.string u.label, .int .i64 u.code, .string u.unit, .int .i64 u.ln, .int .i64 u.ld, .int .i64 u.mn, .int .i64 u.md] 57))
    have k := blk_new w1 (.cells #[.string u.label, .int .i64 u.code, .string u.unit, .int .i64 u.ln, .int .i64 u.ld, .int .i64 u.mn, .int .i64 u.md] 57)
    have c0 : (w1.alloc (.cells #[.string u.label, .int .i64 u.code, .string u.unit, .int .i64 u.ln, .int .i64 u.ld, .int .i64 u.mn, .int .i64 u.md] 57)).cell? ⟨w1.heap.size, 0, none⟩ = some (.string u.label) := blk_cell k 0
    have c1 : (w1.alloc (.cells #[.string u.label, .int .i64 u.code, .string u.unit, .int .i64 u.ln, .int .i64 u.ld, .int .i64 u.mn, .int .i64 u.md] 57)).cell? ⟨w1.heap.size, 1, none⟩ = some (.int .i64 u.code) := blk_cell k 1
    have c2 : (w1.alloc (.cells #[.string u.label, .int .i64 u.code, .string u.unit, .int .i64 u.ln, .int .i64 u.ld, .int .i64 u.mn, .int .i64 u.md] 57)).cell? ⟨w1.heap.size, 2, none⟩ = some (.string u.unit) := blk_cell k 2
    have c3 : (w1.alloc (.cells #[.string u.label, .int .i64 u.code, .string u.unit, .int .i64 u.ln, .int .i64 u.ld, .int .i64 u.mn, .int .i64 u.md] 57)).cell? ⟨w1.heap.size, 3, none⟩ = some (.int .i64 u.ln) := blk_cell k 3
    have c4 : (w1.alloc (.cells #[.string u.label, .int .i64 u.code, .string u.unit, .int .i64 u.ln, .int .i64 u.ld, .int .i64 u.mn, .int .i64 u.md] 57)).cell? ⟨w1.heap.size, 4, none⟩ = some (.int .i64 u.ld) := blk_cell k 4
    have c5 : (w1.alloc (.cells #[.string u.label, .int .i64 u.code, .string u.unit, .int .i64 u.ln, .int .i64 u.ld, .int .i64 u.mn, .int .i64 u.md] 57)).cell? ⟨w1.heap.size, 5, none⟩ = some (.int .i64 u.mn) := blk_cell k 5
    have c6 : (w1.alloc (.cells #[.string u.label, .int .i64 u.code, .string u.unit, .int .i64 u.ln, .int .i64 u.ld, .int .i64 u.mn, .int .i64 u.md] 57)).cell? ⟨w1.heap.size, 6, none⟩ = some (.int .i64 u.md) := blk_cell k 6
    go_wp2_with fail
    go_ret2
    exact ⟨rfl, hB⟩
theorem awake_code1 : (codeR ⟨#[104, 101, 97, 114, 116]⟩) = (147842, true) := by decide +kernel
theorem awake_code2 : (codeR ⟨#[]⟩) = (61440, false) := by decide +kernel
set_option maxRecDepth 100000 in
set_option maxHeartbeats 4000000 in
theorem awake20 (w : World) : Calls Try.prog 33 #[] w fun e w' => e = .returned (.bool true) ∧ Below w.heap.size w w' := by
  have h1 := fun w => code_calls ⟨#[104, 101, 97, 114, 116]⟩ (by decide) w
  have h2 := fun w => code_calls ⟨#[]⟩ (by decide) w
  simp only [awake_code1] at h1
  simp only [awake_code2] at h2
  have H1 := Lib.hid h1
  have H2 := Lib.hid h2
  clear h1 h2
  go_enter Try.func33, Try.ntmps33
  go_wp2_with fail
  refine (H1.out _).mono ?_
  rintro e w1 ⟨rfl, hb1⟩
  go_wp2_with fail
  refine (H2.out _).mono ?_
  rintro e w2 ⟨rfl, hb2⟩
  go_wp2_with fail
  go_ret
  exact ⟨rfl, bthen hb1 hb2⟩
end Go.Proofs.Ytcldlfhnmkogeaa.Term


/- Words of 64 bits, in plain Lean. -/
set_option linter.unusedVariables false
set_option linter.unusedSimpArgs false
namespace Go.Proofs.Ytcldlfhnmkogeaa.RatPlain
open Go.RowKit Go.Proofs.YtcldlfhnmkogeaaW.PrintWords

theorem low32 {a : Int} (h0 : 0 ≤ a) (h : a < 18446744073709551616) : Go.bits .and .u64 a 4294967295 = a % 4294967296 := by
  obtain ⟨n, rfl⟩ := Int.eq_ofNat_of_zero_le h0
  have := bits_and_u64_nat n 4294967295 (by omega) (by omega)
  have e : ((4294967295 : Nat) : Int) = 4294967295 := rfl
  rw [e] at this
  rw [this]
  have h2 := Nat.and_two_pow_sub_one_eq_mod n 32
  rw [show (2 ^ 32 - 1 : Nat) = 4294967295 from rfl, show (2 ^ 32 : Nat) = 4294967296 from rfl] at h2
  rw [h2]
  omega
theorem wrap_u64_in {x : Int} (h0 : 0 ≤ x) (h : x < 18446744073709551616) : IntKind.u64.wrap x = x := by rw [u64_wrap]; omega
theorem prod_le {a b m n : Int} (h0 : 0 ≤ a) (h1 : a ≤ m) (h2 : 0 ≤ b) (h3 : b ≤ n) : 0 ≤ a * b ∧ a * b ≤ m * n :=
  ⟨Int.mul_nonneg h0 h2, Int.mul_le_mul h1 h3 h2 (by omega)⟩
end Go.Proofs.Ytcldlfhnmkogeaa.RatPlain

/- Which of two fractions of 64 bits is less: what the program answers. -/
set_option linter.unusedVariables false
set_option linter.unusedSimpArgs false
namespace Go.Proofs.Ytcldlfhnmkogeaa.RatPlain
open Go.RowKit Go.Proofs.YtcldlfhnmkogeaaW.PrintWords

theorem mul64 {a b : Int} (a0 : 0 ≤ a) (a1 : a < 18446744073709551616) (b0 : 0 ≤ b) (b1 : b < 18446744073709551616) :
    PLess.bits_Mul64.f a b = some (a * b / 18446744073709551616, a * b % 18446744073709551616) := by
  unfold PLess.bits_Mul64.f
  rw [low32 a0 a1, low32 b0 b1]
  have ha : a = a / 4294967296 * 4294967296 + a % 4294967296 := by omega
  have hb : b = b / 4294967296 * 4294967296 + b % 4294967296 := by omega
  obtain ⟨x, hx⟩ : ∃ x, x = a / 4294967296 := ⟨_, rfl⟩
  obtain ⟨y, hy⟩ : ∃ y, y = a % 4294967296 := ⟨_, rfl⟩
  obtain ⟨u, hu⟩ : ∃ u, u = b / 4294967296 := ⟨_, rfl⟩
  obtain ⟨v, hv⟩ : ∃ v, v = b % 4294967296 := ⟨_, rfl⟩
  have x0 : 0 ≤ x ∧ x ≤ 4294967295 := by omega
  have y0 : 0 ≤ y ∧ y ≤ 4294967295 := by omega
  have u0 : 0 ≤ u ∧ u ≤ 4294967295 := by omega
  have v0 : 0 ≤ v ∧ v ≤ 4294967295 := by omega
  rw [← hx, ← hy] at ha
  rw [← hu, ← hv] at hb
  rw [← hx, ← hy, ← hu, ← hv]
  have pA := prod_le x0.1 x0.2 u0.1 u0.2
  have pB := prod_le x0.1 x0.2 v0.1 v0.2
  have pC := prod_le y0.1 y0.2 u0.1 u0.2
  have pD := prod_le y0.1 y0.2 v0.1 v0.2
  have hab : a * b = x * u * 18446744073709551616 + (x * v + y * u) * 4294967296 + y * v := by
    rw [ha, hb]
    grind
  rw [hab]
  clear hab hx hy hu hv ha hb
  obtain ⟨A, hA⟩ : ∃ A, A = x * u := ⟨_, rfl⟩
  obtain ⟨B, hB⟩ : ∃ A, A = x * v := ⟨_, rfl⟩
  obtain ⟨C, hC⟩ : ∃ A, A = y * u := ⟨_, rfl⟩
  obtain ⟨D, hD⟩ : ∃ A, A = y * v := ⟨_, rfl⟩
  rw [← hA] at pA
  rw [← hB] at pB
  rw [← hC] at pC
  rw [← hD] at pD
  rw [← hA, ← hB, ← hC, ← hD]
  clear hA hB hC hD
  have wA : IntKind.u64.wrap A = A := wrap_u64_in (by omega) (by omega)
  have wB : IntKind.u64.wrap B = B := wrap_u64_in (by omega) (by omega)
  have wC : IntKind.u64.wrap C = C := wrap_u64_in (by omega) (by omega)
  have wD : IntKind.u64.wrap D = D := wrap_u64_in (by omega) (by omega)
  rw [wA, wB, wC, wD]
  have wT : IntKind.u64.wrap (B + D / 4294967296) = B + D / 4294967296 := wrap_u64_in (by omega) (by omega)
  rw [wT, low32 (by omega) (by omega)]
  have wV : IntKind.u64.wrap ((B + D / 4294967296) % 4294967296 + C) = (B + D / 4294967296) % 4294967296 + C := wrap_u64_in (by omega) (by omega)
  rw [wV]
  have wW : IntKind.u64.wrap (A + (B + D / 4294967296) / 4294967296) = A + (B + D / 4294967296) / 4294967296 := wrap_u64_in (by omega) (by omega)
  rw [wW]
  rw [u64_wrap, u64_wrap]
  congr 2
  omega
theorem lessWide_eq {a b c d : Int} (a0 : 0 ≤ a) (a1 : a < 18446744073709551616) (b0 : 0 ≤ b) (b1 : b < 18446744073709551616) (c0 : 0 ≤ c) (c1 : c < 18446744073709551616) (d0 : 0 ≤ d) (d1 : d < 18446744073709551616) :
    PLess.ratio_lessWide.f a b c d = some (decide (a * b < c * d)) := by
  unfold PLess.ratio_lessWide.f
  rw [mul64 a0 a1 b0 b1, mul64 c0 c1 d0 d1]
  simp only [Option.bind_some]
  generalize a * b = P
  generalize c * d = Q
  by_cases h : P < Q
  · rw [decide_eq_true h]
    by_cases h1 : P / 18446744073709551616 < Q / 18446744073709551616
    · rw [if_pos h1]
    · rw [if_neg h1, if_pos (by omega), decide_eq_true (by omega)]
  · rw [decide_eq_false h]
    rw [if_neg (by omega)]
    by_cases h1 : P / 18446744073709551616 = Q / 18446744073709551616
    · rw [if_pos h1, decide_eq_false (by omega)]
    · rw [if_neg h1]
theorem gcd_same : ∀ k x y, PLess.whole_Gcd.l0 k x y = PAdd.whole_Gcd.l0 k x y := by
  intro k
  induction k with
  | zero => intro x y; rfl
  | succ k ih =>
    intro x y
    unfold PLess.whole_Gcd.l0 PAdd.whole_Gcd.l0
    rw [ih]
theorem both_same (k : Nat) (a b c d : Int) : PLess.ratio_both.f k a b c d = PAdd.ratio_both.f k a b c d := by
  have h1 : ∀ x y, PLess.whole_Gcd.f k x y = PAdd.whole_Gcd.f k x y := by
    intro x y
    unfold PLess.whole_Gcd.f PAdd.whole_Gcd.f
    simp only [gcd_same]
    rfl
  have h2 : ∀ x y, PLess.ratio_Right.f k x y = PAdd.ratio_Right.f k x y := by
    intro x y
    unfold PLess.ratio_Right.f PAdd.ratio_Right.f
    rw [h1]
  unfold PLess.ratio_both.f PAdd.ratio_both.f
  rw [h2, h2]
theorem less_size {a : Int} (h : I64 a) : PLess.ratio_size.f a = some (a.natAbs : Int) := by
  unfold I64 at h
  unfold PLess.ratio_size.f
  rw [u64_wrap, u64_wrap]
  split
  · congr 1; omega
  · congr 1; omega
theorem neg_of {a d : Int} (ha : a < 0) (hd : 0 < d) : a * d < 0 := Int.mul_neg_of_neg_of_pos ha hd
theorem less_eq {an ad bn bd : Int} (h1 : I64 an) (h2 : I64 ad) (h3 : I64 bn) (h4 : I64 bd) {k : Nat} (hk : big + 2 < k) :
    PLess.ratio_Less.f k an ad bn bd = some (decide ((Rt an ad ∧ Rt bn bd) ∧ an * bd < bn * ad)) := by
  obtain ⟨k, rfl⟩ : ∃ m, k = m + 2 := ⟨k - 2, by omega⟩
  unfold PLess.ratio_Less.f
  rw [both_same, both_eq h1 h2 h3 h4 (by omega)]
  simp only [Option.bind_some]
  by_cases hr : Rt an ad ∧ Rt bn bd
  · rw [if_pos (by simpa using hr)]
    obtain ⟨ra, rb⟩ := hr
    have pa := ra.1
    have pb := rb.1
    have e : ∀ P : Prop, [Decidable P] → decide ((Rt an ad ∧ Rt bn bd) ∧ P) = decide P := by intro P _; simp [ra, rb]
    rw [e]
    have i1 := h1
    have i2 := h2
    have i3 := h3
    have i4 := h4
    unfold I64 at i1 i2 i3 i4
    have w1 : IntKind.u64.wrap ad = ad := wrap_u64_in (by omega) (by omega)
    have w2 : IntKind.u64.wrap bd = bd := wrap_u64_in (by omega) (by omega)
    by_cases hn : an < 0
    · rw [if_pos hn]
      by_cases hb : bn ≥ 0
      · rw [decide_eq_true hb, PLess.ratio_Less.j0, if_pos rfl]
        have k1 := neg_of hn pb
        have k2 := Int.mul_nonneg hb (Int.le_of_lt pa)
        rw [decide_eq_true (by omega)]
      · rw [decide_eq_false hb, PLess.ratio_Less.j0, if_neg (by simp), if_neg (by omega), PLess.ratio_Less.j1, if_neg (by simp), if_pos hn, less_size h3, less_size h1]
        simp only [Option.bind_some]
        rw [w1, w2, lessWide_eq (by omega) (by omega) (by omega) (by omega) (by omega) (by omega) (by omega) (by omega)]
        have e1 : (bn.natAbs : Int) = - bn := by omega
        have e2 : (an.natAbs : Int) = - an := by omega
        rw [e1, e2, Int.neg_mul, Int.neg_mul]
        simp only [Option.bind_some, Option.some.injEq, decide_eq_decide]
        omega
    · rw [if_neg hn, PLess.ratio_Less.j0, if_neg (by simp), if_pos (by omega), PLess.ratio_Less.j1]
      by_cases hb : bn < 0
      · rw [decide_eq_true hb, if_pos rfl]
        have k1 := neg_of hb pa
        have k2 := Int.mul_nonneg (show 0 ≤ an by omega) (Int.le_of_lt pb)
        rw [decide_eq_false (by omega)]
      · rw [decide_eq_false hb, if_neg (by simp), if_neg hn, less_size h1, less_size h3]
        simp only [Option.bind_some]
        rw [w1, w2, lessWide_eq (by omega) (by omega) (by omega) (by omega) (by omega) (by omega) (by omega) (by omega)]
        have e1 : (bn.natAbs : Int) = bn := by omega
        have e2 : (an.natAbs : Int) = an := by omega
        rw [e1, e2]
        rfl
  · rw [if_neg (by simpa using hr), decide_eq_false (fun h => hr h.1)]
theorem less_calls {an ad bn bd : Int} (h1 : I64 an) (h2 : I64 ad) (h3 : I64 bn) (h4 : I64 bd) (w : World) :
    Calls Try.prog 27 #[.agg #[.int .i64 an, .int .i64 ad], .agg #[.int .i64 bn, .int .i64 bd]] w fun e w' => e = .returned (.bool (decide ((Rt an ad ∧ Rt bn bd) ∧ an * bd < bn * ad))) ∧ Below w.heap.size w w' :=
  PLess.ratio_Less.calls (big + 3) an ad bn bd _ w (less_eq h1 h2 h3 h4 (by omega))
end Go.Proofs.Ytcldlfhnmkogeaa.RatPlain

namespace Go.Proofs.Ytcldlfhnmkogeaa.Scale
open Go.RowKit Go.Proofs.YtcldlfhnmkogeaaW.PrintWords Go.Proofs.Ytcldlfhnmkogeaa.RatPlain Go.Proofs.Ytcldlfhnmkogeaa.PAdd
theorem right_calls {n d : Int} (hn : I64 n) (hd : I64 d) (w : World) : Calls Try.prog 55 #[.agg #[.int .i64 n, .int .i64 d]] w fun e w' => e = .returned (.bool (decide (Rt n d))) ∧ Below w.heap.size w w' :=
  ratio_Right.calls (big + 1) n d _ _ (right_eq hn hd (by omega))
end Go.Proofs.Ytcldlfhnmkogeaa.Scale

/- nomen.Inside, walked: whether a value lies between a term's least and its most. -/
set_option linter.unusedVariables false
set_option linter.unusedSimpArgs false
namespace Go.Proofs.Ytcldlfhnmkogeaa.Term
open Go.RowKit Go.Proofs.YtcldlfhnmkogeaaW.PrintWords Go.Proofs.YtcldlfhnmkogeaaW.PrintLast Go.Proofs.Ytcldlfhnmkogeaa.Nats Go.Proofs.Ytcldlfhnmkogeaa.HeapKit Go.Proofs.Ytcldlfhnmkogeaa.RatPlain

/-- A value that is right, not below the least and not above the most. -/
def insideR (u : TRow) (n d : Int) : Bool := (decide (Rt n d) && !decide ((Rt n d ∧ Rt u.ln u.ld) ∧ n * u.ld < u.ln * d)) && !decide ((Rt u.mn u.md ∧ Rt n d) ∧ u.mn * d < n * u.md)
set_option maxRecDepth 100000 in
set_option maxHeartbeats 4000000 in
theorem inside_calls (u : TRow) {n d : Int} (hn : I64 n) (hd : I64 d) (h1 : I64 u.ln) (h2 : I64 u.ld) (h3 : I64 u.mn) (h4 : I64 u.md) (w : World) :
    Calls Try.prog 48 #[.agg #[.string u.label, .int .i64 u.code, .string u.unit, .int .i64 u.ln, .int .i64 u.ld, .int .i64 u.mn, .int .i64 u.md], .agg #[.int .i64 n, .int .i64 d]] w fun e w' => e = .returned (.bool (insideR u n d)) ∧ Below w.heap.size w w' := by
  have hr := fun w => Scale.right_calls hn hd w
  have hl := fun w => less_calls hn hd h1 h2 w
  have hm := fun w => less_calls h3 h4 hn hd w
  unfold insideR
  obtain ⟨r1, e1⟩ : ∃ r, decide (Rt n d) = r := ⟨_, rfl⟩
  obtain ⟨r2, e2⟩ : ∃ r, decide ((Rt n d ∧ Rt u.ln u.ld) ∧ n * u.ld < u.ln * d) = r := ⟨_, rfl⟩
  obtain ⟨r3, e3⟩ : ∃ r, decide ((Rt u.mn u.md ∧ Rt n d) ∧ u.mn * d < n * u.md) = r := ⟨_, rfl⟩
  simp only [e1] at hr
  simp only [e2] at hl
  simp only [e3] at hm
  rw [e1, e2, e3]
  clear e1 e2 e3
  have HR := Lib.hid hr
  have HL := Lib.hid hl
  have HM := Lib.hid hm
  clear hr hl hm
  have hB := b2_start w (.cells #[.string u.label, .int .i64 u.code, .string u.unit, .int .i64 u.ln, .int .i64 u.ld, .int .i64 u.mn, .int .i64 u.md] 57) (.cells #[.int .i64 n, .int .i64 d] 29)
  go_enter Try.func48, Try.ntmps48
  go_wp2_with fail
  refine (HR.out _).mono ?_
  rintro e w1 ⟨rfl, hb1⟩
  replace hB := hB.step hb1
  clear hb1
  have a0 : w1.cell? ⟨w.heap.size, 0, none⟩ = some (.string u.label) := blk_cell hB.b1 0
  have a1 : w1.cell? ⟨w.heap.size, 1, none⟩ = some (.int .i64 u.code) := blk_cell hB.b1 1
  have a2 : w1.cell? ⟨w.heap.size, 2, none⟩ = some (.string u.unit) := blk_cell hB.b1 2
  have a3 : w1.cell? ⟨w.heap.size, 3, none⟩ = some (.int .i64 u.ln) := blk_cell hB.b1 3
  have a4 : w1.cell? ⟨w.heap.size, 4, none⟩ = some (.int .i64 u.ld) := blk_cell hB.b1 4
  have a5 : w1.cell? ⟨w.heap.size, 5, none⟩ = some (.int .i64 u.mn) := blk_cell hB.b1 5
  have a6 : w1.cell? ⟨w.heap.size, 6, none⟩ = some (.int .i64 u.md) := blk_cell hB.b1 6
  have av0 : w1.cell? ⟨(w.heap.size + 1), 0, none⟩ = some (.int .i64 n) := blk_cell hB.b2 0
  have av1 : w1.cell? ⟨(w.heap.size + 1), 1, none⟩ = some (.int .i64 d) := blk_cell hB.b2 1
  cases r1 with
  | false =>
    go_wp2_with fail
    go_ret
    exact ⟨by simp, hB.be⟩
  | true =>
    go_wp2_with fail
    refine (HL.out _).mono ?_
    rintro e w2 ⟨rfl, hb2⟩
    replace hB := hB.step hb2
    clear hb2
    have b0 : w2.cell? ⟨w.heap.size, 0, none⟩ = some (.string u.label) := blk_cell hB.b1 0
    have b1 : w2.cell? ⟨w.heap.size, 1, none⟩ = some (.int .i64 u.code) := blk_cell hB.b1 1
    have b2 : w2.cell? ⟨w.heap.size, 2, none⟩ = some (.string u.unit) := blk_cell hB.b1 2
    have b3 : w2.cell? ⟨w.heap.size, 3, none⟩ = some (.int .i64 u.ln) := blk_cell hB.b1 3
    have b4 : w2.cell? ⟨w.heap.size, 4, none⟩ = some (.int .i64 u.ld) := blk_cell hB.b1 4
    have b5 : w2.cell? ⟨w.heap.size, 5, none⟩ = some (.int .i64 u.mn) := blk_cell hB.b1 5
    have b6 : w2.cell? ⟨w.heap.size, 6, none⟩ = some (.int .i64 u.md) := blk_cell hB.b1 6
    have bv0 : w2.cell? ⟨(w.heap.size + 1), 0, none⟩ = some (.int .i64 n) := blk_cell hB.b2 0
    have bv1 : w2.cell? ⟨(w.heap.size + 1), 1, none⟩ = some (.int .i64 d) := blk_cell hB.b2 1
    cases r2 with
    | true =>
      go_wp2_with fail
      go_ret
      exact ⟨by simp, hB.be⟩
    | false =>
      go_wp2_with fail
      refine (HM.out _).mono ?_
      rintro e w3 ⟨rfl, hb3⟩
      replace hB := hB.step hb3
      clear hb3
      go_wp2_with fail
      go_ret
      exact ⟨by simp, hB.be⟩
end Go.Proofs.Ytcldlfhnmkogeaa.Term

/- The document's fractions (lancetref02): which are right, which of two is less. -/
set_option linter.unusedVariables false
set_option linter.unusedSimpArgs false
/- The document's whole numbers (lancetref01) and whether a fraction is right (lancetref02), in plain Lean. -/
set_option linter.unusedVariables false
set_option linter.unusedSimpArgs false
namespace Go.Proofs.Ytcldlfhnmkogeaa.RatPlain
open Go.RowKit Go.Proofs.YtcldlfhnmkogeaaW.PrintWords

theorem ref_size {a : Int} (h : I64 a) : PRaw.lancetref01_Size.f a = some (a.natAbs : Int) := by
  unfold I64 at h
  unfold PRaw.lancetref01_Size.f
  by_cases h0 : a < 0
  · rw [if_pos h0, wrap_in (x := a + 1) (by unfold I64; omega), wrap_in (x := -(a + 1)) (by unfold I64; omega), u64_wrap, u64_wrap]
    congr 1
    omega
  · rw [if_neg h0, u64_wrap]
    congr 1
    omega
theorem ref_loop : ∀ (k y x : Nat), y < k → PRaw.lancetref01_Gcd.l0 k (x : Int) (y : Int) = some ((Nat.gcd x y : Nat) : Int) := by
  intro k
  induction k with
  | zero => intro y x h; omega
  | succ k ih =>
    intro y x h
    unfold PRaw.lancetref01_Gcd.l0
    by_cases hy : y = 0
    · subst hy
      rw [if_neg (by simp), Nat.gcd_zero_right]
    · have h1 : (y : Int) > 0 := by omega
      have h2 : ¬ (y : Int) = 0 := by omega
      have h3 : Int.tmod (x : Int) (y : Int) = ((x % y : Nat) : Int) := by rw [Int.tmod_eq_emod_of_nonneg (by omega)]; rfl
      have h4 : x % y < y := Nat.mod_lt _ (by omega)
      rw [if_pos h1, if_neg h2, h3, ih (x % y) y (by omega)]
      have h5 : Nat.gcd y (x % y) = Nat.gcd x y := by rw [Nat.gcd_comm, ← Nat.gcd_rec, Nat.gcd_comm]
      rw [h5]
theorem ref_gcd {a b : Int} (hb : I64 b) {k : Nat} (hk : big < k) : PRaw.lancetref01_Gcd.f k (a.natAbs : Int) (b.natAbs : Int) = some ((Int.gcd a b : Nat) : Int) := by
  unfold PRaw.lancetref01_Gcd.f
  unfold I64 at hb
  unfold big at hk
  rw [ref_loop k b.natAbs a.natAbs (by omega)]
  rfl
theorem ref_right {n d : Int} (hn : I64 n) (hd : I64 d) {k : Nat} (hk : big < k) : PRaw.lancetref02_Right.f k n d = some (decide (Rt n d)) := by
  unfold PRaw.lancetref02_Right.f
  by_cases h0 : d > 0
  · rw [if_pos h0, ref_size hn, ref_size hd]
    simp only [Option.bind_some]
    rw [ref_gcd hd hk]
    have e : decide (Rt n d) = (((Int.gcd n d : Nat) : Int) == 1) := by
      rw [Bool.eq_iff_iff]
      simp [Rt, h0]
      omega
    rw [e]
    rfl
  · rw [if_neg h0, decide_eq_false (fun h => h0 h.1)]
theorem ref_right_calls {n d : Int} (hn : I64 n) (hd : I64 d) (w : World) : Calls Try.prog 21 #[.agg #[.int .i64 n, .int .i64 d]] w fun e w' => e = .returned (.bool (decide (Rt n d))) ∧ Below w.heap.size w w' :=
  PRaw.lancetref02_Right.calls (big + 1) n d _ w (ref_right hn hd (by omega))
end Go.Proofs.Ytcldlfhnmkogeaa.RatPlain

namespace Go.Proofs.Ytcldlfhnmkogeaa.RefLess
open Go.RowKit Go.Proofs.YtcldlfhnmkogeaaW.PrintWords Go.Proofs.YtcldlfhnmkogeaaW.PrintLast Go.Proofs.Ytcldlfhnmkogeaa.Nats Go.Proofs.Ytcldlfhnmkogeaa.HeapKit Go.Proofs.Ytcldlfhnmkogeaa.RatPlain
theorem wide {a b : Int} (a0 : 0 ≤ a) (a1 : a < 18446744073709551616) (b0 : 0 ≤ b) (b1 : b < 18446744073709551616) :
    PRaw.lancetref01_Wide.f a b = some (a * b / 18446744073709551616, a * b % 18446744073709551616) := by
  unfold PRaw.lancetref01_Wide.f
  rw [Int.tdiv_eq_ediv_of_nonneg a0, Int.tdiv_eq_ediv_of_nonneg b0, Int.tmod_eq_emod_of_nonneg a0, Int.tmod_eq_emod_of_nonneg b0]
  have ha : a = a / 4294967296 * 4294967296 + a % 4294967296 := by omega
  have hb : b = b / 4294967296 * 4294967296 + b % 4294967296 := by omega
  obtain ⟨x, hx⟩ : ∃ x, x = a / 4294967296 := ⟨_, rfl⟩
  obtain ⟨y, hy⟩ : ∃ y, y = a % 4294967296 := ⟨_, rfl⟩
  obtain ⟨u, hu⟩ : ∃ u, u = b / 4294967296 := ⟨_, rfl⟩
  obtain ⟨v, hv⟩ : ∃ v, v = b % 4294967296 := ⟨_, rfl⟩
  have x0 : 0 ≤ x ∧ x ≤ 4294967295 := by omega
  have y0 : 0 ≤ y ∧ y ≤ 4294967295 := by omega
  have u0 : 0 ≤ u ∧ u ≤ 4294967295 := by omega
  have v0 : 0 ≤ v ∧ v ≤ 4294967295 := by omega
  rw [← hx, ← hy] at ha
  rw [← hu, ← hv] at hb
  rw [← hx, ← hy, ← hu, ← hv]
  have wx : IntKind.u64.wrap x = x := wrap_u64_in (by omega) (by omega)
  have wu : IntKind.u64.wrap u = u := wrap_u64_in (by omega) (by omega)
  rw [wx, wu]
  have pA := prod_le x0.1 x0.2 u0.1 u0.2
  have pB := prod_le x0.1 x0.2 v0.1 v0.2
  have pC := prod_le y0.1 y0.2 u0.1 u0.2
  have pD := prod_le y0.1 y0.2 v0.1 v0.2
  have hab : a * b = x * u * 18446744073709551616 + (x * v + y * u) * 4294967296 + y * v := by
    rw [ha, hb]
    grind
  rw [hab]
  clear hab hx hy hu hv ha hb wx wu
  obtain ⟨A, hA⟩ : ∃ A, A = x * u := ⟨_, rfl⟩
  obtain ⟨B, hB⟩ : ∃ A, A = x * v := ⟨_, rfl⟩
  obtain ⟨C, hC⟩ : ∃ A, A = y * u := ⟨_, rfl⟩
  obtain ⟨D, hD⟩ : ∃ A, A = y * v := ⟨_, rfl⟩
  rw [← hA] at pA
  rw [← hB] at pB
  rw [← hC] at pC
  rw [← hD] at pD
  rw [← hA, ← hB, ← hC, ← hD]
  clear hA hB hC hD
  have wA : IntKind.u64.wrap A = A := wrap_u64_in (by omega) (by omega)
  have wB : IntKind.u64.wrap B = B := wrap_u64_in (by omega) (by omega)
  have wC : IntKind.u64.wrap C = C := wrap_u64_in (by omega) (by omega)
  have wD : IntKind.u64.wrap D = D := wrap_u64_in (by omega) (by omega)
  rw [wA, wB, wC, wD, Int.tdiv_eq_ediv_of_nonneg (by omega : 0 ≤ D), Int.tmod_eq_emod_of_nonneg (by omega : 0 ≤ D)]
  have w1 : IntKind.u64.wrap (D / 4294967296) = D / 4294967296 := wrap_u64_in (by omega) (by omega)
  have w2 : IntKind.u64.wrap (C + D / 4294967296) = C + D / 4294967296 := wrap_u64_in (by omega) (by omega)
  rw [w1, w2, Int.tdiv_eq_ediv_of_nonneg (by omega : 0 ≤ C + D / 4294967296), Int.tmod_eq_emod_of_nonneg (by omega : 0 ≤ C + D / 4294967296)]
  have w3 : IntKind.u64.wrap ((C + D / 4294967296) / 4294967296) = (C + D / 4294967296) / 4294967296 := wrap_u64_in (by omega) (by omega)
  have w4 : IntKind.u64.wrap (B + (C + D / 4294967296) % 4294967296) = B + (C + D / 4294967296) % 4294967296 := wrap_u64_in (by omega) (by omega)
  rw [w3, w4, Int.tdiv_eq_ediv_of_nonneg (by omega : 0 ≤ B + (C + D / 4294967296) % 4294967296), Int.tmod_eq_emod_of_nonneg (by omega : 0 ≤ B + (C + D / 4294967296) % 4294967296)]
  have w5 : IntKind.u64.wrap (A + (C + D / 4294967296) / 4294967296) = A + (C + D / 4294967296) / 4294967296 := wrap_u64_in (by omega) (by omega)
  have w6 : IntKind.u64.wrap ((B + (C + D / 4294967296) % 4294967296) / 4294967296) = (B + (C + D / 4294967296) % 4294967296) / 4294967296 := wrap_u64_in (by omega) (by omega)
  rw [w5, w6]
  simp only [u64_wrap]
  congr 2
  · omega
  · omega
theorem size_calls {a : Int} (h : I64 a) (w : World) : Calls Try.prog 51 #[.int .i64 a] w fun e w' => e = .returned (.int .u64 (a.natAbs : Int)) ∧ Below w.heap.size w w' := by
  refine (PRaw.lancetref01_Size.calls a _ w (ref_size h)).mono ?_
  rintro e w' ⟨rfl, hb⟩
  exact ⟨rfl, hb.below⟩
theorem wide_calls {a b : Int} (a0 : 0 ≤ a) (a1 : a < 18446744073709551616) (b0 : 0 ≤ b) (b1 : b < 18446744073709551616) (w : World) : Calls Try.prog 94 #[.int .u64 a, .int .u64 b] w fun e w' => e = .returned (.tuple #[.int .u64 (a * b / 18446744073709551616), .int .u64 (a * b % 18446744073709551616)]) ∧ Below w.heap.size w w' := by
  refine (PRaw.lancetref01_Wide.calls a b _ _ w (wide a0 a1 b0 b1)).mono ?_
  rintro e w' ⟨rfl, hb⟩
  exact ⟨rfl, hb.below⟩
theorem less_pos {an ad bn bd : Int} (pa : 0 < ad) (pb : 0 < bd) (ha : ¬ an < 0) (hb : ¬ bn < 0) : (an * bd < bn * ad) = ((an.natAbs : Int) * bd < (bn.natAbs : Int) * ad) := by
  have e1 : (an.natAbs : Int) = an := by omega
  have e2 : (bn.natAbs : Int) = bn := by omega
  rw [e1, e2]
theorem less_neg {an ad bn bd : Int} (pa : 0 < ad) (pb : 0 < bd) (ha : an < 0) (hb : bn < 0) : (an * bd < bn * ad) = ((bn.natAbs : Int) * ad < (an.natAbs : Int) * bd) := by
  have e1 : (an.natAbs : Int) = - an := by omega
  have e2 : (bn.natAbs : Int) = - bn := by omega
  rw [e1, e2, Int.neg_mul, Int.neg_mul]
  apply propext
  constructor <;> intro h <;> omega
theorem less_mix {an ad bn bd : Int} (pa : 0 < ad) (pb : 0 < bd) (h : decide (an < 0) ≠ decide (bn < 0)) : decide (an * bd < bn * ad) = decide (an < 0) := by
  by_cases ha : an < 0
  · have hb : ¬ bn < 0 := fun hb => h (by simp [ha, hb])
    have k1 := Int.mul_neg_of_neg_of_pos ha pb
    have k2 := Int.mul_nonneg (show 0 ≤ bn by omega) (Int.le_of_lt pa)
    rw [decide_eq_true ha, decide_eq_true (by omega)]
  · have hb : bn < 0 := by
      by_cases hb : bn < 0
      · exact hb
      · exact (h (by simp [ha, hb])).elim
    have k1 := Int.mul_neg_of_neg_of_pos hb pa
    have k2 := Int.mul_nonneg (show 0 ≤ an by omega) (Int.le_of_lt pb)
    rw [decide_eq_false ha, decide_eq_false (by omega)]
theorem halves {P Q H L G K : Int} (h1 : P / 18446744073709551616 = H) (h2 : P % 18446744073709551616 = L) (h3 : Q / 18446744073709551616 = G) (h4 : Q % 18446744073709551616 = K) : (P < Q ↔ H < G ∨ H = G ∧ L < K) ∧ (Q < P ↔ H > G ∨ H = G ∧ L > K) := by
  constructor <;> omega
set_option maxRecDepth 100000 in
set_option maxHeartbeats 4000000 in
theorem refless_calls {an ad bn bd : Int} (h1 : I64 an) (h2 : I64 ad) (h3 : I64 bn) (h4 : I64 bd) (pa : 0 < ad) (pb : 0 < bd) (w : World) :
    Calls Try.prog 77 #[.agg #[.int .i64 an, .int .i64 ad], .agg #[.int .i64 bn, .int .i64 bd]] w fun e w' => e = .returned (.bool (decide (an * bd < bn * ad))) ∧ Below w.heap.size w w' := by
  have s1 := fun w => size_calls h1 w
  have s2 := fun w => size_calls h3 w
  unfold I64 at h1 h2 h3 h4
  have m1 := fun w => wide_calls (a := (an.natAbs : Int)) (b := bd) (by omega) (by omega) (by omega) (by omega) w
  have m2 := fun w => wide_calls (a := (bn.natAbs : Int)) (b := ad) (by omega) (by omega) (by omega) (by omega) w
  have w1 : IntKind.u64.wrap bd = bd := wrap_u64_in (by omega) (by omega)
  have w2 : IntKind.u64.wrap ad = ad := wrap_u64_in (by omega) (by omega)
  have eq1 := fun ha hb => @less_pos an ad bn bd pa pb ha hb
  have eq2 := fun ha hb => @less_neg an ad bn bd pa pb ha hb
  have eq3 := fun h => @less_mix an ad bn bd pa pb h
  obtain ⟨m, hm⟩ : ∃ m, (an.natAbs : Int) = m := ⟨_, rfl⟩
  obtain ⟨l, hl⟩ : ∃ m, (bn.natAbs : Int) = m := ⟨_, rfl⟩
  rw [hm, hl] at eq1 eq2
  simp only [hm] at s1 m1
  simp only [hl] at s2 m2
  obtain ⟨H, hH⟩ : ∃ x, m * bd / 18446744073709551616 = x := ⟨_, rfl⟩
  obtain ⟨L, hL⟩ : ∃ x, m * bd % 18446744073709551616 = x := ⟨_, rfl⟩
  obtain ⟨G, hG⟩ : ∃ x, l * ad / 18446744073709551616 = x := ⟨_, rfl⟩
  obtain ⟨K, hK⟩ : ∃ x, l * ad % 18446744073709551616 = x := ⟨_, rfl⟩
  have hh := halves hH hL hG hK
  simp only [hH, hL] at m1
  simp only [hG, hK] at m2
  obtain ⟨R, hR⟩ : ∃ R : Prop, (an * bd < bn * ad) = R := ⟨_, rfl⟩
  obtain ⟨r, hr⟩ : ∃ r, decide (an * bd < bn * ad) = r := ⟨_, rfl⟩
  have v1 : ¬ an < 0 → ¬ bn < 0 → r = decide (H < G ∨ H = G ∧ L < K) := fun ha hb => by rw [← hr, decide_eq_decide, eq1 ha hb]; exact hh.1
  have v2 : an < 0 → bn < 0 → r = decide (H > G ∨ H = G ∧ L > K) := fun ha hb => by rw [← hr, decide_eq_decide, eq2 ha hb]; exact hh.2
  have v3 : decide (an < 0) ≠ decide (bn < 0) → r = decide (an < 0) := fun h => by rw [← hr]; exact eq3 h
  rw [hr]
  clear eq1 eq2 eq3 hh hH hL hG hK hR hr hm hl
  have S1 := Lib.hid s1
  have S2 := Lib.hid s2
  have M1 := Lib.hid m1
  have M2 := Lib.hid m2
  have V1 := Lib.hid v1
  have V2 := Lib.hid v2
  have V3 := Lib.hid v3
  clear s1 s2 m1 m2 v1 v2 v3
  have hB := b2_start w (.cells #[.int .i64 an, .int .i64 ad] 23) (.cells #[.int .i64 bn, .int .i64 bd] 23)
  go_enter Try.func77, Try.ntmps77
  by_cases sa : an < 0
  · have t1 : decide (an < 0) = true := decide_eq_true sa
    by_cases sb : bn < 0
    · have t2 : decide (bn < 0) = true := decide_eq_true sb
      have hv := V2.out sa sb
      go_wp2_with fail
      refine start_ (n := 12) (S := fun wx => B2 w wx (.cells #[.int .i64 an, .int .i64 ad] 23) (.cells #[.int .i64 bn, .int .i64 bd] 23)) (ds := []) #[false, false, false, false, false, false, false, false, false, false, false, false] (by kernel_rfl) rfl rfl (hB.step (below_drew (Below.refl _ _))) (fun hHeld => ?_)
      refine pure_ (i := 0) (N := some 20) (v := ?_) (a' := ?_) #[true, false, false, false, false, false, false, false, false, false, false, false] rfl rfl (by kernel_rfl) (fun _ _ _ h => h) (Or.inl ⟨by rfl, ?_⟩) ?_ ?_
      rotate_left
      · intro w'
        go_simp
        try with_reducible rfl
      rotate_left
      · simp only [Act.put, List.setIfInBounds_toArray, List.set_cons_zero, List.set_cons_succ, i64_w, i32_w]
        rfl
      refine take_ (i := 1) (N := some 21) (v := ?_) (a' := ?_) #[true, true, false, false, false, false, false, false, false, false, false, false] rfl rfl (by kernel_rfl) (fun _ _ _ h => h) (Or.inl ⟨by rfl, ?_⟩) hHeld ?_ ?_
      rotate_left
      · rintro w' hh
        have s0 : w'.cell? ⟨w.heap.size, 0, none⟩ = some (.int .i64 an) := blk_cell hh.b1 0
        have s1 : w'.cell? ⟨w.heap.size, 1, none⟩ = some (.int .i64 ad) := blk_cell hh.b1 1
        have s2 : w'.cell? ⟨w.heap.size + 1, 0, none⟩ = some (.int .i64 bn) := blk_cell hh.b2 0
        have s3 : w'.cell? ⟨w.heap.size + 1, 1, none⟩ = some (.int .i64 bd) := blk_cell hh.b2 1
        go_simp
        with_reducible rfl
      rotate_left
      · simp only [Act.put, List.setIfInBounds_toArray, List.set_cons_zero, List.set_cons_succ, i64_w, i32_w]
        rfl
      refine pure_ (i := 3) (N := some 23) (v := ?_) (a' := ?_) #[true, true, false, true, false, false, false, false, false, false, false, false] rfl rfl (by kernel_rfl) (fun _ _ _ h => h) (Or.inl ⟨by rfl, ?_⟩) ?_ ?_
      rotate_left
      · intro w'
        go_simp
        try with_reducible rfl
      rotate_left
      · simp only [Act.put, List.setIfInBounds_toArray, List.set_cons_zero, List.set_cons_succ, i64_w, i32_w]
        rfl
      refine take_ (i := 4) (N := some 24) (v := ?_) (a' := ?_) #[true, true, false, true, true, false, false, false, false, false, false, false] rfl rfl (by kernel_rfl) (fun _ _ _ h => h) (Or.inl ⟨by rfl, ?_⟩) hHeld ?_ ?_
      rotate_left
      · rintro w' hh
        have s0 : w'.cell? ⟨w.heap.size, 0, none⟩ = some (.int .i64 an) := blk_cell hh.b1 0
        have s1 : w'.cell? ⟨w.heap.size, 1, none⟩ = some (.int .i64 ad) := blk_cell hh.b1 1
        have s2 : w'.cell? ⟨w.heap.size + 1, 0, none⟩ = some (.int .i64 bn) := blk_cell hh.b2 0
        have s3 : w'.cell? ⟨w.heap.size + 1, 1, none⟩ = some (.int .i64 bd) := blk_cell hh.b2 1
        go_simp
        with_reducible rfl
      rotate_left
      · simp only [Act.put, List.setIfInBounds_toArray, List.set_cons_zero, List.set_cons_succ, i64_w, i32_w]
        rfl
      refine pure_ (i := 5) (N := some 25) (v := ?_) (a' := ?_) #[true, true, false, true, true, true, false, false, false, false, false, false] rfl rfl (by kernel_rfl) (fun _ _ _ h => h) (Or.inl ⟨by rfl, ?_⟩) ?_ ?_
      rotate_left
      · intro w'
        go_simp
        try with_reducible rfl
      rotate_left
      · simp only [Act.put, List.setIfInBounds_toArray, List.set_cons_zero, List.set_cons_succ, i64_w, i32_w]
        rfl
      refine one_ (i := 2) (N := some 22) #[true, true, true, true, true, true, false, false, false, false, false, false] rfl rfl (by kernel_rfl) (by decide) (fun K hK => ?_)
      refine goes_ Try.func51 (by kernel_rfl) rfl #[.int .i64 an] (by rfl) rfl rfl (by (try simp only [List.map_toArray, List.map_cons, List.map_nil]); first | done | rfl) ?_
      refine (S1.out _).mono ?_
      rintro e wz ⟨rfl, hb_⟩
      refine ⟨_, rfl, ?_⟩
      refine hK.out _ _ (hHeld.step hb_) (fun hHeld => ?_)
      clear hK K
      refine norm_ (a' := ?_) ?_ ?_
      rotate_left
      · show Act.put _ (some 22) _ = _
        simp only [Act.put, List.setIfInBounds_toArray, List.set_cons_zero, List.set_cons_succ, i64_w, i32_w]
        rfl
      refine one_ (i := 6) (N := some 26) #[true, true, true, true, true, true, true, false, false, false, false, false] rfl rfl (by kernel_rfl) (by decide) (fun K hK => ?_)
      refine goes_ Try.func94 (by kernel_rfl) rfl #[.int .u64 m, .int .u64 bd] (by rfl) rfl rfl (by (try simp only [List.map_toArray, List.map_cons, List.map_nil]); first | done | rfl) ?_
      refine (M1.out _).mono ?_
      rintro e wz ⟨rfl, hb_⟩
      refine ⟨_, rfl, ?_⟩
      refine hK.out _ _ (hHeld.step hb_) (fun hHeld => ?_)
      clear hK K
      refine norm_ (a' := ?_) ?_ ?_
      rotate_left
      · show Act.put _ (some 26) _ = _
        simp only [Act.put, List.setIfInBounds_toArray, List.set_cons_zero, List.set_cons_succ, i64_w, i32_w]
        rfl
      refine pure_ (i := 7) (N := some 19) (v := ?_) (a' := ?_) #[true, true, true, true, true, true, true, true, false, false, false, false] rfl rfl (by kernel_rfl) (fun _ _ _ h => h) (Or.inl ⟨by rfl, ?_⟩) ?_ ?_
      rotate_left
      · intro w'
        go_simp
        try with_reducible rfl
      rotate_left
      · simp only [Act.put, List.setIfInBounds_toArray, List.set_cons_zero, List.set_cons_succ, i64_w, i32_w]
        rfl
      refine pure_ (i := 8) (N := some 27) (v := ?_) (a' := ?_) #[true, true, true, true, true, true, true, true, true, false, false, false] rfl rfl (by kernel_rfl) (fun _ _ _ h => h) (Or.inl ⟨by rfl, ?_⟩) ?_ ?_
      rotate_left
      · intro w'
        go_simp
        try with_reducible rfl
      rotate_left
      · simp only [Act.put, List.setIfInBounds_toArray, List.set_cons_zero, List.set_cons_succ, i64_w, i32_w]
        rfl
      refine pure_ (i := 9) (N := some 28) (v := ?_) (a' := ?_) #[true, true, true, true, true, true, true, true, true, true, false, false] rfl rfl (by kernel_rfl) (fun _ _ _ h => h) (Or.inl ⟨by rfl, ?_⟩) ?_ ?_
      rotate_left
      · intro w'
        go_simp
        try with_reducible rfl
      rotate_left
      · simp only [Act.put, List.setIfInBounds_toArray, List.set_cons_zero, List.set_cons_succ, i64_w, i32_w]
        rfl
      refine pure_ (i := 10) (N := some 5) (v := ?_) (a' := ?_) #[true, true, true, true, true, true, true, true, true, true, true, false] rfl rfl (by kernel_rfl) (fun _ _ _ h => h) (Or.inl ⟨by rfl, ?_⟩) ?_ ?_
      rotate_left
      · intro w'
        go_simp
        try with_reducible rfl
      rotate_left
      · simp only [Act.put, List.setIfInBounds_toArray, List.set_cons_zero, List.set_cons_succ, i64_w, i32_w]
        rfl
      refine pure_ (i := 11) (N := some 6) (v := ?_) (a' := ?_) #[true, true, true, true, true, true, true, true, true, true, true, true] rfl rfl (by kernel_rfl) (fun _ _ _ h => h) (Or.inl ⟨by rfl, ?_⟩) ?_ ?_
      rotate_left
      · intro w'
        go_simp
        try with_reducible rfl
      rotate_left
      · simp only [Act.put, List.setIfInBounds_toArray, List.set_cons_zero, List.set_cons_succ, i64_w, i32_w]
        rfl
      refine done_ (by kernel_rfl) ?_
      clear hB
      have hB := hHeld
      clear hHeld
      go_wp2_with fail
      refine start_ (n := 12) (S := fun wx => B2 w wx (.cells #[.int .i64 an, .int .i64 ad] 23) (.cells #[.int .i64 bn, .int .i64 bd] 23)) (ds := []) #[false, false, false, false, false, false, false, false, false, false, false, false] (by kernel_rfl) rfl rfl (hB.step (below_drew (Below.refl _ _))) (fun hHeld => ?_)
      refine pure_ (i := 0) (N := some 30) (v := ?_) (a' := ?_) #[true, false, false, false, false, false, false, false, false, false, false, false] rfl rfl (by kernel_rfl) (fun _ _ _ h => h) (Or.inl ⟨by rfl, ?_⟩) ?_ ?_
      rotate_left
      · intro w'
        go_simp
        try with_reducible rfl
      rotate_left
      · simp only [Act.put, List.setIfInBounds_toArray, List.set_cons_zero, List.set_cons_succ, i64_w, i32_w]
        rfl
      refine take_ (i := 1) (N := some 31) (v := ?_) (a' := ?_) #[true, true, false, false, false, false, false, false, false, false, false, false] rfl rfl (by kernel_rfl) (fun _ _ _ h => h) (Or.inl ⟨by rfl, ?_⟩) hHeld ?_ ?_
      rotate_left
      · rintro w' hh
        have s0 : w'.cell? ⟨w.heap.size, 0, none⟩ = some (.int .i64 an) := blk_cell hh.b1 0
        have s1 : w'.cell? ⟨w.heap.size, 1, none⟩ = some (.int .i64 ad) := blk_cell hh.b1 1
        have s2 : w'.cell? ⟨w.heap.size + 1, 0, none⟩ = some (.int .i64 bn) := blk_cell hh.b2 0
        have s3 : w'.cell? ⟨w.heap.size + 1, 1, none⟩ = some (.int .i64 bd) := blk_cell hh.b2 1
        go_simp
        with_reducible rfl
      rotate_left
      · simp only [Act.put, List.setIfInBounds_toArray, List.set_cons_zero, List.set_cons_succ, i64_w, i32_w]
        rfl
      refine pure_ (i := 3) (N := some 33) (v := ?_) (a' := ?_) #[true, true, false, true, false, false, false, false, false, false, false, false] rfl rfl (by kernel_rfl) (fun _ _ _ h => h) (Or.inl ⟨by rfl, ?_⟩) ?_ ?_
      rotate_left
      · intro w'
        go_simp
        try with_reducible rfl
      rotate_left
      · simp only [Act.put, List.setIfInBounds_toArray, List.set_cons_zero, List.set_cons_succ, i64_w, i32_w]
        rfl
      refine take_ (i := 4) (N := some 34) (v := ?_) (a' := ?_) #[true, true, false, true, true, false, false, false, false, false, false, false] rfl rfl (by kernel_rfl) (fun _ _ _ h => h) (Or.inl ⟨by rfl, ?_⟩) hHeld ?_ ?_
      rotate_left
      · rintro w' hh
        have s0 : w'.cell? ⟨w.heap.size, 0, none⟩ = some (.int .i64 an) := blk_cell hh.b1 0
        have s1 : w'.cell? ⟨w.heap.size, 1, none⟩ = some (.int .i64 ad) := blk_cell hh.b1 1
        have s2 : w'.cell? ⟨w.heap.size + 1, 0, none⟩ = some (.int .i64 bn) := blk_cell hh.b2 0
        have s3 : w'.cell? ⟨w.heap.size + 1, 1, none⟩ = some (.int .i64 bd) := blk_cell hh.b2 1
        go_simp
        with_reducible rfl
      rotate_left
      · simp only [Act.put, List.setIfInBounds_toArray, List.set_cons_zero, List.set_cons_succ, i64_w, i32_w]
        rfl
      refine pure_ (i := 5) (N := some 35) (v := ?_) (a' := ?_) #[true, true, false, true, true, true, false, false, false, false, false, false] rfl rfl (by kernel_rfl) (fun _ _ _ h => h) (Or.inl ⟨by rfl, ?_⟩) ?_ ?_
      rotate_left
      · intro w'
        go_simp
        try with_reducible rfl
      rotate_left
      · simp only [Act.put, List.setIfInBounds_toArray, List.set_cons_zero, List.set_cons_succ, i64_w, i32_w]
        rfl
      refine one_ (i := 2) (N := some 32) #[true, true, true, true, true, true, false, false, false, false, false, false] rfl rfl (by kernel_rfl) (by decide) (fun K hK => ?_)
      refine goes_ Try.func51 (by kernel_rfl) rfl #[.int .i64 bn] (by rfl) rfl rfl (by (try simp only [List.map_toArray, List.map_cons, List.map_nil]); first | done | rfl) ?_
      refine (S2.out _).mono ?_
      rintro e wz ⟨rfl, hb_⟩
      refine ⟨_, rfl, ?_⟩
      refine hK.out _ _ (hHeld.step hb_) (fun hHeld => ?_)
      clear hK K
      refine norm_ (a' := ?_) ?_ ?_
      rotate_left
      · show Act.put _ (some 32) _ = _
        simp only [Act.put, List.setIfInBounds_toArray, List.set_cons_zero, List.set_cons_succ, i64_w, i32_w]
        rfl
      refine one_ (i := 6) (N := some 36) #[true, true, true, true, true, true, true, false, false, false, false, false] rfl rfl (by kernel_rfl) (by decide) (fun K hK => ?_)
      refine goes_ Try.func94 (by kernel_rfl) rfl #[.int .u64 l, .int .u64 ad] (by rfl) rfl rfl (by (try simp only [List.map_toArray, List.map_cons, List.map_nil]); first | done | rfl) ?_
      refine (M2.out _).mono ?_
      rintro e wz ⟨rfl, hb_⟩
      refine ⟨_, rfl, ?_⟩
      refine hK.out _ _ (hHeld.step hb_) (fun hHeld => ?_)
      clear hK K
      refine norm_ (a' := ?_) ?_ ?_
      rotate_left
      · show Act.put _ (some 36) _ = _
        simp only [Act.put, List.setIfInBounds_toArray, List.set_cons_zero, List.set_cons_succ, i64_w, i32_w]
        rfl
      refine pure_ (i := 7) (N := some 29) (v := ?_) (a' := ?_) #[true, true, true, true, true, true, true, true, false, false, false, false] rfl rfl (by kernel_rfl) (fun _ _ _ h => h) (Or.inl ⟨by rfl, ?_⟩) ?_ ?_
      rotate_left
      · intro w'
        go_simp
        try with_reducible rfl
      rotate_left
      · simp only [Act.put, List.setIfInBounds_toArray, List.set_cons_zero, List.set_cons_succ, i64_w, i32_w]
        rfl
      refine pure_ (i := 8) (N := some 37) (v := ?_) (a' := ?_) #[true, true, true, true, true, true, true, true, true, false, false, false] rfl rfl (by kernel_rfl) (fun _ _ _ h => h) (Or.inl ⟨by rfl, ?_⟩) ?_ ?_
      rotate_left
      · intro w'
        go_simp
        try with_reducible rfl
      rotate_left
      · simp only [Act.put, List.setIfInBounds_toArray, List.set_cons_zero, List.set_cons_succ, i64_w, i32_w]
        rfl
      refine pure_ (i := 9) (N := some 38) (v := ?_) (a' := ?_) #[true, true, true, true, true, true, true, true, true, true, false, false] rfl rfl (by kernel_rfl) (fun _ _ _ h => h) (Or.inl ⟨by rfl, ?_⟩) ?_ ?_
      rotate_left
      · intro w'
        go_simp
        try with_reducible rfl
      rotate_left
      · simp only [Act.put, List.setIfInBounds_toArray, List.set_cons_zero, List.set_cons_succ, i64_w, i32_w]
        rfl
      refine pure_ (i := 10) (N := some 7) (v := ?_) (a' := ?_) #[true, true, true, true, true, true, true, true, true, true, true, false] rfl rfl (by kernel_rfl) (fun _ _ _ h => h) (Or.inl ⟨by rfl, ?_⟩) ?_ ?_
      rotate_left
      · intro w'
        go_simp
        try with_reducible rfl
      rotate_left
      · simp only [Act.put, List.setIfInBounds_toArray, List.set_cons_zero, List.set_cons_succ, i64_w, i32_w]
        rfl
      refine pure_ (i := 11) (N := some 8) (v := ?_) (a' := ?_) #[true, true, true, true, true, true, true, true, true, true, true, true] rfl rfl (by kernel_rfl) (fun _ _ _ h => h) (Or.inl ⟨by rfl, ?_⟩) ?_ ?_
      rotate_left
      · intro w'
        go_simp
        try with_reducible rfl
      rotate_left
      · simp only [Act.put, List.setIfInBounds_toArray, List.set_cons_zero, List.set_cons_succ, i64_w, i32_w]
        rfl
      refine done_ (by kernel_rfl) ?_
      clear hB
      have hB := hHeld
      clear hHeld
      have z0 : wz.cell? ⟨w.heap.size, 0, none⟩ = some (.int .i64 an) := blk_cell hB.b1 0
      rcases Int.lt_trichotomy H G with h | h | h
      · have u1 : decide (H > G) = false := decide_eq_false (by omega)
        have u2 : (H == G) = false := by simp; omega
        have hv2 : r = false := by rw [hv]; exact decide_eq_false (by omega)
        go_wp2_with fail
        go_ret
        exact ⟨by rw [hv2]; rfl, hB.be⟩
      · have u1 : decide (H > G) = false := decide_eq_false (by omega)
        have u2 : (H == G) = true := by simp; omega
        obtain ⟨y, hy⟩ : ∃ y, decide (L > K) = y := ⟨_, rfl⟩
        have hv2 : r = y := by rw [hv, ← hy, decide_eq_decide]; omega
        go_wp2_with fail
        go_ret
        exact ⟨by rw [hv2]; rfl, hB.be⟩
      · have u1 : decide (H > G) = true := decide_eq_true (by omega)
        have hv2 : r = true := by rw [hv]; exact decide_eq_true (by omega)
        go_wp2_with fail
        go_ret
        exact ⟨by rw [hv2]; rfl, hB.be⟩
    · have t2 : decide (bn < 0) = false := decide_eq_false sb
      have hv := V3.out (by rw [t1, t2]; decide)
      rw [t1] at hv
      rw [hv]
      go_wp2_with fail
      go_ret
      exact ⟨by simp, hB.be⟩
  · have t1 : decide (an < 0) = false := decide_eq_false sa
    by_cases sb : bn < 0
    · have t2 : decide (bn < 0) = true := decide_eq_true sb
      have hv := V3.out (by rw [t1, t2]; decide)
      rw [t1] at hv
      rw [hv]
      go_wp2_with fail
      go_ret
      exact ⟨by simp, hB.be⟩
    · have t2 : decide (bn < 0) = false := decide_eq_false sb
      have hv := V1.out sa sb
      go_wp2_with fail
      refine start_ (n := 12) (S := fun wx => B2 w wx (.cells #[.int .i64 an, .int .i64 ad] 23) (.cells #[.int .i64 bn, .int .i64 bd] 23)) (ds := []) #[false, false, false, false, false, false, false, false, false, false, false, false] (by kernel_rfl) rfl rfl (hB.step (below_drew (Below.refl _ _))) (fun hHeld => ?_)
      refine pure_ (i := 0) (N := some 20) (v := ?_) (a' := ?_) #[true, false, false, false, false, false, false, false, false, false, false, false] rfl rfl (by kernel_rfl) (fun _ _ _ h => h) (Or.inl ⟨by rfl, ?_⟩) ?_ ?_
      rotate_left
      · intro w'
        go_simp
        try with_reducible rfl
      rotate_left
      · simp only [Act.put, List.setIfInBounds_toArray, List.set_cons_zero, List.set_cons_succ, i64_w, i32_w]
        rfl
      refine take_ (i := 1) (N := some 21) (v := ?_) (a' := ?_) #[true, true, false, false, false, false, false, false, false, false, false, false] rfl rfl (by kernel_rfl) (fun _ _ _ h => h) (Or.inl ⟨by rfl, ?_⟩) hHeld ?_ ?_
      rotate_left
      · rintro w' hh
        have s0 : w'.cell? ⟨w.heap.size, 0, none⟩ = some (.int .i64 an) := blk_cell hh.b1 0
        have s1 : w'.cell? ⟨w.heap.size, 1, none⟩ = some (.int .i64 ad) := blk_cell hh.b1 1
        have s2 : w'.cell? ⟨w.heap.size + 1, 0, none⟩ = some (.int .i64 bn) := blk_cell hh.b2 0
        have s3 : w'.cell? ⟨w.heap.size + 1, 1, none⟩ = some (.int .i64 bd) := blk_cell hh.b2 1
        go_simp
        with_reducible rfl
      rotate_left
      · simp only [Act.put, List.setIfInBounds_toArray, List.set_cons_zero, List.set_cons_succ, i64_w, i32_w]
        rfl
      refine pure_ (i := 3) (N := some 23) (v := ?_) (a' := ?_) #[true, true, false, true, false, false, false, false, false, false, false, false] rfl rfl (by kernel_rfl) (fun _ _ _ h => h) (Or.inl ⟨by rfl, ?_⟩) ?_ ?_
      rotate_left
      · intro w'
        go_simp
        try with_reducible rfl
      rotate_left
      · simp only [Act.put, List.setIfInBounds_toArray, List.set_cons_zero, List.set_cons_succ, i64_w, i32_w]
        rfl
      refine take_ (i := 4) (N := some 24) (v := ?_) (a' := ?_) #[true, true, false, true, true, false, false, false, false, false, false, false] rfl rfl (by kernel_rfl) (fun _ _ _ h => h) (Or.inl ⟨by rfl, ?_⟩) hHeld ?_ ?_
      rotate_left
      · rintro w' hh
        have s0 : w'.cell? ⟨w.heap.size, 0, none⟩ = some (.int .i64 an) := blk_cell hh.b1 0
        have s1 : w'.cell? ⟨w.heap.size, 1, none⟩ = some (.int .i64 ad) := blk_cell hh.b1 1
        have s2 : w'.cell? ⟨w.heap.size + 1, 0, none⟩ = some (.int .i64 bn) := blk_cell hh.b2 0
        have s3 : w'.cell? ⟨w.heap.size + 1, 1, none⟩ = some (.int .i64 bd) := blk_cell hh.b2 1
        go_simp
        with_reducible rfl
      rotate_left
      · simp only [Act.put, List.setIfInBounds_toArray, List.set_cons_zero, List.set_cons_succ, i64_w, i32_w]
        rfl
      refine pure_ (i := 5) (N := some 25) (v := ?_) (a' := ?_) #[true, true, false, true, true, true, false, false, false, false, false, false] rfl rfl (by kernel_rfl) (fun _ _ _ h => h) (Or.inl ⟨by rfl, ?_⟩) ?_ ?_
      rotate_left
      · intro w'
        go_simp
        try with_reducible rfl
      rotate_left
      · simp only [Act.put, List.setIfInBounds_toArray, List.set_cons_zero, List.set_cons_succ, i64_w, i32_w]
        rfl
      refine one_ (i := 2) (N := some 22) #[true, true, true, true, true, true, false, false, false, false, false, false] rfl rfl (by kernel_rfl) (by decide) (fun K hK => ?_)
      refine goes_ Try.func51 (by kernel_rfl) rfl #[.int .i64 an] (by rfl) rfl rfl (by (try simp only [List.map_toArray, List.map_cons, List.map_nil]); first | done | rfl) ?_
      refine (S1.out _).mono ?_
      rintro e wz ⟨rfl, hb_⟩
      refine ⟨_, rfl, ?_⟩
      refine hK.out _ _ (hHeld.step hb_) (fun hHeld => ?_)
      clear hK K
      refine norm_ (a' := ?_) ?_ ?_
      rotate_left
      · show Act.put _ (some 22) _ = _
        simp only [Act.put, List.setIfInBounds_toArray, List.set_cons_zero, List.set_cons_succ, i64_w, i32_w]
        rfl
      refine one_ (i := 6) (N := some 26) #[true, true, true, true, true, true, true, false, false, false, false, false] rfl rfl (by kernel_rfl) (by decide) (fun K hK => ?_)
      refine goes_ Try.func94 (by kernel_rfl) rfl #[.int .u64 m, .int .u64 bd] (by rfl) rfl rfl (by (try simp only [List.map_toArray, List.map_cons, List.map_nil]); first | done | rfl) ?_
      refine (M1.out _).mono ?_
      rintro e wz ⟨rfl, hb_⟩
      refine ⟨_, rfl, ?_⟩
      refine hK.out _ _ (hHeld.step hb_) (fun hHeld => ?_)
      clear hK K
      refine norm_ (a' := ?_) ?_ ?_
      rotate_left
      · show Act.put _ (some 26) _ = _
        simp only [Act.put, List.setIfInBounds_toArray, List.set_cons_zero, List.set_cons_succ, i64_w, i32_w]
        rfl
      refine pure_ (i := 7) (N := some 19) (v := ?_) (a' := ?_) #[true, true, true, true, true, true, true, true, false, false, false, false] rfl rfl (by kernel_rfl) (fun _ _ _ h => h) (Or.inl ⟨by rfl, ?_⟩) ?_ ?_
      rotate_left
      · intro w'
        go_simp
        try with_reducible rfl
      rotate_left
      · simp only [Act.put, List.setIfInBounds_toArray, List.set_cons_zero, List.set_cons_succ, i64_w, i32_w]
        rfl
      refine pure_ (i := 8) (N := some 27) (v := ?_) (a' := ?_) #[true, true, true, true, true, true, true, true, true, false, false, false] rfl rfl (by kernel_rfl) (fun _ _ _ h => h) (Or.inl ⟨by rfl, ?_⟩) ?_ ?_
      rotate_left
      · intro w'
        go_simp
        try with_reducible rfl
      rotate_left
      · simp only [Act.put, List.setIfInBounds_toArray, List.set_cons_zero, List.set_cons_succ, i64_w, i32_w]
        rfl
      refine pure_ (i := 9) (N := some 28) (v := ?_) (a' := ?_) #[true, true, true, true, true, true, true, true, true, true, false, false] rfl rfl (by kernel_rfl) (fun _ _ _ h => h) (Or.inl ⟨by rfl, ?_⟩) ?_ ?_
      rotate_left
      · intro w'
        go_simp
        try with_reducible rfl
      rotate_left
      · simp only [Act.put, List.setIfInBounds_toArray, List.set_cons_zero, List.set_cons_succ, i64_w, i32_w]
        rfl
      refine pure_ (i := 10) (N := some 5) (v := ?_) (a' := ?_) #[true, true, true, true, true, true, true, true, true, true, true, false] rfl rfl (by kernel_rfl) (fun _ _ _ h => h) (Or.inl ⟨by rfl, ?_⟩) ?_ ?_
      rotate_left
      · intro w'
        go_simp
        try with_reducible rfl
      rotate_left
      · simp only [Act.put, List.setIfInBounds_toArray, List.set_cons_zero, List.set_cons_succ, i64_w, i32_w]
        rfl
      refine pure_ (i := 11) (N := some 6) (v := ?_) (a' := ?_) #[true, true, true, true, true, true, true, true, true, true, true, true] rfl rfl (by kernel_rfl) (fun _ _ _ h => h) (Or.inl ⟨by rfl, ?_⟩) ?_ ?_
      rotate_left
      · intro w'
        go_simp
        try with_reducible rfl
      rotate_left
      · simp only [Act.put, List.setIfInBounds_toArray, List.set_cons_zero, List.set_cons_succ, i64_w, i32_w]
        rfl
      refine done_ (by kernel_rfl) ?_
      clear hB
      have hB := hHeld
      clear hHeld
      go_wp2_with fail
      refine start_ (n := 12) (S := fun wx => B2 w wx (.cells #[.int .i64 an, .int .i64 ad] 23) (.cells #[.int .i64 bn, .int .i64 bd] 23)) (ds := []) #[false, false, false, false, false, false, false, false, false, false, false, false] (by kernel_rfl) rfl rfl (hB.step (below_drew (Below.refl _ _))) (fun hHeld => ?_)
      refine pure_ (i := 0) (N := some 30) (v := ?_) (a' := ?_) #[true, false, false, false, false, false, false, false, false, false, false, false] rfl rfl (by kernel_rfl) (fun _ _ _ h => h) (Or.inl ⟨by rfl, ?_⟩) ?_ ?_
      rotate_left
      · intro w'
        go_simp
        try with_reducible rfl
      rotate_left
      · simp only [Act.put, List.setIfInBounds_toArray, List.set_cons_zero, List.set_cons_succ, i64_w, i32_w]
        rfl
      refine take_ (i := 1) (N := some 31) (v := ?_) (a' := ?_) #[true, true, false, false, false, false, false, false, false, false, false, false] rfl rfl (by kernel_rfl) (fun _ _ _ h => h) (Or.inl ⟨by rfl, ?_⟩) hHeld ?_ ?_
      rotate_left
      · rintro w' hh
        have s0 : w'.cell? ⟨w.heap.size, 0, none⟩ = some (.int .i64 an) := blk_cell hh.b1 0
        have s1 : w'.cell? ⟨w.heap.size, 1, none⟩ = some (.int .i64 ad) := blk_cell hh.b1 1
        have s2 : w'.cell? ⟨w.heap.size + 1, 0, none⟩ = some (.int .i64 bn) := blk_cell hh.b2 0
        have s3 : w'.cell? ⟨w.heap.size + 1, 1, none⟩ = some (.int .i64 bd) := blk_cell hh.b2 1
        go_simp
        with_reducible rfl
      rotate_left
      · simp only [Act.put, List.setIfInBounds_toArray, List.set_cons_zero, List.set_cons_succ, i64_w, i32_w]
        rfl
      refine pure_ (i := 3) (N := some 33) (v := ?_) (a' := ?_) #[true, true, false, true, false, false, false, false, false, false, false, false] rfl rfl (by kernel_rfl) (fun _ _ _ h => h) (Or.inl ⟨by rfl, ?_⟩) ?_ ?_
      rotate_left
      · intro w'
        go_simp
        try with_reducible rfl
      rotate_left
      · simp only [Act.put, List.setIfInBounds_toArray, List.set_cons_zero, List.set_cons_succ, i64_w, i32_w]
        rfl
      refine take_ (i := 4) (N := some 34) (v := ?_) (a' := ?_) #[true, true, false, true, true, false, false, false, false, false, false, false] rfl rfl (by kernel_rfl) (fun _ _ _ h => h) (Or.inl ⟨by rfl, ?_⟩) hHeld ?_ ?_
      rotate_left
      · rintro w' hh
        have s0 : w'.cell? ⟨w.heap.size, 0, none⟩ = some (.int .i64 an) := blk_cell hh.b1 0
        have s1 : w'.cell? ⟨w.heap.size, 1, none⟩ = some (.int .i64 ad) := blk_cell hh.b1 1
        have s2 : w'.cell? ⟨w.heap.size + 1, 0, none⟩ = some (.int .i64 bn) := blk_cell hh.b2 0
        have s3 : w'.cell? ⟨w.heap.size + 1, 1, none⟩ = some (.int .i64 bd) := blk_cell hh.b2 1
        go_simp
        with_reducible rfl
      rotate_left
      · simp only [Act.put, List.setIfInBounds_toArray, List.set_cons_zero, List.set_cons_succ, i64_w, i32_w]
        rfl
      refine pure_ (i := 5) (N := some 35) (v := ?_) (a' := ?_) #[true, true, false, true, true, true, false, false, false, false, false, false] rfl rfl (by kernel_rfl) (fun _ _ _ h => h) (Or.inl ⟨by rfl, ?_⟩) ?_ ?_
      rotate_left
      · intro w'
        go_simp
        try with_reducible rfl
      rotate_left
      · simp only [Act.put, List.setIfInBounds_toArray, List.set_cons_zero, List.set_cons_succ, i64_w, i32_w]
        rfl
      refine one_ (i := 2) (N := some 32) #[true, true, true, true, true, true, false, false, false, false, false, false] rfl rfl (by kernel_rfl) (by decide) (fun K hK => ?_)
      refine goes_ Try.func51 (by kernel_rfl) rfl #[.int .i64 bn] (by rfl) rfl rfl (by (try simp only [List.map_toArray, List.map_cons, List.map_nil]); first | done | rfl) ?_
      refine (S2.out _).mono ?_
      rintro e wz ⟨rfl, hb_⟩
      refine ⟨_, rfl, ?_⟩
      refine hK.out _ _ (hHeld.step hb_) (fun hHeld => ?_)
      clear hK K
      refine norm_ (a' := ?_) ?_ ?_
      rotate_left
      · show Act.put _ (some 32) _ = _
        simp only [Act.put, List.setIfInBounds_toArray, List.set_cons_zero, List.set_cons_succ, i64_w, i32_w]
        rfl
      refine one_ (i := 6) (N := some 36) #[true, true, true, true, true, true, true, false, false, false, false, false] rfl rfl (by kernel_rfl) (by decide) (fun K hK => ?_)
      refine goes_ Try.func94 (by kernel_rfl) rfl #[.int .u64 l, .int .u64 ad] (by rfl) rfl rfl (by (try simp only [List.map_toArray, List.map_cons, List.map_nil]); first | done | rfl) ?_
      refine (M2.out _).mono ?_
      rintro e wz ⟨rfl, hb_⟩
      refine ⟨_, rfl, ?_⟩
      refine hK.out _ _ (hHeld.step hb_) (fun hHeld => ?_)
      clear hK K
      refine norm_ (a' := ?_) ?_ ?_
      rotate_left
      · show Act.put _ (some 36) _ = _
        simp only [Act.put, List.setIfInBounds_toArray, List.set_cons_zero, List.set_cons_succ, i64_w, i32_w]
        rfl
      refine pure_ (i := 7) (N := some 29) (v := ?_) (a' := ?_) #[true, true, true, true, true, true, true, true, false, false, false, false] rfl rfl (by kernel_rfl) (fun _ _ _ h => h) (Or.inl ⟨by rfl, ?_⟩) ?_ ?_
      rotate_left
      · intro w'
        go_simp
        try with_reducible rfl
      rotate_left
      · simp only [Act.put, List.setIfInBounds_toArray, List.set_cons_zero, List.set_cons_succ, i64_w, i32_w]
        rfl
      refine pure_ (i := 8) (N := some 37) (v := ?_) (a' := ?_) #[true, true, true, true, true, true, true, true, true, false, false, false] rfl rfl (by kernel_rfl) (fun _ _ _ h => h) (Or.inl ⟨by rfl, ?_⟩) ?_ ?_
      rotate_left
      · intro w'
        go_simp
        try with_reducible rfl
      rotate_left
      · simp only [Act.put, List.setIfInBounds_toArray, List.set_cons_zero, List.set_cons_succ, i64_w, i32_w]
        rfl
      refine pure_ (i := 9) (N := some 38) (v := ?_) (a' := ?_) #[true, true, true, true, true, true, true, true, true, true, false, false] rfl rfl (by kernel_rfl) (fun _ _ _ h => h) (Or.inl ⟨by rfl, ?_⟩) ?_ ?_
      rotate_left
      · intro w'
        go_simp
        try with_reducible rfl
      rotate_left
      · simp only [Act.put, List.setIfInBounds_toArray, List.set_cons_zero, List.set_cons_succ, i64_w, i32_w]
        rfl
      refine pure_ (i := 10) (N := some 7) (v := ?_) (a' := ?_) #[true, true, true, true, true, true, true, true, true, true, true, false] rfl rfl (by kernel_rfl) (fun _ _ _ h => h) (Or.inl ⟨by rfl, ?_⟩) ?_ ?_
      rotate_left
      · intro w'
        go_simp
        try with_reducible rfl
      rotate_left
      · simp only [Act.put, List.setIfInBounds_toArray, List.set_cons_zero, List.set_cons_succ, i64_w, i32_w]
        rfl
      refine pure_ (i := 11) (N := some 8) (v := ?_) (a' := ?_) #[true, true, true, true, true, true, true, true, true, true, true, true] rfl rfl (by kernel_rfl) (fun _ _ _ h => h) (Or.inl ⟨by rfl, ?_⟩) ?_ ?_
      rotate_left
      · intro w'
        go_simp
        try with_reducible rfl
      rotate_left
      · simp only [Act.put, List.setIfInBounds_toArray, List.set_cons_zero, List.set_cons_succ, i64_w, i32_w]
        rfl
      refine done_ (by kernel_rfl) ?_
      clear hB
      have hB := hHeld
      clear hHeld
      have z0 : wz.cell? ⟨w.heap.size, 0, none⟩ = some (.int .i64 an) := blk_cell hB.b1 0
      rcases Int.lt_trichotomy H G with h | h | h
      · have u1 : decide (H < G) = true := decide_eq_true (by omega)
        have hv2 : r = true := by rw [hv]; exact decide_eq_true (by omega)
        go_wp2_with fail
        go_ret
        exact ⟨by rw [hv2]; rfl, hB.be⟩
      · have u1 : decide (H < G) = false := decide_eq_false (by omega)
        have u2 : (H == G) = true := by simp; omega
        obtain ⟨y, hy⟩ : ∃ y, decide (L < K) = y := ⟨_, rfl⟩
        have hv2 : r = y := by rw [hv, ← hy, decide_eq_decide]; omega
        go_wp2_with fail
        go_ret
        exact ⟨by rw [hv2]; rfl, hB.be⟩
      · have u1 : decide (H < G) = false := decide_eq_false (by omega)
        have u2 : (H == G) = false := by simp; omega
        have hv2 : r = false := by rw [hv]; exact decide_eq_false (by omega)
        go_wp2_with fail
        go_ret
        exact ⟨by rw [hv2]; rfl, hB.be⟩
end Go.Proofs.Ytcldlfhnmkogeaa.RefLess

/- lancetref20.Inside, walked: whether a value lies between a term's least and its most. -/
set_option linter.unusedVariables false
set_option linter.unusedSimpArgs false
namespace Go.Proofs.Ytcldlfhnmkogeaa.Term
open Go.RowKit Go.Proofs.YtcldlfhnmkogeaaW.PrintWords Go.Proofs.YtcldlfhnmkogeaaW.PrintLast Go.Proofs.Ytcldlfhnmkogeaa.Nats Go.Proofs.Ytcldlfhnmkogeaa.HeapKit Go.Proofs.Ytcldlfhnmkogeaa.RatPlain

set_option maxRecDepth 100000 in
set_option maxHeartbeats 4000000 in
theorem refinside_calls (u : TRow) {n d : Int} (hn : I64 n) (hd : I64 d) (h1 : I64 u.ln) (h2 : I64 u.ld) (h3 : I64 u.mn) (h4 : I64 u.md) (rl : Rt u.ln u.ld) (rm : Rt u.mn u.md) (w : World) :
    Calls Try.prog 49 #[.agg #[.string u.label, .int .i64 u.code, .string u.unit, .int .i64 u.ln, .int .i64 u.ld, .int .i64 u.mn, .int .i64 u.md], .agg #[.int .i64 n, .int .i64 d]] w fun e w' => e = .returned (.bool (insideR u n d)) ∧ Below w.heap.size w w' := by
  have hr := fun w => ref_right_calls hn hd w
  have hl := fun (p : Rt n d) w => RefLess.refless_calls hn hd h1 h2 p.1 rl.1 w
  have hm := fun (p : Rt n d) w => RefLess.refless_calls h3 h4 hn hd rm.1 p.1 w
  have hI : insideR u n d = ((decide (Rt n d) && !decide (n * u.ld < u.ln * d)) && !decide (u.mn * d < n * u.md)) := by
    unfold insideR
    by_cases p : Rt n d
    · simp [p, rl, rm]
    · simp [p]
  rw [hI]
  clear hI
  obtain ⟨r2, e2⟩ : ∃ r, decide (n * u.ld < u.ln * d) = r := ⟨_, rfl⟩
  obtain ⟨r3, e3⟩ : ∃ r, decide (u.mn * d < n * u.md) = r := ⟨_, rfl⟩
  simp only [e2] at hl
  simp only [e3] at hm
  rw [e2, e3]
  clear e2 e3
  have HR := Lib.hid hr
  have HL := Lib.hid hl
  have HM := Lib.hid hm
  clear hr hl hm
  have hB := b2_start w (.cells #[.string u.label, .int .i64 u.code, .string u.unit, .int .i64 u.ln, .int .i64 u.ld, .int .i64 u.mn, .int .i64 u.md] 61) (.cells #[.int .i64 n, .int .i64 d] 23)
  go_enter Try.func49, Try.ntmps49
  go_wp2_with fail
  refine (HR.out _).mono ?_
  rintro e w1 ⟨rfl, hb1⟩
  replace hB := hB.step hb1
  clear hb1
  have a0 : w1.cell? ⟨w.heap.size, 0, none⟩ = some (.string u.label) := blk_cell hB.b1 0
  have a1 : w1.cell? ⟨w.heap.size, 1, none⟩ = some (.int .i64 u.code) := blk_cell hB.b1 1
  have a2 : w1.cell? ⟨w.heap.size, 2, none⟩ = some (.string u.unit) := blk_cell hB.b1 2
  have a3 : w1.cell? ⟨w.heap.size, 3, none⟩ = some (.int .i64 u.ln) := blk_cell hB.b1 3
  have a4 : w1.cell? ⟨w.heap.size, 4, none⟩ = some (.int .i64 u.ld) := blk_cell hB.b1 4
  have a5 : w1.cell? ⟨w.heap.size, 5, none⟩ = some (.int .i64 u.mn) := blk_cell hB.b1 5
  have a6 : w1.cell? ⟨w.heap.size, 6, none⟩ = some (.int .i64 u.md) := blk_cell hB.b1 6
  have av0 : w1.cell? ⟨(w.heap.size + 1), 0, none⟩ = some (.int .i64 n) := blk_cell hB.b2 0
  have av1 : w1.cell? ⟨(w.heap.size + 1), 1, none⟩ = some (.int .i64 d) := blk_cell hB.b2 1
  by_cases p : Rt n d
  · have ep : decide (Rt n d) = true := decide_eq_true p
    rw [ep]
    go_wp2_with fail
    refine (HL.out p _).mono ?_
    rintro e w2 ⟨rfl, hb2⟩
    replace hB := hB.step hb2
    clear hb2
    have b0 : w2.cell? ⟨w.heap.size, 0, none⟩ = some (.string u.label) := blk_cell hB.b1 0
    have b1 : w2.cell? ⟨w.heap.size, 1, none⟩ = some (.int .i64 u.code) := blk_cell hB.b1 1
    have b2 : w2.cell? ⟨w.heap.size, 2, none⟩ = some (.string u.unit) := blk_cell hB.b1 2
    have b3 : w2.cell? ⟨w.heap.size, 3, none⟩ = some (.int .i64 u.ln) := blk_cell hB.b1 3
    have b4 : w2.cell? ⟨w.heap.size, 4, none⟩ = some (.int .i64 u.ld) := blk_cell hB.b1 4
    have b5 : w2.cell? ⟨w.heap.size, 5, none⟩ = some (.int .i64 u.mn) := blk_cell hB.b1 5
    have b6 : w2.cell? ⟨w.heap.size, 6, none⟩ = some (.int .i64 u.md) := blk_cell hB.b1 6
    have bv0 : w2.cell? ⟨(w.heap.size + 1), 0, none⟩ = some (.int .i64 n) := blk_cell hB.b2 0
    have bv1 : w2.cell? ⟨(w.heap.size + 1), 1, none⟩ = some (.int .i64 d) := blk_cell hB.b2 1
    cases r2 with
    | true =>
      go_wp2_with fail
      go_ret
      exact ⟨by simp [ep], hB.be⟩
    | false =>
      go_wp2_with fail
      refine (HM.out p _).mono ?_
      rintro e w3 ⟨rfl, hb3⟩
      replace hB := hB.step hb3
      clear hb3
      go_wp2_with fail
      go_ret
      exact ⟨by simp [ep], hB.be⟩
  · have ep : decide (Rt n d) = false := decide_eq_false p
    rw [ep]
    go_wp2_with fail
    go_ret
    exact ⟨by simp [ep], hB.be⟩
end Go.Proofs.Ytcldlfhnmkogeaa.Term

/- The document's labels and terms (lancetref20.Labels, label, Find), walked. -/
set_option linter.unusedVariables false
set_option linter.unusedSimpArgs false
namespace Go.Proofs.Ytcldlfhnmkogeaa.Term
open Go.RowKit Go.Proofs.YtcldlfhnmkogeaaW.PrintWords Go.Proofs.YtcldlfhnmkogeaaW.PrintLast Go.Proofs.Ytcldlfhnmkogeaa.Nats Go.Proofs.Ytcldlfhnmkogeaa.HeapKit

def labelsL : List Value := terms.map fun u => .string u.label
def codesL : List Value := terms.map fun u => .int .i64 u.code
def unitsL : List Value := terms.map fun u => .string u.unit
def leastL : List Value := terms.map fun u => .int .i64 u.ln
def mostL : List Value := terms.map fun u => .int .i64 u.mn
/-- The label of a place. -/
def labAt (i : Int) : ByteArray := (terms[i.toNat]?.getD zrow).label
def pairsL : List Value := wordsL.flatMap fun p => [.string p.1, .string (labAt p.2)]
/-- The label that a name stands for. -/
def labelR (s : ByteArray) : ByteArray := match wordOf s with | some i => labAt i | none => s
theorem find_at {α : Type} {f : α → List UInt8} {n : List UInt8} : ∀ {l : List α} {k : Nat} {u : α}, l[k]? = some u → (∀ x ∈ l.take k, f x ≠ n) → f u = n → l.find? (fun x => f x == n) = some u := by
  intro l
  induction l with
  | nil => intro k u h; simp at h
  | cons a l ih =>
    intro k u h h1 h2
    cases k with
    | zero =>
      simp at h
      subst h
      rw [List.find?_cons]
      simp [h2]
    | succ k =>
      simp at h
      have ha : f a ≠ n := h1 a (by simp)
      rw [List.find?_cons]
      have e : (f a == n) = false := by simp [ha]
      rw [e]
      exact ih h (fun x hx => h1 x (by simp [hx])) h2
theorem find_none {α : Type} {f : α → List UInt8} {n : List UInt8} {l : List α} (h : ∀ x ∈ l, f x ≠ n) : l.find? (fun x => f x == n) = none := by
  rw [List.find?_eq_none]
  intro x hx
  simp [h x hx]
theorem more_at {α : Type} {f : α → List UInt8} {n : List UInt8} {l : List α} {k : Nat} {u : α} (hk : l[k]? = some u) (h1 : ∀ x ∈ l.take k, f x ≠ n) (h2 : f u ≠ n) : ∀ x ∈ l.take (k + 1), f x ≠ n := by
  intro x hx
  rw [List.take_add_one, hk] at hx
  rcases List.mem_append.1 hx with h | h
  · exact h1 x h
  · rw [show x = u from by simpa using h]; exact h2
theorem flat2 {α : Type} (f : α → List Value) (hf : ∀ u, (f u).length = 2) : ∀ (l : List α) (k : Nat) (u : α), l[k]? = some u → ∀ j v, (f u)[j]? = some v → (l.flatMap f)[k * 2 + j]? = some v := by
  intro l
  induction l with
  | nil => intro k u h; simp at h
  | cons a l ih =>
    intro k u h j v hv
    have hl := hf a
    rw [List.flatMap_cons]
    cases k with
    | zero =>
      simp at h
      subst h
      rw [Nat.zero_mul, Nat.zero_add, List.getElem?_append_left (List.getElem?_eq_some_iff.1 hv).1]
      exact hv
    | succ k =>
      simp at h
      rw [List.getElem?_append_right (by rw [hl]; omega), hl, show (k + 1) * 2 + j - 2 = k * 2 + j from by omega]
      exact ih k u h j v hv
theorem apart_all : ∀ k < 24, ∀ x ∈ terms.take k, x.label.toList ≠ (terms[k]?.getD zrow).label.toList := by decide +kernel
theorem find_own {k : Nat} {u : TRow} (h : terms[k]? = some u) : find u.label = some u := by
  have hk : k < 24 := (List.getElem?_eq_some_iff.1 h).1
  have ha := apart_all k hk
  rw [h] at ha
  exact find_at (f := fun x : TRow => x.label.toList) h ha rfl
theorem tfind_label (s : ByteArray) : find (labelR s) = tfind s := by
  unfold labelR tfind
  cases hw : wordOf s with
  | none => rfl
  | some i =>
    obtain ⟨k, rfl, hk⟩ := word_lt hw
    obtain ⟨u, hu⟩ : ∃ u, terms[k]? = some u := ⟨terms[k]'hk, List.getElem?_eq_getElem _⟩
    show find (labAt (k : Int)) = terms[(k : Int).toNat]?
    unfold labAt
    rw [Int.toNat_natCast, hu]
    exact find_own hu
theorem terms_one : ∀ x ∈ terms, x.ld = 1 ∧ x.md = 1 := by decide +kernel
set_option maxRecDepth 100000 in
set_option maxHeartbeats 4000000 in
theorem reflabels_calls (w : World) :
    Calls Try.prog 47 #[] w fun e w' => ∃ g, e = .returned (.slice (some ⟨g, 0, none⟩) 24 24) ∧ w.heap.size ≤ g ∧ w'.heap[g]? = some (.cells labelsL.toArray 9 (0, 0)) ∧ Below w.heap.size w w' := by
  go_enter Try.func47, Try.ntmps47
  go_wp2_with (first | ((with_reducible refine gate_dst (N := 1) rfl ?_); refine lit_event ?hg (N := 1) ?hd (cs := labelsL.toArray) (t := 9) (n := 24) ?hr ?_; (case hd => rfl); (case hg => rfl); (case hr => kernel_rfl); intro g1 hg1 w1 hr1 hB1) | fail)
  subst hg1
  go_ret
  exact ⟨_, rfl, Nat.le_refl _, hr1, hB1⟩
/-- Between two rounds. -/
def RelL (name : ByteArray) (w1 : World) (s4 : Value) (wr : World) : Prop := ∃ k : Nat, k ≤ 26 ∧ s4 = .int .i64 (k : Int) ∧ wr = w1 ∧ ∀ x ∈ wordsL.take k, x.1.toList ≠ name.toList
set_option maxRecDepth 100000 in
set_option maxHeartbeats 16000000 in
theorem label_calls (name : ByteArray) (w : World) :
    Calls Try.prog 69 #[.string name] w fun e w' => e = .returned (.string (labelR name)) ∧ Below w.heap.size w w' := by
  go_enter Try.func69, Try.ntmps69
  go_wp2_with (first | ((with_reducible refine gate_dst (N := 31) rfl ?_); refine lit_event ?hg (N := 31) ?hd (cs := pairsL.toArray) (t := 141) (n := 26) ?hr ?_; (case hd => rfl); (case hg => rfl); (case hr => kernel_rfl); intro g1 hg1 w1 hr1 hB1) | fail)
  subst hg1
  generalize (Value.agg #[.string ⟨#[104, 101, 97, 114, 116]⟩, .string ⟨#[104, 114]⟩]) = z0
  generalize (Value.agg #[.string ⟨#[98, 101, 97, 116, 115]⟩, .string ⟨#[104, 114]⟩]) = z1
  generalize (Value.agg #[.string ⟨#[112, 114]⟩, .string ⟨#[112, 117, 108, 115, 101]⟩]) = z2
  generalize (Value.agg #[.string ⟨#[115, 97, 116]⟩, .string ⟨#[115, 112, 111, 50]⟩]) = z3
  generalize (Value.agg #[.string ⟨#[111, 120, 121, 103, 101, 110]⟩, .string ⟨#[115, 112, 111, 50]⟩]) = z4
  generalize (Value.agg #[.string ⟨#[110, 105, 98, 112, 115]⟩, .string ⟨#[115, 121, 115]⟩]) = z5
  generalize (Value.agg #[.string ⟨#[110, 105, 98, 112, 100]⟩, .string ⟨#[100, 105, 97]⟩]) = z6
  generalize (Value.agg #[.string ⟨#[110, 105, 98, 112, 109]⟩, .string ⟨#[109, 101, 97, 110]⟩]) = z7
  generalize (Value.agg #[.string ⟨#[112, 115]⟩, .string ⟨#[97, 114, 116, 115, 121, 115]⟩]) = z8
  generalize (Value.agg #[.string ⟨#[112, 100]⟩, .string ⟨#[97, 114, 116, 100, 105, 97]⟩]) = z9
  generalize (Value.agg #[.string ⟨#[112, 109]⟩, .string ⟨#[97, 114, 116, 109, 101, 97, 110]⟩]) = z10
  generalize (Value.agg #[.string ⟨#[116, 49]⟩, .string ⟨#[116, 101, 109, 112]⟩]) = z11
  generalize (Value.agg #[.string ⟨#[98, 111, 100, 121]⟩, .string ⟨#[116, 101, 109, 112]⟩]) = z12
  generalize (Value.agg #[.string ⟨#[114, 114]⟩, .string ⟨#[114, 101, 115, 112]⟩]) = z13
  generalize (Value.agg #[.string ⟨#[98, 114, 101, 97, 116, 104, 115]⟩, .string ⟨#[114, 101, 115, 112]⟩]) = z14
  generalize (Value.agg #[.string ⟨#[99, 111, 50]⟩, .string ⟨#[101, 116, 99, 111, 50]⟩]) = z15
  generalize (Value.agg #[.string ⟨#[111, 50]⟩, .string ⟨#[102, 105, 111, 50]⟩]) = z16
  generalize (Value.agg #[.string ⟨#[112, 105, 112]⟩, .string ⟨#[112, 101, 97, 107]⟩]) = z17
  generalize (Value.agg #[.string ⟨#[118, 116]⟩, .string ⟨#[116, 105, 100, 97, 108]⟩]) = z18
  generalize (Value.agg #[.string ⟨#[109, 118]⟩, .string ⟨#[109, 105, 110, 118, 111, 108]⟩]) = z19
  generalize (Value.agg #[.string ⟨#[114, 97, 116, 101]⟩, .string ⟨#[102, 108, 111, 119]⟩]) = z20
  generalize (Value.agg #[.string ⟨#[118, 111, 108, 117, 109, 101]⟩, .string ⟨#[103, 105, 118, 101, 110]⟩]) = z21
  generalize (Value.agg #[.string ⟨#[114, 101, 115, 116]⟩, .string ⟨#[108, 101, 102, 116]⟩]) = z22
  generalize (Value.agg #[.string ⟨#[107, 103, 115]⟩, .string ⟨#[119, 101, 105, 103, 104, 116]⟩]) = z23
  generalize (Value.agg #[.string ⟨#[115, 105, 122, 101]⟩, .string ⟨#[104, 101, 105, 103, 104, 116]⟩]) = z24
  generalize (Value.agg #[.string ⟨#[116, 111, 103, 111]⟩, .string ⟨#[105, 110, 102, 117, 115, 101]⟩]) = z25
  go_loopw [4] (RelL name w1) (fun i _ => 26 - (intOf i).toNat)
  case atStart => exact ⟨0, Nat.zero_le _, rfl, rfl, fun x hx => by simp at hx⟩
  case round =>
    obtain ⟨k, hk, rfl, rfl, hall⟩ := hrel
    have HA := Lib.hid hall
    clear hall
    by_cases hlt : k < 26
    · obtain ⟨u, hku⟩ : ∃ u, wordsL[k]? = some u := ⟨wordsL[k]'(by show k < 26; omega), List.getElem?_eq_getElem _⟩
      obtain ⟨nm, i⟩ := u
      have k0 : wr.cell? ⟨w.heap.size, k * 2, none⟩ = some (.string nm) := by
        rw [blk_cell hr1 _, List.getElem?_toArray, pairsL]
        exact flat2 (fun p : ByteArray × Int => [.string p.1, .string (labAt p.2)]) (fun _ => rfl) _ _ _ hku 0 _ rfl
      have k1 : wr.cell? ⟨w.heap.size, k * 2 + 1, none⟩ = some (.string (labAt i)) := by
        rw [blk_cell hr1 _, List.getElem?_toArray, pairsL]
        exact flat2 (fun p : ByteArray × Int => [.string p.1, .string (labAt p.2)]) (fun _ => rfl) _ _ _ hku 1 _ rfl
      obtain ⟨la, hla⟩ : ∃ la, labAt i = la := ⟨_, rfl⟩
      rw [hla] at k1
      by_cases he : nm.toList = name.toList
      · have hf := find_at (f := fun p : ByteArray × Int => p.1.toList) hku HA.out he
        have ee : (nm.toList == name.toList) = true := by simp [he]
        have hl : labelR name = la := by
          rw [← hla]
          unfold labelR wordOf
          rw [hf]
          rfl
        clear hf hku hla he
        go_wp2_with fail
        go_ret
        rw [hl]
        exact ⟨rfl, hB1⟩
      · have ee : (nm.toList == name.toList) = false := by simp [he]
        have hm := more_at (f := fun p : ByteArray × Int => p.1.toList) hku HA.out he
        have HM := Lib.hid hm
        clear hm he hku hla k1
        go_wp2_with fail
        refine ⟨⟨k + 1, by omega, by simp, rfl, HM.out⟩, ?_⟩
        simp [intOf]
        omega
    · obtain rfl : k = 26 := by omega
      have hl : labelR name = name := by
        unfold labelR wordOf
        rw [find_none (f := fun p : ByteArray × Int => p.1.toList) (fun x hx => HA.out x (by rw [List.take_of_length_le (by decide)]; exact hx))]
        rfl
      go_wp2_with fail
      go_ret
      rw [hl]
      exact ⟨rfl, hB1⟩
/-- The five rows lie in the heap. -/
structure Rows (W : World) (g1 g2 g3 g4 g5 : Nat) : Prop where
  r1 : W.heap[g1]? = some (.cells codesL.toArray 3 (0, 0))
  r2 : W.heap[g2]? = some (.cells unitsL.toArray 9 (0, 0))
  r3 : W.heap[g3]? = some (.cells leastL.toArray 2 (0, 0))
  r4 : W.heap[g4]? = some (.cells mostL.toArray 2 (0, 0))
  r5 : W.heap[g5]? = some (.cells labelsL.toArray 9 (0, 0))
theorem Rows.step {W w2 : World} {g1 g2 g3 g4 g5 : Nat} (h : Rows W g1 g2 g3 g4 g5) (hb : Below W.heap.size W w2) : Rows w2 g1 g2 g3 g4 g5 := ⟨blk_below h.r1 hb, blk_below h.r2 hb, blk_below h.r3 hb, blk_below h.r4 hb, blk_below h.r5 hb⟩
section
variable {W : World} {g1 g2 g3 g4 g5 k : Nat} {u : TRow}
theorem Rows.code (h : Rows W g1 g2 g3 g4 g5) (hk : terms[k]? = some u) : W.cell? ⟨g1, k, none⟩ = some (.int .i64 u.code) := by
  rw [blk_cell h.r1 k, List.getElem?_toArray, codesL, List.getElem?_map, hk]
  rfl
theorem Rows.unit (h : Rows W g1 g2 g3 g4 g5) (hk : terms[k]? = some u) : W.cell? ⟨g2, k, none⟩ = some (.string u.unit) := by
  rw [blk_cell h.r2 k, List.getElem?_toArray, unitsL, List.getElem?_map, hk]
  rfl
theorem Rows.least (h : Rows W g1 g2 g3 g4 g5) (hk : terms[k]? = some u) : W.cell? ⟨g3, k, none⟩ = some (.int .i64 u.ln) := by
  rw [blk_cell h.r3 k, List.getElem?_toArray, leastL, List.getElem?_map, hk]
  rfl
theorem Rows.most (h : Rows W g1 g2 g3 g4 g5) (hk : terms[k]? = some u) : W.cell? ⟨g4, k, none⟩ = some (.int .i64 u.mn) := by
  rw [blk_cell h.r4 k, List.getElem?_toArray, mostL, List.getElem?_map, hk]
  rfl
theorem Rows.label (h : Rows W g1 g2 g3 g4 g5) (hk : terms[k]? = some u) : W.cell? ⟨g5, k, none⟩ = some (.string u.label) := by
  rw [blk_cell h.r5 k, List.getElem?_toArray, labelsL, List.getElem?_map, hk]
  rfl
end
/-- Between two rounds. -/
def RelF (lab : ByteArray) (w : World) (g1 g2 g3 g4 g5 : Nat) (s9 : Value) (wr : World) : Prop := ∃ k : Nat, k ≤ 24 ∧ s9 = .int .i64 (k : Int) ∧ Rows wr g1 g2 g3 g4 g5 ∧ B1 w wr (.cells #[.string ⟨#[]⟩, .int .i64 0, .string ⟨#[]⟩, .int .i64 0, .int .i64 0, .int .i64 0, .int .i64 0] 61) ∧ ∀ x ∈ terms.take k, x.label.toList ≠ lab.toList
set_option maxRecDepth 100000 in
set_option maxHeartbeats 16000000 in
theorem reffind_lab (name lab : ByteArray) (hlb : ∀ w, Calls Try.prog 69 #[.string name] w fun e w' => e = .returned (.string lab) ∧ Below w.heap.size w w') (w : World) :
    Calls Try.prog 35 #[.string name] w fun e w' => e = .returned (.tuple #[((find lab).getD zrow).val, .bool (find lab).isSome]) ∧ Below w.heap.size w w' := by
  have HL := Lib.hid hlb
  clear hlb
  have hB := b1_start w (.cells #[.string ⟨#[]⟩, .int .i64 0, .string ⟨#[]⟩, .int .i64 0, .int .i64 0, .int .i64 0, .int .i64 0] 61)
  go_enter Try.func35, Try.ntmps35
  go_wp2_with (first | ((with_reducible refine gate_dst (N := 10) rfl ?_); refine lit_event ?hg (N := 10) ?hd (cs := codesL.toArray) (t := 3) (n := 24) ?hr ?_; (case hd => rfl); (case hg => rfl); (case hr => kernel_rfl); intro g1 hg1 w1 hr1 hB1) | ((with_reducible refine gate_dst (N := 11) rfl ?_); refine lit_event ?hg (N := 11) ?hd (cs := unitsL.toArray) (t := 9) (n := 24) ?hr ?_; (case hd => rfl); (case hg => rfl); (case hr => kernel_rfl); intro g2 hg2 w2 hr2 hB2) | ((with_reducible refine gate_dst (N := 12) rfl ?_); refine lit_event ?hg (N := 12) ?hd (cs := leastL.toArray) (t := 2) (n := 24) ?hr ?_; (case hd => rfl); (case hg => rfl); (case hr => kernel_rfl); intro g3 hg3 w3 hr3 hB3) | ((with_reducible refine gate_dst (N := 13) rfl ?_); refine lit_event ?hg (N := 13) ?hd (cs := mostL.toArray) (t := 2) (n := 24) ?hr ?_; (case hd => rfl); (case hg => rfl); (case hr => kernel_rfl); intro g4 hg4 w4 hr4 hB4) | fail)
  subst hg2 hg3 hg4
  rw [World.size_alloc] at hg1
  subst hg1
  refine (reflabels_calls _).mono ?_
  rintro e w5 ⟨g5, rfl, hg5, hr5, hB5⟩
  have hR : Rows w5 (w.heap.size + 1) w1.heap.size w2.heap.size w3.heap.size g5 := ⟨blk_below (blk_below (blk_below (blk_below hr1 hB2) hB3) hB4) hB5, blk_below (blk_below (blk_below hr2 hB3) hB4) hB5, blk_below (blk_below hr3 hB4) hB5, blk_below hr4 hB5, hr5⟩
  have hC := ((((hB.step hB1).step hB2).step hB3).step hB4).step hB5
  clear hB hB1 hB2 hB3 hB4 hB5 hr1 hr2 hr3 hr4 hr5 hg5
  go_wp2_with fail
  go_loopw [9] (RelF lab w (w.heap.size + 1) w1.heap.size w2.heap.size w3.heap.size g5) (fun i _ => 24 - (intOf i).toNat)
  case atStart => exact ⟨0, Nat.zero_le _, rfl, hR, hC, fun x hx => by simp at hx⟩
  case round =>
    clear hR hC
    obtain ⟨k, hk, rfl, hR, hC, hall⟩ := hrel
    have HA := Lib.hid hall
    clear hall
    by_cases hlt : k < 24
    · obtain ⟨u, hku⟩ : ∃ u, terms[k]? = some u := ⟨terms[k]'(by show k < 24; omega), List.getElem?_eq_getElem _⟩
      have h11 := terms_one u (List.mem_of_getElem? hku)
      obtain ⟨lb, cd, un, ln, ld, mn, md⟩ := u
      obtain ⟨rfl, rfl⟩ : ld = 1 ∧ md = 1 := h11
      have HK := Lib.hid hku
      go_wp2_with fail
      refine start_ (n := 7) (S := fun wx => Rows wx (w.heap.size + 1) w1.heap.size w2.heap.size w3.heap.size g5 ∧ B1 w wx (.cells #[.string ⟨#[]⟩, .int .i64 0, .string ⟨#[]⟩, .int .i64 0, .int .i64 0, .int .i64 0, .int .i64 0] 61)) (ds := []) #[false, false, false, false, false, false, false] (by kernel_rfl) rfl rfl ⟨hR.step (below_drew (Below.refl _ _)), hC.step (below_drew (Below.refl _ _))⟩ (fun hHeld => ?_)
      refine pure_ (i := 0) (N := some 21) (v := ?_) (a' := ?_) #[true, false, false, false, false, false, false] rfl rfl (by kernel_rfl) (fun _ _ _ h => h) (Or.inl ⟨by rfl, ?_⟩) ?_ ?_
      rotate_left
      · intro w'
        go_simp
        try with_reducible rfl
      rotate_left
      · simp only [Act.put, List.setIfInBounds_toArray, List.set_cons_zero, List.set_cons_succ, i64_w, i32_w]
        rfl
      refine pure_ (i := 1) (N := some 22) (v := ?_) (a' := ?_) #[true, true, false, false, false, false, false] rfl rfl (by kernel_rfl) (fun _ _ _ h => h) (Or.inl ⟨by rfl, ?_⟩) ?_ ?_
      rotate_left
      · intro w'
        go_simp
        try with_reducible rfl
      rotate_left
      · simp only [Act.put, List.setIfInBounds_toArray, List.set_cons_zero, List.set_cons_succ, i64_w, i32_w]
        rfl
      refine pure_ (i := 2) (N := some 23) (v := ?_) (a' := ?_) #[true, true, true, false, false, false, false] rfl rfl (by kernel_rfl) (fun _ _ _ h => h) (Or.inl ⟨by rfl, ?_⟩) ?_ ?_
      rotate_left
      · intro w'
        go_simp
        try with_reducible rfl
      rotate_left
      · simp only [Act.put, List.setIfInBounds_toArray, List.set_cons_zero, List.set_cons_succ, i64_w, i32_w]
        rfl
      refine take_ (i := 3) (N := some 24) (v := ?_) (a' := ?_) #[true, true, true, true, false, false, false] rfl rfl (by kernel_rfl) (fun _ _ _ h => h) (Or.inl ⟨by rfl, ?_⟩) hHeld ?_ ?_
      rotate_left
      · rintro w' ⟨hr_, hc_⟩
        have k5 : w'.cell? ⟨g5, k, none⟩ = some (.string lb) := hr_.label hku
        go_simp
        with_reducible rfl
      rotate_left
      · simp only [Act.put, List.setIfInBounds_toArray, List.set_cons_zero, List.set_cons_succ, i64_w, i32_w]
        rfl
      refine pure_ (i := 4) (N := some 25) (v := ?_) (a' := ?_) #[true, true, true, true, true, false, false] rfl rfl (by kernel_rfl) (fun _ _ _ h => h) (Or.inl ⟨by rfl, ?_⟩) ?_ ?_
      rotate_left
      · intro w'
        go_simp
        try with_reducible rfl
      rotate_left
      · simp only [Act.put, List.setIfInBounds_toArray, List.set_cons_zero, List.set_cons_succ, i64_w, i32_w]
        rfl
      refine one_ (i := 5) (N := some 26) #[true, true, true, true, true, true, false] rfl rfl (by kernel_rfl) (by decide) (fun K hK => ?_)
      refine goes_ Try.func69 (by kernel_rfl) rfl #[.string name] (by rfl) rfl rfl (by (try simp only [List.map_toArray, List.map_cons, List.map_nil]); first | done | rfl) ?_
      refine (HL.out _).mono ?_
      rintro e wz ⟨rfl, hb_⟩
      refine ⟨_, rfl, ?_⟩
      refine hK.out _ _ ⟨hHeld.1.step hb_, hHeld.2.step hb_⟩ (fun hHeld => ?_)
      clear hK K
      refine norm_ (a' := ?_) ?_ ?_
      rotate_left
      · show Act.put _ (some 26) _ = _
        simp only [Act.put, List.setIfInBounds_toArray, List.set_cons_zero, List.set_cons_succ, i64_w, i32_w]
        rfl
      refine pure_ (i := 6) (N := some 27) (v := ?_) (a' := ?_) #[true, true, true, true, true, true, true] rfl rfl (by kernel_rfl) (fun _ _ _ h => h) (Or.inl ⟨by rfl, ?_⟩) ?_ ?_
      rotate_left
      · intro w'
        go_simp
        try with_reducible rfl
      rotate_left
      · simp only [Act.put, List.setIfInBounds_toArray, List.set_cons_zero, List.set_cons_succ, i64_w, i32_w]
        rfl
      refine done_ (by kernel_rfl) ?_
      clear hR hC
      obtain ⟨hR1, hC1⟩ := hHeld
      by_cases he : lb.toList = lab.toList
      · have hf : find lab = some ⟨lb, cd, un, ln, 1, mn, 1⟩ := find_at (f := fun x : TRow => x.label.toList) hku HA.out he
        have ee : (lb.toList == lab.toList) = true := by simp [he]
        have HF := Lib.hid hf
        clear hf he
        rw [ee]
        go_wp2_with fail
        have hd := below_drew (Below.refl wz.heap.size wz)
        have hC2 := hC1.step hd
        have q0 : wz.cell? ⟨w.heap.size, 0, none⟩ = some (.string ⟨#[]⟩) := blk_cell hC1.b1 0
        have qf0 : wz.frozen? ⟨w.heap.size, 0, none⟩ = false := blk_frozen hC1.b1 0
        have q1 : wz.cell? ⟨w.heap.size, 1, none⟩ = some (.int .i64 0) := blk_cell hC1.b1 1
        have qf1 : wz.frozen? ⟨w.heap.size, 1, none⟩ = false := blk_frozen hC1.b1 1
        have q2 : wz.cell? ⟨w.heap.size, 2, none⟩ = some (.string ⟨#[]⟩) := blk_cell hC1.b1 2
        have qf2 : wz.frozen? ⟨w.heap.size, 2, none⟩ = false := blk_frozen hC1.b1 2
        have q3 : wz.cell? ⟨w.heap.size, 3, none⟩ = some (.int .i64 0) := blk_cell hC1.b1 3
        have qf3 : wz.frozen? ⟨w.heap.size, 3, none⟩ = false := blk_frozen hC1.b1 3
        have q4 : wz.cell? ⟨w.heap.size, 4, none⟩ = some (.int .i64 0) := blk_cell hC1.b1 4
        have qf4 : wz.frozen? ⟨w.heap.size, 4, none⟩ = false := blk_frozen hC1.b1 4
        have q5 : wz.cell? ⟨w.heap.size, 5, none⟩ = some (.int .i64 0) := blk_cell hC1.b1 5
        have qf5 : wz.frozen? ⟨w.heap.size, 5, none⟩ = false := blk_frozen hC1.b1 5
        have q6 : wz.cell? ⟨w.heap.size, 6, none⟩ = some (.int .i64 0) := blk_cell hC1.b1 6
        have qf6 : wz.frozen? ⟨w.heap.size, 6, none⟩ = false := blk_frozen hC1.b1 6
        refine start_ (n := 25) (S := fun wx => Rows wx (w.heap.size + 1) w1.heap.size w2.heap.size w3.heap.size g5 ∧ B1 w wx (.cells #[.string ⟨#[]⟩, .int .i64 0, .string ⟨#[]⟩, .int .i64 0, .int .i64 0, .int .i64 0, .int .i64 0] 61)) (ds := [23]) #[false, false, false, false, false, false, false, false, false, false, false, false, false, false, false, false, false, false, false, false, false, false, false, false, false] (by kernel_rfl) rfl rfl ⟨hR1.step hd, hC1.step hd⟩ (fun hHeld => ?_)
        refine pure_ (i := 0) (N := some 28) (v := ?_) (a' := ?_) #[true, false, false, false, false, false, false, false, false, false, false, false, false, false, false, false, false, false, false, false, false, false, false, false, false] rfl rfl (by kernel_rfl) (fun _ _ _ h => h) (Or.inl ⟨by rfl, ?_⟩) ?_ ?_
        rotate_left
        · intro w'
          go_simp
          try with_reducible rfl
        rotate_left
        · simp only [Act.put, List.setIfInBounds_toArray, List.set_cons_zero, List.set_cons_succ, i64_w, i32_w]
          rfl
        refine pure_ (i := 1) (N := some 29) (v := ?_) (a' := ?_) #[true, true, false, false, false, false, false, false, false, false, false, false, false, false, false, false, false, false, false, false, false, false, false, false, false] rfl rfl (by kernel_rfl) (fun _ _ _ h => h) (Or.inl ⟨by rfl, ?_⟩) ?_ ?_
        rotate_left
        · intro w'
          go_simp
          try with_reducible rfl
        rotate_left
        · simp only [Act.put, List.setIfInBounds_toArray, List.set_cons_zero, List.set_cons_succ, i64_w, i32_w]
          rfl
        refine pure_ (i := 2) (N := some 30) (v := ?_) (a' := ?_) #[true, true, true, false, false, false, false, false, false, false, false, false, false, false, false, false, false, false, false, false, false, false, false, false, false] rfl rfl (by kernel_rfl) (fun _ _ _ h => h) (Or.inl ⟨by rfl, ?_⟩) ?_ ?_
        rotate_left
        · intro w'
          go_simp
          try with_reducible rfl
        rotate_left
        · simp only [Act.put, List.setIfInBounds_toArray, List.set_cons_zero, List.set_cons_succ, i64_w, i32_w]
          rfl
        refine take_ (i := 3) (N := some 31) (v := ?_) (a' := ?_) #[true, true, true, true, false, false, false, false, false, false, false, false, false, false, false, false, false, false, false, false, false, false, false, false, false] rfl rfl (by kernel_rfl) (fun _ _ _ h => h) (Or.inl ⟨by rfl, ?_⟩) hHeld ?_ ?_
        rotate_left
        · rintro w' ⟨hr_, hc_⟩
          have k1 : w'.cell? ⟨w.heap.size + 1, k, none⟩ = some (.int .i64 cd) := hr_.code hku
          have k2 : w'.cell? ⟨w1.heap.size, k, none⟩ = some (.string un) := hr_.unit hku
          have k3 : w'.cell? ⟨w2.heap.size, k, none⟩ = some (.int .i64 ln) := hr_.least hku
          have k4 : w'.cell? ⟨w3.heap.size, k, none⟩ = some (.int .i64 mn) := hr_.most hku
          have k5 : w'.cell? ⟨g5, k, none⟩ = some (.string lb) := hr_.label hku
          go_simp
          with_reducible rfl
        rotate_left
        · simp only [Act.put, List.setIfInBounds_toArray, List.set_cons_zero, List.set_cons_succ, i64_w, i32_w]
          rfl
        refine pure_ (i := 4) (N := some 32) (v := ?_) (a' := ?_) #[true, true, true, true, true, false, false, false, false, false, false, false, false, false, false, false, false, false, false, false, false, false, false, false, false] rfl rfl (by kernel_rfl) (fun _ _ _ h => h) (Or.inl ⟨by rfl, ?_⟩) ?_ ?_
        rotate_left
        · intro w'
          go_simp
          try with_reducible rfl
        rotate_left
        · simp only [Act.put, List.setIfInBounds_toArray, List.set_cons_zero, List.set_cons_succ, i64_w, i32_w]
          rfl
        refine pure_ (i := 5) (N := some 33) (v := ?_) (a' := ?_) #[true, true, true, true, true, true, false, false, false, false, false, false, false, false, false, false, false, false, false, false, false, false, false, false, false] rfl rfl (by kernel_rfl) (fun _ _ _ h => h) (Or.inl ⟨by rfl, ?_⟩) ?_ ?_
        rotate_left
        · intro w'
          go_simp
          try with_reducible rfl
        rotate_left
        · simp only [Act.put, List.setIfInBounds_toArray, List.set_cons_zero, List.set_cons_succ, i64_w, i32_w]
          rfl
        refine pure_ (i := 6) (N := some 34) (v := ?_) (a' := ?_) #[true, true, true, true, true, true, true, false, false, false, false, false, false, false, false, false, false, false, false, false, false, false, false, false, false] rfl rfl (by kernel_rfl) (fun _ _ _ h => h) (Or.inl ⟨by rfl, ?_⟩) ?_ ?_
        rotate_left
        · intro w'
          go_simp
          try with_reducible rfl
        rotate_left
        · simp only [Act.put, List.setIfInBounds_toArray, List.set_cons_zero, List.set_cons_succ, i64_w, i32_w]
          rfl
        refine take_ (i := 7) (N := some 35) (v := ?_) (a' := ?_) #[true, true, true, true, true, true, true, true, false, false, false, false, false, false, false, false, false, false, false, false, false, false, false, false, false] rfl rfl (by kernel_rfl) (fun _ _ _ h => h) (Or.inl ⟨by rfl, ?_⟩) hHeld ?_ ?_
        rotate_left
        · rintro w' ⟨hr_, hc_⟩
          have k1 : w'.cell? ⟨w.heap.size + 1, k, none⟩ = some (.int .i64 cd) := hr_.code hku
          have k2 : w'.cell? ⟨w1.heap.size, k, none⟩ = some (.string un) := hr_.unit hku
          have k3 : w'.cell? ⟨w2.heap.size, k, none⟩ = some (.int .i64 ln) := hr_.least hku
          have k4 : w'.cell? ⟨w3.heap.size, k, none⟩ = some (.int .i64 mn) := hr_.most hku
          have k5 : w'.cell? ⟨g5, k, none⟩ = some (.string lb) := hr_.label hku
          go_simp
          with_reducible rfl
        rotate_left
        · simp only [Act.put, List.setIfInBounds_toArray, List.set_cons_zero, List.set_cons_succ, i64_w, i32_w]
          rfl
        refine pure_ (i := 8) (N := some 36) (v := ?_) (a' := ?_) #[true, true, true, true, true, true, true, true, true, false, false, false, false, false, false, false, false, false, false, false, false, false, false, false, false] rfl rfl (by kernel_rfl) (fun _ _ _ h => h) (Or.inl ⟨by rfl, ?_⟩) ?_ ?_
        rotate_left
        · intro w'
          go_simp
          try with_reducible rfl
        rotate_left
        · simp only [Act.put, List.setIfInBounds_toArray, List.set_cons_zero, List.set_cons_succ, i64_w, i32_w]
          rfl
        refine pure_ (i := 9) (N := some 37) (v := ?_) (a' := ?_) #[true, true, true, true, true, true, true, true, true, true, false, false, false, false, false, false, false, false, false, false, false, false, false, false, false] rfl rfl (by kernel_rfl) (fun _ _ _ h => h) (Or.inl ⟨by rfl, ?_⟩) ?_ ?_
        rotate_left
        · intro w'
          go_simp
          try with_reducible rfl
        rotate_left
        · simp only [Act.put, List.setIfInBounds_toArray, List.set_cons_zero, List.set_cons_succ, i64_w, i32_w]
          rfl
        refine pure_ (i := 10) (N := some 38) (v := ?_) (a' := ?_) #[true, true, true, true, true, true, true, true, true, true, true, false, false, false, false, false, false, false, false, false, false, false, false, false, false] rfl rfl (by kernel_rfl) (fun _ _ _ h => h) (Or.inl ⟨by rfl, ?_⟩) ?_ ?_
        rotate_left
        · intro w'
          go_simp
          try with_reducible rfl
        rotate_left
        · simp only [Act.put, List.setIfInBounds_toArray, List.set_cons_zero, List.set_cons_succ, i64_w, i32_w]
          rfl
        refine take_ (i := 11) (N := some 39) (v := ?_) (a' := ?_) #[true, true, true, true, true, true, true, true, true, true, true, true, false, false, false, false, false, false, false, false, false, false, false, false, false] rfl rfl (by kernel_rfl) (fun _ _ _ h => h) (Or.inl ⟨by rfl, ?_⟩) hHeld ?_ ?_
        rotate_left
        · rintro w' ⟨hr_, hc_⟩
          have k1 : w'.cell? ⟨w.heap.size + 1, k, none⟩ = some (.int .i64 cd) := hr_.code hku
          have k2 : w'.cell? ⟨w1.heap.size, k, none⟩ = some (.string un) := hr_.unit hku
          have k3 : w'.cell? ⟨w2.heap.size, k, none⟩ = some (.int .i64 ln) := hr_.least hku
          have k4 : w'.cell? ⟨w3.heap.size, k, none⟩ = some (.int .i64 mn) := hr_.most hku
          have k5 : w'.cell? ⟨g5, k, none⟩ = some (.string lb) := hr_.label hku
          go_simp
          with_reducible rfl
        rotate_left
        · simp only [Act.put, List.setIfInBounds_toArray, List.set_cons_zero, List.set_cons_succ, i64_w, i32_w]
          rfl
        refine pure_ (i := 12) (N := some 40) (v := ?_) (a' := ?_) #[true, true, true, true, true, true, true, true, true, true, true, true, true, false, false, false, false, false, false, false, false, false, false, false, false] rfl rfl (by kernel_rfl) (fun _ _ _ h => h) (Or.inl ⟨by rfl, ?_⟩) ?_ ?_
        rotate_left
        · intro w'
          go_simp
          try with_reducible rfl
        rotate_left
        · simp only [Act.put, List.setIfInBounds_toArray, List.set_cons_zero, List.set_cons_succ, i64_w, i32_w]
          rfl
        refine pure_ (i := 13) (N := some 41) (v := ?_) (a' := ?_) #[true, true, true, true, true, true, true, true, true, true, true, true, true, true, false, false, false, false, false, false, false, false, false, false, false] rfl rfl (by kernel_rfl) (fun _ _ _ h => h) (Or.inl ⟨by rfl, ?_⟩) ?_ ?_
        rotate_left
        · intro w'
          go_simp
          try with_reducible rfl
        rotate_left
        · simp only [Act.put, List.setIfInBounds_toArray, List.set_cons_zero, List.set_cons_succ, i64_w, i32_w]
          rfl
        refine pure_ (i := 14) (N := some 42) (v := ?_) (a' := ?_) #[true, true, true, true, true, true, true, true, true, true, true, true, true, true, true, false, false, false, false, false, false, false, false, false, false] rfl rfl (by kernel_rfl) (fun _ _ _ h => h) (Or.inl ⟨by rfl, ?_⟩) ?_ ?_
        rotate_left
        · intro w'
          go_simp
          try with_reducible rfl
        rotate_left
        · simp only [Act.put, List.setIfInBounds_toArray, List.set_cons_zero, List.set_cons_succ, i64_w, i32_w]
          rfl
        refine take_ (i := 15) (N := some 43) (v := ?_) (a' := ?_) #[true, true, true, true, true, true, true, true, true, true, true, true, true, true, true, true, false, false, false, false, false, false, false, false, false] rfl rfl (by kernel_rfl) (fun _ _ _ h => h) (Or.inl ⟨by rfl, ?_⟩) hHeld ?_ ?_
        rotate_left
        · rintro w' ⟨hr_, hc_⟩
          have k1 : w'.cell? ⟨w.heap.size + 1, k, none⟩ = some (.int .i64 cd) := hr_.code hku
          have k2 : w'.cell? ⟨w1.heap.size, k, none⟩ = some (.string un) := hr_.unit hku
          have k3 : w'.cell? ⟨w2.heap.size, k, none⟩ = some (.int .i64 ln) := hr_.least hku
          have k4 : w'.cell? ⟨w3.heap.size, k, none⟩ = some (.int .i64 mn) := hr_.most hku
          have k5 : w'.cell? ⟨g5, k, none⟩ = some (.string lb) := hr_.label hku
          go_simp
          with_reducible rfl
        rotate_left
        · simp only [Act.put, List.setIfInBounds_toArray, List.set_cons_zero, List.set_cons_succ, i64_w, i32_w]
          rfl
        refine pure_ (i := 16) (N := some 44) (v := ?_) (a' := ?_) #[true, true, true, true, true, true, true, true, true, true, true, true, true, true, true, true, true, false, false, false, false, false, false, false, false] rfl rfl (by kernel_rfl) (fun _ _ _ h => h) (Or.inl ⟨by rfl, ?_⟩) ?_ ?_
        rotate_left
        · intro w'
          go_simp
          try with_reducible rfl
        rotate_left
        · simp only [Act.put, List.setIfInBounds_toArray, List.set_cons_zero, List.set_cons_succ, i64_w, i32_w]
          rfl
        refine pure_ (i := 17) (N := some 45) (v := ?_) (a' := ?_) #[true, true, true, true, true, true, true, true, true, true, true, true, true, true, true, true, true, true, false, false, false, false, false, false, false] rfl rfl (by kernel_rfl) (fun _ _ _ h => h) (Or.inl ⟨by rfl, ?_⟩) ?_ ?_
        rotate_left
        · intro w'
          go_simp
          try with_reducible rfl
        rotate_left
        · simp only [Act.put, List.setIfInBounds_toArray, List.set_cons_zero, List.set_cons_succ, i64_w, i32_w]
          rfl
        refine pure_ (i := 18) (N := some 46) (v := ?_) (a' := ?_) #[true, true, true, true, true, true, true, true, true, true, true, true, true, true, true, true, true, true, true, false, false, false, false, false, false] rfl rfl (by kernel_rfl) (fun _ _ _ h => h) (Or.inl ⟨by rfl, ?_⟩) ?_ ?_
        rotate_left
        · intro w'
          go_simp
          try with_reducible rfl
        rotate_left
        · simp only [Act.put, List.setIfInBounds_toArray, List.set_cons_zero, List.set_cons_succ, i64_w, i32_w]
          rfl
        refine pure_ (i := 19) (N := some 47) (v := ?_) (a' := ?_) #[true, true, true, true, true, true, true, true, true, true, true, true, true, true, true, true, true, true, true, true, false, false, false, false, false] rfl rfl (by kernel_rfl) (fun _ _ _ h => h) (Or.inl ⟨by rfl, ?_⟩) ?_ ?_
        rotate_left
        · intro w'
          go_simp
          try with_reducible rfl
        rotate_left
        · simp only [Act.put, List.setIfInBounds_toArray, List.set_cons_zero, List.set_cons_succ, i64_w, i32_w]
          rfl
        refine take_ (i := 20) (N := some 48) (v := ?_) (a' := ?_) #[true, true, true, true, true, true, true, true, true, true, true, true, true, true, true, true, true, true, true, true, true, false, false, false, false] rfl rfl (by kernel_rfl) (fun _ _ _ h => h) (Or.inl ⟨by rfl, ?_⟩) hHeld ?_ ?_
        rotate_left
        · rintro w' ⟨hr_, hc_⟩
          have k1 : w'.cell? ⟨w.heap.size + 1, k, none⟩ = some (.int .i64 cd) := hr_.code hku
          have k2 : w'.cell? ⟨w1.heap.size, k, none⟩ = some (.string un) := hr_.unit hku
          have k3 : w'.cell? ⟨w2.heap.size, k, none⟩ = some (.int .i64 ln) := hr_.least hku
          have k4 : w'.cell? ⟨w3.heap.size, k, none⟩ = some (.int .i64 mn) := hr_.most hku
          have k5 : w'.cell? ⟨g5, k, none⟩ = some (.string lb) := hr_.label hku
          go_simp
          with_reducible rfl
        rotate_left
        · simp only [Act.put, List.setIfInBounds_toArray, List.set_cons_zero, List.set_cons_succ, i64_w, i32_w]
          rfl
        refine pure_ (i := 21) (N := some 49) (v := ?_) (a' := ?_) #[true, true, true, true, true, true, true, true, true, true, true, true, true, true, true, true, true, true, true, true, true, true, false, false, false] rfl rfl (by kernel_rfl) (fun _ _ _ h => h) (Or.inl ⟨by rfl, ?_⟩) ?_ ?_
        rotate_left
        · intro w'
          go_simp
          try with_reducible rfl
        rotate_left
        · simp only [Act.put, List.setIfInBounds_toArray, List.set_cons_zero, List.set_cons_succ, i64_w, i32_w]
          rfl
        refine pure_ (i := 22) (N := some 50) (v := ?_) (a' := ?_) #[true, true, true, true, true, true, true, true, true, true, true, true, true, true, true, true, true, true, true, true, true, true, true, false, false] rfl rfl (by kernel_rfl) (fun _ _ _ h => h) (Or.inl ⟨by rfl, ?_⟩) ?_ ?_
        rotate_left
        · intro w'
          go_simp
          try with_reducible rfl
        rotate_left
        · simp only [Act.put, List.setIfInBounds_toArray, List.set_cons_zero, List.set_cons_succ, i64_w, i32_w]
          rfl
        refine last_ (i := 23) (N := none) #[true, true, true, true, true, true, true, true, true, true, true, true, true, true, true, true, true, true, true, true, true, true, true, true, false] rfl rfl (by kernel_rfl) (by decide) (fun K hK => ?_)
        refine skip_ (w1 := (((((((((((((((wz).setCell ⟨w.heap.size, 0, none⟩ (.string lb))).setCell ⟨w.heap.size, 1, none⟩ (.int .i64 cd))).setCell ⟨w.heap.size, 2, none⟩ (.string un))).setCell ⟨w.heap.size, 3, none⟩ (.int .i64 ln))).setCell ⟨w.heap.size, 4, none⟩ (.int .i64 1))).setCell ⟨w.heap.size, 5, none⟩ (.int .i64 mn))).setCell ⟨w.heap.size, 6, none⟩ (.int .i64 1))).drew) (by rfl) rfl ?_ ?_
        · first
          | (go_simp; done)
          | (go_simp; rfl)
        refine hK.out _ _ ?_
        clear hK K
        refine norm_ (a' := ?_) ?_ ?_
        rotate_left
        · rfl
        refine pure_ (i := 24) (N := some 3) (v := ?_) (a' := ?_) #[true, true, true, true, true, true, true, true, true, true, true, true, true, true, true, true, true, true, true, true, true, true, true, true, true] rfl rfl (by kernel_rfl) (fun _ _ _ h => h) (Or.inl ⟨by rfl, ?_⟩) ?_ ?_
        rotate_left
        · intro w'
          go_simp
          try with_reducible rfl
        rotate_left
        · simp only [Act.put, List.setIfInBounds_toArray, List.set_cons_zero, List.set_cons_succ, i64_w, i32_w]
          rfl
        refine done_ (by kernel_rfl) ?_
        clear hd hR1 hku hHeld
        clear q0 qf0 q1 qf1 q2 qf2 q3 qf3 q4 qf4 q5 qf5 q6 qf6
        have k1 := put7_blk ⟨lb, cd, un, ln, 1, mn, 1⟩ hC1.b1
        have kB := put7_below ⟨lb, cd, un, ln, 1, mn, 1⟩ hC1.be (Nat.le_refl w.heap.size)
        obtain ⟨W2, hW2⟩ : ∃ W2, W2 = (put7 wz w.heap.size ⟨lb, cd, un, ln, 1, mn, 1⟩).drew := ⟨_, rfl⟩
        have k2 : W2.heap[w.heap.size]? = some (.cells #[.string lb, .int .i64 cd, .string un, .int .i64 ln, .int .i64 1, .int .i64 mn, .int .i64 1] 61 (0, 0)) := by rw [hW2]; exact blk_below k1 (below_drew (Below.refl _ _))
        have hB_ : Below w.heap.size w W2 := by rw [hW2]; exact below_drew kB
        rw [show (((((((((((((((wz).setCell ⟨w.heap.size, 0, none⟩ (.string lb))).setCell ⟨w.heap.size, 1, none⟩ (.int .i64 cd))).setCell ⟨w.heap.size, 2, none⟩ (.string un))).setCell ⟨w.heap.size, 3, none⟩ (.int .i64 ln))).setCell ⟨w.heap.size, 4, none⟩ (.int .i64 1))).setCell ⟨w.heap.size, 5, none⟩ (.int .i64 mn))).setCell ⟨w.heap.size, 6, none⟩ (.int .i64 1))).drew = W2 from hW2.symm]
        clear hW2 k1 kB hC1 hC2
        have s0 : W2.cell? ⟨w.heap.size, 0, none⟩ = some (.string lb) := blk_cell k2 0
        have s1 : W2.cell? ⟨w.heap.size, 1, none⟩ = some (.int .i64 cd) := blk_cell k2 1
        have s2 : W2.cell? ⟨w.heap.size, 2, none⟩ = some (.string un) := blk_cell k2 2
        have s3 : W2.cell? ⟨w.heap.size, 3, none⟩ = some (.int .i64 ln) := blk_cell k2 3
        have s4 : W2.cell? ⟨w.heap.size, 4, none⟩ = some (.int .i64 1) := blk_cell k2 4
        have s5 : W2.cell? ⟨w.heap.size, 5, none⟩ = some (.int .i64 mn) := blk_cell k2 5
        have s6 : W2.cell? ⟨w.heap.size, 6, none⟩ = some (.int .i64 1) := blk_cell k2 6
        go_wp2_with fail
        refine bodyPost_ret (by simp [results, Try.results35, go_sem, s0, s1, s2, s3, s4, s5, s6]; try rfl) rfl ?_
        rw [HF.out]
        exact ⟨rfl, hB_⟩
      · have ee : (lb.toList == lab.toList) = false := by simp [he]
        have hm := more_at (f := fun x : TRow => x.label.toList) hku HA.out he
        have HM := Lib.hid hm
        clear hm he
        rw [ee]
        go_wp2_with fail
        refine ⟨⟨k + 1, by omega, by simp, hR1, hC1, HM.out⟩, ?_⟩
        simp [intOf]
        omega
    · obtain rfl : k = 24 := by omega
      have hf : find lab = none := find_none (f := fun x : TRow => x.label.toList) (fun x hx => HA.out x (by rw [List.take_of_length_le (by decide)]; exact hx))
      have HF := Lib.hid hf
      clear hf
      have c0 : wr.cell? ⟨w.heap.size, 0, none⟩ = some (.string ⟨#[]⟩) := blk_cell hC.b1 0
      have cf0 : wr.frozen? ⟨w.heap.size, 0, none⟩ = false := blk_frozen hC.b1 0
      have c1 : wr.cell? ⟨w.heap.size, 1, none⟩ = some (.int .i64 0) := blk_cell hC.b1 1
      have cf1 : wr.frozen? ⟨w.heap.size, 1, none⟩ = false := blk_frozen hC.b1 1
      have c2 : wr.cell? ⟨w.heap.size, 2, none⟩ = some (.string ⟨#[]⟩) := blk_cell hC.b1 2
      have cf2 : wr.frozen? ⟨w.heap.size, 2, none⟩ = false := blk_frozen hC.b1 2
      have c3 : wr.cell? ⟨w.heap.size, 3, none⟩ = some (.int .i64 0) := blk_cell hC.b1 3
      have cf3 : wr.frozen? ⟨w.heap.size, 3, none⟩ = false := blk_frozen hC.b1 3
      have c4 : wr.cell? ⟨w.heap.size, 4, none⟩ = some (.int .i64 0) := blk_cell hC.b1 4
      have cf4 : wr.frozen? ⟨w.heap.size, 4, none⟩ = false := blk_frozen hC.b1 4
      have c5 : wr.cell? ⟨w.heap.size, 5, none⟩ = some (.int .i64 0) := blk_cell hC.b1 5
      have cf5 : wr.frozen? ⟨w.heap.size, 5, none⟩ = false := blk_frozen hC.b1 5
      have c6 : wr.cell? ⟨w.heap.size, 6, none⟩ = some (.int .i64 0) := blk_cell hC.b1 6
      have cf6 : wr.frozen? ⟨w.heap.size, 6, none⟩ = false := blk_frozen hC.b1 6
      have hx_ := hC.b1
      have d_0 : wr.cell? ⟨w.heap.size, 0, none⟩ = some (.string ⟨#[]⟩) := blk_cell hx_ 0
      have df_0 : wr.frozen? ⟨w.heap.size, 0, none⟩ = false := blk_frozen hx_ 0
      have d_1 : wr.cell? ⟨w.heap.size, 1, none⟩ = some (.int .i64 0) := blk_cell hx_ 1
      have df_1 : wr.frozen? ⟨w.heap.size, 1, none⟩ = false := blk_frozen hx_ 1
      have d_2 : wr.cell? ⟨w.heap.size, 2, none⟩ = some (.string ⟨#[]⟩) := blk_cell hx_ 2
      have df_2 : wr.frozen? ⟨w.heap.size, 2, none⟩ = false := blk_frozen hx_ 2
      have d_3 : wr.cell? ⟨w.heap.size, 3, none⟩ = some (.int .i64 0) := blk_cell hx_ 3
      have df_3 : wr.frozen? ⟨w.heap.size, 3, none⟩ = false := blk_frozen hx_ 3
      have d_4 : wr.cell? ⟨w.heap.size, 4, none⟩ = some (.int .i64 0) := blk_cell hx_ 4
      have df_4 : wr.frozen? ⟨w.heap.size, 4, none⟩ = false := blk_frozen hx_ 4
      have d_5 : wr.cell? ⟨w.heap.size, 5, none⟩ = some (.int .i64 0) := blk_cell hx_ 5
      have df_5 : wr.frozen? ⟨w.heap.size, 5, none⟩ = false := blk_frozen hx_ 5
      have d_6 : wr.cell? ⟨w.heap.size, 6, none⟩ = some (.int .i64 0) := blk_cell hx_ 6
      have df_6 : wr.frozen? ⟨w.heap.size, 6, none⟩ = false := blk_frozen hx_ 6
      go_wp2_with fail
      have k_ := (blk_set (blk_set (blk_set (blk_set (blk_set (blk_set (blk_set hx_ 0 (.string ⟨#[]⟩)) 1 (.int .i64 0)) 2 (.string ⟨#[]⟩)) 3 (.int .i64 0)) 4 (.int .i64 0)) 5 (.int .i64 0)) 6 (.int .i64 0))
      have hB_ := (Below.setCell (Below.setCell (Below.setCell (Below.setCell (Below.setCell (Below.setCell (Below.setCell hC.be (p := ⟨w.heap.size, 0, none⟩) ((Nat.le_refl _)) (.string ⟨#[]⟩)) (p := ⟨w.heap.size, 1, none⟩) ((Nat.le_refl _)) (.int .i64 0)) (p := ⟨w.heap.size, 2, none⟩) ((Nat.le_refl _)) (.string ⟨#[]⟩)) (p := ⟨w.heap.size, 3, none⟩) ((Nat.le_refl _)) (.int .i64 0)) (p := ⟨w.heap.size, 4, none⟩) ((Nat.le_refl _)) (.int .i64 0)) (p := ⟨w.heap.size, 5, none⟩) ((Nat.le_refl _)) (.int .i64 0)) (p := ⟨w.heap.size, 6, none⟩) ((Nat.le_refl _)) (.int .i64 0))
      obtain ⟨w_, hw_⟩ : ∃ w_, w_ = (World.setCell (World.setCell (World.setCell (World.setCell (World.setCell (World.setCell (World.setCell wr ⟨w.heap.size, 0, none⟩ (.string ⟨#[]⟩)) ⟨w.heap.size, 1, none⟩ (.int .i64 0)) ⟨w.heap.size, 2, none⟩ (.string ⟨#[]⟩)) ⟨w.heap.size, 3, none⟩ (.int .i64 0)) ⟨w.heap.size, 4, none⟩ (.int .i64 0)) ⟨w.heap.size, 5, none⟩ (.int .i64 0)) ⟨w.heap.size, 6, none⟩ (.int .i64 0)) := ⟨_, rfl⟩
      rw [← hw_] at k_ hB_
      try rw [← hw_]
      clear hw_
      have s_0 : w_.cell? ⟨w.heap.size, 0, none⟩ = some (.string ⟨#[]⟩) := blk_cell k_ 0
      have s_1 : w_.cell? ⟨w.heap.size, 1, none⟩ = some (.int .i64 0) := blk_cell k_ 1
      have s_2 : w_.cell? ⟨w.heap.size, 2, none⟩ = some (.string ⟨#[]⟩) := blk_cell k_ 2
      have s_3 : w_.cell? ⟨w.heap.size, 3, none⟩ = some (.int .i64 0) := blk_cell k_ 3
      have s_4 : w_.cell? ⟨w.heap.size, 4, none⟩ = some (.int .i64 0) := blk_cell k_ 4
      have s_5 : w_.cell? ⟨w.heap.size, 5, none⟩ = some (.int .i64 0) := blk_cell k_ 5
      have s_6 : w_.cell? ⟨w.heap.size, 6, none⟩ = some (.int .i64 0) := blk_cell k_ 6
      refine bodyPost_ret (by simp [results, Try.results35, go_sem, s_0, s_1, s_2, s_3, s_4, s_5, s_6]; try rfl) rfl ?_
      rw [HF.out]
      exact ⟨rfl, hB_⟩
theorem reffind20_calls (name : ByteArray) (w : World) :
    Calls Try.prog 35 #[.string name] w fun e w' => e = .returned (.tuple #[((tfind name).getD zrow).val, .bool (tfind name).isSome]) ∧ Below w.heap.size w w' := by
  rw [← tfind_label name]
  exact reffind_lab name (labelR name) (label_calls name) w
end Go.Proofs.Ytcldlfhnmkogeaa.Term

/- The law NomenInside, walked. -/
set_option linter.unusedVariables false
set_option linter.unusedSimpArgs false
namespace Go.Proofs.Ytcldlfhnmkogeaa.NomenInsideWalk
open Go.RowKit Go.Proofs.YtcldlfhnmkogeaaW.PrintWords Go.Proofs.YtcldlfhnmkogeaaW.PrintLast Go.Proofs.Ytcldlfhnmkogeaa.Nats Go.Proofs.Ytcldlfhnmkogeaa.HeapKit Go.Proofs.Ytcldlfhnmkogeaa.Term Go.Proofs.Ytcldlfhnmkogeaa.RatPlain

theorem of02_calls (n d : Int) (w : World) : Calls Try.prog 25 #[.agg #[.int .i64 n, .int .i64 d]] w fun e w' => e = .returned (.agg #[.int .i64 n, .int .i64 d]) ∧ Below w.heap.size w w' :=
  POf.lancetlaw02_Of.calls _ _ _ _ w rfl
theorem terms_in : ∀ x ∈ terms, x.ld = 1 ∧ x.md = 1 ∧ I64 x.ln ∧ I64 x.mn ∧ x.ln ≤ x.mn := by decide +kernel
theorem tfind_mem {s : ByteArray} {u : TRow} (h : tfind s = some u) : u ∈ terms := by
  unfold tfind at h
  split at h
  · exact List.mem_of_getElem? h
  · exact List.mem_of_find?_eq_some h
theorem rt_one (n : Int) : Rt n 1 := ⟨by decide, Int.gcd_one⟩
theorem inside_one {u : TRow} (hl : u.ld = 1) (hm : u.md = 1) (n : Int) : insideR u n 1 = decide (u.ln ≤ n ∧ n ≤ u.mn) := by
  unfold insideR
  rw [hl, hm, Bool.eq_iff_iff]
  simp [rt_one, -not_and]
/-- What is known ahead. -/
structure Known (s : ByteArray) (n d : Int) (ok r : Bool) (u : TRow) : Prop where
  fa : ∀ w, Calls Try.prog 34 #[.string s] w fun e w' => e = .returned (.tuple #[.agg #[.string u.label, .int .i64 u.code, .string u.unit, .int .i64 u.ln, .int .i64 u.ld, .int .i64 u.mn, .int .i64 u.md], .bool ok]) ∧ Below w.heap.size w w'
  fb : ∀ w, Calls Try.prog 35 #[.string s] w fun e w' => e = .returned (.tuple #[.agg #[.string u.label, .int .i64 u.code, .string u.unit, .int .i64 u.ln, .int .i64 u.ld, .int .i64 u.mn, .int .i64 u.md], .bool ok]) ∧ Below w.heap.size w w'
  ia : ok = true → ∀ w, Calls Try.prog 48 #[.agg #[.string u.label, .int .i64 u.code, .string u.unit, .int .i64 u.ln, .int .i64 u.ld, .int .i64 u.mn, .int .i64 u.md], .agg #[.int .i64 n, .int .i64 d]] w fun e w' => e = .returned (.bool r) ∧ Below w.heap.size w w'
  ib : ok = true → ∀ w, Calls Try.prog 49 #[.agg #[.string u.label, .int .i64 u.code, .string u.unit, .int .i64 u.ln, .int .i64 u.ld, .int .i64 u.mn, .int .i64 u.md], .agg #[.int .i64 n, .int .i64 d]] w fun e w' => e = .returned (.bool r) ∧ Below w.heap.size w w'
  ic : ok = true → ∀ w, Calls Try.prog 48 #[.agg #[.string u.label, .int .i64 u.code, .string u.unit, .int .i64 u.ln, .int .i64 u.ld, .int .i64 u.mn, .int .i64 u.md], .agg #[.int .i64 u.ln, .int .i64 u.ld]] w fun e w' => e = .returned (.bool true) ∧ Below w.heap.size w w'
  id : ok = true → ∀ w, Calls Try.prog 48 #[.agg #[.string u.label, .int .i64 u.code, .string u.unit, .int .i64 u.ln, .int .i64 u.ld, .int .i64 u.mn, .int .i64 u.md], .agg #[.int .i64 u.mn, .int .i64 u.md]] w fun e w' => e = .returned (.bool true) ∧ Below w.heap.size w w'
theorem known (s : ByteArray) {n d : Int} (hn : I64 n) (hd : I64 d) : ∃ ok r u, Known s n d ok r u := by
  have fa := fun w => find_calls s w
  have fb := fun w => reffind20_calls s w
  cases hu : tfind s with
  | none =>
    simp only [hu, TRow.val] at fa fb
    exact ⟨_, true, zrow, ⟨fa, fb, fun e => (by cases e), fun e => (by cases e), fun e => (by cases e), fun e => (by cases e)⟩⟩
  | some u =>
    simp only [hu, TRow.val] at fa fb
    obtain ⟨h1, h2, h3, h4, h5⟩ := terms_in u (tfind_mem hu)
    have i1 : I64 u.ld := by rw [h1]; decide
    have i2 : I64 u.md := by rw [h2]; decide
    refine ⟨_, insideR u n d, u, ⟨fa, fb, fun _ w => inside_calls u hn hd h3 i1 h4 i2 w, fun _ w => refinside_calls u hn hd h3 i1 h4 i2 (by rw [h1]; exact rt_one _) (by rw [h2]; exact rt_one _) w, fun _ w => ?_, fun _ w => ?_⟩⟩
    · have h := inside_calls u h3 i1 h3 i1 h4 i2 w
      have e : insideR u u.ln u.ld = true := by
        have := inside_one h1 h2 u.ln
        rw [← h1] at this
        rw [this]
        simp [h5]
      rw [e] at h
      exact h
    · have h := inside_calls u h4 i2 h3 i1 h4 i2 w
      have e : insideR u u.mn u.md = true := by
        have := inside_one h1 h2 u.mn
        rw [← h2] at this
        rw [this]
        simp [h5]
      rw [e] at h
      exact h
/-- The boxes. -/
structure Pl (w wx : World) (p5 p7 : Nat) (u : TRow) (n d : Int) : Prop where
  b1 : B1 w wx (.cells #[.int .i64 n, .int .i64 d] 23)
  k5 : wx.heap[p5]? = some (.cells #[.string u.label, .int .i64 u.code, .string u.unit, .int .i64 u.ln, .int .i64 u.ld, .int .i64 u.mn, .int .i64 u.md] 57 (0, 0))
  k7 : wx.heap[p7]? = some (.cells #[.string u.label, .int .i64 u.code, .string u.unit, .int .i64 u.ln, .int .i64 u.ld, .int .i64 u.mn, .int .i64 u.md] 61 (0, 0))
theorem Pl.step {w wx w2 : World} {p5 p7 : Nat} {u : TRow} {n d : Int} (h : Pl w wx p5 p7 u n d) (hb : Below wx.heap.size wx w2) : Pl w w2 p5 p7 u n d :=
  ⟨h.b1.step hb, blk_below h.k5 hb, blk_below h.k7 hb⟩
set_option maxRecDepth 100000 in
set_option maxHeartbeats 4000000 in
theorem walk (s : ByteArray) (n d : Int) (hn : I64 n) (hd : I64 d) (w : World) :
    Calls Try.prog 17 #[.string s, .agg #[.int .i64 n, .int .i64 d]] w fun e w' => e = .returned (.bool true) ∧ Below w.heap.size w w' := by
  obtain ⟨ok, r, u, hk⟩ := known s hn hd
  have HK := Lib.hid hk
  clear hk
  have hB := b1_start w (.cells #[.int .i64 n, .int .i64 d] 23)
  go_enter Try.func17, Try.ntmps17
  go_wp2_with fail
  refine (awake20 _).mono ?_
  rintro e w1 ⟨rfl, hb1⟩
  replace hB := hB.step hb1
  clear hb1
  by_cases q0 : ((s.size : Nat) : Int) > 60
  · have t0 : decide (((s.size : Nat) : Int) > 60) = true := decide_eq_true q0
    go_wp2_with fail
    refine (awake20 _).mono ?_
    rintro e w9 ⟨rfl, hb9⟩
    go_wp2_with fail
    go_ret
    exact ⟨rfl, bthen hB.be hb9⟩
  have t0 : decide (((s.size : Nat) : Int) > 60) = false := decide_eq_false q0
  clear q0
  go_wp2_with fail
  clear t0
  refine (HK.out.fa _).mono ?_
  rintro e w2 ⟨rfl, hb2⟩
  replace hB := (hB.step hb2).step (below_alloc (Below.refl _ _) (.cells #[.string u.label, .int .i64 u.code, .string u.unit, .int .i64 u.ln, .int .i64 u.ld, .int .i64 u.mn, .int .i64 u.md] 57))
  have k3 := blk_new w2 (.cells #[.string u.label, .int .i64 u.code, .string u.unit, .int .i64 u.ln, .int .i64 u.ld, .int .i64 u.mn, .int .i64 u.md] 57)
  clear hb2
  go_wp2_with fail
  refine (HK.out.fb _).mono ?_
  rintro e w3 ⟨rfl, hb3⟩
  have hP : Pl w (w3.alloc (.cells #[.string u.label, .int .i64 u.code, .string u.unit, .int .i64 u.ln, .int .i64 u.ld, .int .i64 u.mn, .int .i64 u.md] 61)) w2.heap.size w3.heap.size u n d := ⟨(hB.step hb3).step (below_alloc (Below.refl _ _) _), blk_alloc (blk_below k3 hb3) _, blk_new w3 _⟩
  clear hb3 hB k3
  cases ok with
  | false =>
    have hB := hP.b1.be
    go_wp2_with fail
    go_ret
    exact ⟨by simp, hB⟩
  | true =>
    have ha := HK.out.ia rfl
    have hb := HK.out.ib rfl
    have hc := HK.out.ic rfl
    have hd' := HK.out.id rfl
    have HA := Lib.hid ha
    have HB := Lib.hid hb
    have HC := Lib.hid hc
    have HD := Lib.hid hd'
    clear ha hb hc hd' HK
    obtain ⟨p5, hp5⟩ : ∃ p, p = w2.heap.size := ⟨_, rfl⟩
    obtain ⟨p7, hp7⟩ : ∃ p, p = w3.heap.size := ⟨_, rfl⟩
    rw [← hp5, ← hp7] at hP
    rw [← hp5]
    clear hp5
    go_wp2_with fail
    rw [← hp7]
    obtain ⟨w4, hw4⟩ : ∃ w4, w4 = w3.alloc (.cells #[.string u.label, .int .i64 u.code, .string u.unit, .int .i64 u.ln, .int .i64 u.ld, .int .i64 u.mn, .int .i64 u.md] 61) := ⟨_, rfl⟩
    rw [← hw4] at hP
    rw [← hw4]
    clear hp7 hw4
    refine start_ (n := 21) (S := fun wx => Pl w wx p5 p7 u n d) (ds := []) #[false, false, false, false, false, false, false, false, false, false, false, false, false, false, false, false, false, false, false, false, false] (by kernel_rfl) rfl rfl (hP.step (below_drew (Below.refl _ _))) (fun hHeld => ?_)
    refine take_ (i := 0) (N := some 36) (v := ?_) (a' := ?_) #[true, false, false, false, false, false, false, false, false, false, false, false, false, false, false, false, false, false, false, false, false] rfl rfl (by kernel_rfl) (fun _ _ _ h => h) (Or.inl ⟨by rfl, ?_⟩) hHeld ?_ ?_
    rotate_left
    · rintro w' hh
      have v0 : w'.cell? ⟨w.heap.size, 0, none⟩ = some (.int .i64 n) := blk_cell hh.b1.b1 0
      have v1 : w'.cell? ⟨w.heap.size, 1, none⟩ = some (.int .i64 d) := blk_cell hh.b1.b1 1
      have c0 : w'.cell? ⟨p5, 0, none⟩ = some (.string u.label) := blk_cell hh.k5 0
      have c1 : w'.cell? ⟨p5, 1, none⟩ = some (.int .i64 u.code) := blk_cell hh.k5 1
      have c2 : w'.cell? ⟨p5, 2, none⟩ = some (.string u.unit) := blk_cell hh.k5 2
      have c3 : w'.cell? ⟨p5, 3, none⟩ = some (.int .i64 u.ln) := blk_cell hh.k5 3
      have c4 : w'.cell? ⟨p5, 4, none⟩ = some (.int .i64 u.ld) := blk_cell hh.k5 4
      have c5 : w'.cell? ⟨p5, 5, none⟩ = some (.int .i64 u.mn) := blk_cell hh.k5 5
      have c6 : w'.cell? ⟨p5, 6, none⟩ = some (.int .i64 u.md) := blk_cell hh.k5 6
      have d0 : w'.cell? ⟨p7, 0, none⟩ = some (.string u.label) := blk_cell hh.k7 0
      have d1 : w'.cell? ⟨p7, 1, none⟩ = some (.int .i64 u.code) := blk_cell hh.k7 1
      have d2 : w'.cell? ⟨p7, 2, none⟩ = some (.string u.unit) := blk_cell hh.k7 2
      have d3 : w'.cell? ⟨p7, 3, none⟩ = some (.int .i64 u.ln) := blk_cell hh.k7 3
      have d4 : w'.cell? ⟨p7, 4, none⟩ = some (.int .i64 u.ld) := blk_cell hh.k7 4
      have d5 : w'.cell? ⟨p7, 5, none⟩ = some (.int .i64 u.mn) := blk_cell hh.k7 5
      have d6 : w'.cell? ⟨p7, 6, none⟩ = some (.int .i64 u.md) := blk_cell hh.k7 6
      go_simp
      with_reducible rfl
    rotate_left
    · simp only [Act.put, List.setIfInBounds_toArray, List.set_cons_zero, List.set_cons_succ, i64_w, i32_w]
      rfl
    refine take_ (i := 1) (N := some 37) (v := ?_) (a' := ?_) #[true, true, false, false, false, false, false, false, false, false, false, false, false, false, false, false, false, false, false, false, false] rfl rfl (by kernel_rfl) (fun _ _ _ h => h) (Or.inl ⟨by rfl, ?_⟩) hHeld ?_ ?_
    rotate_left
    · rintro w' hh
      have v0 : w'.cell? ⟨w.heap.size, 0, none⟩ = some (.int .i64 n) := blk_cell hh.b1.b1 0
      have v1 : w'.cell? ⟨w.heap.size, 1, none⟩ = some (.int .i64 d) := blk_cell hh.b1.b1 1
      have c0 : w'.cell? ⟨p5, 0, none⟩ = some (.string u.label) := blk_cell hh.k5 0
      have c1 : w'.cell? ⟨p5, 1, none⟩ = some (.int .i64 u.code) := blk_cell hh.k5 1
      have c2 : w'.cell? ⟨p5, 2, none⟩ = some (.string u.unit) := blk_cell hh.k5 2
      have c3 : w'.cell? ⟨p5, 3, none⟩ = some (.int .i64 u.ln) := blk_cell hh.k5 3
      have c4 : w'.cell? ⟨p5, 4, none⟩ = some (.int .i64 u.ld) := blk_cell hh.k5 4
      have c5 : w'.cell? ⟨p5, 5, none⟩ = some (.int .i64 u.mn) := blk_cell hh.k5 5
      have c6 : w'.cell? ⟨p5, 6, none⟩ = some (.int .i64 u.md) := blk_cell hh.k5 6
      have d0 : w'.cell? ⟨p7, 0, none⟩ = some (.string u.label) := blk_cell hh.k7 0
      have d1 : w'.cell? ⟨p7, 1, none⟩ = some (.int .i64 u.code) := blk_cell hh.k7 1
      have d2 : w'.cell? ⟨p7, 2, none⟩ = some (.string u.unit) := blk_cell hh.k7 2
      have d3 : w'.cell? ⟨p7, 3, none⟩ = some (.int .i64 u.ln) := blk_cell hh.k7 3
      have d4 : w'.cell? ⟨p7, 4, none⟩ = some (.int .i64 u.ld) := blk_cell hh.k7 4
      have d5 : w'.cell? ⟨p7, 5, none⟩ = some (.int .i64 u.mn) := blk_cell hh.k7 5
      have d6 : w'.cell? ⟨p7, 6, none⟩ = some (.int .i64 u.md) := blk_cell hh.k7 6
      go_simp
      with_reducible rfl
    rotate_left
    · simp only [Act.put, List.setIfInBounds_toArray, List.set_cons_zero, List.set_cons_succ, i64_w, i32_w]
      rfl
    refine take_ (i := 4) (N := some 40) (v := ?_) (a' := ?_) #[true, true, false, false, true, false, false, false, false, false, false, false, false, false, false, false, false, false, false, false, false] rfl rfl (by kernel_rfl) (fun _ _ _ h => h) (Or.inl ⟨by rfl, ?_⟩) hHeld ?_ ?_
    rotate_left
    · rintro w' hh
      have v0 : w'.cell? ⟨w.heap.size, 0, none⟩ = some (.int .i64 n) := blk_cell hh.b1.b1 0
      have v1 : w'.cell? ⟨w.heap.size, 1, none⟩ = some (.int .i64 d) := blk_cell hh.b1.b1 1
      have c0 : w'.cell? ⟨p5, 0, none⟩ = some (.string u.label) := blk_cell hh.k5 0
      have c1 : w'.cell? ⟨p5, 1, none⟩ = some (.int .i64 u.code) := blk_cell hh.k5 1
      have c2 : w'.cell? ⟨p5, 2, none⟩ = some (.string u.unit) := blk_cell hh.k5 2
      have c3 : w'.cell? ⟨p5, 3, none⟩ = some (.int .i64 u.ln) := blk_cell hh.k5 3
      have c4 : w'.cell? ⟨p5, 4, none⟩ = some (.int .i64 u.ld) := blk_cell hh.k5 4
      have c5 : w'.cell? ⟨p5, 5, none⟩ = some (.int .i64 u.mn) := blk_cell hh.k5 5
      have c6 : w'.cell? ⟨p5, 6, none⟩ = some (.int .i64 u.md) := blk_cell hh.k5 6
      have d0 : w'.cell? ⟨p7, 0, none⟩ = some (.string u.label) := blk_cell hh.k7 0
      have d1 : w'.cell? ⟨p7, 1, none⟩ = some (.int .i64 u.code) := blk_cell hh.k7 1
      have d2 : w'.cell? ⟨p7, 2, none⟩ = some (.string u.unit) := blk_cell hh.k7 2
      have d3 : w'.cell? ⟨p7, 3, none⟩ = some (.int .i64 u.ln) := blk_cell hh.k7 3
      have d4 : w'.cell? ⟨p7, 4, none⟩ = some (.int .i64 u.ld) := blk_cell hh.k7 4
      have d5 : w'.cell? ⟨p7, 5, none⟩ = some (.int .i64 u.mn) := blk_cell hh.k7 5
      have d6 : w'.cell? ⟨p7, 6, none⟩ = some (.int .i64 u.md) := blk_cell hh.k7 6
      go_simp
      with_reducible rfl
    rotate_left
    · simp only [Act.put, List.setIfInBounds_toArray, List.set_cons_zero, List.set_cons_succ, i64_w, i32_w]
      rfl
    refine take_ (i := 5) (N := some 41) (v := ?_) (a' := ?_) #[true, true, false, false, true, true, false, false, false, false, false, false, false, false, false, false, false, false, false, false, false] rfl rfl (by kernel_rfl) (fun _ _ _ h => h) (Or.inl ⟨by rfl, ?_⟩) hHeld ?_ ?_
    rotate_left
    · rintro w' hh
      have v0 : w'.cell? ⟨w.heap.size, 0, none⟩ = some (.int .i64 n) := blk_cell hh.b1.b1 0
      have v1 : w'.cell? ⟨w.heap.size, 1, none⟩ = some (.int .i64 d) := blk_cell hh.b1.b1 1
      have c0 : w'.cell? ⟨p5, 0, none⟩ = some (.string u.label) := blk_cell hh.k5 0
      have c1 : w'.cell? ⟨p5, 1, none⟩ = some (.int .i64 u.code) := blk_cell hh.k5 1
      have c2 : w'.cell? ⟨p5, 2, none⟩ = some (.string u.unit) := blk_cell hh.k5 2
      have c3 : w'.cell? ⟨p5, 3, none⟩ = some (.int .i64 u.ln) := blk_cell hh.k5 3
      have c4 : w'.cell? ⟨p5, 4, none⟩ = some (.int .i64 u.ld) := blk_cell hh.k5 4
      have c5 : w'.cell? ⟨p5, 5, none⟩ = some (.int .i64 u.mn) := blk_cell hh.k5 5
      have c6 : w'.cell? ⟨p5, 6, none⟩ = some (.int .i64 u.md) := blk_cell hh.k5 6
      have d0 : w'.cell? ⟨p7, 0, none⟩ = some (.string u.label) := blk_cell hh.k7 0
      have d1 : w'.cell? ⟨p7, 1, none⟩ = some (.int .i64 u.code) := blk_cell hh.k7 1
      have d2 : w'.cell? ⟨p7, 2, none⟩ = some (.string u.unit) := blk_cell hh.k7 2
      have d3 : w'.cell? ⟨p7, 3, none⟩ = some (.int .i64 u.ln) := blk_cell hh.k7 3
      have d4 : w'.cell? ⟨p7, 4, none⟩ = some (.int .i64 u.ld) := blk_cell hh.k7 4
      have d5 : w'.cell? ⟨p7, 5, none⟩ = some (.int .i64 u.mn) := blk_cell hh.k7 5
      have d6 : w'.cell? ⟨p7, 6, none⟩ = some (.int .i64 u.md) := blk_cell hh.k7 6
      go_simp
      with_reducible rfl
    rotate_left
    · simp only [Act.put, List.setIfInBounds_toArray, List.set_cons_zero, List.set_cons_succ, i64_w, i32_w]
      rfl
    refine one_ (i := 2) (N := some 38) #[true, true, true, false, true, true, false, false, false, false, false, false, false, false, false, false, false, false, false, false, false] rfl rfl (by kernel_rfl) (by decide) (fun K hK => ?_)
    refine goes_ Try.func25 (by kernel_rfl) rfl #[.agg #[.int .i64 n, .int .i64 d]] (by rfl) rfl rfl (by (try simp only [List.map_toArray, List.map_cons, List.map_nil]); first | done | rfl) ?_
    refine (of02_calls n d _).mono ?_
    rintro e wz ⟨rfl, hb_⟩
    refine ⟨_, rfl, ?_⟩
    refine hK.out _ _ (hHeld.step hb_) (fun hHeld => ?_)
    clear hK K
    refine norm_ (a' := ?_) ?_ ?_
    rotate_left
    · show Act.put _ (some 38) _ = _
      simp only [Act.put, List.setIfInBounds_toArray, List.set_cons_zero, List.set_cons_succ, i64_w, i32_w]
      rfl
    refine one_ (i := 3) (N := some 39) #[true, true, true, true, true, true, false, false, false, false, false, false, false, false, false, false, false, false, false, false, false] rfl rfl (by kernel_rfl) (by decide) (fun K hK => ?_)
    refine goes_ Try.func48 (by kernel_rfl) rfl #[.agg #[.string u.label, .int .i64 u.code, .string u.unit, .int .i64 u.ln, .int .i64 u.ld, .int .i64 u.mn, .int .i64 u.md], .agg #[.int .i64 n, .int .i64 d]] (by rfl) rfl rfl (by (try simp only [List.map_toArray, List.map_cons, List.map_nil]); first | done | rfl) ?_
    refine (HA.out _).mono ?_
    rintro e wz ⟨rfl, hb_⟩
    refine ⟨_, rfl, ?_⟩
    refine hK.out _ _ (hHeld.step hb_) (fun hHeld => ?_)
    clear hK K
    refine norm_ (a' := ?_) ?_ ?_
    rotate_left
    · show Act.put _ (some 39) _ = _
      simp only [Act.put, List.setIfInBounds_toArray, List.set_cons_zero, List.set_cons_succ, i64_w, i32_w]
      rfl
    refine one_ (i := 6) (N := some 42) #[true, true, true, true, true, true, true, false, false, false, false, false, false, false, false, false, false, false, false, false, false] rfl rfl (by kernel_rfl) (by decide) (fun K hK => ?_)
    refine goes_ Try.func49 (by kernel_rfl) rfl #[.agg #[.string u.label, .int .i64 u.code, .string u.unit, .int .i64 u.ln, .int .i64 u.ld, .int .i64 u.mn, .int .i64 u.md], .agg #[.int .i64 n, .int .i64 d]] (by rfl) rfl rfl (by (try simp only [List.map_toArray, List.map_cons, List.map_nil]); first | done | rfl) ?_
    refine (HB.out _).mono ?_
    rintro e wz ⟨rfl, hb_⟩
    refine ⟨_, rfl, ?_⟩
    refine hK.out _ _ (hHeld.step hb_) (fun hHeld => ?_)
    clear hK K
    refine norm_ (a' := ?_) ?_ ?_
    rotate_left
    · show Act.put _ (some 42) _ = _
      simp only [Act.put, List.setIfInBounds_toArray, List.set_cons_zero, List.set_cons_succ, i64_w, i32_w]
      rfl
    refine pure_ (i := 7) (N := some 43) (v := ?_) (a' := ?_) #[true, true, true, true, true, true, true, true, false, false, false, false, false, false, false, false, false, false, false, false, false] rfl rfl (by kernel_rfl) (fun _ _ _ h => h) (Or.inl ⟨by rfl, ?_⟩) ?_ ?_
    rotate_left
    · intro w'
      go_simp
      try with_reducible rfl
    rotate_left
    · simp only [Act.put, List.setIfInBounds_toArray, List.set_cons_zero, List.set_cons_succ, i64_w, i32_w]
      rfl
    refine pure_ (i := 8) (N := some 44) (v := ?_) (a' := ?_) #[true, true, true, true, true, true, true, true, true, false, false, false, false, false, false, false, false, false, false, false, false] rfl rfl (by kernel_rfl) (fun _ _ _ h => h) (Or.inl ⟨by rfl, ?_⟩) ?_ ?_
    rotate_left
    · intro w'
      go_simp
      try with_reducible rfl
    rotate_left
    · simp only [Act.put, List.setIfInBounds_toArray, List.set_cons_zero, List.set_cons_succ, i64_w, i32_w]
      rfl
    refine take_ (i := 9) (N := some 45) (v := ?_) (a' := ?_) #[true, true, true, true, true, true, true, true, true, true, false, false, false, false, false, false, false, false, false, false, false] rfl rfl (by kernel_rfl) (fun _ _ _ h => h) (Or.inl ⟨by rfl, ?_⟩) hHeld ?_ ?_
    rotate_left
    · rintro w' hh
      have v0 : w'.cell? ⟨w.heap.size, 0, none⟩ = some (.int .i64 n) := blk_cell hh.b1.b1 0
      have v1 : w'.cell? ⟨w.heap.size, 1, none⟩ = some (.int .i64 d) := blk_cell hh.b1.b1 1
      have c0 : w'.cell? ⟨p5, 0, none⟩ = some (.string u.label) := blk_cell hh.k5 0
      have c1 : w'.cell? ⟨p5, 1, none⟩ = some (.int .i64 u.code) := blk_cell hh.k5 1
      have c2 : w'.cell? ⟨p5, 2, none⟩ = some (.string u.unit) := blk_cell hh.k5 2
      have c3 : w'.cell? ⟨p5, 3, none⟩ = some (.int .i64 u.ln) := blk_cell hh.k5 3
      have c4 : w'.cell? ⟨p5, 4, none⟩ = some (.int .i64 u.ld) := blk_cell hh.k5 4
      have c5 : w'.cell? ⟨p5, 5, none⟩ = some (.int .i64 u.mn) := blk_cell hh.k5 5
      have c6 : w'.cell? ⟨p5, 6, none⟩ = some (.int .i64 u.md) := blk_cell hh.k5 6
      have d0 : w'.cell? ⟨p7, 0, none⟩ = some (.string u.label) := blk_cell hh.k7 0
      have d1 : w'.cell? ⟨p7, 1, none⟩ = some (.int .i64 u.code) := blk_cell hh.k7 1
      have d2 : w'.cell? ⟨p7, 2, none⟩ = some (.string u.unit) := blk_cell hh.k7 2
      have d3 : w'.cell? ⟨p7, 3, none⟩ = some (.int .i64 u.ln) := blk_cell hh.k7 3
      have d4 : w'.cell? ⟨p7, 4, none⟩ = some (.int .i64 u.ld) := blk_cell hh.k7 4
      have d5 : w'.cell? ⟨p7, 5, none⟩ = some (.int .i64 u.mn) := blk_cell hh.k7 5
      have d6 : w'.cell? ⟨p7, 6, none⟩ = some (.int .i64 u.md) := blk_cell hh.k7 6
      go_simp
      with_reducible rfl
    rotate_left
    · simp only [Act.put, List.setIfInBounds_toArray, List.set_cons_zero, List.set_cons_succ, i64_w, i32_w]
      rfl
    refine pure_ (i := 10) (N := some 46) (v := ?_) (a' := ?_) #[true, true, true, true, true, true, true, true, true, true, true, false, false, false, false, false, false, false, false, false, false] rfl rfl (by kernel_rfl) (fun _ _ _ h => h) (Or.inl ⟨by rfl, ?_⟩) ?_ ?_
    rotate_left
    · intro w'
      go_simp
      try with_reducible rfl
    rotate_left
    · simp only [Act.put, List.setIfInBounds_toArray, List.set_cons_zero, List.set_cons_succ, i64_w, i32_w]
      rfl
    refine take_ (i := 11) (N := some 47) (v := ?_) (a' := ?_) #[true, true, true, true, true, true, true, true, true, true, true, true, false, false, false, false, false, false, false, false, false] rfl rfl (by kernel_rfl) (fun _ _ _ h => h) (Or.inl ⟨by rfl, ?_⟩) hHeld ?_ ?_
    rotate_left
    · rintro w' hh
      have v0 : w'.cell? ⟨w.heap.size, 0, none⟩ = some (.int .i64 n) := blk_cell hh.b1.b1 0
      have v1 : w'.cell? ⟨w.heap.size, 1, none⟩ = some (.int .i64 d) := blk_cell hh.b1.b1 1
      have c0 : w'.cell? ⟨p5, 0, none⟩ = some (.string u.label) := blk_cell hh.k5 0
      have c1 : w'.cell? ⟨p5, 1, none⟩ = some (.int .i64 u.code) := blk_cell hh.k5 1
      have c2 : w'.cell? ⟨p5, 2, none⟩ = some (.string u.unit) := blk_cell hh.k5 2
      have c3 : w'.cell? ⟨p5, 3, none⟩ = some (.int .i64 u.ln) := blk_cell hh.k5 3
      have c4 : w'.cell? ⟨p5, 4, none⟩ = some (.int .i64 u.ld) := blk_cell hh.k5 4
      have c5 : w'.cell? ⟨p5, 5, none⟩ = some (.int .i64 u.mn) := blk_cell hh.k5 5
      have c6 : w'.cell? ⟨p5, 6, none⟩ = some (.int .i64 u.md) := blk_cell hh.k5 6
      have d0 : w'.cell? ⟨p7, 0, none⟩ = some (.string u.label) := blk_cell hh.k7 0
      have d1 : w'.cell? ⟨p7, 1, none⟩ = some (.int .i64 u.code) := blk_cell hh.k7 1
      have d2 : w'.cell? ⟨p7, 2, none⟩ = some (.string u.unit) := blk_cell hh.k7 2
      have d3 : w'.cell? ⟨p7, 3, none⟩ = some (.int .i64 u.ln) := blk_cell hh.k7 3
      have d4 : w'.cell? ⟨p7, 4, none⟩ = some (.int .i64 u.ld) := blk_cell hh.k7 4
      have d5 : w'.cell? ⟨p7, 5, none⟩ = some (.int .i64 u.mn) := blk_cell hh.k7 5
      have d6 : w'.cell? ⟨p7, 6, none⟩ = some (.int .i64 u.md) := blk_cell hh.k7 6
      go_simp
      with_reducible rfl
    rotate_left
    · simp only [Act.put, List.setIfInBounds_toArray, List.set_cons_zero, List.set_cons_succ, i64_w, i32_w]
      rfl
    refine one_ (i := 12) (N := some 48) #[true, true, true, true, true, true, true, true, true, true, true, true, true, false, false, false, false, false, false, false, false] rfl rfl (by kernel_rfl) (by decide) (fun K hK => ?_)
    refine goes_ Try.func48 (by kernel_rfl) rfl #[.agg #[.string u.label, .int .i64 u.code, .string u.unit, .int .i64 u.ln, .int .i64 u.ld, .int .i64 u.mn, .int .i64 u.md], .agg #[.int .i64 u.ln, .int .i64 u.ld]] (by rfl) rfl rfl (by (try simp only [List.map_toArray, List.map_cons, List.map_nil]); first | done | rfl) ?_
    refine (HC.out _).mono ?_
    rintro e wz ⟨rfl, hb_⟩
    refine ⟨_, rfl, ?_⟩
    refine hK.out _ _ (hHeld.step hb_) (fun hHeld => ?_)
    clear hK K
    refine norm_ (a' := ?_) ?_ ?_
    rotate_left
    · show Act.put _ (some 48) _ = _
      simp only [Act.put, List.setIfInBounds_toArray, List.set_cons_zero, List.set_cons_succ, i64_w, i32_w]
      rfl
    refine pure_ (i := 13) (N := some 49) (v := ?_) (a' := ?_) #[true, true, true, true, true, true, true, true, true, true, true, true, true, true, false, false, false, false, false, false, false] rfl rfl (by kernel_rfl) (fun _ _ _ h => h) (Or.inl ⟨by rfl, ?_⟩) ?_ ?_
    rotate_left
    · intro w'
      go_simp
      try with_reducible rfl
    rotate_left
    · simp only [Act.put, List.setIfInBounds_toArray, List.set_cons_zero, List.set_cons_succ, i64_w, i32_w]
      rfl
    refine pure_ (i := 14) (N := some 50) (v := ?_) (a' := ?_) #[true, true, true, true, true, true, true, true, true, true, true, true, true, true, true, false, false, false, false, false, false] rfl rfl (by kernel_rfl) (fun _ _ _ h => h) (Or.inl ⟨by rfl, ?_⟩) ?_ ?_
    rotate_left
    · intro w'
      go_simp
      try with_reducible rfl
    rotate_left
    · simp only [Act.put, List.setIfInBounds_toArray, List.set_cons_zero, List.set_cons_succ, i64_w, i32_w]
      rfl
    refine take_ (i := 15) (N := some 51) (v := ?_) (a' := ?_) #[true, true, true, true, true, true, true, true, true, true, true, true, true, true, true, true, false, false, false, false, false] rfl rfl (by kernel_rfl) (fun _ _ _ h => h) (Or.inl ⟨by rfl, ?_⟩) hHeld ?_ ?_
    rotate_left
    · rintro w' hh
      have v0 : w'.cell? ⟨w.heap.size, 0, none⟩ = some (.int .i64 n) := blk_cell hh.b1.b1 0
      have v1 : w'.cell? ⟨w.heap.size, 1, none⟩ = some (.int .i64 d) := blk_cell hh.b1.b1 1
      have c0 : w'.cell? ⟨p5, 0, none⟩ = some (.string u.label) := blk_cell hh.k5 0
      have c1 : w'.cell? ⟨p5, 1, none⟩ = some (.int .i64 u.code) := blk_cell hh.k5 1
      have c2 : w'.cell? ⟨p5, 2, none⟩ = some (.string u.unit) := blk_cell hh.k5 2
      have c3 : w'.cell? ⟨p5, 3, none⟩ = some (.int .i64 u.ln) := blk_cell hh.k5 3
      have c4 : w'.cell? ⟨p5, 4, none⟩ = some (.int .i64 u.ld) := blk_cell hh.k5 4
      have c5 : w'.cell? ⟨p5, 5, none⟩ = some (.int .i64 u.mn) := blk_cell hh.k5 5
      have c6 : w'.cell? ⟨p5, 6, none⟩ = some (.int .i64 u.md) := blk_cell hh.k5 6
      have d0 : w'.cell? ⟨p7, 0, none⟩ = some (.string u.label) := blk_cell hh.k7 0
      have d1 : w'.cell? ⟨p7, 1, none⟩ = some (.int .i64 u.code) := blk_cell hh.k7 1
      have d2 : w'.cell? ⟨p7, 2, none⟩ = some (.string u.unit) := blk_cell hh.k7 2
      have d3 : w'.cell? ⟨p7, 3, none⟩ = some (.int .i64 u.ln) := blk_cell hh.k7 3
      have d4 : w'.cell? ⟨p7, 4, none⟩ = some (.int .i64 u.ld) := blk_cell hh.k7 4
      have d5 : w'.cell? ⟨p7, 5, none⟩ = some (.int .i64 u.mn) := blk_cell hh.k7 5
      have d6 : w'.cell? ⟨p7, 6, none⟩ = some (.int .i64 u.md) := blk_cell hh.k7 6
      go_simp
      with_reducible rfl
    rotate_left
    · simp only [Act.put, List.setIfInBounds_toArray, List.set_cons_zero, List.set_cons_succ, i64_w, i32_w]
      rfl
    refine pure_ (i := 16) (N := some 52) (v := ?_) (a' := ?_) #[true, true, true, true, true, true, true, true, true, true, true, true, true, true, true, true, true, false, false, false, false] rfl rfl (by kernel_rfl) (fun _ _ _ h => h) (Or.inl ⟨by rfl, ?_⟩) ?_ ?_
    rotate_left
    · intro w'
      go_simp
      try with_reducible rfl
    rotate_left
    · simp only [Act.put, List.setIfInBounds_toArray, List.set_cons_zero, List.set_cons_succ, i64_w, i32_w]
      rfl
    refine take_ (i := 17) (N := some 53) (v := ?_) (a' := ?_) #[true, true, true, true, true, true, true, true, true, true, true, true, true, true, true, true, true, true, false, false, false] rfl rfl (by kernel_rfl) (fun _ _ _ h => h) (Or.inl ⟨by rfl, ?_⟩) hHeld ?_ ?_
    rotate_left
    · rintro w' hh
      have v0 : w'.cell? ⟨w.heap.size, 0, none⟩ = some (.int .i64 n) := blk_cell hh.b1.b1 0
      have v1 : w'.cell? ⟨w.heap.size, 1, none⟩ = some (.int .i64 d) := blk_cell hh.b1.b1 1
      have c0 : w'.cell? ⟨p5, 0, none⟩ = some (.string u.label) := blk_cell hh.k5 0
      have c1 : w'.cell? ⟨p5, 1, none⟩ = some (.int .i64 u.code) := blk_cell hh.k5 1
      have c2 : w'.cell? ⟨p5, 2, none⟩ = some (.string u.unit) := blk_cell hh.k5 2
      have c3 : w'.cell? ⟨p5, 3, none⟩ = some (.int .i64 u.ln) := blk_cell hh.k5 3
      have c4 : w'.cell? ⟨p5, 4, none⟩ = some (.int .i64 u.ld) := blk_cell hh.k5 4
      have c5 : w'.cell? ⟨p5, 5, none⟩ = some (.int .i64 u.mn) := blk_cell hh.k5 5
      have c6 : w'.cell? ⟨p5, 6, none⟩ = some (.int .i64 u.md) := blk_cell hh.k5 6
      have d0 : w'.cell? ⟨p7, 0, none⟩ = some (.string u.label) := blk_cell hh.k7 0
      have d1 : w'.cell? ⟨p7, 1, none⟩ = some (.int .i64 u.code) := blk_cell hh.k7 1
      have d2 : w'.cell? ⟨p7, 2, none⟩ = some (.string u.unit) := blk_cell hh.k7 2
      have d3 : w'.cell? ⟨p7, 3, none⟩ = some (.int .i64 u.ln) := blk_cell hh.k7 3
      have d4 : w'.cell? ⟨p7, 4, none⟩ = some (.int .i64 u.ld) := blk_cell hh.k7 4
      have d5 : w'.cell? ⟨p7, 5, none⟩ = some (.int .i64 u.mn) := blk_cell hh.k7 5
      have d6 : w'.cell? ⟨p7, 6, none⟩ = some (.int .i64 u.md) := blk_cell hh.k7 6
      go_simp
      with_reducible rfl
    rotate_left
    · simp only [Act.put, List.setIfInBounds_toArray, List.set_cons_zero, List.set_cons_succ, i64_w, i32_w]
      rfl
    refine one_ (i := 18) (N := some 54) #[true, true, true, true, true, true, true, true, true, true, true, true, true, true, true, true, true, true, true, false, false] rfl rfl (by kernel_rfl) (by decide) (fun K hK => ?_)
    refine goes_ Try.func48 (by kernel_rfl) rfl #[.agg #[.string u.label, .int .i64 u.code, .string u.unit, .int .i64 u.ln, .int .i64 u.ld, .int .i64 u.mn, .int .i64 u.md], .agg #[.int .i64 u.mn, .int .i64 u.md]] (by rfl) rfl rfl (by (try simp only [List.map_toArray, List.map_cons, List.map_nil]); first | done | rfl) ?_
    refine (HD.out _).mono ?_
    rintro e wz ⟨rfl, hb_⟩
    refine ⟨_, rfl, ?_⟩
    refine hK.out _ _ (hHeld.step hb_) (fun hHeld => ?_)
    clear hK K
    refine norm_ (a' := ?_) ?_ ?_
    rotate_left
    · show Act.put _ (some 54) _ = _
      simp only [Act.put, List.setIfInBounds_toArray, List.set_cons_zero, List.set_cons_succ, i64_w, i32_w]
      rfl
    refine pure_ (i := 19) (N := some 55) (v := ?_) (a' := ?_) #[true, true, true, true, true, true, true, true, true, true, true, true, true, true, true, true, true, true, true, true, false] rfl rfl (by kernel_rfl) (fun _ _ _ h => h) (Or.inl ⟨by rfl, ?_⟩) ?_ ?_
    rotate_left
    · intro w'
      go_simp
      try with_reducible rfl
    rotate_left
    · simp only [Act.put, List.setIfInBounds_toArray, List.set_cons_zero, List.set_cons_succ, i64_w, i32_w]
      rfl
    refine pure_ (i := 20) (N := some 4) (v := ?_) (a' := ?_) #[true, true, true, true, true, true, true, true, true, true, true, true, true, true, true, true, true, true, true, true, true] rfl rfl (by kernel_rfl) (fun _ _ _ h => h) (Or.inl ⟨by rfl, ?_⟩) ?_ ?_
    rotate_left
    · intro w'
      go_simp
      try with_reducible rfl
    rotate_left
    · simp only [Act.put, List.setIfInBounds_toArray, List.set_cons_zero, List.set_cons_succ, i64_w, i32_w]
      rfl
    refine done_ (by kernel_rfl) ?_
    have hB := hHeld.b1.be
    clear hHeld hP
    go_wp2_with fail
    go_ret
    exact ⟨by simp, hB⟩
end Go.Proofs.Ytcldlfhnmkogeaa.NomenInsideWalk

