import Derived.Test.YtcldlfhnmkogeaaSumsBase
import Derived.LoopTactic
import Derived.Test.YtcldlfhnmkogeaaTermBase
/- The code of what has no term (nomen.Private), walked. -/
set_option linter.unusedVariables false
set_option linter.unusedSimpArgs false
namespace Go.Proofs.Ytcldlfhnmkogeaa.Term
open Go.RowKit Go.Proofs.YtcldlfhnmkogeaaW.PrintWords Go.Proofs.YtcldlfhnmkogeaaW.PrintLast Go.Proofs.Ytcldlfhnmkogeaa.Nats Go.Proofs.Ytcldlfhnmkogeaa.HeapKit Go.Proofs.Ytcldlfhnmkogeaa.Sums Go.Proofs.Ytcldlfhnmkogeaa.CrcCalls

/-- A text's bytes. -/
def bytesL (s : ByteArray) : List Nat := s.data.toList.map fun b => b.toNat
theorem bytesL_length (s : ByteArray) : (bytesL s).length = s.size := by rw [bytesL, List.length_map]; exact data_length s
theorem bytesL_lt (s : ByteArray) : ∀ x ∈ bytesL s, x < 256 := by
  intro x hx
  obtain ⟨b, _, rfl⟩ := List.mem_map.1 hx
  exact b.toNat_lt
theorem C_bytes (W : World) (e : TypeId) (s : ByteArray) (hs : s.size ≤ 9223372036854775807) : Kd.C (Kd.int .u8) (Lib.bytesWorld W e s) (some ⟨W.heap.size, 0, none⟩) s.size (ints (bytesL s)) := by
  refine ⟨by rw [ints_length, bytesL_length], hs, fun _ => ⟨_, rfl, fun j p hp => ⟨[.int .u8 p], rfl, rfl, fun i u hu => ?_⟩⟩⟩
  have hj : j < (ints (bytesL s)).length := (List.getElem?_eq_some_iff.1 hp).1
  rw [ints_length, bytesL_length] at hj
  cases i with
  | zero =>
    simp at hu
    subst hu
    show (Lib.bytesWorld W e s).cell? (Addr.add ⟨W.heap.size, 0, none⟩ (j * 1 + 0)) = _
    rw [show Addr.add ⟨W.heap.size, 0, none⟩ (j * 1 + 0) = ⟨W.heap.size, j, none⟩ from by unfold Addr.add; split <;> simp_all, Lib.bytesWorld_cell W e s j hj]
    have h' : j < s.data.toList.length := by rw [data_length]; exact hj
    simp only [ints, bytesL, List.map_map, List.getElem?_map, List.getElem?_eq_getElem h', Option.map_some, Option.some.injEq, Function.comp] at hp
    rw [List.getD_eq_getElem?_getD, List.getElem?_eq_getElem h', Option.getD_some, ← hp]
  | succ i => simp at hu
theorem i64_or {a b : Nat} (ha : a < 256) (hb : b < 256) : Go.bits .or .i64 ((a : Int) * 256) (b : Int) = (a : Int) * 256 + (b : Int) := by
  have e : (a : Int) * 256 = ((a * 256 : Nat) : Int) := by omega
  have ho := Nat.shiftLeft_add_eq_or_of_lt (i := 8) (show b < 2 ^ 8 from hb) a
  rw [Nat.shiftLeft_eq] at ho
  rw [e]
  show IntKind.i64.wrap ((BitVec.ofInt 64 ((a * 256 : Nat) : Int) ||| BitVec.ofInt 64 (b : Int)).toNat : Int) = _
  rw [BitVec.toNat_or, BitVec.ofInt_natCast, BitVec.ofInt_natCast, BitVec.toNat_ofNat, BitVec.toNat_ofNat, Nat.mod_eq_of_lt (by omega), Nat.mod_eq_of_lt (by omega), ← ho, IntKind.wrap_i64]
  omega
theorem w64 {n : Int} (h : 0 ≤ n ∧ n < 16777216) : wrap64 n = n := by unfold wrap64; omega
theorem arith {hi lo : Nat} (h1 : hi < 256) (h2 : lo < 256) : (0 ≤ (hi : Int) ∧ (hi : Int) < 256) ∧ (0 ≤ (lo : Int) ∧ (lo : Int) < 256) ∧ (0 ≤ (hi : Int) * 256 + (lo : Int) ∧ (hi : Int) * 256 + (lo : Int) < 65536) ∧ (0 ≤ (((hi * 256 + lo) % 4096 : Nat) : Int) ∧ (((hi * 256 + lo) % 4096 : Nat) : Int) < 4096) ∧
    Go.bits .or .i64 ((hi : Int) * 256) (lo : Int) = (hi : Int) * 256 + (lo : Int) ∧ Go.bits .or .i64 0 (hi : Int) = (hi : Int) ∧ ((hi : Int) * 256 + (lo : Int)).tmod 4096 = (((hi * 256 + lo) % 4096 : Nat) : Int) := by
  refine ⟨⟨Int.natCast_nonneg _, Int.ofNat_lt.2 h1⟩, ⟨Int.natCast_nonneg _, Int.ofNat_lt.2 h2⟩, by omega, by omega, i64_or h1 h2, by simpa using i64_or (a := 0) (by decide) h1, ?_⟩
  rw [Int.tmod_eq_emod_of_nonneg (by omega)]
  omega
/-- The code of what has no term. -/
def privR (s : ByteArray) : Int := 61440 + ((CrcPlain.sum 16 32773 0 true 0 (bytesL s) % 4096 : Nat) : Int)
def RelV (w2 : World) (H X : Int) (s5 s18 : Value) (wr : World) : Prop := wr = w2 ∧ ((s18 = .int .i64 0 ∧ s5 = .int .i64 0) ∨ (s18 = .int .i64 1 ∧ s5 = .int .i64 H) ∨ (s18 = .int .i64 2 ∧ s5 = .int .i64 X))
set_option maxRecDepth 100000 in
set_option maxHeartbeats 4000000 in
theorem private_calls (s : ByteArray) (hs : s.size ≤ 4000) (w : World) :
    Calls Try.prog 38 #[.string s] w fun e w' => e = .returned (.int .i64 (privR s)) ∧ Below w.heap.size w w' := by
  have kb := fun W => print_bytes (P := Try.prog) 9 122 5 Try.underlying9 Try.underlying122 Try.underlying5 s W
  have hC := C_bytes w 5 s (by omega)
  have hB := bytes_below (Below.refl w.heap.size w) (Nat.le_refl _) 5 s
  have hcap := grownCap_ge w s.size 0 5
  have hcall := of6 (bytesL_lt s) (bytesL_length s) (by omega) hcap _ hC
  have HCALL := Lib.hid hcall
  clear hcall
  go_enter Try.func38, Try.ntmps38
  go_wp2_with fail
  refine HCALL.out.mono ?_
  rintro e w2 ⟨v, rfl, hR, hb⟩
  replace hB := bthen hB hb
  have hv16 := CrcPlain.sum_lt (w := 16) (p := 32773) (f := 0) (last := 0) (by decide) (by decide) (by decide) (by decide) true (bytesL_lt s)
  obtain ⟨x, hx⟩ : ∃ x, CrcPlain.sum 16 32773 0 true 0 (bytesL s) = x := ⟨_, rfl⟩
  rw [hx] at hv16 hR
  obtain ⟨g, c, rfl, _, _, _, hcell⟩ := list_form hR (by rw [endB_length]; decide)
  rw [endB_length] at hcell ⊢
  obtain ⟨hi, hhi⟩ : ∃ h, x / 256 % 256 = h := ⟨_, rfl⟩
  obtain ⟨lo, hlo⟩ : ∃ h, x % 256 = h := ⟨_, rfl⟩
  have c0 : w2.cell? ⟨g, 0, none⟩ = some (.int .u8 (hi : Int)) := by
    rw [hcell 0 (by decide), ← hhi]
    congr 3
    try simp [endB]
  have c1 : w2.cell? ⟨g, 1, none⟩ = some (.int .u8 (lo : Int)) := by
    rw [hcell 1 (by decide), ← hlo]
    congr 3
    try simp [endB]
  have hxx : x = hi * 256 + lo := by clear hcell hR hC hB HCALL kb hcap c0 c1; omega
  have hi256 : hi < 256 := by rw [← hhi]; exact Nat.mod_lt _ (by decide)
  have lo256 : lo < 256 := by rw [← hlo]; exact Nat.mod_lt _ (by decide)
  clear hcell hR hC hhi hlo hb HCALL kb hcap hv16
  obtain ⟨ph, pl, px, pr, o1, o2, er⟩ := arith hi256 lo256
  have HPR : privR s = 61440 + (((hi * 256 + lo) % 4096 : Nat) : Int) := by unfold privR; rw [hx, hxx]
  clear hx hxx hi256 lo256
  obtain ⟨R, hR⟩ : ∃ R : Int, (((hi * 256 + lo) % 4096 : Nat) : Int) = R := ⟨_, rfl⟩
  rw [hR] at er HPR pr
  obtain ⟨X, hX⟩ : ∃ R : Int, (hi : Int) * 256 + (lo : Int) = R := ⟨_, rfl⟩
  rw [hX] at er o1 px
  obtain ⟨H, hH⟩ : ∃ R : Int, (hi : Int) = R := ⟨_, rfl⟩
  obtain ⟨L, hL⟩ : ∃ R : Int, (lo : Int) = R := ⟨_, rfl⟩
  rw [hH] at c0 o1 o2 ph
  rw [hL] at c1 o1 pl
  have HPR := Lib.hid HPR
  clear hR hX hH hL
  have u0 := w64 (n := H * 256) (by omega)
  have u1 := w64 (n := 61440 + R) (by omega)
  have uh := w64 (n := H) (by omega)
  have ul := w64 (n := L) (by omega)
  go_wp2_with fail
  go_loopw [5, 18] (RelV w2 H X) (fun _ i _ => 2 - (intOf i).toNat)
  case atStart => exact ⟨rfl, .inl ⟨rfl, rfl⟩⟩
  case round =>
    obtain ⟨rfl, ⟨rfl, rfl⟩ | ⟨rfl, rfl⟩ | ⟨rfl, rfl⟩⟩ := hrel
    · go_wp2_with fail
      refine ⟨⟨rfl, .inr (.inl ⟨rfl, by first | rfl | rw [o2]⟩)⟩, by decide⟩
    · go_wp2_with fail
      refine ⟨⟨rfl, .inr (.inr ⟨rfl, by first | rfl | rw [ul, o1] | rw [o1]⟩)⟩, by decide⟩
    · go_wp2_with fail
      go_ret
      rw [HPR.out]
      exact ⟨rfl, hB⟩
end Go.Proofs.Ytcldlfhnmkogeaa.Term

/- What the laws of layer 20 share: nomen.Code, the example, nomen.Inside. -/
set_option linter.unusedVariables false
set_option linter.unusedSimpArgs false
namespace Go.Proofs.Ytcldlfhnmkogeaa.Term
open Go.RowKit Go.Proofs.YtcldlfhnmkogeaaW.PrintWords Go.Proofs.YtcldlfhnmkogeaaW.PrintLast Go.Proofs.Ytcldlfhnmkogeaa.Nats Go.Proofs.Ytcldlfhnmkogeaa.HeapKit

/-- A name's code; whether it has a term. -/
def codeR (s : ByteArray) : Int × Bool := match tfind s with | some u => (u.code, true) | none => (privR s, false)
set_option maxRecDepth 100000 in
set_option maxHeartbeats 4000000 in
theorem code_calls (s : ByteArray) (hs : s.size ≤ 4000) (w : World) :
    Calls Try.prog 36 #[.string s] w fun e w' => e = .returned (.tuple #[.int .i64 (codeR s).1, .bool (codeR s).2]) ∧ Below w.heap.size w w' := by
  have hf := fun w => find_calls s w
  have hp := fun w => private_calls s hs w
  have hc : codeR s = match tfind s with | some u => (u.code, true) | none => (privR s, false) := rfl
  cases hu : tfind s with
  | none =>
    rw [hu] at hc
    simp only [hu, Option.getD_none, Option.isSome_none, TRow.val] at hf
    rw [hc]
    have HF := Lib.hid hf
    have HP := Lib.hid hp
    clear hf hp hc hu
    go_enter Try.func36, Try.ntmps36
    go_wp2_with fail
    refine (HF.out _).mono ?_
    rintro e w1 ⟨rfl, hb⟩
    have hB := bthen hb (below_alloc (Below.refl _ _) (.cells #[.string zrow.label, .int .i64 zrow.code, .string zrow.unit, .int .i64 zrow.ln, .int .i64 zrow.ld, .int .i64 zrow.mn, .int .i64 zrow.md] 57))
    go_wp2_with fail
    refine (HP.out _).mono ?_
    rintro e w2 ⟨rfl, hb2⟩
    go_wp2_with fail
    go_ret2
    exact ⟨rfl, bthen hB hb2⟩
  | some u =>
    rw [hu] at hc
    simp only [hu, Option.getD_some, Option.isSome_some, TRow.val] at hf
    rw [hc]
    have HF := Lib.hid hf
    clear hf hp hc hu
    go_enter Try.func36, Try.ntmps36
    go_wp2_with fail
    refine (HF.out _).mono ?_
    rintro e w1 ⟨rfl, hb⟩
    have hB := bthen hb (below_alloc (Below.refl _ _) (.cells #[.string u.label, .int .i64 u.code, .string u.unit, .int .i64 u.ln, .int .i64 u.ld, .int .i64 u.mn, .int .i64 u.md] 57))
    have k := blk_new w1 (.cells #[.string u.label, .int .i64 u.code, .string u.unit, .int .i64 u.ln, .int .i64 u.ld, .int .i64 u.mn, .int .i64 u.md] 57)
    have c0 : (w1.alloc (.cells #[.string u.label, .int .i64 u.code, .string u.unit, .int .i64 u.ln, .int .i64 u.ld, .int .i64 u.mn, .int .i64 u.md] 57)).cell? ⟨w1.heap.size, 0, none⟩ = some (.string u.label) := blk_cell k 0
    have c1 : (w1.alloc (.cells #[.string u.label, .int .i64 u.code, .string u.unit, .int .i64 u.ln, .int .i64 u.ld, .int .i64 u.mn, .int .i64 u.md] 57)).cell? ⟨w1.heap.size, 1, none⟩ = some (.int .i64 u.code) := blk_cell k 1
    have c2 : (w1.alloc (.cells #[.string u.label, .int .i64 u.code, .string u.unit, .int .i64 u.ln, .int .i64 u.ld, .int .i64 u.mn, .int .i64 u.md] 57)).cell? ⟨w1.heap.size, 2, none⟩ = some (.string u.unit) := blk_cell k 2
    have c3 : (w1.alloc (.cells #[.string u.label, .int .i64 u.code, .string u.unit, .int .i64 u.ln, .int .i64 u.ld, .int .i64 u.mn, .int .i64 u.md] 57)).cell? ⟨w1.heap.size, 3, none⟩ = some (.int .i64 u.ln) := blk_cell k 3
    have c4 : (w1.alloc (.cells #[.string u.label, .int .i64 u.code, .string u.unit, .int .i64 u.ln, .int .i64 u.ld, .int .i64 u.mn, .int .i64 u.md] 57)).cell? ⟨w1.heap.size, 4, none⟩ = some (.int .i64 u.ld) := blk_cell k 4
    have c5 : (w1.alloc (.cells #[.string u.label, .int .i64 u.code, .string u.unit, .int .i64 u.ln, .int .i64 u.ld, .int .i64 u.mn, .int .i64 u.md] 57)).cell? ⟨w1.heap.size, 5, none⟩ = some (.int .i64 u.mn) := blk_cell k 5
    have c6 : (w1.alloc (.cells #[.string u.label, .int .i64 u.code, .string u.unit, .int .i64 u.ln, .int .i64 u.ld, .int .i64 u.mn, .int .i64 u.md] 57)).cell? ⟨w1.heap.size, 6, none⟩ = some (.int .i64 u.md) := blk_cell k 6
    go_wp2_with fail
    go_ret2
    exact ⟨rfl, hB⟩
theorem awake_code1 : (codeR ⟨#[104, 101, 97, 114, 116]⟩) = (147842, true) := by decide +kernel
theorem awake_code2 : (codeR ⟨#[]⟩) = (61440, false) := by decide +kernel
set_option maxRecDepth 100000 in
set_option maxHeartbeats 4000000 in
theorem awake20 (w : World) : Calls Try.prog 33 #[] w fun e w' => e = .returned (.bool true) ∧ Below w.heap.size w w' := by
  have h1 := fun w => code_calls ⟨#[104, 101, 97, 114, 116]⟩ (by decide) w
  have h2 := fun w => code_calls ⟨#[]⟩ (by decide) w
  simp only [awake_code1] at h1
  simp only [awake_code2] at h2
  have H1 := Lib.hid h1
  have H2 := Lib.hid h2
  clear h1 h2
  go_enter Try.func33, Try.ntmps33
  go_wp2_with fail
  refine (H1.out _).mono ?_
  rintro e w1 ⟨rfl, hb1⟩
  go_wp2_with fail
  refine (H2.out _).mono ?_
  rintro e w2 ⟨rfl, hb2⟩
  go_wp2_with fail
  go_ret
  exact ⟨rfl, bthen hb1 hb2⟩
end Go.Proofs.Ytcldlfhnmkogeaa.Term

