import Derived.Test.YtcldlfhnmkogeaaSumsBase
import Derived.LoopTactic
import Derived.Test.YtcldlfhnmkogeaaTermBase
import Derived.Test.YtcldlfhnmkogeaaCrcRefSum
import Derived.Test.YtcldlfhnmkogeaaPPlainx1
/- The code of what has no term (nomen.Private), walked. -/
set_option linter.unusedVariables false
set_option linter.unusedSimpArgs false
namespace Go.Proofs.Ytcldlfhnmkogeaa.Term
open Go.RowKit Go.Proofs.YtcldlfhnmkogeaaW.PrintWords Go.Proofs.YtcldlfhnmkogeaaW.PrintLast Go.Proofs.Ytcldlfhnmkogeaa.Nats Go.Proofs.Ytcldlfhnmkogeaa.HeapKit Go.Proofs.Ytcldlfhnmkogeaa.Sums Go.Proofs.Ytcldlfhnmkogeaa.CrcCalls

/-- A text's bytes. -/
def bytesL (s : ByteArray) : List Nat := s.data.toList.map fun b => b.toNat
theorem bytesL_length (s : ByteArray) : (bytesL s).length = s.size := by rw [bytesL, List.length_map]; exact data_length s
theorem bytesL_lt (s : ByteArray) : ∀ x ∈ bytesL s, x < 256 := by
  intro x hx
  obtain ⟨b, _, rfl⟩ := List.mem_map.1 hx
  exact b.toNat_lt
theorem C_bytes (W : World) (e : TypeId) (s : ByteArray) (hs : s.size ≤ 9223372036854775807) : Kd.C (Kd.int .u8) (Lib.bytesWorld W e s) (some ⟨W.heap.size, 0, none⟩) s.size (ints (bytesL s)) := by
  refine ⟨by rw [ints_length, bytesL_length], hs, fun _ => ⟨_, rfl, fun j p hp => ⟨[.int .u8 p], rfl, rfl, fun i u hu => ?_⟩⟩⟩
  have hj : j < (ints (bytesL s)).length := (List.getElem?_eq_some_iff.1 hp).1
  rw [ints_length, bytesL_length] at hj
  cases i with
  | zero =>
    simp at hu
    subst hu
    show (Lib.bytesWorld W e s).cell? (Addr.add ⟨W.heap.size, 0, none⟩ (j * 1 + 0)) = _
    rw [show Addr.add ⟨W.heap.size, 0, none⟩ (j * 1 + 0) = ⟨W.heap.size, j, none⟩ from by unfold Addr.add; split <;> simp_all, Lib.bytesWorld_cell W e s j hj]
    have h' : j < s.data.toList.length := by rw [data_length]; exact hj
    simp only [ints, bytesL, List.map_map, List.getElem?_map, List.getElem?_eq_getElem h', Option.map_some, Option.some.injEq, Function.comp] at hp
    rw [List.getD_eq_getElem?_getD, List.getElem?_eq_getElem h', Option.getD_some, ← hp]
  | succ i => simp at hu
theorem i64_or {a b : Nat} (ha : a < 256) (hb : b < 256) : Go.bits .or .i64 ((a : Int) * 256) (b : Int) = (a : Int) * 256 + (b : Int) := by
  have e : (a : Int) * 256 = ((a * 256 : Nat) : Int) := by omega
  have ho := Nat.shiftLeft_add_eq_or_of_lt (i := 8) (show b < 2 ^ 8 from hb) a
  rw [Nat.shiftLeft_eq] at ho
  rw [e]
  show IntKind.i64.wrap ((BitVec.ofInt 64 ((a * 256 : Nat) : Int) ||| BitVec.ofInt 64 (b : Int)).toNat : Int) = _
  rw [BitVec.toNat_or, BitVec.ofInt_natCast, BitVec.ofInt_natCast, BitVec.toNat_ofNat, BitVec.toNat_ofNat, Nat.mod_eq_of_lt (by omega), Nat.mod_eq_of_lt (by omega), ← ho, IntKind.wrap_i64]
  omega
theorem w64 {n : Int} (h : 0 ≤ n ∧ n < 16777216) : wrap64 n = n := by unfold wrap64; omega
theorem arith {hi lo : Nat} (h1 : hi < 256) (h2 : lo < 256) : (0 ≤ (hi : Int) ∧ (hi : Int) < 256) ∧ (0 ≤ (lo : Int) ∧ (lo : Int) < 256) ∧ (0 ≤ (hi : Int) * 256 + (lo : Int) ∧ (hi : Int) * 256 + (lo : Int) < 65536) ∧ (0 ≤ (((hi * 256 + lo) % 4096 : Nat) : Int) ∧ (((hi * 256 + lo) % 4096 : Nat) : Int) < 4096) ∧
    Go.bits .or .i64 ((hi : Int) * 256) (lo : Int) = (hi : Int) * 256 + (lo : Int) ∧ Go.bits .or .i64 0 (hi : Int) = (hi : Int) ∧ ((hi : Int) * 256 + (lo : Int)).tmod 4096 = (((hi * 256 + lo) % 4096 : Nat) : Int) := by
  refine ⟨⟨Int.natCast_nonneg _, Int.ofNat_lt.2 h1⟩, ⟨Int.natCast_nonneg _, Int.ofNat_lt.2 h2⟩, by omega, by omega, i64_or h1 h2, by simpa using i64_or (a := 0) (by decide) h1, ?_⟩
  rw [Int.tmod_eq_emod_of_nonneg (by omega)]
  omega
/-- The code of what has no term. -/
def privR (s : ByteArray) : Int := 61440 + ((CrcPlain.sum 16 32773 0 true 0 (bytesL s) % 4096 : Nat) : Int)
def RelV (w2 : World) (H X : Int) (s5 s18 : Value) (wr : World) : Prop := wr = w2 ∧ ((s18 = .int .i64 0 ∧ s5 = .int .i64 0) ∨ (s18 = .int .i64 1 ∧ s5 = .int .i64 H) ∨ (s18 = .int .i64 2 ∧ s5 = .int .i64 X))
set_option maxRecDepth 100000 in
set_option maxHeartbeats 4000000 in
theorem private_calls (s : ByteArray) (hs : s.size ≤ 4000) (w : World) :
    Calls Try.prog 38 #[.string s] w fun e w' => e = .returned (.int .i64 (privR s)) ∧ Below w.heap.size w w' := by
  have kb := fun W => print_bytes (P := Try.prog) 9 122 5 Try.underlying9 Try.underlying122 Try.underlying5 s W
  have hC := C_bytes w 5 s (by omega)
  have hB := bytes_below (Below.refl w.heap.size w) (Nat.le_refl _) 5 s
  have hcap := grownCap_ge w s.size 0 5
  have hcall := of6 (bytesL_lt s) (bytesL_length s) (by omega) hcap _ hC
  have HCALL := Lib.hid hcall
  clear hcall
  go_enter Try.func38, Try.ntmps38
  go_wp2_with fail
  refine HCALL.out.mono ?_
  rintro e w2 ⟨v, rfl, hR, hb⟩
  replace hB := bthen hB hb
  have hv16 := CrcPlain.sum_lt (w := 16) (p := 32773) (f := 0) (last := 0) (by decide) (by decide) (by decide) (by decide) true (bytesL_lt s)
  obtain ⟨x, hx⟩ : ∃ x, CrcPlain.sum 16 32773 0 true 0 (bytesL s) = x := ⟨_, rfl⟩
  rw [hx] at hv16 hR
  obtain ⟨g, c, rfl, _, _, _, hcell⟩ := list_form hR (by rw [endB_length]; decide)
  rw [endB_length] at hcell ⊢
  obtain ⟨hi, hhi⟩ : ∃ h, x / 256 % 256 = h := ⟨_, rfl⟩
  obtain ⟨lo, hlo⟩ : ∃ h, x % 256 = h := ⟨_, rfl⟩
  have c0 : w2.cell? ⟨g, 0, none⟩ = some (.int .u8 (hi : Int)) := by
    rw [hcell 0 (by decide), ← hhi]
    congr 3
    try simp [endB]
  have c1 : w2.cell? ⟨g, 1, none⟩ = some (.int .u8 (lo : Int)) := by
    rw [hcell 1 (by decide), ← hlo]
    congr 3
    try simp [endB]
  have hxx : x = hi * 256 + lo := by clear hcell hR hC hB HCALL kb hcap c0 c1; omega
  have hi256 : hi < 256 := by rw [← hhi]; exact Nat.mod_lt _ (by decide)
  have lo256 : lo < 256 := by rw [← hlo]; exact Nat.mod_lt _ (by decide)
  clear hcell hR hC hhi hlo hb HCALL kb hcap hv16
  obtain ⟨ph, pl, px, pr, o1, o2, er⟩ := arith hi256 lo256
  have HPR : privR s = 61440 + (((hi * 256 + lo) % 4096 : Nat) : Int) := by unfold privR; rw [hx, hxx]
  clear hx hxx hi256 lo256
  obtain ⟨R, hR⟩ : ∃ R : Int, (((hi * 256 + lo) % 4096 : Nat) : Int) = R := ⟨_, rfl⟩
  rw [hR] at er HPR pr
  obtain ⟨X, hX⟩ : ∃ R : Int, (hi : Int) * 256 + (lo : Int) = R := ⟨_, rfl⟩
  rw [hX] at er o1 px
  obtain ⟨H, hH⟩ : ∃ R : Int, (hi : Int) = R := ⟨_, rfl⟩
  obtain ⟨L, hL⟩ : ∃ R : Int, (lo : Int) = R := ⟨_, rfl⟩
  rw [hH] at c0 o1 o2 ph
  rw [hL] at c1 o1 pl
  have HPR := Lib.hid HPR
  clear hR hX hH hL
  have u0 := w64 (n := H * 256) (by omega)
  have u1 := w64 (n := 61440 + R) (by omega)
  have uh := w64 (n := H) (by omega)
  have ul := w64 (n := L) (by omega)
  go_wp2_with fail
  go_loopw [5, 18] (RelV w2 H X) (fun _ i _ => 2 - (intOf i).toNat)
  case atStart => exact ⟨rfl, .inl ⟨rfl, rfl⟩⟩
  case round =>
    obtain ⟨rfl, ⟨rfl, rfl⟩ | ⟨rfl, rfl⟩ | ⟨rfl, rfl⟩⟩ := hrel
    · go_wp2_with fail
      refine ⟨⟨rfl, .inr (.inl ⟨rfl, by first | rfl | rw [o2]⟩)⟩, by decide⟩
    · go_wp2_with fail
      refine ⟨⟨rfl, .inr (.inr ⟨rfl, by first | rfl | rw [ul, o1] | rw [o1]⟩)⟩, by decide⟩
    · go_wp2_with fail
      go_ret
      rw [HPR.out]
      exact ⟨rfl, hB⟩
end Go.Proofs.Ytcldlfhnmkogeaa.Term

/- What the laws of layer 20 share: nomen.Code, the example, nomen.Inside. -/
set_option linter.unusedVariables false
set_option linter.unusedSimpArgs false
namespace Go.Proofs.Ytcldlfhnmkogeaa.Term
open Go.RowKit Go.Proofs.YtcldlfhnmkogeaaW.PrintWords Go.Proofs.YtcldlfhnmkogeaaW.PrintLast Go.Proofs.Ytcldlfhnmkogeaa.Nats Go.Proofs.Ytcldlfhnmkogeaa.HeapKit

/-- A name's code; whether it has a term. -/
def codeR (s : ByteArray) : Int × Bool := match tfind s with | some u => (u.code, true) | none => (privR s, false)
set_option maxRecDepth 100000 in
set_option maxHeartbeats 4000000 in
theorem code_calls (s : ByteArray) (hs : s.size ≤ 4000) (w : World) :
    Calls Try.prog 36 #[.string s] w fun e w' => e = .returned (.tuple #[.int .i64 (codeR s).1, .bool (codeR s).2]) ∧ Below w.heap.size w w' := by
  have hf := fun w => find_calls s w
  have hp := fun w => private_calls s hs w
  have hc : codeR s = match tfind s with | some u => (u.code, true) | none => (privR s, false) := rfl
  cases hu : tfind s with
  | none =>
    rw [hu] at hc
    simp only [hu, Option.getD_none, Option.isSome_none, TRow.val] at hf
    rw [hc]
    have HF := Lib.hid hf
    have HP := Lib.hid hp
    clear hf hp hc hu
    go_enter Try.func36, Try.ntmps36
    go_wp2_with fail
    refine (HF.out _).mono ?_
    rintro e w1 ⟨rfl, hb⟩
    have hB := bthen hb (below_alloc (Below.refl _ _) (.cells #[.string zrow.label, .int .i64 zrow.code, .string zrow.unit, .int .i64 zrow.ln, .int .i64 zrow.ld, .int .i64 zrow.mn, .int .i64 zrow.md] 57))
    go_wp2_with fail
    refine (HP.out _).mono ?_
    rintro e w2 ⟨rfl, hb2⟩
    go_wp2_with fail
    go_ret2
    exact ⟨rfl, bthen hB hb2⟩
  | some u =>
    rw [hu] at hc
    simp only [hu, Option.getD_some, Option.isSome_some, TRow.val] at hf
    rw [hc]
    have HF := Lib.hid hf
    clear hf hp hc hu
    go_enter Try.func36, Try.ntmps36
    go_wp2_with fail
    refine (HF.out _).mono ?_
    rintro e w1 ⟨rfl, hb⟩
    have hB := bthen hb (below_alloc (Below.refl _ _) (.cells #[.string u.label, .int .i64 u.code, .string u.unit, .int .i64 u.ln, .int .i64 u.ld, .int .i64 u.mn, .int .i64 u.md] 57))
    have k := blk_new w1 (.cells #[.string u.label, .int .i64 u.code, .string u.unit, .int .i64 u.ln, .int .i64 u.ld, .int .i64 u.mn, .int .i64 u.md] 57)
    have c0 : (w1.alloc (.cells #[.string u.label, .int .i64 u.code, .string u.unit, .int .i64 u.ln, .int .i64 u.ld, .int .i64 u.mn, .int .i64 u.md] 57)).cell? ⟨w1.heap.size, 0, none⟩ = some (.string u.label) := blk_cell k 0
    have c1 : (w1.alloc (.cells #[.string u.label, .int .i64 u.code, .string u.unit, .int .i64 u.ln, .int .i64 u.ld, .int .i64 u.mn, .int .i64 u.md] 57)).cell? ⟨w1.heap.size, 1, none⟩ = some (.int .i64 u.code) := blk_cell k 1
    have c2 : (w1.alloc (.cells #[.string u.label, .int .i64 u.code, .string u.unit, .int .i64 u.ln, .int .i64 u.ld, .int .i64 u.mn, .int .i64 u.md] 57)).cell? ⟨w1.heap.size, 2, none⟩ = some (.string u.unit) := blk_cell k 2
    have c3 : (w1.alloc (.cells #[.string u.label, .int .i64 u.code, .string u.unit, .int .i64 u.ln, .int .i64 u.ld, .int .i64 u.mn, .int .i64 u.md] 57)).cell? ⟨w1.heap.size, 3, none⟩ = some (.int .i64 u.ln) := blk_cell k 3
    have c4 : (w1.alloc (.cells #[.string u.label, .int .i64 u.code, .string u.unit, .int .i64 u.ln, .int .i64 u.ld, .int .i64 u.mn, .int .i64 u.md] 57)).cell? ⟨w1.heap.size, 4, none⟩ = some (.int .i64 u.ld) := blk_cell k 4
    have c5 : (w1.alloc (.cells #[.string u.label, .int .i64 u.code, .string u.unit, .int .i64 u.ln, .int .i64 u.ld, .int .i64 u.mn, .int .i64 u.md] 57)).cell? ⟨w1.heap.size, 5, none⟩ = some (.int .i64 u.mn) := blk_cell k 5
    have c6 : (w1.alloc (.cells #[.string u.label, .int .i64 u.code, .string u.unit, .int .i64 u.ln, .int .i64 u.ld, .int .i64 u.mn, .int .i64 u.md] 57)).cell? ⟨w1.heap.size, 6, none⟩ = some (.int .i64 u.md) := blk_cell k 6
    go_wp2_with fail
    go_ret2
    exact ⟨rfl, hB⟩
theorem awake_code1 : (codeR ⟨#[104, 101, 97, 114, 116]⟩) = (147842, true) := by decide +kernel
theorem awake_code2 : (codeR ⟨#[]⟩) = (61440, false) := by decide +kernel
set_option maxRecDepth 100000 in
set_option maxHeartbeats 4000000 in
theorem awake20 (w : World) : Calls Try.prog 33 #[] w fun e w' => e = .returned (.bool true) ∧ Below w.heap.size w w' := by
  have h1 := fun w => code_calls ⟨#[104, 101, 97, 114, 116]⟩ (by decide) w
  have h2 := fun w => code_calls ⟨#[]⟩ (by decide) w
  simp only [awake_code1] at h1
  simp only [awake_code2] at h2
  have H1 := Lib.hid h1
  have H2 := Lib.hid h2
  clear h1 h2
  go_enter Try.func33, Try.ntmps33
  go_wp2_with fail
  refine (H1.out _).mono ?_
  rintro e w1 ⟨rfl, hb1⟩
  go_wp2_with fail
  refine (H2.out _).mono ?_
  rintro e w2 ⟨rfl, hb2⟩
  go_wp2_with fail
  go_ret
  exact ⟨rfl, bthen hb1 hb2⟩
end Go.Proofs.Ytcldlfhnmkogeaa.Term


/- The document's labels and terms (lancetref20.Labels, label, Find), walked. -/
set_option linter.unusedVariables false
set_option linter.unusedSimpArgs false
namespace Go.Proofs.Ytcldlfhnmkogeaa.Term
open Go.RowKit Go.Proofs.YtcldlfhnmkogeaaW.PrintWords Go.Proofs.YtcldlfhnmkogeaaW.PrintLast Go.Proofs.Ytcldlfhnmkogeaa.Nats Go.Proofs.Ytcldlfhnmkogeaa.HeapKit

def labelsL : List Value := terms.map fun u => .string u.label
def codesL : List Value := terms.map fun u => .int .i64 u.code
def unitsL : List Value := terms.map fun u => .string u.unit
def leastL : List Value := terms.map fun u => .int .i64 u.ln
def mostL : List Value := terms.map fun u => .int .i64 u.mn
/-- The label of a place. -/
def labAt (i : Int) : ByteArray := (terms[i.toNat]?.getD zrow).label
def pairsL : List Value := wordsL.flatMap fun p => [.string p.1, .string (labAt p.2)]
/-- The label that a name stands for. -/
def labelR (s : ByteArray) : ByteArray := match wordOf s with | some i => labAt i | none => s
theorem find_at {α : Type} {f : α → List UInt8} {n : List UInt8} : ∀ {l : List α} {k : Nat} {u : α}, l[k]? = some u → (∀ x ∈ l.take k, f x ≠ n) → f u = n → l.find? (fun x => f x == n) = some u := by
  intro l
  induction l with
  | nil => intro k u h; simp at h
  | cons a l ih =>
    intro k u h h1 h2
    cases k with
    | zero =>
      simp at h
      subst h
      rw [List.find?_cons]
      simp [h2]
    | succ k =>
      simp at h
      have ha : f a ≠ n := h1 a (by simp)
      rw [List.find?_cons]
      have e : (f a == n) = false := by simp [ha]
      rw [e]
      exact ih h (fun x hx => h1 x (by simp [hx])) h2
theorem find_none {α : Type} {f : α → List UInt8} {n : List UInt8} {l : List α} (h : ∀ x ∈ l, f x ≠ n) : l.find? (fun x => f x == n) = none := by
  rw [List.find?_eq_none]
  intro x hx
  simp [h x hx]
theorem more_at {α : Type} {f : α → List UInt8} {n : List UInt8} {l : List α} {k : Nat} {u : α} (hk : l[k]? = some u) (h1 : ∀ x ∈ l.take k, f x ≠ n) (h2 : f u ≠ n) : ∀ x ∈ l.take (k + 1), f x ≠ n := by
  intro x hx
  rw [List.take_add_one, hk] at hx
  rcases List.mem_append.1 hx with h | h
  · exact h1 x h
  · rw [show x = u from by simpa using h]; exact h2
theorem flat2 {α : Type} (f : α → List Value) (hf : ∀ u, (f u).length = 2) : ∀ (l : List α) (k : Nat) (u : α), l[k]? = some u → ∀ j v, (f u)[j]? = some v → (l.flatMap f)[k * 2 + j]? = some v := by
  intro l
  induction l with
  | nil => intro k u h; simp at h
  | cons a l ih =>
    intro k u h j v hv
    have hl := hf a
    rw [List.flatMap_cons]
    cases k with
    | zero =>
      simp at h
      subst h
      rw [Nat.zero_mul, Nat.zero_add, List.getElem?_append_left (List.getElem?_eq_some_iff.1 hv).1]
      exact hv
    | succ k =>
      simp at h
      rw [List.getElem?_append_right (by rw [hl]; omega), hl, show (k + 1) * 2 + j - 2 = k * 2 + j from by omega]
      exact ih k u h j v hv
theorem apart_all : ∀ k < 24, ∀ x ∈ terms.take k, x.label.toList ≠ (terms[k]?.getD zrow).label.toList := by decide +kernel
theorem find_own {k : Nat} {u : TRow} (h : terms[k]? = some u) : find u.label = some u := by
  have hk : k < 24 := (List.getElem?_eq_some_iff.1 h).1
  have ha := apart_all k hk
  rw [h] at ha
  exact find_at (f := fun x : TRow => x.label.toList) h ha rfl
theorem tfind_label (s : ByteArray) : find (labelR s) = tfind s := by
  unfold labelR tfind
  cases hw : wordOf s with
  | none => rfl
  | some i =>
    obtain ⟨k, rfl, hk⟩ := word_lt hw
    obtain ⟨u, hu⟩ : ∃ u, terms[k]? = some u := ⟨terms[k]'hk, List.getElem?_eq_getElem _⟩
    show find (labAt (k : Int)) = terms[(k : Int).toNat]?
    unfold labAt
    rw [Int.toNat_natCast, hu]
    exact find_own hu
theorem terms_one : ∀ x ∈ terms, x.ld = 1 ∧ x.md = 1 := by decide +kernel
set_option maxRecDepth 100000 in
set_option maxHeartbeats 4000000 in
theorem reflabels_calls (w : World) :
    Calls Try.prog 47 #[] w fun e w' => ∃ g, e = .returned (.slice (some ⟨g, 0, none⟩) 24 24) ∧ w.heap.size ≤ g ∧ w'.heap[g]? = some (.cells labelsL.toArray 9 (0, 0)) ∧ Below w.heap.size w w' := by
  go_enter Try.func47, Try.ntmps47
  go_wp2_with (first | ((with_reducible refine gate_dst (N := 1) rfl ?_); refine lit_event ?hg (N := 1) ?hd (cs := labelsL.toArray) (t := 9) (n := 24) ?hr ?_; (case hd => rfl); (case hg => rfl); (case hr => kernel_rfl); intro g1 hg1 w1 hr1 hB1) | fail)
  subst hg1
  go_ret
  exact ⟨_, rfl, Nat.le_refl _, hr1, hB1⟩
/-- Between two rounds. -/
def RelL (name : ByteArray) (w1 : World) (s4 : Value) (wr : World) : Prop := ∃ k : Nat, k ≤ 26 ∧ s4 = .int .i64 (k : Int) ∧ wr = w1 ∧ ∀ x ∈ wordsL.take k, x.1.toList ≠ name.toList
set_option maxRecDepth 100000 in
set_option maxHeartbeats 16000000 in
theorem label_calls (name : ByteArray) (w : World) :
    Calls Try.prog 69 #[.string name] w fun e w' => e = .returned (.string (labelR name)) ∧ Below w.heap.size w w' := by
  go_enter Try.func69, Try.ntmps69
  go_wp2_with (first | ((with_reducible refine gate_dst (N := 31) rfl ?_); refine lit_event ?hg (N := 31) ?hd (cs := pairsL.toArray) (t := 141) (n := 26) ?hr ?_; (case hd => rfl); (case hg => rfl); (case hr => kernel_rfl); intro g1 hg1 w1 hr1 hB1) | fail)
  subst hg1
  generalize (Value.agg #[.string ⟨#[104, 101, 97, 114, 116]⟩, .string ⟨#[104, 114]⟩]) = z0
  generalize (Value.agg #[.string ⟨#[98, 101, 97, 116, 115]⟩, .string ⟨#[104, 114]⟩]) = z1
  generalize (Value.agg #[.string ⟨#[112, 114]⟩, .string ⟨#[112, 117, 108, 115, 101]⟩]) = z2
  generalize (Value.agg #[.string ⟨#[115, 97, 116]⟩, .string ⟨#[115, 112, 111, 50]⟩]) = z3
  generalize (Value.agg #[.string ⟨#[111, 120, 121, 103, 101, 110]⟩, .string ⟨#[115, 112, 111, 50]⟩]) = z4
  generalize (Value.agg #[.string ⟨#[110, 105, 98, 112, 115]⟩, .string ⟨#[115, 121, 115]⟩]) = z5
  generalize (Value.agg #[.string ⟨#[110, 105, 98, 112, 100]⟩, .string ⟨#[100, 105, 97]⟩]) = z6
  generalize (Value.agg #[.string ⟨#[110, 105, 98, 112, 109]⟩, .string ⟨#[109, 101, 97, 110]⟩]) = z7
  generalize (Value.agg #[.string ⟨#[112, 115]⟩, .string ⟨#[97, 114, 116, 115, 121, 115]⟩]) = z8
  generalize (Value.agg #[.string ⟨#[112, 100]⟩, .string ⟨#[97, 114, 116, 100, 105, 97]⟩]) = z9
  generalize (Value.agg #[.string ⟨#[112, 109]⟩, .string ⟨#[97, 114, 116, 109, 101, 97, 110]⟩]) = z10
  generalize (Value.agg #[.string ⟨#[116, 49]⟩, .string ⟨#[116, 101, 109, 112]⟩]) = z11
  generalize (Value.agg #[.string ⟨#[98, 111, 100, 121]⟩, .string ⟨#[116, 101, 109, 112]⟩]) = z12
  generalize (Value.agg #[.string ⟨#[114, 114]⟩, .string ⟨#[114, 101, 115, 112]⟩]) = z13
  generalize (Value.agg #[.string ⟨#[98, 114, 101, 97, 116, 104, 115]⟩, .string ⟨#[114, 101, 115, 112]⟩]) = z14
  generalize (Value.agg #[.string ⟨#[99, 111, 50]⟩, .string ⟨#[101, 116, 99, 111, 50]⟩]) = z15
  generalize (Value.agg #[.string ⟨#[111, 50]⟩, .string ⟨#[102, 105, 111, 50]⟩]) = z16
  generalize (Value.agg #[.string ⟨#[112, 105, 112]⟩, .string ⟨#[112, 101, 97, 107]⟩]) = z17
  generalize (Value.agg #[.string ⟨#[118, 116]⟩, .string ⟨#[116, 105, 100, 97, 108]⟩]) = z18
  generalize (Value.agg #[.string ⟨#[109, 118]⟩, .string ⟨#[109, 105, 110, 118, 111, 108]⟩]) = z19
  generalize (Value.agg #[.string ⟨#[114, 97, 116, 101]⟩, .string ⟨#[102, 108, 111, 119]⟩]) = z20
  generalize (Value.agg #[.string ⟨#[118, 111, 108, 117, 109, 101]⟩, .string ⟨#[103, 105, 118, 101, 110]⟩]) = z21
  generalize (Value.agg #[.string ⟨#[114, 101, 115, 116]⟩, .string ⟨#[108, 101, 102, 116]⟩]) = z22
  generalize (Value.agg #[.string ⟨#[107, 103, 115]⟩, .string ⟨#[119, 101, 105, 103, 104, 116]⟩]) = z23
  generalize (Value.agg #[.string ⟨#[115, 105, 122, 101]⟩, .string ⟨#[104, 101, 105, 103, 104, 116]⟩]) = z24
  generalize (Value.agg #[.string ⟨#[116, 111, 103, 111]⟩, .string ⟨#[105, 110, 102, 117, 115, 101]⟩]) = z25
  go_loopw [4] (RelL name w1) (fun i _ => 26 - (intOf i).toNat)
  case atStart => exact ⟨0, Nat.zero_le _, rfl, rfl, fun x hx => by simp at hx⟩
  case round =>
    obtain ⟨k, hk, rfl, rfl, hall⟩ := hrel
    have HA := Lib.hid hall
    clear hall
    by_cases hlt : k < 26
    · obtain ⟨u, hku⟩ : ∃ u, wordsL[k]? = some u := ⟨wordsL[k]'(by show k < 26; omega), List.getElem?_eq_getElem _⟩
      obtain ⟨nm, i⟩ := u
      have k0 : wr.cell? ⟨w.heap.size, k * 2, none⟩ = some (.string nm) := by
        rw [blk_cell hr1 _, List.getElem?_toArray, pairsL]
        exact flat2 (fun p : ByteArray × Int => [.string p.1, .string (labAt p.2)]) (fun _ => rfl) _ _ _ hku 0 _ rfl
      have k1 : wr.cell? ⟨w.heap.size, k * 2 + 1, none⟩ = some (.string (labAt i)) := by
        rw [blk_cell hr1 _, List.getElem?_toArray, pairsL]
        exact flat2 (fun p : ByteArray × Int => [.string p.1, .string (labAt p.2)]) (fun _ => rfl) _ _ _ hku 1 _ rfl
      obtain ⟨la, hla⟩ : ∃ la, labAt i = la := ⟨_, rfl⟩
      rw [hla] at k1
      by_cases he : nm.toList = name.toList
      · have hf := find_at (f := fun p : ByteArray × Int => p.1.toList) hku HA.out he
        have ee : (nm.toList == name.toList) = true := by simp [he]
        have hl : labelR name = la := by
          rw [← hla]
          unfold labelR wordOf
          rw [hf]
          rfl
        clear hf hku hla he
        go_wp2_with fail
        go_ret
        rw [hl]
        exact ⟨rfl, hB1⟩
      · have ee : (nm.toList == name.toList) = false := by simp [he]
        have hm := more_at (f := fun p : ByteArray × Int => p.1.toList) hku HA.out he
        have HM := Lib.hid hm
        clear hm he hku hla k1
        go_wp2_with fail
        refine ⟨⟨k + 1, by omega, by simp, rfl, HM.out⟩, ?_⟩
        simp [intOf]
        omega
    · obtain rfl : k = 26 := by omega
      have hl : labelR name = name := by
        unfold labelR wordOf
        rw [find_none (f := fun p : ByteArray × Int => p.1.toList) (fun x hx => HA.out x (by rw [List.take_of_length_le (by decide)]; exact hx))]
        rfl
      go_wp2_with fail
      go_ret
      rw [hl]
      exact ⟨rfl, hB1⟩
/-- The five rows lie in the heap. -/
structure Rows (W : World) (g1 g2 g3 g4 g5 : Nat) : Prop where
  r1 : W.heap[g1]? = some (.cells codesL.toArray 3 (0, 0))
  r2 : W.heap[g2]? = some (.cells unitsL.toArray 9 (0, 0))
  r3 : W.heap[g3]? = some (.cells leastL.toArray 2 (0, 0))
  r4 : W.heap[g4]? = some (.cells mostL.toArray 2 (0, 0))
  r5 : W.heap[g5]? = some (.cells labelsL.toArray 9 (0, 0))
theorem Rows.step {W w2 : World} {g1 g2 g3 g4 g5 : Nat} (h : Rows W g1 g2 g3 g4 g5) (hb : Below W.heap.size W w2) : Rows w2 g1 g2 g3 g4 g5 := ⟨blk_below h.r1 hb, blk_below h.r2 hb, blk_below h.r3 hb, blk_below h.r4 hb, blk_below h.r5 hb⟩
section
variable {W : World} {g1 g2 g3 g4 g5 k : Nat} {u : TRow}
theorem Rows.code (h : Rows W g1 g2 g3 g4 g5) (hk : terms[k]? = some u) : W.cell? ⟨g1, k, none⟩ = some (.int .i64 u.code) := by
  rw [blk_cell h.r1 k, List.getElem?_toArray, codesL, List.getElem?_map, hk]
  rfl
theorem Rows.unit (h : Rows W g1 g2 g3 g4 g5) (hk : terms[k]? = some u) : W.cell? ⟨g2, k, none⟩ = some (.string u.unit) := by
  rw [blk_cell h.r2 k, List.getElem?_toArray, unitsL, List.getElem?_map, hk]
  rfl
theorem Rows.least (h : Rows W g1 g2 g3 g4 g5) (hk : terms[k]? = some u) : W.cell? ⟨g3, k, none⟩ = some (.int .i64 u.ln) := by
  rw [blk_cell h.r3 k, List.getElem?_toArray, leastL, List.getElem?_map, hk]
  rfl
theorem Rows.most (h : Rows W g1 g2 g3 g4 g5) (hk : terms[k]? = some u) : W.cell? ⟨g4, k, none⟩ = some (.int .i64 u.mn) := by
  rw [blk_cell h.r4 k, List.getElem?_toArray, mostL, List.getElem?_map, hk]
  rfl
theorem Rows.label (h : Rows W g1 g2 g3 g4 g5) (hk : terms[k]? = some u) : W.cell? ⟨g5, k, none⟩ = some (.string u.label) := by
  rw [blk_cell h.r5 k, List.getElem?_toArray, labelsL, List.getElem?_map, hk]
  rfl
end
/-- Between two rounds. -/
def RelF (lab : ByteArray) (w : World) (g1 g2 g3 g4 g5 : Nat) (s9 : Value) (wr : World) : Prop := ∃ k : Nat, k ≤ 24 ∧ s9 = .int .i64 (k : Int) ∧ Rows wr g1 g2 g3 g4 g5 ∧ B1 w wr (.cells #[.string ⟨#[]⟩, .int .i64 0, .string ⟨#[]⟩, .int .i64 0, .int .i64 0, .int .i64 0, .int .i64 0] 61) ∧ ∀ x ∈ terms.take k, x.label.toList ≠ lab.toList
set_option maxRecDepth 100000 in
set_option maxHeartbeats 16000000 in
theorem reffind_lab (name lab : ByteArray) (hlb : ∀ w, Calls Try.prog 69 #[.string name] w fun e w' => e = .returned (.string lab) ∧ Below w.heap.size w w') (w : World) :
    Calls Try.prog 35 #[.string name] w fun e w' => e = .returned (.tuple #[((find lab).getD zrow).val, .bool (find lab).isSome]) ∧ Below w.heap.size w w' := by
  have HL := Lib.hid hlb
  clear hlb
  have hB := b1_start w (.cells #[.string ⟨#[]⟩, .int .i64 0, .string ⟨#[]⟩, .int .i64 0, .int .i64 0, .int .i64 0, .int .i64 0] 61)
  go_enter Try.func35, Try.ntmps35
  go_wp2_with (first | ((with_reducible refine gate_dst (N := 10) rfl ?_); refine lit_event ?hg (N := 10) ?hd (cs := codesL.toArray) (t := 3) (n := 24) ?hr ?_; (case hd => rfl); (case hg => rfl); (case hr => kernel_rfl); intro g1 hg1 w1 hr1 hB1) | ((with_reducible refine gate_dst (N := 11) rfl ?_); refine lit_event ?hg (N := 11) ?hd (cs := unitsL.toArray) (t := 9) (n := 24) ?hr ?_; (case hd => rfl); (case hg => rfl); (case hr => kernel_rfl); intro g2 hg2 w2 hr2 hB2) | ((with_reducible refine gate_dst (N := 12) rfl ?_); refine lit_event ?hg (N := 12) ?hd (cs := leastL.toArray) (t := 2) (n := 24) ?hr ?_; (case hd => rfl); (case hg => rfl); (case hr => kernel_rfl); intro g3 hg3 w3 hr3 hB3) | ((with_reducible refine gate_dst (N := 13) rfl ?_); refine lit_event ?hg (N := 13) ?hd (cs := mostL.toArray) (t := 2) (n := 24) ?hr ?_; (case hd => rfl); (case hg => rfl); (case hr => kernel_rfl); intro g4 hg4 w4 hr4 hB4) | fail)
  subst hg2 hg3 hg4
  rw [World.size_alloc] at hg1
  subst hg1
  refine (reflabels_calls _).mono ?_
  rintro e w5 ⟨g5, rfl, hg5, hr5, hB5⟩
  have hR : Rows w5 (w.heap.size + 1) w1.heap.size w2.heap.size w3.heap.size g5 := ⟨blk_below (blk_below (blk_below (blk_below hr1 hB2) hB3) hB4) hB5, blk_below (blk_below (blk_below hr2 hB3) hB4) hB5, blk_below (blk_below hr3 hB4) hB5, blk_below hr4 hB5, hr5⟩
  have hC := ((((hB.step hB1).step hB2).step hB3).step hB4).step hB5
  clear hB hB1 hB2 hB3 hB4 hB5 hr1 hr2 hr3 hr4 hr5 hg5
  go_wp2_with fail
  go_loopw [9] (RelF lab w (w.heap.size + 1) w1.heap.size w2.heap.size w3.heap.size g5) (fun i _ => 24 - (intOf i).toNat)
  case atStart => exact ⟨0, Nat.zero_le _, rfl, hR, hC, fun x hx => by simp at hx⟩
  case round =>
    clear hR hC
    obtain ⟨k, hk, rfl, hR, hC, hall⟩ := hrel
    have HA := Lib.hid hall
    clear hall
    by_cases hlt : k < 24
    · obtain ⟨u, hku⟩ : ∃ u, terms[k]? = some u := ⟨terms[k]'(by show k < 24; omega), List.getElem?_eq_getElem _⟩
      have h11 := terms_one u (List.mem_of_getElem? hku)
      obtain ⟨lb, cd, un, ln, ld, mn, md⟩ := u
      obtain ⟨rfl, rfl⟩ : ld = 1 ∧ md = 1 := h11
      have HK := Lib.hid hku
      go_wp2_with fail
      refine start_ (n := 7) (S := fun wx => Rows wx (w.heap.size + 1) w1.heap.size w2.heap.size w3.heap.size g5 ∧ B1 w wx (.cells #[.string ⟨#[]⟩, .int .i64 0, .string ⟨#[]⟩, .int .i64 0, .int .i64 0, .int .i64 0, .int .i64 0] 61)) (ds := []) #[false, false, false, false, false, false, false] (by kernel_rfl) rfl rfl ⟨hR.step (below_drew (Below.refl _ _)), hC.step (below_drew (Below.refl _ _))⟩ (fun hHeld => ?_)
      refine pure_ (i := 0) (N := some 21) (v := ?_) (a' := ?_) #[true, false, false, false, false, false, false] rfl rfl (by kernel_rfl) (fun _ _ _ h => h) (Or.inl ⟨by rfl, ?_⟩) ?_ ?_
      rotate_left
      · intro w'
        go_simp
        try with_reducible rfl
      rotate_left
      · simp only [Act.put, List.setIfInBounds_toArray, List.set_cons_zero, List.set_cons_succ, i64_w, i32_w]
        rfl
      refine pure_ (i := 1) (N := some 22) (v := ?_) (a' := ?_) #[true, true, false, false, false, false, false] rfl rfl (by kernel_rfl) (fun _ _ _ h => h) (Or.inl ⟨by rfl, ?_⟩) ?_ ?_
      rotate_left
      · intro w'
        go_simp
        try with_reducible rfl
      rotate_left
      · simp only [Act.put, List.setIfInBounds_toArray, List.set_cons_zero, List.set_cons_succ, i64_w, i32_w]
        rfl
      refine pure_ (i := 2) (N := some 23) (v := ?_) (a' := ?_) #[true, true, true, false, false, false, false] rfl rfl (by kernel_rfl) (fun _ _ _ h => h) (Or.inl ⟨by rfl, ?_⟩) ?_ ?_
      rotate_left
      · intro w'
        go_simp
        try with_reducible rfl
      rotate_left
      · simp only [Act.put, List.setIfInBounds_toArray, List.set_cons_zero, List.set_cons_succ, i64_w, i32_w]
        rfl
      refine take_ (i := 3) (N := some 24) (v := ?_) (a' := ?_) #[true, true, true, true, false, false, false] rfl rfl (by kernel_rfl) (fun _ _ _ h => h) (Or.inl ⟨by rfl, ?_⟩) hHeld ?_ ?_
      rotate_left
      · rintro w' ⟨hr_, hc_⟩
        have k5 : w'.cell? ⟨g5, k, none⟩ = some (.string lb) := hr_.label hku
        go_simp
        with_reducible rfl
      rotate_left
      · simp only [Act.put, List.setIfInBounds_toArray, List.set_cons_zero, List.set_cons_succ, i64_w, i32_w]
        rfl
      refine pure_ (i := 4) (N := some 25) (v := ?_) (a' := ?_) #[true, true, true, true, true, false, false] rfl rfl (by kernel_rfl) (fun _ _ _ h => h) (Or.inl ⟨by rfl, ?_⟩) ?_ ?_
      rotate_left
      · intro w'
        go_simp
        try with_reducible rfl
      rotate_left
      · simp only [Act.put, List.setIfInBounds_toArray, List.set_cons_zero, List.set_cons_succ, i64_w, i32_w]
        rfl
      refine one_ (i := 5) (N := some 26) #[true, true, true, true, true, true, false] rfl rfl (by kernel_rfl) (by decide) (fun K hK => ?_)
      refine goes_ Try.func69 (by kernel_rfl) rfl #[.string name] (by rfl) rfl rfl (by (try simp only [List.map_toArray, List.map_cons, List.map_nil]); first | done | rfl) ?_
      refine (HL.out _).mono ?_
      rintro e wz ⟨rfl, hb_⟩
      refine ⟨_, rfl, ?_⟩
      refine hK.out _ _ ⟨hHeld.1.step hb_, hHeld.2.step hb_⟩ (fun hHeld => ?_)
      clear hK K
      refine norm_ (a' := ?_) ?_ ?_
      rotate_left
      · show Act.put _ (some 26) _ = _
        simp only [Act.put, List.setIfInBounds_toArray, List.set_cons_zero, List.set_cons_succ, i64_w, i32_w]
        rfl
      refine pure_ (i := 6) (N := some 27) (v := ?_) (a' := ?_) #[true, true, true, true, true, true, true] rfl rfl (by kernel_rfl) (fun _ _ _ h => h) (Or.inl ⟨by rfl, ?_⟩) ?_ ?_
      rotate_left
      · intro w'
        go_simp
        try with_reducible rfl
      rotate_left
      · simp only [Act.put, List.setIfInBounds_toArray, List.set_cons_zero, List.set_cons_succ, i64_w, i32_w]
        rfl
      refine done_ (by kernel_rfl) ?_
      clear hR hC
      obtain ⟨hR1, hC1⟩ := hHeld
      by_cases he : lb.toList = lab.toList
      · have hf : find lab = some ⟨lb, cd, un, ln, 1, mn, 1⟩ := find_at (f := fun x : TRow => x.label.toList) hku HA.out he
        have ee : (lb.toList == lab.toList) = true := by simp [he]
        have HF := Lib.hid hf
        clear hf he
        rw [ee]
        go_wp2_with fail
        have hd := below_drew (Below.refl wz.heap.size wz)
        have hC2 := hC1.step hd
        have q0 : wz.cell? ⟨w.heap.size, 0, none⟩ = some (.string ⟨#[]⟩) := blk_cell hC1.b1 0
        have qf0 : wz.frozen? ⟨w.heap.size, 0, none⟩ = false := blk_frozen hC1.b1 0
        have q1 : wz.cell? ⟨w.heap.size, 1, none⟩ = some (.int .i64 0) := blk_cell hC1.b1 1
        have qf1 : wz.frozen? ⟨w.heap.size, 1, none⟩ = false := blk_frozen hC1.b1 1
        have q2 : wz.cell? ⟨w.heap.size, 2, none⟩ = some (.string ⟨#[]⟩) := blk_cell hC1.b1 2
        have qf2 : wz.frozen? ⟨w.heap.size, 2, none⟩ = false := blk_frozen hC1.b1 2
        have q3 : wz.cell? ⟨w.heap.size, 3, none⟩ = some (.int .i64 0) := blk_cell hC1.b1 3
        have qf3 : wz.frozen? ⟨w.heap.size, 3, none⟩ = false := blk_frozen hC1.b1 3
        have q4 : wz.cell? ⟨w.heap.size, 4, none⟩ = some (.int .i64 0) := blk_cell hC1.b1 4
        have qf4 : wz.frozen? ⟨w.heap.size, 4, none⟩ = false := blk_frozen hC1.b1 4
        have q5 : wz.cell? ⟨w.heap.size, 5, none⟩ = some (.int .i64 0) := blk_cell hC1.b1 5
        have qf5 : wz.frozen? ⟨w.heap.size, 5, none⟩ = false := blk_frozen hC1.b1 5
        have q6 : wz.cell? ⟨w.heap.size, 6, none⟩ = some (.int .i64 0) := blk_cell hC1.b1 6
        have qf6 : wz.frozen? ⟨w.heap.size, 6, none⟩ = false := blk_frozen hC1.b1 6
        refine start_ (n := 25) (S := fun wx => Rows wx (w.heap.size + 1) w1.heap.size w2.heap.size w3.heap.size g5 ∧ B1 w wx (.cells #[.string ⟨#[]⟩, .int .i64 0, .string ⟨#[]⟩, .int .i64 0, .int .i64 0, .int .i64 0, .int .i64 0] 61)) (ds := [23]) #[false, false, false, false, false, false, false, false, false, false, false, false, false, false, false, false, false, false, false, false, false, false, false, false, false] (by kernel_rfl) rfl rfl ⟨hR1.step hd, hC1.step hd⟩ (fun hHeld => ?_)
        refine pure_ (i := 0) (N := some 28) (v := ?_) (a' := ?_) #[true, false, false, false, false, false, false, false, false, false, false, false, false, false, false, false, false, false, false, false, false, false, false, false, false] rfl rfl (by kernel_rfl) (fun _ _ _ h => h) (Or.inl ⟨by rfl, ?_⟩) ?_ ?_
        rotate_left
        · intro w'
          go_simp
          try with_reducible rfl
        rotate_left
        · simp only [Act.put, List.setIfInBounds_toArray, List.set_cons_zero, List.set_cons_succ, i64_w, i32_w]
          rfl
        refine pure_ (i := 1) (N := some 29) (v := ?_) (a' := ?_) #[true, true, false, false, false, false, false, false, false, false, false, false, false, false, false, false, false, false, false, false, false, false, false, false, false] rfl rfl (by kernel_rfl) (fun _ _ _ h => h) (Or.inl ⟨by rfl, ?_⟩) ?_ ?_
        rotate_left
        · intro w'
          go_simp
          try with_reducible rfl
        rotate_left
        · simp only [Act.put, List.setIfInBounds_toArray, List.set_cons_zero, List.set_cons_succ, i64_w, i32_w]
          rfl
        refine pure_ (i := 2) (N := some 30) (v := ?_) (a' := ?_) #[true, true, true, false, false, false, false, false, false, false, false, false, false, false, false, false, false, false, false, false, false, false, false, false, false] rfl rfl (by kernel_rfl) (fun _ _ _ h => h) (Or.inl ⟨by rfl, ?_⟩) ?_ ?_
        rotate_left
        · intro w'
          go_simp
          try with_reducible rfl
        rotate_left
        · simp only [Act.put, List.setIfInBounds_toArray, List.set_cons_zero, List.set_cons_succ, i64_w, i32_w]
          rfl
        refine take_ (i := 3) (N := some 31) (v := ?_) (a' := ?_) #[true, true, true, true, false, false, false, false, false, false, false, false, false, false, false, false, false, false, false, false, false, false, false, false, false] rfl rfl (by kernel_rfl) (fun _ _ _ h => h) (Or.inl ⟨by rfl, ?_⟩) hHeld ?_ ?_
        rotate_left
        · rintro w' ⟨hr_, hc_⟩
          have k1 : w'.cell? ⟨w.heap.size + 1, k, none⟩ = some (.int .i64 cd) := hr_.code hku
          have k2 : w'.cell? ⟨w1.heap.size, k, none⟩ = some (.string un) := hr_.unit hku
          have k3 : w'.cell? ⟨w2.heap.size, k, none⟩ = some (.int .i64 ln) := hr_.least hku
          have k4 : w'.cell? ⟨w3.heap.size, k, none⟩ = some (.int .i64 mn) := hr_.most hku
          have k5 : w'.cell? ⟨g5, k, none⟩ = some (.string lb) := hr_.label hku
          go_simp
          with_reducible rfl
        rotate_left
        · simp only [Act.put, List.setIfInBounds_toArray, List.set_cons_zero, List.set_cons_succ, i64_w, i32_w]
          rfl
        refine pure_ (i := 4) (N := some 32) (v := ?_) (a' := ?_) #[true, true, true, true, true, false, false, false, false, false, false, false, false, false, false, false, false, false, false, false, false, false, false, false, false] rfl rfl (by kernel_rfl) (fun _ _ _ h => h) (Or.inl ⟨by rfl, ?_⟩) ?_ ?_
        rotate_left
        · intro w'
          go_simp
          try with_reducible rfl
        rotate_left
        · simp only [Act.put, List.setIfInBounds_toArray, List.set_cons_zero, List.set_cons_succ, i64_w, i32_w]
          rfl
        refine pure_ (i := 5) (N := some 33) (v := ?_) (a' := ?_) #[true, true, true, true, true, true, false, false, false, false, false, false, false, false, false, false, false, false, false, false, false, false, false, false, false] rfl rfl (by kernel_rfl) (fun _ _ _ h => h) (Or.inl ⟨by rfl, ?_⟩) ?_ ?_
        rotate_left
        · intro w'
          go_simp
          try with_reducible rfl
        rotate_left
        · simp only [Act.put, List.setIfInBounds_toArray, List.set_cons_zero, List.set_cons_succ, i64_w, i32_w]
          rfl
        refine pure_ (i := 6) (N := some 34) (v := ?_) (a' := ?_) #[true, true, true, true, true, true, true, false, false, false, false, false, false, false, false, false, false, false, false, false, false, false, false, false, false] rfl rfl (by kernel_rfl) (fun _ _ _ h => h) (Or.inl ⟨by rfl, ?_⟩) ?_ ?_
        rotate_left
        · intro w'
          go_simp
          try with_reducible rfl
        rotate_left
        · simp only [Act.put, List.setIfInBounds_toArray, List.set_cons_zero, List.set_cons_succ, i64_w, i32_w]
          rfl
        refine take_ (i := 7) (N := some 35) (v := ?_) (a' := ?_) #[true, true, true, true, true, true, true, true, false, false, false, false, false, false, false, false, false, false, false, false, false, false, false, false, false] rfl rfl (by kernel_rfl) (fun _ _ _ h => h) (Or.inl ⟨by rfl, ?_⟩) hHeld ?_ ?_
        rotate_left
        · rintro w' ⟨hr_, hc_⟩
          have k1 : w'.cell? ⟨w.heap.size + 1, k, none⟩ = some (.int .i64 cd) := hr_.code hku
          have k2 : w'.cell? ⟨w1.heap.size, k, none⟩ = some (.string un) := hr_.unit hku
          have k3 : w'.cell? ⟨w2.heap.size, k, none⟩ = some (.int .i64 ln) := hr_.least hku
          have k4 : w'.cell? ⟨w3.heap.size, k, none⟩ = some (.int .i64 mn) := hr_.most hku
          have k5 : w'.cell? ⟨g5, k, none⟩ = some (.string lb) := hr_.label hku
          go_simp
          with_reducible rfl
        rotate_left
        · simp only [Act.put, List.setIfInBounds_toArray, List.set_cons_zero, List.set_cons_succ, i64_w, i32_w]
          rfl
        refine pure_ (i := 8) (N := some 36) (v := ?_) (a' := ?_) #[true, true, true, true, true, true, true, true, true, false, false, false, false, false, false, false, false, false, false, false, false, false, false, false, false] rfl rfl (by kernel_rfl) (fun _ _ _ h => h) (Or.inl ⟨by rfl, ?_⟩) ?_ ?_
        rotate_left
        · intro w'
          go_simp
          try with_reducible rfl
        rotate_left
        · simp only [Act.put, List.setIfInBounds_toArray, List.set_cons_zero, List.set_cons_succ, i64_w, i32_w]
          rfl
        refine pure_ (i := 9) (N := some 37) (v := ?_) (a' := ?_) #[true, true, true, true, true, true, true, true, true, true, false, false, false, false, false, false, false, false, false, false, false, false, false, false, false] rfl rfl (by kernel_rfl) (fun _ _ _ h => h) (Or.inl ⟨by rfl, ?_⟩) ?_ ?_
        rotate_left
        · intro w'
          go_simp
          try with_reducible rfl
        rotate_left
        · simp only [Act.put, List.setIfInBounds_toArray, List.set_cons_zero, List.set_cons_succ, i64_w, i32_w]
          rfl
        refine pure_ (i := 10) (N := some 38) (v := ?_) (a' := ?_) #[true, true, true, true, true, true, true, true, true, true, true, false, false, false, false, false, false, false, false, false, false, false, false, false, false] rfl rfl (by kernel_rfl) (fun _ _ _ h => h) (Or.inl ⟨by rfl, ?_⟩) ?_ ?_
        rotate_left
        · intro w'
          go_simp
          try with_reducible rfl
        rotate_left
        · simp only [Act.put, List.setIfInBounds_toArray, List.set_cons_zero, List.set_cons_succ, i64_w, i32_w]
          rfl
        refine take_ (i := 11) (N := some 39) (v := ?_) (a' := ?_) #[true, true, true, true, true, true, true, true, true, true, true, true, false, false, false, false, false, false, false, false, false, false, false, false, false] rfl rfl (by kernel_rfl) (fun _ _ _ h => h) (Or.inl ⟨by rfl, ?_⟩) hHeld ?_ ?_
        rotate_left
        · rintro w' ⟨hr_, hc_⟩
          have k1 : w'.cell? ⟨w.heap.size + 1, k, none⟩ = some (.int .i64 cd) := hr_.code hku
          have k2 : w'.cell? ⟨w1.heap.size, k, none⟩ = some (.string un) := hr_.unit hku
          have k3 : w'.cell? ⟨w2.heap.size, k, none⟩ = some (.int .i64 ln) := hr_.least hku
          have k4 : w'.cell? ⟨w3.heap.size, k, none⟩ = some (.int .i64 mn) := hr_.most hku
          have k5 : w'.cell? ⟨g5, k, none⟩ = some (.string lb) := hr_.label hku
          go_simp
          with_reducible rfl
        rotate_left
        · simp only [Act.put, List.setIfInBounds_toArray, List.set_cons_zero, List.set_cons_succ, i64_w, i32_w]
          rfl
        refine pure_ (i := 12) (N := some 40) (v := ?_) (a' := ?_) #[true, true, true, true, true, true, true, true, true, true, true, true, true, false, false, false, false, false, false, false, false, false, false, false, false] rfl rfl (by kernel_rfl) (fun _ _ _ h => h) (Or.inl ⟨by rfl, ?_⟩) ?_ ?_
        rotate_left
        · intro w'
          go_simp
          try with_reducible rfl
        rotate_left
        · simp only [Act.put, List.setIfInBounds_toArray, List.set_cons_zero, List.set_cons_succ, i64_w, i32_w]
          rfl
        refine pure_ (i := 13) (N := some 41) (v := ?_) (a' := ?_) #[true, true, true, true, true, true, true, true, true, true, true, true, true, true, false, false, false, false, false, false, false, false, false, false, false] rfl rfl (by kernel_rfl) (fun _ _ _ h => h) (Or.inl ⟨by rfl, ?_⟩) ?_ ?_
        rotate_left
        · intro w'
          go_simp
          try with_reducible rfl
        rotate_left
        · simp only [Act.put, List.setIfInBounds_toArray, List.set_cons_zero, List.set_cons_succ, i64_w, i32_w]
          rfl
        refine pure_ (i := 14) (N := some 42) (v := ?_) (a' := ?_) #[true, true, true, true, true, true, true, true, true, true, true, true, true, true, true, false, false, false, false, false, false, false, false, false, false] rfl rfl (by kernel_rfl) (fun _ _ _ h => h) (Or.inl ⟨by rfl, ?_⟩) ?_ ?_
        rotate_left
        · intro w'
          go_simp
          try with_reducible rfl
        rotate_left
        · simp only [Act.put, List.setIfInBounds_toArray, List.set_cons_zero, List.set_cons_succ, i64_w, i32_w]
          rfl
        refine take_ (i := 15) (N := some 43) (v := ?_) (a' := ?_) #[true, true, true, true, true, true, true, true, true, true, true, true, true, true, true, true, false, false, false, false, false, false, false, false, false] rfl rfl (by kernel_rfl) (fun _ _ _ h => h) (Or.inl ⟨by rfl, ?_⟩) hHeld ?_ ?_
        rotate_left
        · rintro w' ⟨hr_, hc_⟩
          have k1 : w'.cell? ⟨w.heap.size + 1, k, none⟩ = some (.int .i64 cd) := hr_.code hku
          have k2 : w'.cell? ⟨w1.heap.size, k, none⟩ = some (.string un) := hr_.unit hku
          have k3 : w'.cell? ⟨w2.heap.size, k, none⟩ = some (.int .i64 ln) := hr_.least hku
          have k4 : w'.cell? ⟨w3.heap.size, k, none⟩ = some (.int .i64 mn) := hr_.most hku
          have k5 : w'.cell? ⟨g5, k, none⟩ = some (.string lb) := hr_.label hku
          go_simp
          with_reducible rfl
        rotate_left
        · simp only [Act.put, List.setIfInBounds_toArray, List.set_cons_zero, List.set_cons_succ, i64_w, i32_w]
          rfl
        refine pure_ (i := 16) (N := some 44) (v := ?_) (a' := ?_) #[true, true, true, true, true, true, true, true, true, true, true, true, true, true, true, true, true, false, false, false, false, false, false, false, false] rfl rfl (by kernel_rfl) (fun _ _ _ h => h) (Or.inl ⟨by rfl, ?_⟩) ?_ ?_
        rotate_left
        · intro w'
          go_simp
          try with_reducible rfl
        rotate_left
        · simp only [Act.put, List.setIfInBounds_toArray, List.set_cons_zero, List.set_cons_succ, i64_w, i32_w]
          rfl
        refine pure_ (i := 17) (N := some 45) (v := ?_) (a' := ?_) #[true, true, true, true, true, true, true, true, true, true, true, true, true, true, true, true, true, true, false, false, false, false, false, false, false] rfl rfl (by kernel_rfl) (fun _ _ _ h => h) (Or.inl ⟨by rfl, ?_⟩) ?_ ?_
        rotate_left
        · intro w'
          go_simp
          try with_reducible rfl
        rotate_left
        · simp only [Act.put, List.setIfInBounds_toArray, List.set_cons_zero, List.set_cons_succ, i64_w, i32_w]
          rfl
        refine pure_ (i := 18) (N := some 46) (v := ?_) (a' := ?_) #[true, true, true, true, true, true, true, true, true, true, true, true, true, true, true, true, true, true, true, false, false, false, false, false, false] rfl rfl (by kernel_rfl) (fun _ _ _ h => h) (Or.inl ⟨by rfl, ?_⟩) ?_ ?_
        rotate_left
        · intro w'
          go_simp
          try with_reducible rfl
        rotate_left
        · simp only [Act.put, List.setIfInBounds_toArray, List.set_cons_zero, List.set_cons_succ, i64_w, i32_w]
          rfl
        refine pure_ (i := 19) (N := some 47) (v := ?_) (a' := ?_) #[true, true, true, true, true, true, true, true, true, true, true, true, true, true, true, true, true, true, true, true, false, false, false, false, false] rfl rfl (by kernel_rfl) (fun _ _ _ h => h) (Or.inl ⟨by rfl, ?_⟩) ?_ ?_
        rotate_left
        · intro w'
          go_simp
          try with_reducible rfl
        rotate_left
        · simp only [Act.put, List.setIfInBounds_toArray, List.set_cons_zero, List.set_cons_succ, i64_w, i32_w]
          rfl
        refine take_ (i := 20) (N := some 48) (v := ?_) (a' := ?_) #[true, true, true, true, true, true, true, true, true, true, true, true, true, true, true, true, true, true, true, true, true, false, false, false, false] rfl rfl (by kernel_rfl) (fun _ _ _ h => h) (Or.inl ⟨by rfl, ?_⟩) hHeld ?_ ?_
        rotate_left
        · rintro w' ⟨hr_, hc_⟩
          have k1 : w'.cell? ⟨w.heap.size + 1, k, none⟩ = some (.int .i64 cd) := hr_.code hku
          have k2 : w'.cell? ⟨w1.heap.size, k, none⟩ = some (.string un) := hr_.unit hku
          have k3 : w'.cell? ⟨w2.heap.size, k, none⟩ = some (.int .i64 ln) := hr_.least hku
          have k4 : w'.cell? ⟨w3.heap.size, k, none⟩ = some (.int .i64 mn) := hr_.most hku
          have k5 : w'.cell? ⟨g5, k, none⟩ = some (.string lb) := hr_.label hku
          go_simp
          with_reducible rfl
        rotate_left
        · simp only [Act.put, List.setIfInBounds_toArray, List.set_cons_zero, List.set_cons_succ, i64_w, i32_w]
          rfl
        refine pure_ (i := 21) (N := some 49) (v := ?_) (a' := ?_) #[true, true, true, true, true, true, true, true, true, true, true, true, true, true, true, true, true, true, true, true, true, true, false, false, false] rfl rfl (by kernel_rfl) (fun _ _ _ h => h) (Or.inl ⟨by rfl, ?_⟩) ?_ ?_
        rotate_left
        · intro w'
          go_simp
          try with_reducible rfl
        rotate_left
        · simp only [Act.put, List.setIfInBounds_toArray, List.set_cons_zero, List.set_cons_succ, i64_w, i32_w]
          rfl
        refine pure_ (i := 22) (N := some 50) (v := ?_) (a' := ?_) #[true, true, true, true, true, true, true, true, true, true, true, true, true, true, true, true, true, true, true, true, true, true, true, false, false] rfl rfl (by kernel_rfl) (fun _ _ _ h => h) (Or.inl ⟨by rfl, ?_⟩) ?_ ?_
        rotate_left
        · intro w'
          go_simp
          try with_reducible rfl
        rotate_left
        · simp only [Act.put, List.setIfInBounds_toArray, List.set_cons_zero, List.set_cons_succ, i64_w, i32_w]
          rfl
        refine last_ (i := 23) (N := none) #[true, true, true, true, true, true, true, true, true, true, true, true, true, true, true, true, true, true, true, true, true, true, true, true, false] rfl rfl (by kernel_rfl) (by decide) (fun K hK => ?_)
        refine skip_ (w1 := (((((((((((((((wz).setCell ⟨w.heap.size, 0, none⟩ (.string lb))).setCell ⟨w.heap.size, 1, none⟩ (.int .i64 cd))).setCell ⟨w.heap.size, 2, none⟩ (.string un))).setCell ⟨w.heap.size, 3, none⟩ (.int .i64 ln))).setCell ⟨w.heap.size, 4, none⟩ (.int .i64 1))).setCell ⟨w.heap.size, 5, none⟩ (.int .i64 mn))).setCell ⟨w.heap.size, 6, none⟩ (.int .i64 1))).drew) (by rfl) rfl ?_ ?_
        · first
          | (go_simp; done)
          | (go_simp; rfl)
        refine hK.out _ _ ?_
        clear hK K
        refine norm_ (a' := ?_) ?_ ?_
        rotate_left
        · rfl
        refine pure_ (i := 24) (N := some 3) (v := ?_) (a' := ?_) #[true, true, true, true, true, true, true, true, true, true, true, true, true, true, true, true, true, true, true, true, true, true, true, true, true] rfl rfl (by kernel_rfl) (fun _ _ _ h => h) (Or.inl ⟨by rfl, ?_⟩) ?_ ?_
        rotate_left
        · intro w'
          go_simp
          try with_reducible rfl
        rotate_left
        · simp only [Act.put, List.setIfInBounds_toArray, List.set_cons_zero, List.set_cons_succ, i64_w, i32_w]
          rfl
        refine done_ (by kernel_rfl) ?_
        clear hd hR1 hku hHeld
        clear q0 qf0 q1 qf1 q2 qf2 q3 qf3 q4 qf4 q5 qf5 q6 qf6
        have k1 := put7_blk ⟨lb, cd, un, ln, 1, mn, 1⟩ hC1.b1
        have kB := put7_below ⟨lb, cd, un, ln, 1, mn, 1⟩ hC1.be (Nat.le_refl w.heap.size)
        obtain ⟨W2, hW2⟩ : ∃ W2, W2 = (put7 wz w.heap.size ⟨lb, cd, un, ln, 1, mn, 1⟩).drew := ⟨_, rfl⟩
        have k2 : W2.heap[w.heap.size]? = some (.cells #[.string lb, .int .i64 cd, .string un, .int .i64 ln, .int .i64 1, .int .i64 mn, .int .i64 1] 61 (0, 0)) := by rw [hW2]; exact blk_below k1 (below_drew (Below.refl _ _))
        have hB_ : Below w.heap.size w W2 := by rw [hW2]; exact below_drew kB
        rw [show (((((((((((((((wz).setCell ⟨w.heap.size, 0, none⟩ (.string lb))).setCell ⟨w.heap.size, 1, none⟩ (.int .i64 cd))).setCell ⟨w.heap.size, 2, none⟩ (.string un))).setCell ⟨w.heap.size, 3, none⟩ (.int .i64 ln))).setCell ⟨w.heap.size, 4, none⟩ (.int .i64 1))).setCell ⟨w.heap.size, 5, none⟩ (.int .i64 mn))).setCell ⟨w.heap.size, 6, none⟩ (.int .i64 1))).drew = W2 from hW2.symm]
        clear hW2 k1 kB hC1 hC2
        have s0 : W2.cell? ⟨w.heap.size, 0, none⟩ = some (.string lb) := blk_cell k2 0
        have s1 : W2.cell? ⟨w.heap.size, 1, none⟩ = some (.int .i64 cd) := blk_cell k2 1
        have s2 : W2.cell? ⟨w.heap.size, 2, none⟩ = some (.string un) := blk_cell k2 2
        have s3 : W2.cell? ⟨w.heap.size, 3, none⟩ = some (.int .i64 ln) := blk_cell k2 3
        have s4 : W2.cell? ⟨w.heap.size, 4, none⟩ = some (.int .i64 1) := blk_cell k2 4
        have s5 : W2.cell? ⟨w.heap.size, 5, none⟩ = some (.int .i64 mn) := blk_cell k2 5
        have s6 : W2.cell? ⟨w.heap.size, 6, none⟩ = some (.int .i64 1) := blk_cell k2 6
        go_wp2_with fail
        refine bodyPost_ret (by simp [results, Try.results35, go_sem, s0, s1, s2, s3, s4, s5, s6]; try rfl) rfl ?_
        rw [HF.out]
        exact ⟨rfl, hB_⟩
      · have ee : (lb.toList == lab.toList) = false := by simp [he]
        have hm := more_at (f := fun x : TRow => x.label.toList) hku HA.out he
        have HM := Lib.hid hm
        clear hm he
        rw [ee]
        go_wp2_with fail
        refine ⟨⟨k + 1, by omega, by simp, hR1, hC1, HM.out⟩, ?_⟩
        simp [intOf]
        omega
    · obtain rfl : k = 24 := by omega
      have hf : find lab = none := find_none (f := fun x : TRow => x.label.toList) (fun x hx => HA.out x (by rw [List.take_of_length_le (by decide)]; exact hx))
      have HF := Lib.hid hf
      clear hf
      have c0 : wr.cell? ⟨w.heap.size, 0, none⟩ = some (.string ⟨#[]⟩) := blk_cell hC.b1 0
      have cf0 : wr.frozen? ⟨w.heap.size, 0, none⟩ = false := blk_frozen hC.b1 0
      have c1 : wr.cell? ⟨w.heap.size, 1, none⟩ = some (.int .i64 0) := blk_cell hC.b1 1
      have cf1 : wr.frozen? ⟨w.heap.size, 1, none⟩ = false := blk_frozen hC.b1 1
      have c2 : wr.cell? ⟨w.heap.size, 2, none⟩ = some (.string ⟨#[]⟩) := blk_cell hC.b1 2
      have cf2 : wr.frozen? ⟨w.heap.size, 2, none⟩ = false := blk_frozen hC.b1 2
      have c3 : wr.cell? ⟨w.heap.size, 3, none⟩ = some (.int .i64 0) := blk_cell hC.b1 3
      have cf3 : wr.frozen? ⟨w.heap.size, 3, none⟩ = false := blk_frozen hC.b1 3
      have c4 : wr.cell? ⟨w.heap.size, 4, none⟩ = some (.int .i64 0) := blk_cell hC.b1 4
      have cf4 : wr.frozen? ⟨w.heap.size, 4, none⟩ = false := blk_frozen hC.b1 4
      have c5 : wr.cell? ⟨w.heap.size, 5, none⟩ = some (.int .i64 0) := blk_cell hC.b1 5
      have cf5 : wr.frozen? ⟨w.heap.size, 5, none⟩ = false := blk_frozen hC.b1 5
      have c6 : wr.cell? ⟨w.heap.size, 6, none⟩ = some (.int .i64 0) := blk_cell hC.b1 6
      have cf6 : wr.frozen? ⟨w.heap.size, 6, none⟩ = false := blk_frozen hC.b1 6
      have hx_ := hC.b1
      have d_0 : wr.cell? ⟨w.heap.size, 0, none⟩ = some (.string ⟨#[]⟩) := blk_cell hx_ 0
      have df_0 : wr.frozen? ⟨w.heap.size, 0, none⟩ = false := blk_frozen hx_ 0
      have d_1 : wr.cell? ⟨w.heap.size, 1, none⟩ = some (.int .i64 0) := blk_cell hx_ 1
      have df_1 : wr.frozen? ⟨w.heap.size, 1, none⟩ = false := blk_frozen hx_ 1
      have d_2 : wr.cell? ⟨w.heap.size, 2, none⟩ = some (.string ⟨#[]⟩) := blk_cell hx_ 2
      have df_2 : wr.frozen? ⟨w.heap.size, 2, none⟩ = false := blk_frozen hx_ 2
      have d_3 : wr.cell? ⟨w.heap.size, 3, none⟩ = some (.int .i64 0) := blk_cell hx_ 3
      have df_3 : wr.frozen? ⟨w.heap.size, 3, none⟩ = false := blk_frozen hx_ 3
      have d_4 : wr.cell? ⟨w.heap.size, 4, none⟩ = some (.int .i64 0) := blk_cell hx_ 4
      have df_4 : wr.frozen? ⟨w.heap.size, 4, none⟩ = false := blk_frozen hx_ 4
      have d_5 : wr.cell? ⟨w.heap.size, 5, none⟩ = some (.int .i64 0) := blk_cell hx_ 5
      have df_5 : wr.frozen? ⟨w.heap.size, 5, none⟩ = false := blk_frozen hx_ 5
      have d_6 : wr.cell? ⟨w.heap.size, 6, none⟩ = some (.int .i64 0) := blk_cell hx_ 6
      have df_6 : wr.frozen? ⟨w.heap.size, 6, none⟩ = false := blk_frozen hx_ 6
      go_wp2_with fail
      have k_ := (blk_set (blk_set (blk_set (blk_set (blk_set (blk_set (blk_set hx_ 0 (.string ⟨#[]⟩)) 1 (.int .i64 0)) 2 (.string ⟨#[]⟩)) 3 (.int .i64 0)) 4 (.int .i64 0)) 5 (.int .i64 0)) 6 (.int .i64 0))
      have hB_ := (Below.setCell (Below.setCell (Below.setCell (Below.setCell (Below.setCell (Below.setCell (Below.setCell hC.be (p := ⟨w.heap.size, 0, none⟩) ((Nat.le_refl _)) (.string ⟨#[]⟩)) (p := ⟨w.heap.size, 1, none⟩) ((Nat.le_refl _)) (.int .i64 0)) (p := ⟨w.heap.size, 2, none⟩) ((Nat.le_refl _)) (.string ⟨#[]⟩)) (p := ⟨w.heap.size, 3, none⟩) ((Nat.le_refl _)) (.int .i64 0)) (p := ⟨w.heap.size, 4, none⟩) ((Nat.le_refl _)) (.int .i64 0)) (p := ⟨w.heap.size, 5, none⟩) ((Nat.le_refl _)) (.int .i64 0)) (p := ⟨w.heap.size, 6, none⟩) ((Nat.le_refl _)) (.int .i64 0))
      obtain ⟨w_, hw_⟩ : ∃ w_, w_ = (World.setCell (World.setCell (World.setCell (World.setCell (World.setCell (World.setCell (World.setCell wr ⟨w.heap.size, 0, none⟩ (.string ⟨#[]⟩)) ⟨w.heap.size, 1, none⟩ (.int .i64 0)) ⟨w.heap.size, 2, none⟩ (.string ⟨#[]⟩)) ⟨w.heap.size, 3, none⟩ (.int .i64 0)) ⟨w.heap.size, 4, none⟩ (.int .i64 0)) ⟨w.heap.size, 5, none⟩ (.int .i64 0)) ⟨w.heap.size, 6, none⟩ (.int .i64 0)) := ⟨_, rfl⟩
      rw [← hw_] at k_ hB_
      try rw [← hw_]
      clear hw_
      have s_0 : w_.cell? ⟨w.heap.size, 0, none⟩ = some (.string ⟨#[]⟩) := blk_cell k_ 0
      have s_1 : w_.cell? ⟨w.heap.size, 1, none⟩ = some (.int .i64 0) := blk_cell k_ 1
      have s_2 : w_.cell? ⟨w.heap.size, 2, none⟩ = some (.string ⟨#[]⟩) := blk_cell k_ 2
      have s_3 : w_.cell? ⟨w.heap.size, 3, none⟩ = some (.int .i64 0) := blk_cell k_ 3
      have s_4 : w_.cell? ⟨w.heap.size, 4, none⟩ = some (.int .i64 0) := blk_cell k_ 4
      have s_5 : w_.cell? ⟨w.heap.size, 5, none⟩ = some (.int .i64 0) := blk_cell k_ 5
      have s_6 : w_.cell? ⟨w.heap.size, 6, none⟩ = some (.int .i64 0) := blk_cell k_ 6
      refine bodyPost_ret (by simp [results, Try.results35, go_sem, s_0, s_1, s_2, s_3, s_4, s_5, s_6]; try rfl) rfl ?_
      rw [HF.out]
      exact ⟨rfl, hB_⟩
theorem reffind20_calls (name : ByteArray) (w : World) :
    Calls Try.prog 35 #[.string name] w fun e w' => e = .returned (.tuple #[((tfind name).getD zrow).val, .bool (tfind name).isSome]) ∧ Below w.heap.size w w' := by
  rw [← tfind_label name]
  exact reffind_lab name (labelR name) (label_calls name) w
end Go.Proofs.Ytcldlfhnmkogeaa.Term

/- The document's code of what has no term (lancetref20.Private), walked. -/
set_option linter.unusedVariables false
set_option linter.unusedSimpArgs false
namespace Go.Proofs.Ytcldlfhnmkogeaa.Term
open Go.RowKit Go.Proofs.YtcldlfhnmkogeaaW.PrintWords Go.Proofs.YtcldlfhnmkogeaaW.PrintLast Go.Proofs.Ytcldlfhnmkogeaa.Nats Go.Proofs.Ytcldlfhnmkogeaa.HeapKit Go.Proofs.Ytcldlfhnmkogeaa.CrcCalls

set_option maxRecDepth 100000 in
set_option maxHeartbeats 4000000 in
theorem refprivate_calls (s : ByteArray) (hs : s.size ≤ 4000) (w : World) :
    Calls Try.prog 37 #[.string s] w fun e w' => e = .returned (.int .i64 (privR s)) ∧ Below w.heap.size w w' := by
  have kb := fun W => print_bytes (P := Try.prog) 9 122 5 Try.underlying9 Try.underlying122 Try.underlying5 s W
  have hC := C_bytes w 5 s (by omega)
  have hB := bytes_below (Below.refl w.heap.size w) (Nat.le_refl _) 5 s
  have hcall := fun c => CrcRefSum.refSum 16 32773 0 0 true (bytesL s) (by decide) (by decide) (by decide) (by decide) (by decide) (by decide) (by decide) (bytesL_lt s) _ s.size c (bytesL_length s) (by omega) _ hC
  unfold CrcRefSum.ks at hcall
  have HPR : privR s = 61440 + ((CrcPlain.sum 16 32773 0 true 0 (bytesL s) : Nat) : Int).tmod 4096 := by
    unfold privR
    rw [Int.tmod_eq_emod_of_nonneg (Int.natCast_nonneg _)]
    omega
  obtain ⟨X, hX⟩ : ∃ X : Int, ((CrcPlain.sum 16 32773 0 true 0 (bytesL s) : Nat) : Int) = X := ⟨_, rfl⟩
  have h0 : 0 ≤ X := by rw [← hX]; exact Int.natCast_nonneg _
  rw [hX] at HPR
  simp only [hX] at hcall
  have HCALL := Lib.hid hcall
  obtain ⟨R, hR⟩ : ∃ R : Int, X.tmod 4096 = R := ⟨_, rfl⟩
  have h1 : 0 ≤ R ∧ R < 4096 := by rw [← hR, Int.tmod_eq_emod_of_nonneg h0]; omega
  rw [hR] at HPR
  have HPR := Lib.hid HPR
  clear hcall hX hC h0
  have u0 := w64 (n := R) (by omega)
  have u1 := w64 (n := 61440 + R) (by omega)
  clear h1
  go_enter Try.func37, Try.ntmps37
  go_wp2_with fail
  refine (HCALL.out _).mono ?_
  rintro e w2 ⟨rfl, hb⟩
  replace hB := bthen hB hb
  go_wp2_with fail
  go_ret
  rw [HPR.out]
  exact ⟨by rw [u1]; rfl, hB⟩
end Go.Proofs.Ytcldlfhnmkogeaa.Term

/- The law NomenPlays, walked. -/
set_option linter.unusedVariables false
set_option linter.unusedSimpArgs false
namespace Go.Proofs.Ytcldlfhnmkogeaa.NomenPlaysWalk
open Go.RowKit Go.Proofs.YtcldlfhnmkogeaaW.PrintWords Go.Proofs.YtcldlfhnmkogeaaW.PrintLast Go.Proofs.Ytcldlfhnmkogeaa.Nats Go.Proofs.Ytcldlfhnmkogeaa.HeapKit Go.Proofs.Ytcldlfhnmkogeaa.Term

theorem plain_calls (n d : Int) (w : World) : Calls Try.prog 32 #[.agg #[.int .i64 n, .int .i64 d]] w fun e w' => e = .returned (.agg #[.int .i64 n, .int .i64 d]) ∧ Below w.heap.size w w' :=
  PPlain.lancetlaw02_Plain.calls _ _ _ _ w rfl
/-- What is known ahead. -/
structure Known (s : ByteArray) (ok : Bool) (u : TRow) (c p : Int) : Prop where
  fa : ∀ w, Calls Try.prog 34 #[.string s] w fun e w' => e = .returned (.tuple #[.agg #[.string u.label, .int .i64 u.code, .string u.unit, .int .i64 u.ln, .int .i64 u.ld, .int .i64 u.mn, .int .i64 u.md], .bool ok]) ∧ Below w.heap.size w w'
  fb : ∀ w, Calls Try.prog 35 #[.string s] w fun e w' => e = .returned (.tuple #[.agg #[.string u.label, .int .i64 u.code, .string u.unit, .int .i64 u.ln, .int .i64 u.ld, .int .i64 u.mn, .int .i64 u.md], .bool ok]) ∧ Below w.heap.size w w'
  ca : ∀ w, Calls Try.prog 36 #[.string s] w fun e w' => e = .returned (.tuple #[.int .i64 c, .bool ok]) ∧ Below w.heap.size w w'
  pa : ∀ w, Calls Try.prog 38 #[.string s] w fun e w' => e = .returned (.int .i64 p) ∧ Below w.heap.size w w'
  pb : ∀ w, Calls Try.prog 37 #[.string s] w fun e w' => e = .returned (.int .i64 p) ∧ Below w.heap.size w w'
  on : ok = true → c = u.code
  off : ok = false → c = p
theorem known (s : ByteArray) (hs : s.size ≤ 4000) : ∃ ok u c p, Known s ok u c p := by
  have fa := fun w => find_calls s w
  have fb := fun w => reffind20_calls s w
  have ca := fun w => code_calls s hs w
  have pa := fun w => private_calls s hs w
  have pb := fun w => refprivate_calls s hs w
  unfold codeR at ca
  cases hu : tfind s with
  | none =>
    simp only [hu, TRow.val] at fa fb ca
    exact ⟨_, zrow, _, _, ⟨fa, fb, ca, pa, pb, fun e => (by cases e), fun _ => rfl⟩⟩
  | some u =>
    simp only [hu, TRow.val] at fa fb ca
    exact ⟨_, u, _, _, ⟨fa, fb, ca, pa, pb, fun _ => rfl, fun e => (by cases e)⟩⟩
/-- The boxes. -/
structure Pl (w wx : World) (p3 p5 : Nat) (u : TRow) : Prop where
  b : Below w.heap.size w wx
  k3 : wx.heap[p3]? = some (.cells #[.string u.label, .int .i64 u.code, .string u.unit, .int .i64 u.ln, .int .i64 u.ld, .int .i64 u.mn, .int .i64 u.md] 57 (0, 0))
  k5 : wx.heap[p5]? = some (.cells #[.string u.label, .int .i64 u.code, .string u.unit, .int .i64 u.ln, .int .i64 u.ld, .int .i64 u.mn, .int .i64 u.md] 61 (0, 0))
theorem Pl.step {w wx w2 : World} {p3 p5 : Nat} {u : TRow} (h : Pl w wx p3 p5 u) (hb : Below wx.heap.size wx w2) : Pl w w2 p3 p5 u :=
  ⟨bthen h.b hb, blk_below h.k3 hb, blk_below h.k5 hb⟩
set_option maxRecDepth 100000 in
set_option maxHeartbeats 4000000 in
theorem walk (s : ByteArray) (w : World) :
    Calls Try.prog 9 #[.string s] w fun e w' => e = .returned (.bool true) ∧ Below w.heap.size w w' := by
  go_enter Try.func9, Try.ntmps9
  go_wp2_with fail
  refine (awake20 _).mono ?_
  rintro e w1 ⟨rfl, hB⟩
  by_cases q0 : ((s.size : Nat) : Int) > 60
  · have t0 : decide (((s.size : Nat) : Int) > 60) = true := decide_eq_true q0
    go_wp2_with fail
    refine (awake20 _).mono ?_
    rintro e w9 ⟨rfl, hb9⟩
    go_wp2_with fail
    go_ret
    exact ⟨rfl, bthen hB hb9⟩
  have t0 : decide (((s.size : Nat) : Int) > 60) = false := decide_eq_false q0
  obtain ⟨ok, u, c, p, hk⟩ := known s (by omega)
  have HK := Lib.hid hk
  clear hk q0
  go_wp2_with fail
  clear t0
  refine (HK.out.fa _).mono ?_
  rintro e w2 ⟨rfl, hb2⟩
  replace hB := bthen (bthen hB hb2) (below_alloc (Below.refl _ _) (.cells #[.string u.label, .int .i64 u.code, .string u.unit, .int .i64 u.ln, .int .i64 u.ld, .int .i64 u.mn, .int .i64 u.md] 57))
  have k3 := blk_new w2 (.cells #[.string u.label, .int .i64 u.code, .string u.unit, .int .i64 u.ln, .int .i64 u.ld, .int .i64 u.mn, .int .i64 u.md] 57)
  clear hb2
  go_wp2_with fail
  refine (HK.out.fb _).mono ?_
  rintro e w3 ⟨rfl, hb3⟩
  have hP : Pl w (w3.alloc (.cells #[.string u.label, .int .i64 u.code, .string u.unit, .int .i64 u.ln, .int .i64 u.ld, .int .i64 u.mn, .int .i64 u.md] 61)) w2.heap.size w3.heap.size u := ⟨bthen (bthen hB hb3) (below_alloc (Below.refl _ _) _), blk_alloc (blk_below k3 hb3) _, blk_new w3 _⟩
  clear hb3 hB k3
  obtain ⟨p3, hp3⟩ : ∃ p, p = w2.heap.size := ⟨_, rfl⟩
  obtain ⟨p5, hp5⟩ : ∃ p, p = w3.heap.size := ⟨_, rfl⟩
  rw [← hp3, ← hp5] at hP
  rw [← hp3]
  clear hp3
  go_wp2_with fail
  rw [← hp5]
  clear hp5
  refine (HK.out.ca _).mono ?_
  rintro e w4 ⟨rfl, hb4⟩
  replace hP := hP.step hb4
  clear hb4
  go_wp2_with fail
  refine (HK.out.pb _).mono ?_
  rintro e w5 ⟨rfl, hb5⟩
  replace hP := hP.step hb5
  clear hb5
  go_wp2_with fail
  refine (HK.out.pa _).mono ?_
  rintro e w6 ⟨rfl, hb6⟩
  replace hP := hP.step hb6
  clear hb6
  have f1 : w6.cell? ⟨p5, 1, none⟩ = some (.int .i64 u.code) := blk_cell hP.k5 1
  cases ok with
  | true =>
    obtain rfl := HK.out.on rfl
    go_wp2_with fail
    clear f1
    refine start_ (n := 51) (S := fun wx => Pl w wx p3 p5 u) (ds := []) #[false, false, false, false, false, false, false, false, false, false, false, false, false, false, false, false, false, false, false, false, false, false, false, false, false, false, false, false, false, false, false, false, false, false, false, false, false, false, false, false, false, false, false, false, false, false, false, false, false, false, false] (by kernel_rfl) rfl rfl (hP.step (below_drew (Below.refl _ _))) (fun hHeld => ?_)
    refine pure_ (i := 0) (N := some 42) (v := ?_) (a' := ?_) #[true, false, false, false, false, false, false, false, false, false, false, false, false, false, false, false, false, false, false, false, false, false, false, false, false, false, false, false, false, false, false, false, false, false, false, false, false, false, false, false, false, false, false, false, false, false, false, false, false, false, false] rfl rfl (by kernel_rfl) (fun _ _ _ h => h) (Or.inl ⟨by rfl, ?_⟩) ?_ ?_
    rotate_left
    · intro w'
      go_simp
      try with_reducible rfl
    rotate_left
    · simp only [Act.put, List.setIfInBounds_toArray, List.set_cons_zero, List.set_cons_succ, i64_w, i32_w]
      rfl
    refine pure_ (i := 1) (N := some 43) (v := ?_) (a' := ?_) #[true, true, false, false, false, false, false, false, false, false, false, false, false, false, false, false, false, false, false, false, false, false, false, false, false, false, false, false, false, false, false, false, false, false, false, false, false, false, false, false, false, false, false, false, false, false, false, false, false, false, false] rfl rfl (by kernel_rfl) (fun _ _ _ h => h) (Or.inl ⟨by rfl, ?_⟩) ?_ ?_
    rotate_left
    · intro w'
      go_simp
      try with_reducible rfl
    rotate_left
    · simp only [Act.put, List.setIfInBounds_toArray, List.set_cons_zero, List.set_cons_succ, i64_w, i32_w]
      rfl
    refine pure_ (i := 2) (N := some 44) (v := ?_) (a' := ?_) #[true, true, true, false, false, false, false, false, false, false, false, false, false, false, false, false, false, false, false, false, false, false, false, false, false, false, false, false, false, false, false, false, false, false, false, false, false, false, false, false, false, false, false, false, false, false, false, false, false, false, false] rfl rfl (by kernel_rfl) (fun _ _ _ h => h) (Or.inl ⟨by rfl, ?_⟩) ?_ ?_
    rotate_left
    · intro w'
      go_simp
      try with_reducible rfl
    rotate_left
    · simp only [Act.put, List.setIfInBounds_toArray, List.set_cons_zero, List.set_cons_succ, i64_w, i32_w]
      rfl
    refine pure_ (i := 3) (N := some 45) (v := ?_) (a' := ?_) #[true, true, true, true, false, false, false, false, false, false, false, false, false, false, false, false, false, false, false, false, false, false, false, false, false, false, false, false, false, false, false, false, false, false, false, false, false, false, false, false, false, false, false, false, false, false, false, false, false, false, false] rfl rfl (by kernel_rfl) (fun _ _ _ h => h) (Or.inl ⟨by rfl, ?_⟩) ?_ ?_
    rotate_left
    · intro w'
      go_simp
      try with_reducible rfl
    rotate_left
    · simp only [Act.put, List.setIfInBounds_toArray, List.set_cons_zero, List.set_cons_succ, i64_w, i32_w]
      rfl
    refine pure_ (i := 4) (N := some 46) (v := ?_) (a' := ?_) #[true, true, true, true, true, false, false, false, false, false, false, false, false, false, false, false, false, false, false, false, false, false, false, false, false, false, false, false, false, false, false, false, false, false, false, false, false, false, false, false, false, false, false, false, false, false, false, false, false, false, false] rfl rfl (by kernel_rfl) (fun _ _ _ h => h) (Or.inl ⟨by rfl, ?_⟩) ?_ ?_
    rotate_left
    · intro w'
      go_simp
      try with_reducible rfl
    rotate_left
    · simp only [Act.put, List.setIfInBounds_toArray, List.set_cons_zero, List.set_cons_succ, i64_w, i32_w]
      rfl
    refine take_ (i := 5) (N := some 47) (v := ?_) (a' := ?_) #[true, true, true, true, true, true, false, false, false, false, false, false, false, false, false, false, false, false, false, false, false, false, false, false, false, false, false, false, false, false, false, false, false, false, false, false, false, false, false, false, false, false, false, false, false, false, false, false, false, false, false] rfl rfl (by kernel_rfl) (fun _ _ _ h => h) (Or.inl ⟨by rfl, ?_⟩) hHeld ?_ ?_
    rotate_left
    · rintro w' hh
      have c0 : w'.cell? ⟨p3, 0, none⟩ = some (.string u.label) := blk_cell hh.k3 0
      have c1 : w'.cell? ⟨p3, 1, none⟩ = some (.int .i64 u.code) := blk_cell hh.k3 1
      have c2 : w'.cell? ⟨p3, 2, none⟩ = some (.string u.unit) := blk_cell hh.k3 2
      have c3 : w'.cell? ⟨p3, 3, none⟩ = some (.int .i64 u.ln) := blk_cell hh.k3 3
      have c4 : w'.cell? ⟨p3, 4, none⟩ = some (.int .i64 u.ld) := blk_cell hh.k3 4
      have c5 : w'.cell? ⟨p3, 5, none⟩ = some (.int .i64 u.mn) := blk_cell hh.k3 5
      have c6 : w'.cell? ⟨p3, 6, none⟩ = some (.int .i64 u.md) := blk_cell hh.k3 6
      have d0 : w'.cell? ⟨p5, 0, none⟩ = some (.string u.label) := blk_cell hh.k5 0
      have d1 : w'.cell? ⟨p5, 1, none⟩ = some (.int .i64 u.code) := blk_cell hh.k5 1
      have d2 : w'.cell? ⟨p5, 2, none⟩ = some (.string u.unit) := blk_cell hh.k5 2
      have d3 : w'.cell? ⟨p5, 3, none⟩ = some (.int .i64 u.ln) := blk_cell hh.k5 3
      have d4 : w'.cell? ⟨p5, 4, none⟩ = some (.int .i64 u.ld) := blk_cell hh.k5 4
      have d5 : w'.cell? ⟨p5, 5, none⟩ = some (.int .i64 u.mn) := blk_cell hh.k5 5
      have d6 : w'.cell? ⟨p5, 6, none⟩ = some (.int .i64 u.md) := blk_cell hh.k5 6
      go_simp
      with_reducible rfl
    rotate_left
    · simp only [Act.put, List.setIfInBounds_toArray, List.set_cons_zero, List.set_cons_succ, i64_w, i32_w]
      rfl
    refine pure_ (i := 6) (N := some 48) (v := ?_) (a' := ?_) #[true, true, true, true, true, true, true, false, false, false, false, false, false, false, false, false, false, false, false, false, false, false, false, false, false, false, false, false, false, false, false, false, false, false, false, false, false, false, false, false, false, false, false, false, false, false, false, false, false, false, false] rfl rfl (by kernel_rfl) (fun _ _ _ h => h) (Or.inl ⟨by rfl, ?_⟩) ?_ ?_
    rotate_left
    · intro w'
      go_simp
      try with_reducible rfl
    rotate_left
    · simp only [Act.put, List.setIfInBounds_toArray, List.set_cons_zero, List.set_cons_succ, i64_w, i32_w]
      rfl
    refine take_ (i := 7) (N := some 49) (v := ?_) (a' := ?_) #[true, true, true, true, true, true, true, true, false, false, false, false, false, false, false, false, false, false, false, false, false, false, false, false, false, false, false, false, false, false, false, false, false, false, false, false, false, false, false, false, false, false, false, false, false, false, false, false, false, false, false] rfl rfl (by kernel_rfl) (fun _ _ _ h => h) (Or.inl ⟨by rfl, ?_⟩) hHeld ?_ ?_
    rotate_left
    · rintro w' hh
      have c0 : w'.cell? ⟨p3, 0, none⟩ = some (.string u.label) := blk_cell hh.k3 0
      have c1 : w'.cell? ⟨p3, 1, none⟩ = some (.int .i64 u.code) := blk_cell hh.k3 1
      have c2 : w'.cell? ⟨p3, 2, none⟩ = some (.string u.unit) := blk_cell hh.k3 2
      have c3 : w'.cell? ⟨p3, 3, none⟩ = some (.int .i64 u.ln) := blk_cell hh.k3 3
      have c4 : w'.cell? ⟨p3, 4, none⟩ = some (.int .i64 u.ld) := blk_cell hh.k3 4
      have c5 : w'.cell? ⟨p3, 5, none⟩ = some (.int .i64 u.mn) := blk_cell hh.k3 5
      have c6 : w'.cell? ⟨p3, 6, none⟩ = some (.int .i64 u.md) := blk_cell hh.k3 6
      have d0 : w'.cell? ⟨p5, 0, none⟩ = some (.string u.label) := blk_cell hh.k5 0
      have d1 : w'.cell? ⟨p5, 1, none⟩ = some (.int .i64 u.code) := blk_cell hh.k5 1
      have d2 : w'.cell? ⟨p5, 2, none⟩ = some (.string u.unit) := blk_cell hh.k5 2
      have d3 : w'.cell? ⟨p5, 3, none⟩ = some (.int .i64 u.ln) := blk_cell hh.k5 3
      have d4 : w'.cell? ⟨p5, 4, none⟩ = some (.int .i64 u.ld) := blk_cell hh.k5 4
      have d5 : w'.cell? ⟨p5, 5, none⟩ = some (.int .i64 u.mn) := blk_cell hh.k5 5
      have d6 : w'.cell? ⟨p5, 6, none⟩ = some (.int .i64 u.md) := blk_cell hh.k5 6
      go_simp
      with_reducible rfl
    rotate_left
    · simp only [Act.put, List.setIfInBounds_toArray, List.set_cons_zero, List.set_cons_succ, i64_w, i32_w]
      rfl
    refine pure_ (i := 8) (N := some 50) (v := ?_) (a' := ?_) #[true, true, true, true, true, true, true, true, true, false, false, false, false, false, false, false, false, false, false, false, false, false, false, false, false, false, false, false, false, false, false, false, false, false, false, false, false, false, false, false, false, false, false, false, false, false, false, false, false, false, false] rfl rfl (by kernel_rfl) (fun _ _ _ h => h) (Or.inl ⟨by rfl, ?_⟩) ?_ ?_
    rotate_left
    · intro w'
      go_simp
      try with_reducible rfl
    rotate_left
    · simp only [Act.put, List.setIfInBounds_toArray, List.set_cons_zero, List.set_cons_succ, i64_w, i32_w]
      rfl
    refine pure_ (i := 9) (N := some 51) (v := ?_) (a' := ?_) #[true, true, true, true, true, true, true, true, true, true, false, false, false, false, false, false, false, false, false, false, false, false, false, false, false, false, false, false, false, false, false, false, false, false, false, false, false, false, false, false, false, false, false, false, false, false, false, false, false, false, false] rfl rfl (by kernel_rfl) (fun _ _ _ h => h) (Or.inl ⟨by rfl, ?_⟩) ?_ ?_
    rotate_left
    · intro w'
      go_simp
      try with_reducible rfl
    rotate_left
    · simp only [Act.put, List.setIfInBounds_toArray, List.set_cons_zero, List.set_cons_succ, i64_w, i32_w]
      rfl
    refine pure_ (i := 10) (N := some 52) (v := ?_) (a' := ?_) #[true, true, true, true, true, true, true, true, true, true, true, false, false, false, false, false, false, false, false, false, false, false, false, false, false, false, false, false, false, false, false, false, false, false, false, false, false, false, false, false, false, false, false, false, false, false, false, false, false, false, false] rfl rfl (by kernel_rfl) (fun _ _ _ h => h) (Or.inl ⟨by rfl, ?_⟩) ?_ ?_
    rotate_left
    · intro w'
      go_simp
      try with_reducible rfl
    rotate_left
    · simp only [Act.put, List.setIfInBounds_toArray, List.set_cons_zero, List.set_cons_succ, i64_w, i32_w]
      rfl
    refine pure_ (i := 11) (N := some 53) (v := ?_) (a' := ?_) #[true, true, true, true, true, true, true, true, true, true, true, true, false, false, false, false, false, false, false, false, false, false, false, false, false, false, false, false, false, false, false, false, false, false, false, false, false, false, false, false, false, false, false, false, false, false, false, false, false, false, false] rfl rfl (by kernel_rfl) (fun _ _ _ h => h) (Or.inl ⟨by rfl, ?_⟩) ?_ ?_
    rotate_left
    · intro w'
      go_simp
      try with_reducible rfl
    rotate_left
    · simp only [Act.put, List.setIfInBounds_toArray, List.set_cons_zero, List.set_cons_succ, i64_w, i32_w]
      rfl
    refine take_ (i := 12) (N := some 54) (v := ?_) (a' := ?_) #[true, true, true, true, true, true, true, true, true, true, true, true, true, false, false, false, false, false, false, false, false, false, false, false, false, false, false, false, false, false, false, false, false, false, false, false, false, false, false, false, false, false, false, false, false, false, false, false, false, false, false] rfl rfl (by kernel_rfl) (fun _ _ _ h => h) (Or.inl ⟨by rfl, ?_⟩) hHeld ?_ ?_
    rotate_left
    · rintro w' hh
      have c0 : w'.cell? ⟨p3, 0, none⟩ = some (.string u.label) := blk_cell hh.k3 0
      have c1 : w'.cell? ⟨p3, 1, none⟩ = some (.int .i64 u.code) := blk_cell hh.k3 1
      have c2 : w'.cell? ⟨p3, 2, none⟩ = some (.string u.unit) := blk_cell hh.k3 2
      have c3 : w'.cell? ⟨p3, 3, none⟩ = some (.int .i64 u.ln) := blk_cell hh.k3 3
      have c4 : w'.cell? ⟨p3, 4, none⟩ = some (.int .i64 u.ld) := blk_cell hh.k3 4
      have c5 : w'.cell? ⟨p3, 5, none⟩ = some (.int .i64 u.mn) := blk_cell hh.k3 5
      have c6 : w'.cell? ⟨p3, 6, none⟩ = some (.int .i64 u.md) := blk_cell hh.k3 6
      have d0 : w'.cell? ⟨p5, 0, none⟩ = some (.string u.label) := blk_cell hh.k5 0
      have d1 : w'.cell? ⟨p5, 1, none⟩ = some (.int .i64 u.code) := blk_cell hh.k5 1
      have d2 : w'.cell? ⟨p5, 2, none⟩ = some (.string u.unit) := blk_cell hh.k5 2
      have d3 : w'.cell? ⟨p5, 3, none⟩ = some (.int .i64 u.ln) := blk_cell hh.k5 3
      have d4 : w'.cell? ⟨p5, 4, none⟩ = some (.int .i64 u.ld) := blk_cell hh.k5 4
      have d5 : w'.cell? ⟨p5, 5, none⟩ = some (.int .i64 u.mn) := blk_cell hh.k5 5
      have d6 : w'.cell? ⟨p5, 6, none⟩ = some (.int .i64 u.md) := blk_cell hh.k5 6
      go_simp
      with_reducible rfl
    rotate_left
    · simp only [Act.put, List.setIfInBounds_toArray, List.set_cons_zero, List.set_cons_succ, i64_w, i32_w]
      rfl
    refine pure_ (i := 13) (N := some 55) (v := ?_) (a' := ?_) #[true, true, true, true, true, true, true, true, true, true, true, true, true, true, false, false, false, false, false, false, false, false, false, false, false, false, false, false, false, false, false, false, false, false, false, false, false, false, false, false, false, false, false, false, false, false, false, false, false, false, false] rfl rfl (by kernel_rfl) (fun _ _ _ h => h) (Or.inl ⟨by rfl, ?_⟩) ?_ ?_
    rotate_left
    · intro w'
      go_simp
      try with_reducible rfl
    rotate_left
    · simp only [Act.put, List.setIfInBounds_toArray, List.set_cons_zero, List.set_cons_succ, i64_w, i32_w]
      rfl
    refine take_ (i := 14) (N := some 56) (v := ?_) (a' := ?_) #[true, true, true, true, true, true, true, true, true, true, true, true, true, true, true, false, false, false, false, false, false, false, false, false, false, false, false, false, false, false, false, false, false, false, false, false, false, false, false, false, false, false, false, false, false, false, false, false, false, false, false] rfl rfl (by kernel_rfl) (fun _ _ _ h => h) (Or.inl ⟨by rfl, ?_⟩) hHeld ?_ ?_
    rotate_left
    · rintro w' hh
      have c0 : w'.cell? ⟨p3, 0, none⟩ = some (.string u.label) := blk_cell hh.k3 0
      have c1 : w'.cell? ⟨p3, 1, none⟩ = some (.int .i64 u.code) := blk_cell hh.k3 1
      have c2 : w'.cell? ⟨p3, 2, none⟩ = some (.string u.unit) := blk_cell hh.k3 2
      have c3 : w'.cell? ⟨p3, 3, none⟩ = some (.int .i64 u.ln) := blk_cell hh.k3 3
      have c4 : w'.cell? ⟨p3, 4, none⟩ = some (.int .i64 u.ld) := blk_cell hh.k3 4
      have c5 : w'.cell? ⟨p3, 5, none⟩ = some (.int .i64 u.mn) := blk_cell hh.k3 5
      have c6 : w'.cell? ⟨p3, 6, none⟩ = some (.int .i64 u.md) := blk_cell hh.k3 6
      have d0 : w'.cell? ⟨p5, 0, none⟩ = some (.string u.label) := blk_cell hh.k5 0
      have d1 : w'.cell? ⟨p5, 1, none⟩ = some (.int .i64 u.code) := blk_cell hh.k5 1
      have d2 : w'.cell? ⟨p5, 2, none⟩ = some (.string u.unit) := blk_cell hh.k5 2
      have d3 : w'.cell? ⟨p5, 3, none⟩ = some (.int .i64 u.ln) := blk_cell hh.k5 3
      have d4 : w'.cell? ⟨p5, 4, none⟩ = some (.int .i64 u.ld) := blk_cell hh.k5 4
      have d5 : w'.cell? ⟨p5, 5, none⟩ = some (.int .i64 u.mn) := blk_cell hh.k5 5
      have d6 : w'.cell? ⟨p5, 6, none⟩ = some (.int .i64 u.md) := blk_cell hh.k5 6
      go_simp
      with_reducible rfl
    rotate_left
    · simp only [Act.put, List.setIfInBounds_toArray, List.set_cons_zero, List.set_cons_succ, i64_w, i32_w]
      rfl
    refine pure_ (i := 15) (N := some 57) (v := ?_) (a' := ?_) #[true, true, true, true, true, true, true, true, true, true, true, true, true, true, true, true, false, false, false, false, false, false, false, false, false, false, false, false, false, false, false, false, false, false, false, false, false, false, false, false, false, false, false, false, false, false, false, false, false, false, false] rfl rfl (by kernel_rfl) (fun _ _ _ h => h) (Or.inl ⟨by rfl, ?_⟩) ?_ ?_
    rotate_left
    · intro w'
      go_simp
      try with_reducible rfl
    rotate_left
    · simp only [Act.put, List.setIfInBounds_toArray, List.set_cons_zero, List.set_cons_succ, i64_w, i32_w]
      rfl
    refine pure_ (i := 16) (N := some 58) (v := ?_) (a' := ?_) #[true, true, true, true, true, true, true, true, true, true, true, true, true, true, true, true, true, false, false, false, false, false, false, false, false, false, false, false, false, false, false, false, false, false, false, false, false, false, false, false, false, false, false, false, false, false, false, false, false, false, false] rfl rfl (by kernel_rfl) (fun _ _ _ h => h) (Or.inl ⟨by rfl, ?_⟩) ?_ ?_
    rotate_left
    · intro w'
      go_simp
      try with_reducible rfl
    rotate_left
    · simp only [Act.put, List.setIfInBounds_toArray, List.set_cons_zero, List.set_cons_succ, i64_w, i32_w]
      rfl
    refine pure_ (i := 17) (N := some 59) (v := ?_) (a' := ?_) #[true, true, true, true, true, true, true, true, true, true, true, true, true, true, true, true, true, true, false, false, false, false, false, false, false, false, false, false, false, false, false, false, false, false, false, false, false, false, false, false, false, false, false, false, false, false, false, false, false, false, false] rfl rfl (by kernel_rfl) (fun _ _ _ h => h) (Or.inl ⟨by rfl, ?_⟩) ?_ ?_
    rotate_left
    · intro w'
      go_simp
      try with_reducible rfl
    rotate_left
    · simp only [Act.put, List.setIfInBounds_toArray, List.set_cons_zero, List.set_cons_succ, i64_w, i32_w]
      rfl
    refine pure_ (i := 18) (N := some 60) (v := ?_) (a' := ?_) #[true, true, true, true, true, true, true, true, true, true, true, true, true, true, true, true, true, true, true, false, false, false, false, false, false, false, false, false, false, false, false, false, false, false, false, false, false, false, false, false, false, false, false, false, false, false, false, false, false, false, false] rfl rfl (by kernel_rfl) (fun _ _ _ h => h) (Or.inl ⟨by rfl, ?_⟩) ?_ ?_
    rotate_left
    · intro w'
      go_simp
      try with_reducible rfl
    rotate_left
    · simp only [Act.put, List.setIfInBounds_toArray, List.set_cons_zero, List.set_cons_succ, i64_w, i32_w]
      rfl
    refine take_ (i := 19) (N := some 61) (v := ?_) (a' := ?_) #[true, true, true, true, true, true, true, true, true, true, true, true, true, true, true, true, true, true, true, true, false, false, false, false, false, false, false, false, false, false, false, false, false, false, false, false, false, false, false, false, false, false, false, false, false, false, false, false, false, false, false] rfl rfl (by kernel_rfl) (fun _ _ _ h => h) (Or.inl ⟨by rfl, ?_⟩) hHeld ?_ ?_
    rotate_left
    · rintro w' hh
      have c0 : w'.cell? ⟨p3, 0, none⟩ = some (.string u.label) := blk_cell hh.k3 0
      have c1 : w'.cell? ⟨p3, 1, none⟩ = some (.int .i64 u.code) := blk_cell hh.k3 1
      have c2 : w'.cell? ⟨p3, 2, none⟩ = some (.string u.unit) := blk_cell hh.k3 2
      have c3 : w'.cell? ⟨p3, 3, none⟩ = some (.int .i64 u.ln) := blk_cell hh.k3 3
      have c4 : w'.cell? ⟨p3, 4, none⟩ = some (.int .i64 u.ld) := blk_cell hh.k3 4
      have c5 : w'.cell? ⟨p3, 5, none⟩ = some (.int .i64 u.mn) := blk_cell hh.k3 5
      have c6 : w'.cell? ⟨p3, 6, none⟩ = some (.int .i64 u.md) := blk_cell hh.k3 6
      have d0 : w'.cell? ⟨p5, 0, none⟩ = some (.string u.label) := blk_cell hh.k5 0
      have d1 : w'.cell? ⟨p5, 1, none⟩ = some (.int .i64 u.code) := blk_cell hh.k5 1
      have d2 : w'.cell? ⟨p5, 2, none⟩ = some (.string u.unit) := blk_cell hh.k5 2
      have d3 : w'.cell? ⟨p5, 3, none⟩ = some (.int .i64 u.ln) := blk_cell hh.k5 3
      have d4 : w'.cell? ⟨p5, 4, none⟩ = some (.int .i64 u.ld) := blk_cell hh.k5 4
      have d5 : w'.cell? ⟨p5, 5, none⟩ = some (.int .i64 u.mn) := blk_cell hh.k5 5
      have d6 : w'.cell? ⟨p5, 6, none⟩ = some (.int .i64 u.md) := blk_cell hh.k5 6
      go_simp
      with_reducible rfl
    rotate_left
    · simp only [Act.put, List.setIfInBounds_toArray, List.set_cons_zero, List.set_cons_succ, i64_w, i32_w]
      rfl
    refine pure_ (i := 20) (N := some 62) (v := ?_) (a' := ?_) #[true, true, true, true, true, true, true, true, true, true, true, true, true, true, true, true, true, true, true, true, true, false, false, false, false, false, false, false, false, false, false, false, false, false, false, false, false, false, false, false, false, false, false, false, false, false, false, false, false, false, false] rfl rfl (by kernel_rfl) (fun _ _ _ h => h) (Or.inl ⟨by rfl, ?_⟩) ?_ ?_
    rotate_left
    · intro w'
      go_simp
      try with_reducible rfl
    rotate_left
    · simp only [Act.put, List.setIfInBounds_toArray, List.set_cons_zero, List.set_cons_succ, i64_w, i32_w]
      rfl
    refine take_ (i := 21) (N := some 63) (v := ?_) (a' := ?_) #[true, true, true, true, true, true, true, true, true, true, true, true, true, true, true, true, true, true, true, true, true, true, false, false, false, false, false, false, false, false, false, false, false, false, false, false, false, false, false, false, false, false, false, false, false, false, false, false, false, false, false] rfl rfl (by kernel_rfl) (fun _ _ _ h => h) (Or.inl ⟨by rfl, ?_⟩) hHeld ?_ ?_
    rotate_left
    · rintro w' hh
      have c0 : w'.cell? ⟨p3, 0, none⟩ = some (.string u.label) := blk_cell hh.k3 0
      have c1 : w'.cell? ⟨p3, 1, none⟩ = some (.int .i64 u.code) := blk_cell hh.k3 1
      have c2 : w'.cell? ⟨p3, 2, none⟩ = some (.string u.unit) := blk_cell hh.k3 2
      have c3 : w'.cell? ⟨p3, 3, none⟩ = some (.int .i64 u.ln) := blk_cell hh.k3 3
      have c4 : w'.cell? ⟨p3, 4, none⟩ = some (.int .i64 u.ld) := blk_cell hh.k3 4
      have c5 : w'.cell? ⟨p3, 5, none⟩ = some (.int .i64 u.mn) := blk_cell hh.k3 5
      have c6 : w'.cell? ⟨p3, 6, none⟩ = some (.int .i64 u.md) := blk_cell hh.k3 6
      have d0 : w'.cell? ⟨p5, 0, none⟩ = some (.string u.label) := blk_cell hh.k5 0
      have d1 : w'.cell? ⟨p5, 1, none⟩ = some (.int .i64 u.code) := blk_cell hh.k5 1
      have d2 : w'.cell? ⟨p5, 2, none⟩ = some (.string u.unit) := blk_cell hh.k5 2
      have d3 : w'.cell? ⟨p5, 3, none⟩ = some (.int .i64 u.ln) := blk_cell hh.k5 3
      have d4 : w'.cell? ⟨p5, 4, none⟩ = some (.int .i64 u.ld) := blk_cell hh.k5 4
      have d5 : w'.cell? ⟨p5, 5, none⟩ = some (.int .i64 u.mn) := blk_cell hh.k5 5
      have d6 : w'.cell? ⟨p5, 6, none⟩ = some (.int .i64 u.md) := blk_cell hh.k5 6
      go_simp
      with_reducible rfl
    rotate_left
    · simp only [Act.put, List.setIfInBounds_toArray, List.set_cons_zero, List.set_cons_succ, i64_w, i32_w]
      rfl
    refine pure_ (i := 22) (N := some 64) (v := ?_) (a' := ?_) #[true, true, true, true, true, true, true, true, true, true, true, true, true, true, true, true, true, true, true, true, true, true, true, false, false, false, false, false, false, false, false, false, false, false, false, false, false, false, false, false, false, false, false, false, false, false, false, false, false, false, false] rfl rfl (by kernel_rfl) (fun _ _ _ h => h) (Or.inl ⟨by rfl, ?_⟩) ?_ ?_
    rotate_left
    · intro w'
      go_simp
      try with_reducible rfl
    rotate_left
    · simp only [Act.put, List.setIfInBounds_toArray, List.set_cons_zero, List.set_cons_succ, i64_w, i32_w]
      rfl
    refine pure_ (i := 23) (N := some 65) (v := ?_) (a' := ?_) #[true, true, true, true, true, true, true, true, true, true, true, true, true, true, true, true, true, true, true, true, true, true, true, true, false, false, false, false, false, false, false, false, false, false, false, false, false, false, false, false, false, false, false, false, false, false, false, false, false, false, false] rfl rfl (by kernel_rfl) (fun _ _ _ h => h) (Or.inl ⟨by rfl, ?_⟩) ?_ ?_
    rotate_left
    · intro w'
      go_simp
      try with_reducible rfl
    rotate_left
    · simp only [Act.put, List.setIfInBounds_toArray, List.set_cons_zero, List.set_cons_succ, i64_w, i32_w]
      rfl
    refine pure_ (i := 24) (N := some 66) (v := ?_) (a' := ?_) #[true, true, true, true, true, true, true, true, true, true, true, true, true, true, true, true, true, true, true, true, true, true, true, true, true, false, false, false, false, false, false, false, false, false, false, false, false, false, false, false, false, false, false, false, false, false, false, false, false, false, false] rfl rfl (by kernel_rfl) (fun _ _ _ h => h) (Or.inl ⟨by rfl, ?_⟩) ?_ ?_
    rotate_left
    · intro w'
      go_simp
      try with_reducible rfl
    rotate_left
    · simp only [Act.put, List.setIfInBounds_toArray, List.set_cons_zero, List.set_cons_succ, i64_w, i32_w]
      rfl
    refine pure_ (i := 25) (N := some 67) (v := ?_) (a' := ?_) #[true, true, true, true, true, true, true, true, true, true, true, true, true, true, true, true, true, true, true, true, true, true, true, true, true, true, false, false, false, false, false, false, false, false, false, false, false, false, false, false, false, false, false, false, false, false, false, false, false, false, false] rfl rfl (by kernel_rfl) (fun _ _ _ h => h) (Or.inl ⟨by rfl, ?_⟩) ?_ ?_
    rotate_left
    · intro w'
      go_simp
      try with_reducible rfl
    rotate_left
    · simp only [Act.put, List.setIfInBounds_toArray, List.set_cons_zero, List.set_cons_succ, i64_w, i32_w]
      rfl
    refine take_ (i := 26) (N := some 68) (v := ?_) (a' := ?_) #[true, true, true, true, true, true, true, true, true, true, true, true, true, true, true, true, true, true, true, true, true, true, true, true, true, true, true, false, false, false, false, false, false, false, false, false, false, false, false, false, false, false, false, false, false, false, false, false, false, false, false] rfl rfl (by kernel_rfl) (fun _ _ _ h => h) (Or.inl ⟨by rfl, ?_⟩) hHeld ?_ ?_
    rotate_left
    · rintro w' hh
      have c0 : w'.cell? ⟨p3, 0, none⟩ = some (.string u.label) := blk_cell hh.k3 0
      have c1 : w'.cell? ⟨p3, 1, none⟩ = some (.int .i64 u.code) := blk_cell hh.k3 1
      have c2 : w'.cell? ⟨p3, 2, none⟩ = some (.string u.unit) := blk_cell hh.k3 2
      have c3 : w'.cell? ⟨p3, 3, none⟩ = some (.int .i64 u.ln) := blk_cell hh.k3 3
      have c4 : w'.cell? ⟨p3, 4, none⟩ = some (.int .i64 u.ld) := blk_cell hh.k3 4
      have c5 : w'.cell? ⟨p3, 5, none⟩ = some (.int .i64 u.mn) := blk_cell hh.k3 5
      have c6 : w'.cell? ⟨p3, 6, none⟩ = some (.int .i64 u.md) := blk_cell hh.k3 6
      have d0 : w'.cell? ⟨p5, 0, none⟩ = some (.string u.label) := blk_cell hh.k5 0
      have d1 : w'.cell? ⟨p5, 1, none⟩ = some (.int .i64 u.code) := blk_cell hh.k5 1
      have d2 : w'.cell? ⟨p5, 2, none⟩ = some (.string u.unit) := blk_cell hh.k5 2
      have d3 : w'.cell? ⟨p5, 3, none⟩ = some (.int .i64 u.ln) := blk_cell hh.k5 3
      have d4 : w'.cell? ⟨p5, 4, none⟩ = some (.int .i64 u.ld) := blk_cell hh.k5 4
      have d5 : w'.cell? ⟨p5, 5, none⟩ = some (.int .i64 u.mn) := blk_cell hh.k5 5
      have d6 : w'.cell? ⟨p5, 6, none⟩ = some (.int .i64 u.md) := blk_cell hh.k5 6
      go_simp
      with_reducible rfl
    rotate_left
    · simp only [Act.put, List.setIfInBounds_toArray, List.set_cons_zero, List.set_cons_succ, i64_w, i32_w]
      rfl
    refine pure_ (i := 28) (N := some 70) (v := ?_) (a' := ?_) #[true, true, true, true, true, true, true, true, true, true, true, true, true, true, true, true, true, true, true, true, true, true, true, true, true, true, true, false, true, false, false, false, false, false, false, false, false, false, false, false, false, false, false, false, false, false, false, false, false, false, false] rfl rfl (by kernel_rfl) (fun _ _ _ h => h) (Or.inl ⟨by rfl, ?_⟩) ?_ ?_
    rotate_left
    · intro w'
      go_simp
      try with_reducible rfl
    rotate_left
    · simp only [Act.put, List.setIfInBounds_toArray, List.set_cons_zero, List.set_cons_succ, i64_w, i32_w]
      rfl
    refine take_ (i := 29) (N := some 71) (v := ?_) (a' := ?_) #[true, true, true, true, true, true, true, true, true, true, true, true, true, true, true, true, true, true, true, true, true, true, true, true, true, true, true, false, true, true, false, false, false, false, false, false, false, false, false, false, false, false, false, false, false, false, false, false, false, false, false] rfl rfl (by kernel_rfl) (fun _ _ _ h => h) (Or.inl ⟨by rfl, ?_⟩) hHeld ?_ ?_
    rotate_left
    · rintro w' hh
      have c0 : w'.cell? ⟨p3, 0, none⟩ = some (.string u.label) := blk_cell hh.k3 0
      have c1 : w'.cell? ⟨p3, 1, none⟩ = some (.int .i64 u.code) := blk_cell hh.k3 1
      have c2 : w'.cell? ⟨p3, 2, none⟩ = some (.string u.unit) := blk_cell hh.k3 2
      have c3 : w'.cell? ⟨p3, 3, none⟩ = some (.int .i64 u.ln) := blk_cell hh.k3 3
      have c4 : w'.cell? ⟨p3, 4, none⟩ = some (.int .i64 u.ld) := blk_cell hh.k3 4
      have c5 : w'.cell? ⟨p3, 5, none⟩ = some (.int .i64 u.mn) := blk_cell hh.k3 5
      have c6 : w'.cell? ⟨p3, 6, none⟩ = some (.int .i64 u.md) := blk_cell hh.k3 6
      have d0 : w'.cell? ⟨p5, 0, none⟩ = some (.string u.label) := blk_cell hh.k5 0
      have d1 : w'.cell? ⟨p5, 1, none⟩ = some (.int .i64 u.code) := blk_cell hh.k5 1
      have d2 : w'.cell? ⟨p5, 2, none⟩ = some (.string u.unit) := blk_cell hh.k5 2
      have d3 : w'.cell? ⟨p5, 3, none⟩ = some (.int .i64 u.ln) := blk_cell hh.k5 3
      have d4 : w'.cell? ⟨p5, 4, none⟩ = some (.int .i64 u.ld) := blk_cell hh.k5 4
      have d5 : w'.cell? ⟨p5, 5, none⟩ = some (.int .i64 u.mn) := blk_cell hh.k5 5
      have d6 : w'.cell? ⟨p5, 6, none⟩ = some (.int .i64 u.md) := blk_cell hh.k5 6
      go_simp
      with_reducible rfl
    rotate_left
    · simp only [Act.put, List.setIfInBounds_toArray, List.set_cons_zero, List.set_cons_succ, i64_w, i32_w]
      rfl
    refine one_ (i := 27) (N := some 69) #[true, true, true, true, true, true, true, true, true, true, true, true, true, true, true, true, true, true, true, true, true, true, true, true, true, true, true, true, true, true, false, false, false, false, false, false, false, false, false, false, false, false, false, false, false, false, false, false, false, false, false] rfl rfl (by kernel_rfl) (by decide) (fun K hK => ?_)
    refine goes_ Try.func32 (by kernel_rfl) rfl #[.agg #[.int .i64 u.ln, .int .i64 u.ld]] (by rfl) rfl rfl (by (try simp only [List.map_toArray, List.map_cons, List.map_nil]); first | done | rfl) ?_
    refine (plain_calls u.ln u.ld _).mono ?_
    rintro e wz ⟨rfl, hb_⟩
    refine ⟨_, rfl, ?_⟩
    refine hK.out _ _ (hHeld.step hb_) (fun hHeld => ?_)
    clear hK K
    refine norm_ (a' := ?_) ?_ ?_
    rotate_left
    · show Act.put _ (some 69) _ = _
      simp only [Act.put, List.setIfInBounds_toArray, List.set_cons_zero, List.set_cons_succ, i64_w, i32_w]
      rfl
    refine pure_ (i := 30) (N := some 72) (v := ?_) (a' := ?_) #[true, true, true, true, true, true, true, true, true, true, true, true, true, true, true, true, true, true, true, true, true, true, true, true, true, true, true, true, true, true, true, false, false, false, false, false, false, false, false, false, false, false, false, false, false, false, false, false, false, false, false] rfl rfl (by kernel_rfl) (fun _ _ _ h => h) (Or.inl ⟨by rfl, ?_⟩) ?_ ?_
    rotate_left
    · intro w'
      go_simp
      try with_reducible rfl
    rotate_left
    · simp only [Act.put, List.setIfInBounds_toArray, List.set_cons_zero, List.set_cons_succ, i64_w, i32_w]
      rfl
    refine pure_ (i := 31) (N := some 73) (v := ?_) (a' := ?_) #[true, true, true, true, true, true, true, true, true, true, true, true, true, true, true, true, true, true, true, true, true, true, true, true, true, true, true, true, true, true, true, true, false, false, false, false, false, false, false, false, false, false, false, false, false, false, false, false, false, false, false] rfl rfl (by kernel_rfl) (fun _ _ _ h => h) (Or.inl ⟨by rfl, ?_⟩) ?_ ?_
    rotate_left
    · intro w'
      go_simp
      try with_reducible rfl
    rotate_left
    · simp only [Act.put, List.setIfInBounds_toArray, List.set_cons_zero, List.set_cons_succ, i64_w, i32_w]
      rfl
    refine pure_ (i := 32) (N := some 74) (v := ?_) (a' := ?_) #[true, true, true, true, true, true, true, true, true, true, true, true, true, true, true, true, true, true, true, true, true, true, true, true, true, true, true, true, true, true, true, true, true, false, false, false, false, false, false, false, false, false, false, false, false, false, false, false, false, false, false] rfl rfl (by kernel_rfl) (fun _ _ _ h => h) (Or.inl ⟨by rfl, ?_⟩) ?_ ?_
    rotate_left
    · intro w'
      go_simp
      try with_reducible rfl
    rotate_left
    · simp only [Act.put, List.setIfInBounds_toArray, List.set_cons_zero, List.set_cons_succ, i64_w, i32_w]
      rfl
    refine pure_ (i := 33) (N := some 75) (v := ?_) (a' := ?_) #[true, true, true, true, true, true, true, true, true, true, true, true, true, true, true, true, true, true, true, true, true, true, true, true, true, true, true, true, true, true, true, true, true, true, false, false, false, false, false, false, false, false, false, false, false, false, false, false, false, false, false] rfl rfl (by kernel_rfl) (fun _ _ _ h => h) (Or.inl ⟨by rfl, ?_⟩) ?_ ?_
    rotate_left
    · intro w'
      go_simp
      try with_reducible rfl
    rotate_left
    · simp only [Act.put, List.setIfInBounds_toArray, List.set_cons_zero, List.set_cons_succ, i64_w, i32_w]
      rfl
    refine take_ (i := 34) (N := some 76) (v := ?_) (a' := ?_) #[true, true, true, true, true, true, true, true, true, true, true, true, true, true, true, true, true, true, true, true, true, true, true, true, true, true, true, true, true, true, true, true, true, true, true, false, false, false, false, false, false, false, false, false, false, false, false, false, false, false, false] rfl rfl (by kernel_rfl) (fun _ _ _ h => h) (Or.inl ⟨by rfl, ?_⟩) hHeld ?_ ?_
    rotate_left
    · rintro w' hh
      have c0 : w'.cell? ⟨p3, 0, none⟩ = some (.string u.label) := blk_cell hh.k3 0
      have c1 : w'.cell? ⟨p3, 1, none⟩ = some (.int .i64 u.code) := blk_cell hh.k3 1
      have c2 : w'.cell? ⟨p3, 2, none⟩ = some (.string u.unit) := blk_cell hh.k3 2
      have c3 : w'.cell? ⟨p3, 3, none⟩ = some (.int .i64 u.ln) := blk_cell hh.k3 3
      have c4 : w'.cell? ⟨p3, 4, none⟩ = some (.int .i64 u.ld) := blk_cell hh.k3 4
      have c5 : w'.cell? ⟨p3, 5, none⟩ = some (.int .i64 u.mn) := blk_cell hh.k3 5
      have c6 : w'.cell? ⟨p3, 6, none⟩ = some (.int .i64 u.md) := blk_cell hh.k3 6
      have d0 : w'.cell? ⟨p5, 0, none⟩ = some (.string u.label) := blk_cell hh.k5 0
      have d1 : w'.cell? ⟨p5, 1, none⟩ = some (.int .i64 u.code) := blk_cell hh.k5 1
      have d2 : w'.cell? ⟨p5, 2, none⟩ = some (.string u.unit) := blk_cell hh.k5 2
      have d3 : w'.cell? ⟨p5, 3, none⟩ = some (.int .i64 u.ln) := blk_cell hh.k5 3
      have d4 : w'.cell? ⟨p5, 4, none⟩ = some (.int .i64 u.ld) := blk_cell hh.k5 4
      have d5 : w'.cell? ⟨p5, 5, none⟩ = some (.int .i64 u.mn) := blk_cell hh.k5 5
      have d6 : w'.cell? ⟨p5, 6, none⟩ = some (.int .i64 u.md) := blk_cell hh.k5 6
      go_simp
      with_reducible rfl
    rotate_left
    · simp only [Act.put, List.setIfInBounds_toArray, List.set_cons_zero, List.set_cons_succ, i64_w, i32_w]
      rfl
    refine pure_ (i := 36) (N := some 78) (v := ?_) (a' := ?_) #[true, true, true, true, true, true, true, true, true, true, true, true, true, true, true, true, true, true, true, true, true, true, true, true, true, true, true, true, true, true, true, true, true, true, true, false, true, false, false, false, false, false, false, false, false, false, false, false, false, false, false] rfl rfl (by kernel_rfl) (fun _ _ _ h => h) (Or.inl ⟨by rfl, ?_⟩) ?_ ?_
    rotate_left
    · intro w'
      go_simp
      try with_reducible rfl
    rotate_left
    · simp only [Act.put, List.setIfInBounds_toArray, List.set_cons_zero, List.set_cons_succ, i64_w, i32_w]
      rfl
    refine take_ (i := 37) (N := some 79) (v := ?_) (a' := ?_) #[true, true, true, true, true, true, true, true, true, true, true, true, true, true, true, true, true, true, true, true, true, true, true, true, true, true, true, true, true, true, true, true, true, true, true, false, true, true, false, false, false, false, false, false, false, false, false, false, false, false, false] rfl rfl (by kernel_rfl) (fun _ _ _ h => h) (Or.inl ⟨by rfl, ?_⟩) hHeld ?_ ?_
    rotate_left
    · rintro w' hh
      have c0 : w'.cell? ⟨p3, 0, none⟩ = some (.string u.label) := blk_cell hh.k3 0
      have c1 : w'.cell? ⟨p3, 1, none⟩ = some (.int .i64 u.code) := blk_cell hh.k3 1
      have c2 : w'.cell? ⟨p3, 2, none⟩ = some (.string u.unit) := blk_cell hh.k3 2
      have c3 : w'.cell? ⟨p3, 3, none⟩ = some (.int .i64 u.ln) := blk_cell hh.k3 3
      have c4 : w'.cell? ⟨p3, 4, none⟩ = some (.int .i64 u.ld) := blk_cell hh.k3 4
      have c5 : w'.cell? ⟨p3, 5, none⟩ = some (.int .i64 u.mn) := blk_cell hh.k3 5
      have c6 : w'.cell? ⟨p3, 6, none⟩ = some (.int .i64 u.md) := blk_cell hh.k3 6
      have d0 : w'.cell? ⟨p5, 0, none⟩ = some (.string u.label) := blk_cell hh.k5 0
      have d1 : w'.cell? ⟨p5, 1, none⟩ = some (.int .i64 u.code) := blk_cell hh.k5 1
      have d2 : w'.cell? ⟨p5, 2, none⟩ = some (.string u.unit) := blk_cell hh.k5 2
      have d3 : w'.cell? ⟨p5, 3, none⟩ = some (.int .i64 u.ln) := blk_cell hh.k5 3
      have d4 : w'.cell? ⟨p5, 4, none⟩ = some (.int .i64 u.ld) := blk_cell hh.k5 4
      have d5 : w'.cell? ⟨p5, 5, none⟩ = some (.int .i64 u.mn) := blk_cell hh.k5 5
      have d6 : w'.cell? ⟨p5, 6, none⟩ = some (.int .i64 u.md) := blk_cell hh.k5 6
      go_simp
      with_reducible rfl
    rotate_left
    · simp only [Act.put, List.setIfInBounds_toArray, List.set_cons_zero, List.set_cons_succ, i64_w, i32_w]
      rfl
    refine one_ (i := 35) (N := some 77) #[true, true, true, true, true, true, true, true, true, true, true, true, true, true, true, true, true, true, true, true, true, true, true, true, true, true, true, true, true, true, true, true, true, true, true, true, true, true, false, false, false, false, false, false, false, false, false, false, false, false, false] rfl rfl (by kernel_rfl) (by decide) (fun K hK => ?_)
    refine goes_ Try.func32 (by kernel_rfl) rfl #[.agg #[.int .i64 u.mn, .int .i64 u.md]] (by rfl) rfl rfl (by (try simp only [List.map_toArray, List.map_cons, List.map_nil]); first | done | rfl) ?_
    refine (plain_calls u.mn u.md _).mono ?_
    rintro e wz ⟨rfl, hb_⟩
    refine ⟨_, rfl, ?_⟩
    refine hK.out _ _ (hHeld.step hb_) (fun hHeld => ?_)
    clear hK K
    refine norm_ (a' := ?_) ?_ ?_
    rotate_left
    · show Act.put _ (some 77) _ = _
      simp only [Act.put, List.setIfInBounds_toArray, List.set_cons_zero, List.set_cons_succ, i64_w, i32_w]
      rfl
    refine pure_ (i := 38) (N := some 80) (v := ?_) (a' := ?_) #[true, true, true, true, true, true, true, true, true, true, true, true, true, true, true, true, true, true, true, true, true, true, true, true, true, true, true, true, true, true, true, true, true, true, true, true, true, true, true, false, false, false, false, false, false, false, false, false, false, false, false] rfl rfl (by kernel_rfl) (fun _ _ _ h => h) (Or.inl ⟨by rfl, ?_⟩) ?_ ?_
    rotate_left
    · intro w'
      go_simp
      try with_reducible rfl
    rotate_left
    · simp only [Act.put, List.setIfInBounds_toArray, List.set_cons_zero, List.set_cons_succ, i64_w, i32_w]
      rfl
    refine pure_ (i := 39) (N := some 81) (v := ?_) (a' := ?_) #[true, true, true, true, true, true, true, true, true, true, true, true, true, true, true, true, true, true, true, true, true, true, true, true, true, true, true, true, true, true, true, true, true, true, true, true, true, true, true, true, false, false, false, false, false, false, false, false, false, false, false] rfl rfl (by kernel_rfl) (fun _ _ _ h => h) (Or.inl ⟨by rfl, ?_⟩) ?_ ?_
    rotate_left
    · intro w'
      go_simp
      try with_reducible rfl
    rotate_left
    · simp only [Act.put, List.setIfInBounds_toArray, List.set_cons_zero, List.set_cons_succ, i64_w, i32_w]
      rfl
    refine pure_ (i := 40) (N := some 82) (v := ?_) (a' := ?_) #[true, true, true, true, true, true, true, true, true, true, true, true, true, true, true, true, true, true, true, true, true, true, true, true, true, true, true, true, true, true, true, true, true, true, true, true, true, true, true, true, true, false, false, false, false, false, false, false, false, false, false] rfl rfl (by kernel_rfl) (fun _ _ _ h => h) (Or.inl ⟨by rfl, ?_⟩) ?_ ?_
    rotate_left
    · intro w'
      go_simp
      try with_reducible rfl
    rotate_left
    · simp only [Act.put, List.setIfInBounds_toArray, List.set_cons_zero, List.set_cons_succ, i64_w, i32_w]
      rfl
    refine pure_ (i := 41) (N := some 83) (v := ?_) (a' := ?_) #[true, true, true, true, true, true, true, true, true, true, true, true, true, true, true, true, true, true, true, true, true, true, true, true, true, true, true, true, true, true, true, true, true, true, true, true, true, true, true, true, true, true, false, false, false, false, false, false, false, false, false] rfl rfl (by kernel_rfl) (fun _ _ _ h => h) (Or.inl ⟨by rfl, ?_⟩) ?_ ?_
    rotate_left
    · intro w'
      go_simp
      try with_reducible rfl
    rotate_left
    · simp only [Act.put, List.setIfInBounds_toArray, List.set_cons_zero, List.set_cons_succ, i64_w, i32_w]
      rfl
    refine pure_ (i := 42) (N := some 84) (v := ?_) (a' := ?_) #[true, true, true, true, true, true, true, true, true, true, true, true, true, true, true, true, true, true, true, true, true, true, true, true, true, true, true, true, true, true, true, true, true, true, true, true, true, true, true, true, true, true, true, false, false, false, false, false, false, false, false] rfl rfl (by kernel_rfl) (fun _ _ _ h => h) (Or.inl ⟨by rfl, ?_⟩) ?_ ?_
    rotate_left
    · intro w'
      go_simp
      try with_reducible rfl
    rotate_left
    · simp only [Act.put, List.setIfInBounds_toArray, List.set_cons_zero, List.set_cons_succ, i64_w, i32_w]
      rfl
    refine pure_ (i := 43) (N := some 85) (v := ?_) (a' := ?_) #[true, true, true, true, true, true, true, true, true, true, true, true, true, true, true, true, true, true, true, true, true, true, true, true, true, true, true, true, true, true, true, true, true, true, true, true, true, true, true, true, true, true, true, true, false, false, false, false, false, false, false] rfl rfl (by kernel_rfl) (fun _ _ _ h => h) (Or.inl ⟨by rfl, ?_⟩) ?_ ?_
    rotate_left
    · intro w'
      go_simp
      try with_reducible rfl
    rotate_left
    · simp only [Act.put, List.setIfInBounds_toArray, List.set_cons_zero, List.set_cons_succ, i64_w, i32_w]
      rfl
    refine pure_ (i := 44) (N := some 86) (v := ?_) (a' := ?_) #[true, true, true, true, true, true, true, true, true, true, true, true, true, true, true, true, true, true, true, true, true, true, true, true, true, true, true, true, true, true, true, true, true, true, true, true, true, true, true, true, true, true, true, true, true, false, false, false, false, false, false] rfl rfl (by kernel_rfl) (fun _ _ _ h => h) (Or.inl ⟨by rfl, ?_⟩) ?_ ?_
    rotate_left
    · intro w'
      go_simp
      try with_reducible rfl
    rotate_left
    · simp only [Act.put, List.setIfInBounds_toArray, List.set_cons_zero, List.set_cons_succ, i64_w, i32_w]
      rfl
    refine pure_ (i := 45) (N := some 87) (v := ?_) (a' := ?_) #[true, true, true, true, true, true, true, true, true, true, true, true, true, true, true, true, true, true, true, true, true, true, true, true, true, true, true, true, true, true, true, true, true, true, true, true, true, true, true, true, true, true, true, true, true, true, false, false, false, false, false] rfl rfl (by kernel_rfl) (fun _ _ _ h => h) (Or.inl ⟨by rfl, ?_⟩) ?_ ?_
    rotate_left
    · intro w'
      go_simp
      try with_reducible rfl
    rotate_left
    · simp only [Act.put, List.setIfInBounds_toArray, List.set_cons_zero, List.set_cons_succ, i64_w, i32_w]
      rfl
    refine pure_ (i := 46) (N := some 88) (v := ?_) (a' := ?_) #[true, true, true, true, true, true, true, true, true, true, true, true, true, true, true, true, true, true, true, true, true, true, true, true, true, true, true, true, true, true, true, true, true, true, true, true, true, true, true, true, true, true, true, true, true, true, true, false, false, false, false] rfl rfl (by kernel_rfl) (fun _ _ _ h => h) (Or.inl ⟨by rfl, ?_⟩) ?_ ?_
    rotate_left
    · intro w'
      go_simp
      try with_reducible rfl
    rotate_left
    · simp only [Act.put, List.setIfInBounds_toArray, List.set_cons_zero, List.set_cons_succ, i64_w, i32_w]
      rfl
    refine pure_ (i := 47) (N := some 89) (v := ?_) (a' := ?_) #[true, true, true, true, true, true, true, true, true, true, true, true, true, true, true, true, true, true, true, true, true, true, true, true, true, true, true, true, true, true, true, true, true, true, true, true, true, true, true, true, true, true, true, true, true, true, true, true, false, false, false] rfl rfl (by kernel_rfl) (fun _ _ _ h => h) (Or.inl ⟨by rfl, ?_⟩) ?_ ?_
    rotate_left
    · intro w'
      go_simp
      try with_reducible rfl
    rotate_left
    · simp only [Act.put, List.setIfInBounds_toArray, List.set_cons_zero, List.set_cons_succ, i64_w, i32_w]
      rfl
    refine pure_ (i := 48) (N := some 90) (v := ?_) (a' := ?_) #[true, true, true, true, true, true, true, true, true, true, true, true, true, true, true, true, true, true, true, true, true, true, true, true, true, true, true, true, true, true, true, true, true, true, true, true, true, true, true, true, true, true, true, true, true, true, true, true, true, false, false] rfl rfl (by kernel_rfl) (fun _ _ _ h => h) (Or.inl ⟨by rfl, ?_⟩) ?_ ?_
    rotate_left
    · intro w'
      go_simp
      try with_reducible rfl
    rotate_left
    · simp only [Act.put, List.setIfInBounds_toArray, List.set_cons_zero, List.set_cons_succ, i64_w, i32_w]
      rfl
    refine pure_ (i := 49) (N := some 91) (v := ?_) (a' := ?_) #[true, true, true, true, true, true, true, true, true, true, true, true, true, true, true, true, true, true, true, true, true, true, true, true, true, true, true, true, true, true, true, true, true, true, true, true, true, true, true, true, true, true, true, true, true, true, true, true, true, true, false] rfl rfl (by kernel_rfl) (fun _ _ _ h => h) (Or.inl ⟨by rfl, ?_⟩) ?_ ?_
    rotate_left
    · intro w'
      go_simp
      try with_reducible rfl
    rotate_left
    · simp only [Act.put, List.setIfInBounds_toArray, List.set_cons_zero, List.set_cons_succ, i64_w, i32_w]
      rfl
    refine pure_ (i := 50) (N := some 2) (v := ?_) (a' := ?_) #[true, true, true, true, true, true, true, true, true, true, true, true, true, true, true, true, true, true, true, true, true, true, true, true, true, true, true, true, true, true, true, true, true, true, true, true, true, true, true, true, true, true, true, true, true, true, true, true, true, true, true] rfl rfl (by kernel_rfl) (fun _ _ _ h => h) (Or.inl ⟨by rfl, ?_⟩) ?_ ?_
    rotate_left
    · intro w'
      go_simp
      try with_reducible rfl
    rotate_left
    · simp only [Act.put, List.setIfInBounds_toArray, List.set_cons_zero, List.set_cons_succ, i64_w, i32_w]
      rfl
    refine done_ (by kernel_rfl) ?_
    have hB := hHeld.b
    clear hHeld hP
    go_wp2_with fail
    go_ret
    exact ⟨by simp, hB⟩
  | false =>
    obtain rfl := HK.out.off rfl
    go_wp2_with fail
    clear f1
    refine start_ (n := 51) (S := fun wx => Pl w wx p3 p5 u) (ds := []) #[false, false, false, false, false, false, false, false, false, false, false, false, false, false, false, false, false, false, false, false, false, false, false, false, false, false, false, false, false, false, false, false, false, false, false, false, false, false, false, false, false, false, false, false, false, false, false, false, false, false, false] (by kernel_rfl) rfl rfl (hP.step (below_drew (Below.refl _ _))) (fun hHeld => ?_)
    refine pure_ (i := 0) (N := some 42) (v := ?_) (a' := ?_) #[true, false, false, false, false, false, false, false, false, false, false, false, false, false, false, false, false, false, false, false, false, false, false, false, false, false, false, false, false, false, false, false, false, false, false, false, false, false, false, false, false, false, false, false, false, false, false, false, false, false, false] rfl rfl (by kernel_rfl) (fun _ _ _ h => h) (Or.inl ⟨by rfl, ?_⟩) ?_ ?_
    rotate_left
    · intro w'
      go_simp
      try with_reducible rfl
    rotate_left
    · simp only [Act.put, List.setIfInBounds_toArray, List.set_cons_zero, List.set_cons_succ, i64_w, i32_w]
      rfl
    refine pure_ (i := 1) (N := some 43) (v := ?_) (a' := ?_) #[true, true, false, false, false, false, false, false, false, false, false, false, false, false, false, false, false, false, false, false, false, false, false, false, false, false, false, false, false, false, false, false, false, false, false, false, false, false, false, false, false, false, false, false, false, false, false, false, false, false, false] rfl rfl (by kernel_rfl) (fun _ _ _ h => h) (Or.inl ⟨by rfl, ?_⟩) ?_ ?_
    rotate_left
    · intro w'
      go_simp
      try with_reducible rfl
    rotate_left
    · simp only [Act.put, List.setIfInBounds_toArray, List.set_cons_zero, List.set_cons_succ, i64_w, i32_w]
      rfl
    refine pure_ (i := 2) (N := some 44) (v := ?_) (a' := ?_) #[true, true, true, false, false, false, false, false, false, false, false, false, false, false, false, false, false, false, false, false, false, false, false, false, false, false, false, false, false, false, false, false, false, false, false, false, false, false, false, false, false, false, false, false, false, false, false, false, false, false, false] rfl rfl (by kernel_rfl) (fun _ _ _ h => h) (Or.inl ⟨by rfl, ?_⟩) ?_ ?_
    rotate_left
    · intro w'
      go_simp
      try with_reducible rfl
    rotate_left
    · simp only [Act.put, List.setIfInBounds_toArray, List.set_cons_zero, List.set_cons_succ, i64_w, i32_w]
      rfl
    refine pure_ (i := 3) (N := some 45) (v := ?_) (a' := ?_) #[true, true, true, true, false, false, false, false, false, false, false, false, false, false, false, false, false, false, false, false, false, false, false, false, false, false, false, false, false, false, false, false, false, false, false, false, false, false, false, false, false, false, false, false, false, false, false, false, false, false, false] rfl rfl (by kernel_rfl) (fun _ _ _ h => h) (Or.inl ⟨by rfl, ?_⟩) ?_ ?_
    rotate_left
    · intro w'
      go_simp
      try with_reducible rfl
    rotate_left
    · simp only [Act.put, List.setIfInBounds_toArray, List.set_cons_zero, List.set_cons_succ, i64_w, i32_w]
      rfl
    refine pure_ (i := 4) (N := some 46) (v := ?_) (a' := ?_) #[true, true, true, true, true, false, false, false, false, false, false, false, false, false, false, false, false, false, false, false, false, false, false, false, false, false, false, false, false, false, false, false, false, false, false, false, false, false, false, false, false, false, false, false, false, false, false, false, false, false, false] rfl rfl (by kernel_rfl) (fun _ _ _ h => h) (Or.inl ⟨by rfl, ?_⟩) ?_ ?_
    rotate_left
    · intro w'
      go_simp
      try with_reducible rfl
    rotate_left
    · simp only [Act.put, List.setIfInBounds_toArray, List.set_cons_zero, List.set_cons_succ, i64_w, i32_w]
      rfl
    refine take_ (i := 5) (N := some 47) (v := ?_) (a' := ?_) #[true, true, true, true, true, true, false, false, false, false, false, false, false, false, false, false, false, false, false, false, false, false, false, false, false, false, false, false, false, false, false, false, false, false, false, false, false, false, false, false, false, false, false, false, false, false, false, false, false, false, false] rfl rfl (by kernel_rfl) (fun _ _ _ h => h) (Or.inl ⟨by rfl, ?_⟩) hHeld ?_ ?_
    rotate_left
    · rintro w' hh
      have c0 : w'.cell? ⟨p3, 0, none⟩ = some (.string u.label) := blk_cell hh.k3 0
      have c1 : w'.cell? ⟨p3, 1, none⟩ = some (.int .i64 u.code) := blk_cell hh.k3 1
      have c2 : w'.cell? ⟨p3, 2, none⟩ = some (.string u.unit) := blk_cell hh.k3 2
      have c3 : w'.cell? ⟨p3, 3, none⟩ = some (.int .i64 u.ln) := blk_cell hh.k3 3
      have c4 : w'.cell? ⟨p3, 4, none⟩ = some (.int .i64 u.ld) := blk_cell hh.k3 4
      have c5 : w'.cell? ⟨p3, 5, none⟩ = some (.int .i64 u.mn) := blk_cell hh.k3 5
      have c6 : w'.cell? ⟨p3, 6, none⟩ = some (.int .i64 u.md) := blk_cell hh.k3 6
      have d0 : w'.cell? ⟨p5, 0, none⟩ = some (.string u.label) := blk_cell hh.k5 0
      have d1 : w'.cell? ⟨p5, 1, none⟩ = some (.int .i64 u.code) := blk_cell hh.k5 1
      have d2 : w'.cell? ⟨p5, 2, none⟩ = some (.string u.unit) := blk_cell hh.k5 2
      have d3 : w'.cell? ⟨p5, 3, none⟩ = some (.int .i64 u.ln) := blk_cell hh.k5 3
      have d4 : w'.cell? ⟨p5, 4, none⟩ = some (.int .i64 u.ld) := blk_cell hh.k5 4
      have d5 : w'.cell? ⟨p5, 5, none⟩ = some (.int .i64 u.mn) := blk_cell hh.k5 5
      have d6 : w'.cell? ⟨p5, 6, none⟩ = some (.int .i64 u.md) := blk_cell hh.k5 6
      go_simp
      with_reducible rfl
    rotate_left
    · simp only [Act.put, List.setIfInBounds_toArray, List.set_cons_zero, List.set_cons_succ, i64_w, i32_w]
      rfl
    refine pure_ (i := 6) (N := some 48) (v := ?_) (a' := ?_) #[true, true, true, true, true, true, true, false, false, false, false, false, false, false, false, false, false, false, false, false, false, false, false, false, false, false, false, false, false, false, false, false, false, false, false, false, false, false, false, false, false, false, false, false, false, false, false, false, false, false, false] rfl rfl (by kernel_rfl) (fun _ _ _ h => h) (Or.inl ⟨by rfl, ?_⟩) ?_ ?_
    rotate_left
    · intro w'
      go_simp
      try with_reducible rfl
    rotate_left
    · simp only [Act.put, List.setIfInBounds_toArray, List.set_cons_zero, List.set_cons_succ, i64_w, i32_w]
      rfl
    refine take_ (i := 7) (N := some 49) (v := ?_) (a' := ?_) #[true, true, true, true, true, true, true, true, false, false, false, false, false, false, false, false, false, false, false, false, false, false, false, false, false, false, false, false, false, false, false, false, false, false, false, false, false, false, false, false, false, false, false, false, false, false, false, false, false, false, false] rfl rfl (by kernel_rfl) (fun _ _ _ h => h) (Or.inl ⟨by rfl, ?_⟩) hHeld ?_ ?_
    rotate_left
    · rintro w' hh
      have c0 : w'.cell? ⟨p3, 0, none⟩ = some (.string u.label) := blk_cell hh.k3 0
      have c1 : w'.cell? ⟨p3, 1, none⟩ = some (.int .i64 u.code) := blk_cell hh.k3 1
      have c2 : w'.cell? ⟨p3, 2, none⟩ = some (.string u.unit) := blk_cell hh.k3 2
      have c3 : w'.cell? ⟨p3, 3, none⟩ = some (.int .i64 u.ln) := blk_cell hh.k3 3
      have c4 : w'.cell? ⟨p3, 4, none⟩ = some (.int .i64 u.ld) := blk_cell hh.k3 4
      have c5 : w'.cell? ⟨p3, 5, none⟩ = some (.int .i64 u.mn) := blk_cell hh.k3 5
      have c6 : w'.cell? ⟨p3, 6, none⟩ = some (.int .i64 u.md) := blk_cell hh.k3 6
      have d0 : w'.cell? ⟨p5, 0, none⟩ = some (.string u.label) := blk_cell hh.k5 0
      have d1 : w'.cell? ⟨p5, 1, none⟩ = some (.int .i64 u.code) := blk_cell hh.k5 1
      have d2 : w'.cell? ⟨p5, 2, none⟩ = some (.string u.unit) := blk_cell hh.k5 2
      have d3 : w'.cell? ⟨p5, 3, none⟩ = some (.int .i64 u.ln) := blk_cell hh.k5 3
      have d4 : w'.cell? ⟨p5, 4, none⟩ = some (.int .i64 u.ld) := blk_cell hh.k5 4
      have d5 : w'.cell? ⟨p5, 5, none⟩ = some (.int .i64 u.mn) := blk_cell hh.k5 5
      have d6 : w'.cell? ⟨p5, 6, none⟩ = some (.int .i64 u.md) := blk_cell hh.k5 6
      go_simp
      with_reducible rfl
    rotate_left
    · simp only [Act.put, List.setIfInBounds_toArray, List.set_cons_zero, List.set_cons_succ, i64_w, i32_w]
      rfl
    refine pure_ (i := 8) (N := some 50) (v := ?_) (a' := ?_) #[true, true, true, true, true, true, true, true, true, false, false, false, false, false, false, false, false, false, false, false, false, false, false, false, false, false, false, false, false, false, false, false, false, false, false, false, false, false, false, false, false, false, false, false, false, false, false, false, false, false, false] rfl rfl (by kernel_rfl) (fun _ _ _ h => h) (Or.inl ⟨by rfl, ?_⟩) ?_ ?_
    rotate_left
    · intro w'
      go_simp
      try with_reducible rfl
    rotate_left
    · simp only [Act.put, List.setIfInBounds_toArray, List.set_cons_zero, List.set_cons_succ, i64_w, i32_w]
      rfl
    refine pure_ (i := 9) (N := some 51) (v := ?_) (a' := ?_) #[true, true, true, true, true, true, true, true, true, true, false, false, false, false, false, false, false, false, false, false, false, false, false, false, false, false, false, false, false, false, false, false, false, false, false, false, false, false, false, false, false, false, false, false, false, false, false, false, false, false, false] rfl rfl (by kernel_rfl) (fun _ _ _ h => h) (Or.inl ⟨by rfl, ?_⟩) ?_ ?_
    rotate_left
    · intro w'
      go_simp
      try with_reducible rfl
    rotate_left
    · simp only [Act.put, List.setIfInBounds_toArray, List.set_cons_zero, List.set_cons_succ, i64_w, i32_w]
      rfl
    refine pure_ (i := 10) (N := some 52) (v := ?_) (a' := ?_) #[true, true, true, true, true, true, true, true, true, true, true, false, false, false, false, false, false, false, false, false, false, false, false, false, false, false, false, false, false, false, false, false, false, false, false, false, false, false, false, false, false, false, false, false, false, false, false, false, false, false, false] rfl rfl (by kernel_rfl) (fun _ _ _ h => h) (Or.inl ⟨by rfl, ?_⟩) ?_ ?_
    rotate_left
    · intro w'
      go_simp
      try with_reducible rfl
    rotate_left
    · simp only [Act.put, List.setIfInBounds_toArray, List.set_cons_zero, List.set_cons_succ, i64_w, i32_w]
      rfl
    refine pure_ (i := 11) (N := some 53) (v := ?_) (a' := ?_) #[true, true, true, true, true, true, true, true, true, true, true, true, false, false, false, false, false, false, false, false, false, false, false, false, false, false, false, false, false, false, false, false, false, false, false, false, false, false, false, false, false, false, false, false, false, false, false, false, false, false, false] rfl rfl (by kernel_rfl) (fun _ _ _ h => h) (Or.inl ⟨by rfl, ?_⟩) ?_ ?_
    rotate_left
    · intro w'
      go_simp
      try with_reducible rfl
    rotate_left
    · simp only [Act.put, List.setIfInBounds_toArray, List.set_cons_zero, List.set_cons_succ, i64_w, i32_w]
      rfl
    refine take_ (i := 12) (N := some 54) (v := ?_) (a' := ?_) #[true, true, true, true, true, true, true, true, true, true, true, true, true, false, false, false, false, false, false, false, false, false, false, false, false, false, false, false, false, false, false, false, false, false, false, false, false, false, false, false, false, false, false, false, false, false, false, false, false, false, false] rfl rfl (by kernel_rfl) (fun _ _ _ h => h) (Or.inl ⟨by rfl, ?_⟩) hHeld ?_ ?_
    rotate_left
    · rintro w' hh
      have c0 : w'.cell? ⟨p3, 0, none⟩ = some (.string u.label) := blk_cell hh.k3 0
      have c1 : w'.cell? ⟨p3, 1, none⟩ = some (.int .i64 u.code) := blk_cell hh.k3 1
      have c2 : w'.cell? ⟨p3, 2, none⟩ = some (.string u.unit) := blk_cell hh.k3 2
      have c3 : w'.cell? ⟨p3, 3, none⟩ = some (.int .i64 u.ln) := blk_cell hh.k3 3
      have c4 : w'.cell? ⟨p3, 4, none⟩ = some (.int .i64 u.ld) := blk_cell hh.k3 4
      have c5 : w'.cell? ⟨p3, 5, none⟩ = some (.int .i64 u.mn) := blk_cell hh.k3 5
      have c6 : w'.cell? ⟨p3, 6, none⟩ = some (.int .i64 u.md) := blk_cell hh.k3 6
      have d0 : w'.cell? ⟨p5, 0, none⟩ = some (.string u.label) := blk_cell hh.k5 0
      have d1 : w'.cell? ⟨p5, 1, none⟩ = some (.int .i64 u.code) := blk_cell hh.k5 1
      have d2 : w'.cell? ⟨p5, 2, none⟩ = some (.string u.unit) := blk_cell hh.k5 2
      have d3 : w'.cell? ⟨p5, 3, none⟩ = some (.int .i64 u.ln) := blk_cell hh.k5 3
      have d4 : w'.cell? ⟨p5, 4, none⟩ = some (.int .i64 u.ld) := blk_cell hh.k5 4
      have d5 : w'.cell? ⟨p5, 5, none⟩ = some (.int .i64 u.mn) := blk_cell hh.k5 5
      have d6 : w'.cell? ⟨p5, 6, none⟩ = some (.int .i64 u.md) := blk_cell hh.k5 6
      go_simp
      with_reducible rfl
    rotate_left
    · simp only [Act.put, List.setIfInBounds_toArray, List.set_cons_zero, List.set_cons_succ, i64_w, i32_w]
      rfl
    refine pure_ (i := 13) (N := some 55) (v := ?_) (a' := ?_) #[true, true, true, true, true, true, true, true, true, true, true, true, true, true, false, false, false, false, false, false, false, false, false, false, false, false, false, false, false, false, false, false, false, false, false, false, false, false, false, false, false, false, false, false, false, false, false, false, false, false, false] rfl rfl (by kernel_rfl) (fun _ _ _ h => h) (Or.inl ⟨by rfl, ?_⟩) ?_ ?_
    rotate_left
    · intro w'
      go_simp
      try with_reducible rfl
    rotate_left
    · simp only [Act.put, List.setIfInBounds_toArray, List.set_cons_zero, List.set_cons_succ, i64_w, i32_w]
      rfl
    refine take_ (i := 14) (N := some 56) (v := ?_) (a' := ?_) #[true, true, true, true, true, true, true, true, true, true, true, true, true, true, true, false, false, false, false, false, false, false, false, false, false, false, false, false, false, false, false, false, false, false, false, false, false, false, false, false, false, false, false, false, false, false, false, false, false, false, false] rfl rfl (by kernel_rfl) (fun _ _ _ h => h) (Or.inl ⟨by rfl, ?_⟩) hHeld ?_ ?_
    rotate_left
    · rintro w' hh
      have c0 : w'.cell? ⟨p3, 0, none⟩ = some (.string u.label) := blk_cell hh.k3 0
      have c1 : w'.cell? ⟨p3, 1, none⟩ = some (.int .i64 u.code) := blk_cell hh.k3 1
      have c2 : w'.cell? ⟨p3, 2, none⟩ = some (.string u.unit) := blk_cell hh.k3 2
      have c3 : w'.cell? ⟨p3, 3, none⟩ = some (.int .i64 u.ln) := blk_cell hh.k3 3
      have c4 : w'.cell? ⟨p3, 4, none⟩ = some (.int .i64 u.ld) := blk_cell hh.k3 4
      have c5 : w'.cell? ⟨p3, 5, none⟩ = some (.int .i64 u.mn) := blk_cell hh.k3 5
      have c6 : w'.cell? ⟨p3, 6, none⟩ = some (.int .i64 u.md) := blk_cell hh.k3 6
      have d0 : w'.cell? ⟨p5, 0, none⟩ = some (.string u.label) := blk_cell hh.k5 0
      have d1 : w'.cell? ⟨p5, 1, none⟩ = some (.int .i64 u.code) := blk_cell hh.k5 1
      have d2 : w'.cell? ⟨p5, 2, none⟩ = some (.string u.unit) := blk_cell hh.k5 2
      have d3 : w'.cell? ⟨p5, 3, none⟩ = some (.int .i64 u.ln) := blk_cell hh.k5 3
      have d4 : w'.cell? ⟨p5, 4, none⟩ = some (.int .i64 u.ld) := blk_cell hh.k5 4
      have d5 : w'.cell? ⟨p5, 5, none⟩ = some (.int .i64 u.mn) := blk_cell hh.k5 5
      have d6 : w'.cell? ⟨p5, 6, none⟩ = some (.int .i64 u.md) := blk_cell hh.k5 6
      go_simp
      with_reducible rfl
    rotate_left
    · simp only [Act.put, List.setIfInBounds_toArray, List.set_cons_zero, List.set_cons_succ, i64_w, i32_w]
      rfl
    refine pure_ (i := 15) (N := some 57) (v := ?_) (a' := ?_) #[true, true, true, true, true, true, true, true, true, true, true, true, true, true, true, true, false, false, false, false, false, false, false, false, false, false, false, false, false, false, false, false, false, false, false, false, false, false, false, false, false, false, false, false, false, false, false, false, false, false, false] rfl rfl (by kernel_rfl) (fun _ _ _ h => h) (Or.inl ⟨by rfl, ?_⟩) ?_ ?_
    rotate_left
    · intro w'
      go_simp
      try with_reducible rfl
    rotate_left
    · simp only [Act.put, List.setIfInBounds_toArray, List.set_cons_zero, List.set_cons_succ, i64_w, i32_w]
      rfl
    refine pure_ (i := 16) (N := some 58) (v := ?_) (a' := ?_) #[true, true, true, true, true, true, true, true, true, true, true, true, true, true, true, true, true, false, false, false, false, false, false, false, false, false, false, false, false, false, false, false, false, false, false, false, false, false, false, false, false, false, false, false, false, false, false, false, false, false, false] rfl rfl (by kernel_rfl) (fun _ _ _ h => h) (Or.inl ⟨by rfl, ?_⟩) ?_ ?_
    rotate_left
    · intro w'
      go_simp
      try with_reducible rfl
    rotate_left
    · simp only [Act.put, List.setIfInBounds_toArray, List.set_cons_zero, List.set_cons_succ, i64_w, i32_w]
      rfl
    refine pure_ (i := 17) (N := some 59) (v := ?_) (a' := ?_) #[true, true, true, true, true, true, true, true, true, true, true, true, true, true, true, true, true, true, false, false, false, false, false, false, false, false, false, false, false, false, false, false, false, false, false, false, false, false, false, false, false, false, false, false, false, false, false, false, false, false, false] rfl rfl (by kernel_rfl) (fun _ _ _ h => h) (Or.inl ⟨by rfl, ?_⟩) ?_ ?_
    rotate_left
    · intro w'
      go_simp
      try with_reducible rfl
    rotate_left
    · simp only [Act.put, List.setIfInBounds_toArray, List.set_cons_zero, List.set_cons_succ, i64_w, i32_w]
      rfl
    refine pure_ (i := 18) (N := some 60) (v := ?_) (a' := ?_) #[true, true, true, true, true, true, true, true, true, true, true, true, true, true, true, true, true, true, true, false, false, false, false, false, false, false, false, false, false, false, false, false, false, false, false, false, false, false, false, false, false, false, false, false, false, false, false, false, false, false, false] rfl rfl (by kernel_rfl) (fun _ _ _ h => h) (Or.inl ⟨by rfl, ?_⟩) ?_ ?_
    rotate_left
    · intro w'
      go_simp
      try with_reducible rfl
    rotate_left
    · simp only [Act.put, List.setIfInBounds_toArray, List.set_cons_zero, List.set_cons_succ, i64_w, i32_w]
      rfl
    refine take_ (i := 19) (N := some 61) (v := ?_) (a' := ?_) #[true, true, true, true, true, true, true, true, true, true, true, true, true, true, true, true, true, true, true, true, false, false, false, false, false, false, false, false, false, false, false, false, false, false, false, false, false, false, false, false, false, false, false, false, false, false, false, false, false, false, false] rfl rfl (by kernel_rfl) (fun _ _ _ h => h) (Or.inl ⟨by rfl, ?_⟩) hHeld ?_ ?_
    rotate_left
    · rintro w' hh
      have c0 : w'.cell? ⟨p3, 0, none⟩ = some (.string u.label) := blk_cell hh.k3 0
      have c1 : w'.cell? ⟨p3, 1, none⟩ = some (.int .i64 u.code) := blk_cell hh.k3 1
      have c2 : w'.cell? ⟨p3, 2, none⟩ = some (.string u.unit) := blk_cell hh.k3 2
      have c3 : w'.cell? ⟨p3, 3, none⟩ = some (.int .i64 u.ln) := blk_cell hh.k3 3
      have c4 : w'.cell? ⟨p3, 4, none⟩ = some (.int .i64 u.ld) := blk_cell hh.k3 4
      have c5 : w'.cell? ⟨p3, 5, none⟩ = some (.int .i64 u.mn) := blk_cell hh.k3 5
      have c6 : w'.cell? ⟨p3, 6, none⟩ = some (.int .i64 u.md) := blk_cell hh.k3 6
      have d0 : w'.cell? ⟨p5, 0, none⟩ = some (.string u.label) := blk_cell hh.k5 0
      have d1 : w'.cell? ⟨p5, 1, none⟩ = some (.int .i64 u.code) := blk_cell hh.k5 1
      have d2 : w'.cell? ⟨p5, 2, none⟩ = some (.string u.unit) := blk_cell hh.k5 2
      have d3 : w'.cell? ⟨p5, 3, none⟩ = some (.int .i64 u.ln) := blk_cell hh.k5 3
      have d4 : w'.cell? ⟨p5, 4, none⟩ = some (.int .i64 u.ld) := blk_cell hh.k5 4
      have d5 : w'.cell? ⟨p5, 5, none⟩ = some (.int .i64 u.mn) := blk_cell hh.k5 5
      have d6 : w'.cell? ⟨p5, 6, none⟩ = some (.int .i64 u.md) := blk_cell hh.k5 6
      go_simp
      with_reducible rfl
    rotate_left
    · simp only [Act.put, List.setIfInBounds_toArray, List.set_cons_zero, List.set_cons_succ, i64_w, i32_w]
      rfl
    refine pure_ (i := 20) (N := some 62) (v := ?_) (a' := ?_) #[true, true, true, true, true, true, true, true, true, true, true, true, true, true, true, true, true, true, true, true, true, false, false, false, false, false, false, false, false, false, false, false, false, false, false, false, false, false, false, false, false, false, false, false, false, false, false, false, false, false, false] rfl rfl (by kernel_rfl) (fun _ _ _ h => h) (Or.inl ⟨by rfl, ?_⟩) ?_ ?_
    rotate_left
    · intro w'
      go_simp
      try with_reducible rfl
    rotate_left
    · simp only [Act.put, List.setIfInBounds_toArray, List.set_cons_zero, List.set_cons_succ, i64_w, i32_w]
      rfl
    refine take_ (i := 21) (N := some 63) (v := ?_) (a' := ?_) #[true, true, true, true, true, true, true, true, true, true, true, true, true, true, true, true, true, true, true, true, true, true, false, false, false, false, false, false, false, false, false, false, false, false, false, false, false, false, false, false, false, false, false, false, false, false, false, false, false, false, false] rfl rfl (by kernel_rfl) (fun _ _ _ h => h) (Or.inl ⟨by rfl, ?_⟩) hHeld ?_ ?_
    rotate_left
    · rintro w' hh
      have c0 : w'.cell? ⟨p3, 0, none⟩ = some (.string u.label) := blk_cell hh.k3 0
      have c1 : w'.cell? ⟨p3, 1, none⟩ = some (.int .i64 u.code) := blk_cell hh.k3 1
      have c2 : w'.cell? ⟨p3, 2, none⟩ = some (.string u.unit) := blk_cell hh.k3 2
      have c3 : w'.cell? ⟨p3, 3, none⟩ = some (.int .i64 u.ln) := blk_cell hh.k3 3
      have c4 : w'.cell? ⟨p3, 4, none⟩ = some (.int .i64 u.ld) := blk_cell hh.k3 4
      have c5 : w'.cell? ⟨p3, 5, none⟩ = some (.int .i64 u.mn) := blk_cell hh.k3 5
      have c6 : w'.cell? ⟨p3, 6, none⟩ = some (.int .i64 u.md) := blk_cell hh.k3 6
      have d0 : w'.cell? ⟨p5, 0, none⟩ = some (.string u.label) := blk_cell hh.k5 0
      have d1 : w'.cell? ⟨p5, 1, none⟩ = some (.int .i64 u.code) := blk_cell hh.k5 1
      have d2 : w'.cell? ⟨p5, 2, none⟩ = some (.string u.unit) := blk_cell hh.k5 2
      have d3 : w'.cell? ⟨p5, 3, none⟩ = some (.int .i64 u.ln) := blk_cell hh.k5 3
      have d4 : w'.cell? ⟨p5, 4, none⟩ = some (.int .i64 u.ld) := blk_cell hh.k5 4
      have d5 : w'.cell? ⟨p5, 5, none⟩ = some (.int .i64 u.mn) := blk_cell hh.k5 5
      have d6 : w'.cell? ⟨p5, 6, none⟩ = some (.int .i64 u.md) := blk_cell hh.k5 6
      go_simp
      with_reducible rfl
    rotate_left
    · simp only [Act.put, List.setIfInBounds_toArray, List.set_cons_zero, List.set_cons_succ, i64_w, i32_w]
      rfl
    refine pure_ (i := 22) (N := some 64) (v := ?_) (a' := ?_) #[true, true, true, true, true, true, true, true, true, true, true, true, true, true, true, true, true, true, true, true, true, true, true, false, false, false, false, false, false, false, false, false, false, false, false, false, false, false, false, false, false, false, false, false, false, false, false, false, false, false, false] rfl rfl (by kernel_rfl) (fun _ _ _ h => h) (Or.inl ⟨by rfl, ?_⟩) ?_ ?_
    rotate_left
    · intro w'
      go_simp
      try with_reducible rfl
    rotate_left
    · simp only [Act.put, List.setIfInBounds_toArray, List.set_cons_zero, List.set_cons_succ, i64_w, i32_w]
      rfl
    refine pure_ (i := 23) (N := some 65) (v := ?_) (a' := ?_) #[true, true, true, true, true, true, true, true, true, true, true, true, true, true, true, true, true, true, true, true, true, true, true, true, false, false, false, false, false, false, false, false, false, false, false, false, false, false, false, false, false, false, false, false, false, false, false, false, false, false, false] rfl rfl (by kernel_rfl) (fun _ _ _ h => h) (Or.inl ⟨by rfl, ?_⟩) ?_ ?_
    rotate_left
    · intro w'
      go_simp
      try with_reducible rfl
    rotate_left
    · simp only [Act.put, List.setIfInBounds_toArray, List.set_cons_zero, List.set_cons_succ, i64_w, i32_w]
      rfl
    refine pure_ (i := 24) (N := some 66) (v := ?_) (a' := ?_) #[true, true, true, true, true, true, true, true, true, true, true, true, true, true, true, true, true, true, true, true, true, true, true, true, true, false, false, false, false, false, false, false, false, false, false, false, false, false, false, false, false, false, false, false, false, false, false, false, false, false, false] rfl rfl (by kernel_rfl) (fun _ _ _ h => h) (Or.inl ⟨by rfl, ?_⟩) ?_ ?_
    rotate_left
    · intro w'
      go_simp
      try with_reducible rfl
    rotate_left
    · simp only [Act.put, List.setIfInBounds_toArray, List.set_cons_zero, List.set_cons_succ, i64_w, i32_w]
      rfl
    refine pure_ (i := 25) (N := some 67) (v := ?_) (a' := ?_) #[true, true, true, true, true, true, true, true, true, true, true, true, true, true, true, true, true, true, true, true, true, true, true, true, true, true, false, false, false, false, false, false, false, false, false, false, false, false, false, false, false, false, false, false, false, false, false, false, false, false, false] rfl rfl (by kernel_rfl) (fun _ _ _ h => h) (Or.inl ⟨by rfl, ?_⟩) ?_ ?_
    rotate_left
    · intro w'
      go_simp
      try with_reducible rfl
    rotate_left
    · simp only [Act.put, List.setIfInBounds_toArray, List.set_cons_zero, List.set_cons_succ, i64_w, i32_w]
      rfl
    refine take_ (i := 26) (N := some 68) (v := ?_) (a' := ?_) #[true, true, true, true, true, true, true, true, true, true, true, true, true, true, true, true, true, true, true, true, true, true, true, true, true, true, true, false, false, false, false, false, false, false, false, false, false, false, false, false, false, false, false, false, false, false, false, false, false, false, false] rfl rfl (by kernel_rfl) (fun _ _ _ h => h) (Or.inl ⟨by rfl, ?_⟩) hHeld ?_ ?_
    rotate_left
    · rintro w' hh
      have c0 : w'.cell? ⟨p3, 0, none⟩ = some (.string u.label) := blk_cell hh.k3 0
      have c1 : w'.cell? ⟨p3, 1, none⟩ = some (.int .i64 u.code) := blk_cell hh.k3 1
      have c2 : w'.cell? ⟨p3, 2, none⟩ = some (.string u.unit) := blk_cell hh.k3 2
      have c3 : w'.cell? ⟨p3, 3, none⟩ = some (.int .i64 u.ln) := blk_cell hh.k3 3
      have c4 : w'.cell? ⟨p3, 4, none⟩ = some (.int .i64 u.ld) := blk_cell hh.k3 4
      have c5 : w'.cell? ⟨p3, 5, none⟩ = some (.int .i64 u.mn) := blk_cell hh.k3 5
      have c6 : w'.cell? ⟨p3, 6, none⟩ = some (.int .i64 u.md) := blk_cell hh.k3 6
      have d0 : w'.cell? ⟨p5, 0, none⟩ = some (.string u.label) := blk_cell hh.k5 0
      have d1 : w'.cell? ⟨p5, 1, none⟩ = some (.int .i64 u.code) := blk_cell hh.k5 1
      have d2 : w'.cell? ⟨p5, 2, none⟩ = some (.string u.unit) := blk_cell hh.k5 2
      have d3 : w'.cell? ⟨p5, 3, none⟩ = some (.int .i64 u.ln) := blk_cell hh.k5 3
      have d4 : w'.cell? ⟨p5, 4, none⟩ = some (.int .i64 u.ld) := blk_cell hh.k5 4
      have d5 : w'.cell? ⟨p5, 5, none⟩ = some (.int .i64 u.mn) := blk_cell hh.k5 5
      have d6 : w'.cell? ⟨p5, 6, none⟩ = some (.int .i64 u.md) := blk_cell hh.k5 6
      go_simp
      with_reducible rfl
    rotate_left
    · simp only [Act.put, List.setIfInBounds_toArray, List.set_cons_zero, List.set_cons_succ, i64_w, i32_w]
      rfl
    refine pure_ (i := 28) (N := some 70) (v := ?_) (a' := ?_) #[true, true, true, true, true, true, true, true, true, true, true, true, true, true, true, true, true, true, true, true, true, true, true, true, true, true, true, false, true, false, false, false, false, false, false, false, false, false, false, false, false, false, false, false, false, false, false, false, false, false, false] rfl rfl (by kernel_rfl) (fun _ _ _ h => h) (Or.inl ⟨by rfl, ?_⟩) ?_ ?_
    rotate_left
    · intro w'
      go_simp
      try with_reducible rfl
    rotate_left
    · simp only [Act.put, List.setIfInBounds_toArray, List.set_cons_zero, List.set_cons_succ, i64_w, i32_w]
      rfl
    refine take_ (i := 29) (N := some 71) (v := ?_) (a' := ?_) #[true, true, true, true, true, true, true, true, true, true, true, true, true, true, true, true, true, true, true, true, true, true, true, true, true, true, true, false, true, true, false, false, false, false, false, false, false, false, false, false, false, false, false, false, false, false, false, false, false, false, false] rfl rfl (by kernel_rfl) (fun _ _ _ h => h) (Or.inl ⟨by rfl, ?_⟩) hHeld ?_ ?_
    rotate_left
    · rintro w' hh
      have c0 : w'.cell? ⟨p3, 0, none⟩ = some (.string u.label) := blk_cell hh.k3 0
      have c1 : w'.cell? ⟨p3, 1, none⟩ = some (.int .i64 u.code) := blk_cell hh.k3 1
      have c2 : w'.cell? ⟨p3, 2, none⟩ = some (.string u.unit) := blk_cell hh.k3 2
      have c3 : w'.cell? ⟨p3, 3, none⟩ = some (.int .i64 u.ln) := blk_cell hh.k3 3
      have c4 : w'.cell? ⟨p3, 4, none⟩ = some (.int .i64 u.ld) := blk_cell hh.k3 4
      have c5 : w'.cell? ⟨p3, 5, none⟩ = some (.int .i64 u.mn) := blk_cell hh.k3 5
      have c6 : w'.cell? ⟨p3, 6, none⟩ = some (.int .i64 u.md) := blk_cell hh.k3 6
      have d0 : w'.cell? ⟨p5, 0, none⟩ = some (.string u.label) := blk_cell hh.k5 0
      have d1 : w'.cell? ⟨p5, 1, none⟩ = some (.int .i64 u.code) := blk_cell hh.k5 1
      have d2 : w'.cell? ⟨p5, 2, none⟩ = some (.string u.unit) := blk_cell hh.k5 2
      have d3 : w'.cell? ⟨p5, 3, none⟩ = some (.int .i64 u.ln) := blk_cell hh.k5 3
      have d4 : w'.cell? ⟨p5, 4, none⟩ = some (.int .i64 u.ld) := blk_cell hh.k5 4
      have d5 : w'.cell? ⟨p5, 5, none⟩ = some (.int .i64 u.mn) := blk_cell hh.k5 5
      have d6 : w'.cell? ⟨p5, 6, none⟩ = some (.int .i64 u.md) := blk_cell hh.k5 6
      go_simp
      with_reducible rfl
    rotate_left
    · simp only [Act.put, List.setIfInBounds_toArray, List.set_cons_zero, List.set_cons_succ, i64_w, i32_w]
      rfl
    refine one_ (i := 27) (N := some 69) #[true, true, true, true, true, true, true, true, true, true, true, true, true, true, true, true, true, true, true, true, true, true, true, true, true, true, true, true, true, true, false, false, false, false, false, false, false, false, false, false, false, false, false, false, false, false, false, false, false, false, false] rfl rfl (by kernel_rfl) (by decide) (fun K hK => ?_)
    refine goes_ Try.func32 (by kernel_rfl) rfl #[.agg #[.int .i64 u.ln, .int .i64 u.ld]] (by rfl) rfl rfl (by (try simp only [List.map_toArray, List.map_cons, List.map_nil]); first | done | rfl) ?_
    refine (plain_calls u.ln u.ld _).mono ?_
    rintro e wz ⟨rfl, hb_⟩
    refine ⟨_, rfl, ?_⟩
    refine hK.out _ _ (hHeld.step hb_) (fun hHeld => ?_)
    clear hK K
    refine norm_ (a' := ?_) ?_ ?_
    rotate_left
    · show Act.put _ (some 69) _ = _
      simp only [Act.put, List.setIfInBounds_toArray, List.set_cons_zero, List.set_cons_succ, i64_w, i32_w]
      rfl
    refine pure_ (i := 30) (N := some 72) (v := ?_) (a' := ?_) #[true, true, true, true, true, true, true, true, true, true, true, true, true, true, true, true, true, true, true, true, true, true, true, true, true, true, true, true, true, true, true, false, false, false, false, false, false, false, false, false, false, false, false, false, false, false, false, false, false, false, false] rfl rfl (by kernel_rfl) (fun _ _ _ h => h) (Or.inl ⟨by rfl, ?_⟩) ?_ ?_
    rotate_left
    · intro w'
      go_simp
      try with_reducible rfl
    rotate_left
    · simp only [Act.put, List.setIfInBounds_toArray, List.set_cons_zero, List.set_cons_succ, i64_w, i32_w]
      rfl
    refine pure_ (i := 31) (N := some 73) (v := ?_) (a' := ?_) #[true, true, true, true, true, true, true, true, true, true, true, true, true, true, true, true, true, true, true, true, true, true, true, true, true, true, true, true, true, true, true, true, false, false, false, false, false, false, false, false, false, false, false, false, false, false, false, false, false, false, false] rfl rfl (by kernel_rfl) (fun _ _ _ h => h) (Or.inl ⟨by rfl, ?_⟩) ?_ ?_
    rotate_left
    · intro w'
      go_simp
      try with_reducible rfl
    rotate_left
    · simp only [Act.put, List.setIfInBounds_toArray, List.set_cons_zero, List.set_cons_succ, i64_w, i32_w]
      rfl
    refine pure_ (i := 32) (N := some 74) (v := ?_) (a' := ?_) #[true, true, true, true, true, true, true, true, true, true, true, true, true, true, true, true, true, true, true, true, true, true, true, true, true, true, true, true, true, true, true, true, true, false, false, false, false, false, false, false, false, false, false, false, false, false, false, false, false, false, false] rfl rfl (by kernel_rfl) (fun _ _ _ h => h) (Or.inl ⟨by rfl, ?_⟩) ?_ ?_
    rotate_left
    · intro w'
      go_simp
      try with_reducible rfl
    rotate_left
    · simp only [Act.put, List.setIfInBounds_toArray, List.set_cons_zero, List.set_cons_succ, i64_w, i32_w]
      rfl
    refine pure_ (i := 33) (N := some 75) (v := ?_) (a' := ?_) #[true, true, true, true, true, true, true, true, true, true, true, true, true, true, true, true, true, true, true, true, true, true, true, true, true, true, true, true, true, true, true, true, true, true, false, false, false, false, false, false, false, false, false, false, false, false, false, false, false, false, false] rfl rfl (by kernel_rfl) (fun _ _ _ h => h) (Or.inl ⟨by rfl, ?_⟩) ?_ ?_
    rotate_left
    · intro w'
      go_simp
      try with_reducible rfl
    rotate_left
    · simp only [Act.put, List.setIfInBounds_toArray, List.set_cons_zero, List.set_cons_succ, i64_w, i32_w]
      rfl
    refine take_ (i := 34) (N := some 76) (v := ?_) (a' := ?_) #[true, true, true, true, true, true, true, true, true, true, true, true, true, true, true, true, true, true, true, true, true, true, true, true, true, true, true, true, true, true, true, true, true, true, true, false, false, false, false, false, false, false, false, false, false, false, false, false, false, false, false] rfl rfl (by kernel_rfl) (fun _ _ _ h => h) (Or.inl ⟨by rfl, ?_⟩) hHeld ?_ ?_
    rotate_left
    · rintro w' hh
      have c0 : w'.cell? ⟨p3, 0, none⟩ = some (.string u.label) := blk_cell hh.k3 0
      have c1 : w'.cell? ⟨p3, 1, none⟩ = some (.int .i64 u.code) := blk_cell hh.k3 1
      have c2 : w'.cell? ⟨p3, 2, none⟩ = some (.string u.unit) := blk_cell hh.k3 2
      have c3 : w'.cell? ⟨p3, 3, none⟩ = some (.int .i64 u.ln) := blk_cell hh.k3 3
      have c4 : w'.cell? ⟨p3, 4, none⟩ = some (.int .i64 u.ld) := blk_cell hh.k3 4
      have c5 : w'.cell? ⟨p3, 5, none⟩ = some (.int .i64 u.mn) := blk_cell hh.k3 5
      have c6 : w'.cell? ⟨p3, 6, none⟩ = some (.int .i64 u.md) := blk_cell hh.k3 6
      have d0 : w'.cell? ⟨p5, 0, none⟩ = some (.string u.label) := blk_cell hh.k5 0
      have d1 : w'.cell? ⟨p5, 1, none⟩ = some (.int .i64 u.code) := blk_cell hh.k5 1
      have d2 : w'.cell? ⟨p5, 2, none⟩ = some (.string u.unit) := blk_cell hh.k5 2
      have d3 : w'.cell? ⟨p5, 3, none⟩ = some (.int .i64 u.ln) := blk_cell hh.k5 3
      have d4 : w'.cell? ⟨p5, 4, none⟩ = some (.int .i64 u.ld) := blk_cell hh.k5 4
      have d5 : w'.cell? ⟨p5, 5, none⟩ = some (.int .i64 u.mn) := blk_cell hh.k5 5
      have d6 : w'.cell? ⟨p5, 6, none⟩ = some (.int .i64 u.md) := blk_cell hh.k5 6
      go_simp
      with_reducible rfl
    rotate_left
    · simp only [Act.put, List.setIfInBounds_toArray, List.set_cons_zero, List.set_cons_succ, i64_w, i32_w]
      rfl
    refine pure_ (i := 36) (N := some 78) (v := ?_) (a' := ?_) #[true, true, true, true, true, true, true, true, true, true, true, true, true, true, true, true, true, true, true, true, true, true, true, true, true, true, true, true, true, true, true, true, true, true, true, false, true, false, false, false, false, false, false, false, false, false, false, false, false, false, false] rfl rfl (by kernel_rfl) (fun _ _ _ h => h) (Or.inl ⟨by rfl, ?_⟩) ?_ ?_
    rotate_left
    · intro w'
      go_simp
      try with_reducible rfl
    rotate_left
    · simp only [Act.put, List.setIfInBounds_toArray, List.set_cons_zero, List.set_cons_succ, i64_w, i32_w]
      rfl
    refine take_ (i := 37) (N := some 79) (v := ?_) (a' := ?_) #[true, true, true, true, true, true, true, true, true, true, true, true, true, true, true, true, true, true, true, true, true, true, true, true, true, true, true, true, true, true, true, true, true, true, true, false, true, true, false, false, false, false, false, false, false, false, false, false, false, false, false] rfl rfl (by kernel_rfl) (fun _ _ _ h => h) (Or.inl ⟨by rfl, ?_⟩) hHeld ?_ ?_
    rotate_left
    · rintro w' hh
      have c0 : w'.cell? ⟨p3, 0, none⟩ = some (.string u.label) := blk_cell hh.k3 0
      have c1 : w'.cell? ⟨p3, 1, none⟩ = some (.int .i64 u.code) := blk_cell hh.k3 1
      have c2 : w'.cell? ⟨p3, 2, none⟩ = some (.string u.unit) := blk_cell hh.k3 2
      have c3 : w'.cell? ⟨p3, 3, none⟩ = some (.int .i64 u.ln) := blk_cell hh.k3 3
      have c4 : w'.cell? ⟨p3, 4, none⟩ = some (.int .i64 u.ld) := blk_cell hh.k3 4
      have c5 : w'.cell? ⟨p3, 5, none⟩ = some (.int .i64 u.mn) := blk_cell hh.k3 5
      have c6 : w'.cell? ⟨p3, 6, none⟩ = some (.int .i64 u.md) := blk_cell hh.k3 6
      have d0 : w'.cell? ⟨p5, 0, none⟩ = some (.string u.label) := blk_cell hh.k5 0
      have d1 : w'.cell? ⟨p5, 1, none⟩ = some (.int .i64 u.code) := blk_cell hh.k5 1
      have d2 : w'.cell? ⟨p5, 2, none⟩ = some (.string u.unit) := blk_cell hh.k5 2
      have d3 : w'.cell? ⟨p5, 3, none⟩ = some (.int .i64 u.ln) := blk_cell hh.k5 3
      have d4 : w'.cell? ⟨p5, 4, none⟩ = some (.int .i64 u.ld) := blk_cell hh.k5 4
      have d5 : w'.cell? ⟨p5, 5, none⟩ = some (.int .i64 u.mn) := blk_cell hh.k5 5
      have d6 : w'.cell? ⟨p5, 6, none⟩ = some (.int .i64 u.md) := blk_cell hh.k5 6
      go_simp
      with_reducible rfl
    rotate_left
    · simp only [Act.put, List.setIfInBounds_toArray, List.set_cons_zero, List.set_cons_succ, i64_w, i32_w]
      rfl
    refine one_ (i := 35) (N := some 77) #[true, true, true, true, true, true, true, true, true, true, true, true, true, true, true, true, true, true, true, true, true, true, true, true, true, true, true, true, true, true, true, true, true, true, true, true, true, true, false, false, false, false, false, false, false, false, false, false, false, false, false] rfl rfl (by kernel_rfl) (by decide) (fun K hK => ?_)
    refine goes_ Try.func32 (by kernel_rfl) rfl #[.agg #[.int .i64 u.mn, .int .i64 u.md]] (by rfl) rfl rfl (by (try simp only [List.map_toArray, List.map_cons, List.map_nil]); first | done | rfl) ?_
    refine (plain_calls u.mn u.md _).mono ?_
    rintro e wz ⟨rfl, hb_⟩
    refine ⟨_, rfl, ?_⟩
    refine hK.out _ _ (hHeld.step hb_) (fun hHeld => ?_)
    clear hK K
    refine norm_ (a' := ?_) ?_ ?_
    rotate_left
    · show Act.put _ (some 77) _ = _
      simp only [Act.put, List.setIfInBounds_toArray, List.set_cons_zero, List.set_cons_succ, i64_w, i32_w]
      rfl
    refine pure_ (i := 38) (N := some 80) (v := ?_) (a' := ?_) #[true, true, true, true, true, true, true, true, true, true, true, true, true, true, true, true, true, true, true, true, true, true, true, true, true, true, true, true, true, true, true, true, true, true, true, true, true, true, true, false, false, false, false, false, false, false, false, false, false, false, false] rfl rfl (by kernel_rfl) (fun _ _ _ h => h) (Or.inl ⟨by rfl, ?_⟩) ?_ ?_
    rotate_left
    · intro w'
      go_simp
      try with_reducible rfl
    rotate_left
    · simp only [Act.put, List.setIfInBounds_toArray, List.set_cons_zero, List.set_cons_succ, i64_w, i32_w]
      rfl
    refine pure_ (i := 39) (N := some 81) (v := ?_) (a' := ?_) #[true, true, true, true, true, true, true, true, true, true, true, true, true, true, true, true, true, true, true, true, true, true, true, true, true, true, true, true, true, true, true, true, true, true, true, true, true, true, true, true, false, false, false, false, false, false, false, false, false, false, false] rfl rfl (by kernel_rfl) (fun _ _ _ h => h) (Or.inl ⟨by rfl, ?_⟩) ?_ ?_
    rotate_left
    · intro w'
      go_simp
      try with_reducible rfl
    rotate_left
    · simp only [Act.put, List.setIfInBounds_toArray, List.set_cons_zero, List.set_cons_succ, i64_w, i32_w]
      rfl
    refine pure_ (i := 40) (N := some 82) (v := ?_) (a' := ?_) #[true, true, true, true, true, true, true, true, true, true, true, true, true, true, true, true, true, true, true, true, true, true, true, true, true, true, true, true, true, true, true, true, true, true, true, true, true, true, true, true, true, false, false, false, false, false, false, false, false, false, false] rfl rfl (by kernel_rfl) (fun _ _ _ h => h) (Or.inl ⟨by rfl, ?_⟩) ?_ ?_
    rotate_left
    · intro w'
      go_simp
      try with_reducible rfl
    rotate_left
    · simp only [Act.put, List.setIfInBounds_toArray, List.set_cons_zero, List.set_cons_succ, i64_w, i32_w]
      rfl
    refine pure_ (i := 41) (N := some 83) (v := ?_) (a' := ?_) #[true, true, true, true, true, true, true, true, true, true, true, true, true, true, true, true, true, true, true, true, true, true, true, true, true, true, true, true, true, true, true, true, true, true, true, true, true, true, true, true, true, true, false, false, false, false, false, false, false, false, false] rfl rfl (by kernel_rfl) (fun _ _ _ h => h) (Or.inl ⟨by rfl, ?_⟩) ?_ ?_
    rotate_left
    · intro w'
      go_simp
      try with_reducible rfl
    rotate_left
    · simp only [Act.put, List.setIfInBounds_toArray, List.set_cons_zero, List.set_cons_succ, i64_w, i32_w]
      rfl
    refine pure_ (i := 42) (N := some 84) (v := ?_) (a' := ?_) #[true, true, true, true, true, true, true, true, true, true, true, true, true, true, true, true, true, true, true, true, true, true, true, true, true, true, true, true, true, true, true, true, true, true, true, true, true, true, true, true, true, true, true, false, false, false, false, false, false, false, false] rfl rfl (by kernel_rfl) (fun _ _ _ h => h) (Or.inl ⟨by rfl, ?_⟩) ?_ ?_
    rotate_left
    · intro w'
      go_simp
      try with_reducible rfl
    rotate_left
    · simp only [Act.put, List.setIfInBounds_toArray, List.set_cons_zero, List.set_cons_succ, i64_w, i32_w]
      rfl
    refine pure_ (i := 43) (N := some 85) (v := ?_) (a' := ?_) #[true, true, true, true, true, true, true, true, true, true, true, true, true, true, true, true, true, true, true, true, true, true, true, true, true, true, true, true, true, true, true, true, true, true, true, true, true, true, true, true, true, true, true, true, false, false, false, false, false, false, false] rfl rfl (by kernel_rfl) (fun _ _ _ h => h) (Or.inl ⟨by rfl, ?_⟩) ?_ ?_
    rotate_left
    · intro w'
      go_simp
      try with_reducible rfl
    rotate_left
    · simp only [Act.put, List.setIfInBounds_toArray, List.set_cons_zero, List.set_cons_succ, i64_w, i32_w]
      rfl
    refine pure_ (i := 44) (N := some 86) (v := ?_) (a' := ?_) #[true, true, true, true, true, true, true, true, true, true, true, true, true, true, true, true, true, true, true, true, true, true, true, true, true, true, true, true, true, true, true, true, true, true, true, true, true, true, true, true, true, true, true, true, true, false, false, false, false, false, false] rfl rfl (by kernel_rfl) (fun _ _ _ h => h) (Or.inl ⟨by rfl, ?_⟩) ?_ ?_
    rotate_left
    · intro w'
      go_simp
      try with_reducible rfl
    rotate_left
    · simp only [Act.put, List.setIfInBounds_toArray, List.set_cons_zero, List.set_cons_succ, i64_w, i32_w]
      rfl
    refine pure_ (i := 45) (N := some 87) (v := ?_) (a' := ?_) #[true, true, true, true, true, true, true, true, true, true, true, true, true, true, true, true, true, true, true, true, true, true, true, true, true, true, true, true, true, true, true, true, true, true, true, true, true, true, true, true, true, true, true, true, true, true, false, false, false, false, false] rfl rfl (by kernel_rfl) (fun _ _ _ h => h) (Or.inl ⟨by rfl, ?_⟩) ?_ ?_
    rotate_left
    · intro w'
      go_simp
      try with_reducible rfl
    rotate_left
    · simp only [Act.put, List.setIfInBounds_toArray, List.set_cons_zero, List.set_cons_succ, i64_w, i32_w]
      rfl
    refine pure_ (i := 46) (N := some 88) (v := ?_) (a' := ?_) #[true, true, true, true, true, true, true, true, true, true, true, true, true, true, true, true, true, true, true, true, true, true, true, true, true, true, true, true, true, true, true, true, true, true, true, true, true, true, true, true, true, true, true, true, true, true, true, false, false, false, false] rfl rfl (by kernel_rfl) (fun _ _ _ h => h) (Or.inl ⟨by rfl, ?_⟩) ?_ ?_
    rotate_left
    · intro w'
      go_simp
      try with_reducible rfl
    rotate_left
    · simp only [Act.put, List.setIfInBounds_toArray, List.set_cons_zero, List.set_cons_succ, i64_w, i32_w]
      rfl
    refine pure_ (i := 47) (N := some 89) (v := ?_) (a' := ?_) #[true, true, true, true, true, true, true, true, true, true, true, true, true, true, true, true, true, true, true, true, true, true, true, true, true, true, true, true, true, true, true, true, true, true, true, true, true, true, true, true, true, true, true, true, true, true, true, true, false, false, false] rfl rfl (by kernel_rfl) (fun _ _ _ h => h) (Or.inl ⟨by rfl, ?_⟩) ?_ ?_
    rotate_left
    · intro w'
      go_simp
      try with_reducible rfl
    rotate_left
    · simp only [Act.put, List.setIfInBounds_toArray, List.set_cons_zero, List.set_cons_succ, i64_w, i32_w]
      rfl
    refine pure_ (i := 48) (N := some 90) (v := ?_) (a' := ?_) #[true, true, true, true, true, true, true, true, true, true, true, true, true, true, true, true, true, true, true, true, true, true, true, true, true, true, true, true, true, true, true, true, true, true, true, true, true, true, true, true, true, true, true, true, true, true, true, true, true, false, false] rfl rfl (by kernel_rfl) (fun _ _ _ h => h) (Or.inl ⟨by rfl, ?_⟩) ?_ ?_
    rotate_left
    · intro w'
      go_simp
      try with_reducible rfl
    rotate_left
    · simp only [Act.put, List.setIfInBounds_toArray, List.set_cons_zero, List.set_cons_succ, i64_w, i32_w]
      rfl
    refine pure_ (i := 49) (N := some 91) (v := ?_) (a' := ?_) #[true, true, true, true, true, true, true, true, true, true, true, true, true, true, true, true, true, true, true, true, true, true, true, true, true, true, true, true, true, true, true, true, true, true, true, true, true, true, true, true, true, true, true, true, true, true, true, true, true, true, false] rfl rfl (by kernel_rfl) (fun _ _ _ h => h) (Or.inl ⟨by rfl, ?_⟩) ?_ ?_
    rotate_left
    · intro w'
      go_simp
      try with_reducible rfl
    rotate_left
    · simp only [Act.put, List.setIfInBounds_toArray, List.set_cons_zero, List.set_cons_succ, i64_w, i32_w]
      rfl
    refine pure_ (i := 50) (N := some 2) (v := ?_) (a' := ?_) #[true, true, true, true, true, true, true, true, true, true, true, true, true, true, true, true, true, true, true, true, true, true, true, true, true, true, true, true, true, true, true, true, true, true, true, true, true, true, true, true, true, true, true, true, true, true, true, true, true, true, true] rfl rfl (by kernel_rfl) (fun _ _ _ h => h) (Or.inl ⟨by rfl, ?_⟩) ?_ ?_
    rotate_left
    · intro w'
      go_simp
      try with_reducible rfl
    rotate_left
    · simp only [Act.put, List.setIfInBounds_toArray, List.set_cons_zero, List.set_cons_succ, i64_w, i32_w]
      rfl
    refine done_ (by kernel_rfl) ?_
    have hB := hHeld.b
    clear hHeld hP
    go_wp2_with fail
    go_ret
    exact ⟨by simp, hB⟩
end Go.Proofs.Ytcldlfhnmkogeaa.NomenPlaysWalk

