import Derived.Test.YtcldlfhnmkogeaaTermLaw
/- The law NomenUnlike, walked. -/
set_option linter.unusedVariables false
set_option linter.unusedSimpArgs false
namespace Go.Proofs.Ytcldlfhnmkogeaa.NomenUnlikeWalk
open Go.RowKit Go.Proofs.YtcldlfhnmkogeaaW.PrintWords Go.Proofs.YtcldlfhnmkogeaaW.PrintLast Go.Proofs.Ytcldlfhnmkogeaa.Nats Go.Proofs.Ytcldlfhnmkogeaa.HeapKit Go.Proofs.Ytcldlfhnmkogeaa.Term

theorem codes_apart : ∀ x ∈ terms, ∀ y ∈ terms, x.code = y.code → x.label = y.label := by decide +kernel
theorem codes_far : ∀ x ∈ terms, x.code < 61440 ∨ 65536 ≤ x.code := by decide +kernel
theorem tfind_mem {s : ByteArray} {u : TRow} (h : tfind s = some u) : u ∈ terms := by
  unfold tfind at h
  split at h
  · exact List.mem_of_getElem? h
  · exact List.mem_of_find?_eq_some h
theorem priv_in (s : ByteArray) : 61440 ≤ privR s ∧ privR s < 65536 := by
  unfold privR
  omega
/-- What is known ahead. -/
structure Known (s t : ByteArray) (n m : Int) (ok is : Bool) (u v : TRow) : Prop where
  ca : ∀ w, Calls Try.prog 36 #[.string s] w fun e w' => e = .returned (.tuple #[.int .i64 n, .bool ok]) ∧ Below w.heap.size w w'
  cb : ∀ w, Calls Try.prog 36 #[.string t] w fun e w' => e = .returned (.tuple #[.int .i64 m, .bool is]) ∧ Below w.heap.size w w'
  fa : ∀ w, Calls Try.prog 34 #[.string s] w fun e w' => e = .returned (.tuple #[.agg #[.string u.label, .int .i64 u.code, .string u.unit, .int .i64 u.ln, .int .i64 u.ld, .int .i64 u.mn, .int .i64 u.md], .bool ok]) ∧ Below w.heap.size w w'
  fb : ∀ w, Calls Try.prog 34 #[.string t] w fun e w' => e = .returned (.tuple #[.agg #[.string v.label, .int .i64 v.code, .string v.unit, .int .i64 v.ln, .int .i64 v.ld, .int .i64 v.mn, .int .i64 v.md], .bool is]) ∧ Below w.heap.size w w'
  off : ok = false → 61440 ≤ n ∧ n < 65536
  one : n = m → ok = is ∧ u.label.toList = v.label.toList
theorem known (s t : ByteArray) (hs : s.size ≤ 4000) (ht : t.size ≤ 4000) : ∃ n m ok is u v, Known s t n m ok is u v := by
  have ca := fun w => code_calls s hs w
  have cb := fun w => code_calls t ht w
  have fa := fun w => find_calls s w
  have fb := fun w => find_calls t w
  have pa := priv_in s
  have pb := priv_in t
  unfold codeR at ca cb
  cases hu : tfind s with
  | none =>
    cases hv : tfind t with
    | none =>
      simp only [hu, TRow.val] at ca fa
      simp only [hv, TRow.val] at cb fb
      exact ⟨_, _, _, _, zrow, zrow, ⟨ca, cb, fa, fb, fun _ => pa, fun _ => ⟨rfl, rfl⟩⟩⟩
    | some v =>
      simp only [hu, TRow.val] at ca fa
      simp only [hv, TRow.val] at cb fb
      have h := codes_far v (tfind_mem hv)
      exact ⟨_, _, _, _, zrow, v, ⟨ca, cb, fa, fb, fun _ => pa, fun e => by exfalso; omega⟩⟩
  | some u =>
    have h := codes_far u (tfind_mem hu)
    cases hv : tfind t with
    | none =>
      simp only [hu, TRow.val] at ca fa
      simp only [hv, TRow.val] at cb fb
      exact ⟨_, _, _, _, u, zrow, ⟨ca, cb, fa, fb, fun e => by (cases e), fun e => by exfalso; omega⟩⟩
    | some v =>
      simp only [hu, TRow.val] at ca fa
      simp only [hv, TRow.val] at cb fb
      exact ⟨_, _, _, _, u, v, ⟨ca, cb, fa, fb, fun e => by (cases e), fun e => ⟨rfl, by rw [codes_apart u (tfind_mem hu) v (tfind_mem hv) e]⟩⟩⟩

set_option maxRecDepth 100000 in
set_option maxHeartbeats 4000000 in
theorem walk (s t : ByteArray) (w : World) :
    Calls Try.prog 10 #[.string s, .string t] w fun e w' => e = .returned (.bool true) ∧ Below w.heap.size w w' := by
  go_enter Try.func10, Try.ntmps10
  go_wp2_with fail
  refine (awake20 _).mono ?_
  rintro e w1 ⟨rfl, hB⟩
  by_cases q0 : ((s.size : Nat) : Int) > 60
  · have t0 : decide (((s.size : Nat) : Int) > 60) = true := decide_eq_true q0
    go_wp2_with fail
    refine (awake20 _).mono ?_
    rintro e w9 ⟨rfl, hb9⟩
    go_wp2_with fail
    go_ret
    exact ⟨rfl, bthen hB hb9⟩
  have t0 : decide (((s.size : Nat) : Int) > 60) = false := decide_eq_false q0
  by_cases q1 : ((t.size : Nat) : Int) > 60
  · have t1 : decide (((t.size : Nat) : Int) > 60) = true := decide_eq_true q1
    go_wp2_with fail
    refine (awake20 _).mono ?_
    rintro e w9 ⟨rfl, hb9⟩
    go_wp2_with fail
    go_ret
    exact ⟨rfl, bthen hB hb9⟩
  have t1 : decide (((t.size : Nat) : Int) > 60) = false := decide_eq_false q1
  obtain ⟨n, m, ok, is, u, v, hk⟩ := known s t (by omega) (by omega)
  have HK := Lib.hid hk
  clear hk q0 q1
  go_wp2_with fail
  clear t0 t1
  refine (HK.out.ca _).mono ?_
  rintro e w2 ⟨rfl, hb⟩
  replace hB := bthen hB hb
  clear hb
  go_wp2_with fail
  refine (HK.out.cb _).mono ?_
  rintro e w3 ⟨rfl, hb⟩
  replace hB := bthen hB hb
  clear hb
  go_wp2_with fail
  refine (HK.out.fa _).mono ?_
  rintro e w4 ⟨rfl, hb⟩
  replace hB := bthen (bthen hB hb) (below_alloc (Below.refl _ _) (.cells #[.string u.label, .int .i64 u.code, .string u.unit, .int .i64 u.ln, .int .i64 u.ld, .int .i64 u.mn, .int .i64 u.md] 57))
  have k9 := blk_new w4 (.cells #[.string u.label, .int .i64 u.code, .string u.unit, .int .i64 u.ln, .int .i64 u.ld, .int .i64 u.mn, .int .i64 u.md] 57)
  clear hb
  go_wp2_with fail
  refine (HK.out.fb _).mono ?_
  rintro e w5 ⟨rfl, hb⟩
  replace hB := bthen (bthen hB hb) (below_alloc (Below.refl _ _) (.cells #[.string v.label, .int .i64 v.code, .string v.unit, .int .i64 v.ln, .int .i64 v.ld, .int .i64 v.mn, .int .i64 v.md] 57))
  replace k9 := blk_below (blk_below k9 hb) (below_alloc (Below.refl _ _) (.cells #[.string v.label, .int .i64 v.code, .string v.unit, .int .i64 v.ln, .int .i64 v.ld, .int .i64 v.mn, .int .i64 v.md] 57))
  have k11 := blk_new w5 (.cells #[.string v.label, .int .i64 v.code, .string v.unit, .int .i64 v.ln, .int .i64 v.ld, .int .i64 v.mn, .int .i64 v.md] 57)
  clear hb
  have c0 : (w5.alloc (.cells #[.string v.label, .int .i64 v.code, .string v.unit, .int .i64 v.ln, .int .i64 v.ld, .int .i64 v.mn, .int .i64 v.md] 57)).cell? ⟨w4.heap.size, 0, none⟩ = some (.string u.label) := blk_cell k9 0
  have c1 : (w5.alloc (.cells #[.string v.label, .int .i64 v.code, .string v.unit, .int .i64 v.ln, .int .i64 v.ld, .int .i64 v.mn, .int .i64 v.md] 57)).cell? ⟨w4.heap.size, 1, none⟩ = some (.int .i64 u.code) := blk_cell k9 1
  have c2 : (w5.alloc (.cells #[.string v.label, .int .i64 v.code, .string v.unit, .int .i64 v.ln, .int .i64 v.ld, .int .i64 v.mn, .int .i64 v.md] 57)).cell? ⟨w4.heap.size, 2, none⟩ = some (.string u.unit) := blk_cell k9 2
  have c3 : (w5.alloc (.cells #[.string v.label, .int .i64 v.code, .string v.unit, .int .i64 v.ln, .int .i64 v.ld, .int .i64 v.mn, .int .i64 v.md] 57)).cell? ⟨w4.heap.size, 3, none⟩ = some (.int .i64 u.ln) := blk_cell k9 3
  have c4 : (w5.alloc (.cells #[.string v.label, .int .i64 v.code, .string v.unit, .int .i64 v.ln, .int .i64 v.ld, .int .i64 v.mn, .int .i64 v.md] 57)).cell? ⟨w4.heap.size, 4, none⟩ = some (.int .i64 u.ld) := blk_cell k9 4
  have c5 : (w5.alloc (.cells #[.string v.label, .int .i64 v.code, .string v.unit, .int .i64 v.ln, .int .i64 v.ld, .int .i64 v.mn, .int .i64 v.md] 57)).cell? ⟨w4.heap.size, 5, none⟩ = some (.int .i64 u.mn) := blk_cell k9 5
  have c6 : (w5.alloc (.cells #[.string v.label, .int .i64 v.code, .string v.unit, .int .i64 v.ln, .int .i64 v.ld, .int .i64 v.mn, .int .i64 v.md] 57)).cell? ⟨w4.heap.size, 6, none⟩ = some (.int .i64 u.md) := blk_cell k9 6
  have d0 : (w5.alloc (.cells #[.string v.label, .int .i64 v.code, .string v.unit, .int .i64 v.ln, .int .i64 v.ld, .int .i64 v.mn, .int .i64 v.md] 57)).cell? ⟨w5.heap.size, 0, none⟩ = some (.string v.label) := blk_cell k11 0
  have d1 : (w5.alloc (.cells #[.string v.label, .int .i64 v.code, .string v.unit, .int .i64 v.ln, .int .i64 v.ld, .int .i64 v.mn, .int .i64 v.md] 57)).cell? ⟨w5.heap.size, 1, none⟩ = some (.int .i64 v.code) := blk_cell k11 1
  have d2 : (w5.alloc (.cells #[.string v.label, .int .i64 v.code, .string v.unit, .int .i64 v.ln, .int .i64 v.ld, .int .i64 v.mn, .int .i64 v.md] 57)).cell? ⟨w5.heap.size, 2, none⟩ = some (.string v.unit) := blk_cell k11 2
  have d3 : (w5.alloc (.cells #[.string v.label, .int .i64 v.code, .string v.unit, .int .i64 v.ln, .int .i64 v.ld, .int .i64 v.mn, .int .i64 v.md] 57)).cell? ⟨w5.heap.size, 3, none⟩ = some (.int .i64 v.ln) := blk_cell k11 3
  have d4 : (w5.alloc (.cells #[.string v.label, .int .i64 v.code, .string v.unit, .int .i64 v.ln, .int .i64 v.ld, .int .i64 v.mn, .int .i64 v.md] 57)).cell? ⟨w5.heap.size, 4, none⟩ = some (.int .i64 v.ld) := blk_cell k11 4
  have d5 : (w5.alloc (.cells #[.string v.label, .int .i64 v.code, .string v.unit, .int .i64 v.ln, .int .i64 v.ld, .int .i64 v.mn, .int .i64 v.md] 57)).cell? ⟨w5.heap.size, 5, none⟩ = some (.int .i64 v.mn) := blk_cell k11 5
  have d6 : (w5.alloc (.cells #[.string v.label, .int .i64 v.code, .string v.unit, .int .i64 v.ln, .int .i64 v.ld, .int .i64 v.mn, .int .i64 v.md] 57)).cell? ⟨w5.heap.size, 6, none⟩ = some (.int .i64 v.md) := blk_cell k11 6
  by_cases hnm : n = m
  · obtain ⟨rfl, hlab⟩ := HK.out.one hnm
    have hll : (u.label.toList == v.label.toList) = true := by simp [hlab]
    have hne : (n == m) = true := by simp [hnm]
    cases ok with
    | true =>
      go_wp2_with fail
      go_ret
      exact ⟨by simp, hB⟩
    | false =>
      obtain ⟨h1, h2⟩ := HK.out.off rfl
      have g1 : decide (n < 61440) = false := by simp; omega
      have g2 : decide (n ≥ 65536) = false := by simp; omega
      go_wp2_with fail
      go_ret
      exact ⟨by simp, hB⟩
  · have hne : (n == m) = false := by simp [hnm]
    cases ok with
    | true =>
      go_wp2_with fail
      go_ret
      exact ⟨by simp, hB⟩
    | false =>
      obtain ⟨h1, h2⟩ := HK.out.off rfl
      have g1 : decide (n < 61440) = false := by simp; omega
      have g2 : decide (n ≥ 65536) = false := by simp; omega
      go_wp2_with fail
      go_ret
      exact ⟨by simp, hB⟩
end Go.Proofs.Ytcldlfhnmkogeaa.NomenUnlikeWalk
