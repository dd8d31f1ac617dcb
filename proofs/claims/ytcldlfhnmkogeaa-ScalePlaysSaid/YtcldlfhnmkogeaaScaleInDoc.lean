import Derived.Test.YtcldlfhnmkogeaaScaleInRef
import Derived.Test.YtcldlfhnmkogeaaUnitKnown
/- The value of a raw number in another unit, as the document has it (lancetref19.In), walked. -/
set_option linter.unusedVariables false
set_option linter.unusedSimpArgs false
namespace Go.Proofs.Ytcldlfhnmkogeaa.Scale
open Go.RowKit Go.Proofs.YtcldlfhnmkogeaaW.PrintWords Go.Proofs.YtcldlfhnmkogeaaW.PrintLast Go.Proofs.Ytcldlfhnmkogeaa.Nats Go.Proofs.Ytcldlfhnmkogeaa.HeapKit Go.Proofs.Ytcldlfhnmkogeaa.RatPlain Go.Proofs.Ytcldlfhnmkogeaa.Unit Go.Proofs.Ytcldlfhnmkogeaa.RefWalk

/-- The boxes. -/
structure Rn (w wx : World) (f0 : ByteArray) (f1 : Int) (f2 : ByteArray) (f3 sn sd on od : Int) (f8 : ByteArray) (v1 v2 : Int) (p8 p10 p12 : Nat) (u v : URow) : Prop where
  b : B2 w wx (.cells #[.string f0, .int .i64 f1, .string f2, .int .i64 f3, .int .i64 sn, .int .i64 sd, .int .i64 on, .int .i64 od, .string f8] 25) (.cells #[.int .i64 0, .int .i64 0] 23)
  k8 : wx.heap[p8]? = some (.cells #[.int .i64 v1, .int .i64 v2] 23 (0, 0))
  k10 : wx.heap[p10]? = some (.cells #[.string u.name, .int .i64 u.d0, .int .i64 u.d1, .int .i64 u.d2, .int .i64 u.d3, .int .i64 u.fn, .int .i64 u.fd, .int .i64 u.on, .int .i64 u.od, .int .i64 u.code] 48 (0, 0))
  k12 : wx.heap[p12]? = some (.cells #[.string v.name, .int .i64 v.d0, .int .i64 v.d1, .int .i64 v.d2, .int .i64 v.d3, .int .i64 v.fn, .int .i64 v.fd, .int .i64 v.on, .int .i64 v.od, .int .i64 v.code] 48 (0, 0))
theorem Rn.step {w wx w2 : World} {f0 : ByteArray} {f1 : Int} {f2 : ByteArray} {f3 sn sd on od : Int} {f8 : ByteArray} {v1 v2 : Int} {p8 p10 p12 : Nat} {u v : URow} (h : Rn w wx f0 f1 f2 f3 sn sd on od f8 v1 v2 p8 p10 p12 u v) (hb : Below wx.heap.size wx w2) : Rn w w2 f0 f1 f2 f3 sn sd on od f8 v1 v2 p8 p10 p12 u v :=
  ⟨h.b.step hb, blk_below h.k8 hb, blk_below h.k10 hb, blk_below h.k12 hb⟩

set_option maxRecDepth 100000 in
set_option maxHeartbeats 4000000 in
theorem refin_calls (f0 : ByteArray) (f1 : Int) (f2 : ByteArray) (f3 sn sd on od : Int) (f8 : ByteArray) (raw : Int) (tu : ByteArray) (hsn : I64 sn) (hsd : I64 sd) (hon : I64 on) (hod : I64 od) (hraw : I64 raw) (w : World) :
    Calls Try.prog 44 #[.agg #[.string f0, .int .i64 f1, .string f2, .int .i64 f3, .int .i64 sn, .int .i64 sd, .int .i64 on, .int .i64 od, .string f8], .int .i64 raw, .string tu] w fun e w' => e = ans (inR sn sd on od raw f8 tu) ∧ Below w.heap.size w w' := by
  have hv := fun w => refvalue_calls f0 f1 f2 f3 sn sd on od f8 raw hsn hsd hon hod hraw w
  have hIn := value_In (sn := sn) (sd := sd) (on := on) (od := od) hraw
  obtain ⟨⟨v1, v2, v3⟩, hr⟩ : ∃ r, valueR sn sd on od raw = r := ⟨_, rfl⟩
  simp only [hr, ans] at hv
  rw [hr] at hIn
  obtain ⟨⟨x1, x2, x3⟩, hc⟩ : ∃ r, convR f8 tu v1 v2 = r := ⟨_, rfl⟩
  have hk := knownC f8 tu hIn.1 hIn.2 hc
  have hvr : v3 = 0 → Rt v1 v2 := fun h => (value_ok (h ▸ hr)).2.2.1
  have fa := fun w => reffind_calls f8 w
  have fb := fun w => reffind_calls tu w
  obtain ⟨u, hu⟩ : ∃ u, refRow f8 = u := ⟨_, rfl⟩
  obtain ⟨v, hv'⟩ : ∃ v, refRow tu = v := ⟨_, rfl⟩
  obtain ⟨oa, hoa⟩ : ∃ o, (find f8).isSome = o := ⟨_, rfl⟩
  obtain ⟨ob, hob⟩ : ∃ o, (find tu).isSome = o := ⟨_, rfl⟩
  rw [hu, hv', hoa, hob] at hk
  simp only [hu, hoa, URow.val] at fa
  simp only [hv', hob, URow.val] at fb
  have hres : inR sn sd on od raw f8 tu = if v3 = 0 then (x1, x2, x3) else (0, 0, v3) := by
    unfold inR
    rw [hr]
    dsimp only
    rw [hc]
  have HV := Lib.hid hv
  have HK := Lib.hid hk
  have HVR := Lib.hid hvr
  have FA := Lib.hid fa
  have FB := Lib.hid fb
  have HR := Lib.hid hres
  clear hv hk hvr fa fb hu hv' hoa hob hres hr hc hIn
  have hB := b2_start w (.cells #[.string f0, .int .i64 f1, .string f2, .int .i64 f3, .int .i64 sn, .int .i64 sd, .int .i64 on, .int .i64 od, .string f8] 25) (.cells #[.int .i64 0, .int .i64 0] 23)
  have a0 : ((w.alloc (.cells #[.string f0, .int .i64 f1, .string f2, .int .i64 f3, .int .i64 sn, .int .i64 sd, .int .i64 on, .int .i64 od, .string f8] 25)).alloc (.cells #[.int .i64 0, .int .i64 0] 23)).cell? ⟨w.heap.size, 0, none⟩ = some (.string f0) := blk_cell hB.b1 0
  have a1 : ((w.alloc (.cells #[.string f0, .int .i64 f1, .string f2, .int .i64 f3, .int .i64 sn, .int .i64 sd, .int .i64 on, .int .i64 od, .string f8] 25)).alloc (.cells #[.int .i64 0, .int .i64 0] 23)).cell? ⟨w.heap.size, 1, none⟩ = some (.int .i64 f1) := blk_cell hB.b1 1
  have a2 : ((w.alloc (.cells #[.string f0, .int .i64 f1, .string f2, .int .i64 f3, .int .i64 sn, .int .i64 sd, .int .i64 on, .int .i64 od, .string f8] 25)).alloc (.cells #[.int .i64 0, .int .i64 0] 23)).cell? ⟨w.heap.size, 2, none⟩ = some (.string f2) := blk_cell hB.b1 2
  have a3 : ((w.alloc (.cells #[.string f0, .int .i64 f1, .string f2, .int .i64 f3, .int .i64 sn, .int .i64 sd, .int .i64 on, .int .i64 od, .string f8] 25)).alloc (.cells #[.int .i64 0, .int .i64 0] 23)).cell? ⟨w.heap.size, 3, none⟩ = some (.int .i64 f3) := blk_cell hB.b1 3
  have a4 : ((w.alloc (.cells #[.string f0, .int .i64 f1, .string f2, .int .i64 f3, .int .i64 sn, .int .i64 sd, .int .i64 on, .int .i64 od, .string f8] 25)).alloc (.cells #[.int .i64 0, .int .i64 0] 23)).cell? ⟨w.heap.size, 4, none⟩ = some (.int .i64 sn) := blk_cell hB.b1 4
  have a5 : ((w.alloc (.cells #[.string f0, .int .i64 f1, .string f2, .int .i64 f3, .int .i64 sn, .int .i64 sd, .int .i64 on, .int .i64 od, .string f8] 25)).alloc (.cells #[.int .i64 0, .int .i64 0] 23)).cell? ⟨w.heap.size, 5, none⟩ = some (.int .i64 sd) := blk_cell hB.b1 5
  have a6 : ((w.alloc (.cells #[.string f0, .int .i64 f1, .string f2, .int .i64 f3, .int .i64 sn, .int .i64 sd, .int .i64 on, .int .i64 od, .string f8] 25)).alloc (.cells #[.int .i64 0, .int .i64 0] 23)).cell? ⟨w.heap.size, 6, none⟩ = some (.int .i64 on) := blk_cell hB.b1 6
  have a7 : ((w.alloc (.cells #[.string f0, .int .i64 f1, .string f2, .int .i64 f3, .int .i64 sn, .int .i64 sd, .int .i64 on, .int .i64 od, .string f8] 25)).alloc (.cells #[.int .i64 0, .int .i64 0] 23)).cell? ⟨w.heap.size, 7, none⟩ = some (.int .i64 od) := blk_cell hB.b1 7
  have a8 : ((w.alloc (.cells #[.string f0, .int .i64 f1, .string f2, .int .i64 f3, .int .i64 sn, .int .i64 sd, .int .i64 on, .int .i64 od, .string f8] 25)).alloc (.cells #[.int .i64 0, .int .i64 0] 23)).cell? ⟨w.heap.size, 8, none⟩ = some (.string f8) := blk_cell hB.b1 8
  go_enter Try.func44, Try.ntmps44
  go_wp2_with fail
  refine (HV.out _).mono ?_
  rintro e w1 ⟨rfl, hb1⟩
  clear a0 a1 a2 a3 a4 a5 a6 a7 a8
  replace hB := (hB.step hb1).step (below_alloc (Below.refl _ _) (.cells #[.int .i64 v1, .int .i64 v2] 23))
  have k8 := blk_new w1 (.cells #[.int .i64 v1, .int .i64 v2] 23)
  clear hb1
  by_cases n : v3 = 0
  · have hz := HR.out
    rw [if_pos n] at hz
    have HZ := Lib.hid hz
    have hvr := HVR.out n
    have HRV := Lib.hid hvr
    subst n
    clear hz HR hvr HVR
    have a0 : (w1.alloc (.cells #[.int .i64 v1, .int .i64 v2] 23)).cell? ⟨w.heap.size, 0, none⟩ = some (.string f0) := blk_cell hB.b1 0
    have a1 : (w1.alloc (.cells #[.int .i64 v1, .int .i64 v2] 23)).cell? ⟨w.heap.size, 1, none⟩ = some (.int .i64 f1) := blk_cell hB.b1 1
    have a2 : (w1.alloc (.cells #[.int .i64 v1, .int .i64 v2] 23)).cell? ⟨w.heap.size, 2, none⟩ = some (.string f2) := blk_cell hB.b1 2
    have a3 : (w1.alloc (.cells #[.int .i64 v1, .int .i64 v2] 23)).cell? ⟨w.heap.size, 3, none⟩ = some (.int .i64 f3) := blk_cell hB.b1 3
    have a4 : (w1.alloc (.cells #[.int .i64 v1, .int .i64 v2] 23)).cell? ⟨w.heap.size, 4, none⟩ = some (.int .i64 sn) := blk_cell hB.b1 4
    have a5 : (w1.alloc (.cells #[.int .i64 v1, .int .i64 v2] 23)).cell? ⟨w.heap.size, 5, none⟩ = some (.int .i64 sd) := blk_cell hB.b1 5
    have a6 : (w1.alloc (.cells #[.int .i64 v1, .int .i64 v2] 23)).cell? ⟨w.heap.size, 6, none⟩ = some (.int .i64 on) := blk_cell hB.b1 6
    have a7 : (w1.alloc (.cells #[.int .i64 v1, .int .i64 v2] 23)).cell? ⟨w.heap.size, 7, none⟩ = some (.int .i64 od) := blk_cell hB.b1 7
    have a8 : (w1.alloc (.cells #[.int .i64 v1, .int .i64 v2] 23)).cell? ⟨w.heap.size, 8, none⟩ = some (.string f8) := blk_cell hB.b1 8
    go_wp2_with fail
    refine (FA.out _).mono ?_
    rintro e w4 ⟨rfl, hb4⟩
    replace hB := hB.step hb4
    replace k8 := blk_below k8 hb4
    clear hb4 a0 a1 a2 a3 a4 a5 a6 a7 a8
    have k9 := blk_new w4 (.cells #[.string u.name, .int .i64 u.d0, .int .i64 u.d1, .int .i64 u.d2, .int .i64 u.d3, .int .i64 u.fn, .int .i64 u.fd, .int .i64 u.on, .int .i64 u.od, .int .i64 u.code] 48)
    replace k8 := blk_below k8 (below_alloc (Below.refl _ _) (.cells #[.string u.name, .int .i64 u.d0, .int .i64 u.d1, .int .i64 u.d2, .int .i64 u.d3, .int .i64 u.fn, .int .i64 u.fd, .int .i64 u.on, .int .i64 u.od, .int .i64 u.code] 48))
    replace hB := hB.step (below_alloc (Below.refl _ _) (.cells #[.string u.name, .int .i64 u.d0, .int .i64 u.d1, .int .i64 u.d2, .int .i64 u.d3, .int .i64 u.fn, .int .i64 u.fd, .int .i64 u.on, .int .i64 u.od, .int .i64 u.code] 48))
    go_wp2_with fail
    refine (FB.out _).mono ?_
    rintro e w5 ⟨rfl, hb5⟩
    replace hB := hB.step hb5
    replace k8 := blk_below k8 hb5
    replace k9 := blk_below k9 hb5
    clear hb5
    have hC : Rn w (w5.alloc (.cells #[.string v.name, .int .i64 v.d0, .int .i64 v.d1, .int .i64 v.d2, .int .i64 v.d3, .int .i64 v.fn, .int .i64 v.fd, .int .i64 v.on, .int .i64 v.od, .int .i64 v.code] 48)) f0 f1 f2 f3 sn sd on od f8 v1 v2 w1.heap.size w4.heap.size w5.heap.size u v := ⟨hB.step (below_alloc (Below.refl _ _) _), blk_alloc k8 _, blk_alloc k9 _, blk_new w5 _⟩
    clear hB k8 k9
    have hor : (oa = false ∨ ob = false) ∨ (oa = true ∧ ob = true) := by cases oa <;> cases ob <;> simp
    obtain ⟨p8, hp8⟩ : ∃ p, p = w1.heap.size := ⟨_, rfl⟩
    obtain ⟨p10, hp10⟩ : ∃ p, p = w4.heap.size := ⟨_, rfl⟩
    rw [← hp8, ← hp10] at hC
    rw [← hp8, ← hp10]
    clear hp8 hp10
    rcases hor with hor | ⟨rfl, rfl⟩
    · have hx := HK.out.missing hor
      simp only [Prod.mk.injEq] at hx
      obtain ⟨rfl, rfl, rfl⟩ := hx
      cases oa with
      | false =>
        skip
        have hx_ := hC.b.b2
        have d_0 : (w5.alloc (.cells #[.string v.name, .int .i64 v.d0, .int .i64 v.d1, .int .i64 v.d2, .int .i64 v.d3, .int .i64 v.fn, .int .i64 v.fd, .int .i64 v.on, .int .i64 v.od, .int .i64 v.code] 48)).cell? ⟨w.heap.size + 1, 0, none⟩ = some (.int .i64 0) := blk_cell hx_ 0
        have df_0 : (w5.alloc (.cells #[.string v.name, .int .i64 v.d0, .int .i64 v.d1, .int .i64 v.d2, .int .i64 v.d3, .int .i64 v.fn, .int .i64 v.fd, .int .i64 v.on, .int .i64 v.od, .int .i64 v.code] 48)).frozen? ⟨w.heap.size + 1, 0, none⟩ = false := blk_frozen hx_ 0
        have d_1 : (w5.alloc (.cells #[.string v.name, .int .i64 v.d0, .int .i64 v.d1, .int .i64 v.d2, .int .i64 v.d3, .int .i64 v.fn, .int .i64 v.fd, .int .i64 v.on, .int .i64 v.od, .int .i64 v.code] 48)).cell? ⟨w.heap.size + 1, 1, none⟩ = some (.int .i64 0) := blk_cell hx_ 1
        have df_1 : (w5.alloc (.cells #[.string v.name, .int .i64 v.d0, .int .i64 v.d1, .int .i64 v.d2, .int .i64 v.d3, .int .i64 v.fn, .int .i64 v.fd, .int .i64 v.on, .int .i64 v.od, .int .i64 v.code] 48)).frozen? ⟨w.heap.size + 1, 1, none⟩ = false := blk_frozen hx_ 1
        go_wp2_with fail
        have k_ := (blk_set (blk_set hx_ 0 (.int .i64 0)) 1 (.int .i64 0))
        have hB_ := (Below.setCell (Below.setCell hC.b.be (p := ⟨w.heap.size + 1, 0, none⟩) ((by show w.heap.size ≤ w.heap.size + 1; omega)) (.int .i64 0)) (p := ⟨w.heap.size + 1, 1, none⟩) ((by show w.heap.size ≤ w.heap.size + 1; omega)) (.int .i64 0))
        obtain ⟨w_, hw_⟩ : ∃ w_, w_ = (World.setCell (World.setCell (w5.alloc (.cells #[.string v.name, .int .i64 v.d0, .int .i64 v.d1, .int .i64 v.d2, .int .i64 v.d3, .int .i64 v.fn, .int .i64 v.fd, .int .i64 v.on, .int .i64 v.od, .int .i64 v.code] 48)) ⟨w.heap.size + 1, 0, none⟩ (.int .i64 0)) ⟨w.heap.size + 1, 1, none⟩ (.int .i64 0)) := ⟨_, rfl⟩
        rw [← hw_] at k_ hB_
        try rw [← hw_]
        clear hw_
        have s_0 : w_.cell? ⟨w.heap.size + 1, 0, none⟩ = some (.int .i64 0) := blk_cell k_ 0
        have s_1 : w_.cell? ⟨w.heap.size + 1, 1, none⟩ = some (.int .i64 0) := blk_cell k_ 1
        refine bodyPost_ret (by simp [results, Try.results44, go_sem, s_0, s_1]; try rfl) rfl ?_
        rw [HZ.out]
        exact ⟨rfl, hB_⟩
      | true =>
        rcases hor with hor | hor
        · cases hor
        · subst hor
          have hx_ := hC.b.b2
          have d_0 : (w5.alloc (.cells #[.string v.name, .int .i64 v.d0, .int .i64 v.d1, .int .i64 v.d2, .int .i64 v.d3, .int .i64 v.fn, .int .i64 v.fd, .int .i64 v.on, .int .i64 v.od, .int .i64 v.code] 48)).cell? ⟨w.heap.size + 1, 0, none⟩ = some (.int .i64 0) := blk_cell hx_ 0
          have df_0 : (w5.alloc (.cells #[.string v.name, .int .i64 v.d0, .int .i64 v.d1, .int .i64 v.d2, .int .i64 v.d3, .int .i64 v.fn, .int .i64 v.fd, .int .i64 v.on, .int .i64 v.od, .int .i64 v.code] 48)).frozen? ⟨w.heap.size + 1, 0, none⟩ = false := blk_frozen hx_ 0
          have d_1 : (w5.alloc (.cells #[.string v.name, .int .i64 v.d0, .int .i64 v.d1, .int .i64 v.d2, .int .i64 v.d3, .int .i64 v.fn, .int .i64 v.fd, .int .i64 v.on, .int .i64 v.od, .int .i64 v.code] 48)).cell? ⟨w.heap.size + 1, 1, none⟩ = some (.int .i64 0) := blk_cell hx_ 1
          have df_1 : (w5.alloc (.cells #[.string v.name, .int .i64 v.d0, .int .i64 v.d1, .int .i64 v.d2, .int .i64 v.d3, .int .i64 v.fn, .int .i64 v.fd, .int .i64 v.on, .int .i64 v.od, .int .i64 v.code] 48)).frozen? ⟨w.heap.size + 1, 1, none⟩ = false := blk_frozen hx_ 1
          go_wp2_with fail
          have k_ := (blk_set (blk_set hx_ 0 (.int .i64 0)) 1 (.int .i64 0))
          have hB_ := (Below.setCell (Below.setCell hC.b.be (p := ⟨w.heap.size + 1, 0, none⟩) ((by show w.heap.size ≤ w.heap.size + 1; omega)) (.int .i64 0)) (p := ⟨w.heap.size + 1, 1, none⟩) ((by show w.heap.size ≤ w.heap.size + 1; omega)) (.int .i64 0))
          obtain ⟨w_, hw_⟩ : ∃ w_, w_ = (World.setCell (World.setCell (w5.alloc (.cells #[.string v.name, .int .i64 v.d0, .int .i64 v.d1, .int .i64 v.d2, .int .i64 v.d3, .int .i64 v.fn, .int .i64 v.fd, .int .i64 v.on, .int .i64 v.od, .int .i64 v.code] 48)) ⟨w.heap.size + 1, 0, none⟩ (.int .i64 0)) ⟨w.heap.size + 1, 1, none⟩ (.int .i64 0)) := ⟨_, rfl⟩
          rw [← hw_] at k_ hB_
          try rw [← hw_]
          clear hw_
          have s_0 : w_.cell? ⟨w.heap.size + 1, 0, none⟩ = some (.int .i64 0) := blk_cell k_ 0
          have s_1 : w_.cell? ⟨w.heap.size + 1, 1, none⟩ = some (.int .i64 0) := blk_cell k_ 1
          refine bodyPost_ret (by simp [results, Try.results44, go_sem, s_0, s_1]; try rfl) rfl ?_
          rw [HZ.out]
          exact ⟨rfl, hB_⟩
    · have he := HK.out.eqs rfl rfl
      have u0 : (w5.alloc (.cells #[.string v.name, .int .i64 v.d0, .int .i64 v.d1, .int .i64 v.d2, .int .i64 v.d3, .int .i64 v.fn, .int .i64 v.fd, .int .i64 v.on, .int .i64 v.od, .int .i64 v.code] 48)).cell? ⟨p10, 0, none⟩ = some (.string u.name) := blk_cell hC.k10 0
      have u1 : (w5.alloc (.cells #[.string v.name, .int .i64 v.d0, .int .i64 v.d1, .int .i64 v.d2, .int .i64 v.d3, .int .i64 v.fn, .int .i64 v.fd, .int .i64 v.on, .int .i64 v.od, .int .i64 v.code] 48)).cell? ⟨p10, 1, none⟩ = some (.int .i64 u.d0) := blk_cell hC.k10 1
      have u2 : (w5.alloc (.cells #[.string v.name, .int .i64 v.d0, .int .i64 v.d1, .int .i64 v.d2, .int .i64 v.d3, .int .i64 v.fn, .int .i64 v.fd, .int .i64 v.on, .int .i64 v.od, .int .i64 v.code] 48)).cell? ⟨p10, 2, none⟩ = some (.int .i64 u.d1) := blk_cell hC.k10 2
      have u3 : (w5.alloc (.cells #[.string v.name, .int .i64 v.d0, .int .i64 v.d1, .int .i64 v.d2, .int .i64 v.d3, .int .i64 v.fn, .int .i64 v.fd, .int .i64 v.on, .int .i64 v.od, .int .i64 v.code] 48)).cell? ⟨p10, 3, none⟩ = some (.int .i64 u.d2) := blk_cell hC.k10 3
      have u4 : (w5.alloc (.cells #[.string v.name, .int .i64 v.d0, .int .i64 v.d1, .int .i64 v.d2, .int .i64 v.d3, .int .i64 v.fn, .int .i64 v.fd, .int .i64 v.on, .int .i64 v.od, .int .i64 v.code] 48)).cell? ⟨p10, 4, none⟩ = some (.int .i64 u.d3) := blk_cell hC.k10 4
      have u5 : (w5.alloc (.cells #[.string v.name, .int .i64 v.d0, .int .i64 v.d1, .int .i64 v.d2, .int .i64 v.d3, .int .i64 v.fn, .int .i64 v.fd, .int .i64 v.on, .int .i64 v.od, .int .i64 v.code] 48)).cell? ⟨p10, 5, none⟩ = some (.int .i64 u.fn) := blk_cell hC.k10 5
      have u6 : (w5.alloc (.cells #[.string v.name, .int .i64 v.d0, .int .i64 v.d1, .int .i64 v.d2, .int .i64 v.d3, .int .i64 v.fn, .int .i64 v.fd, .int .i64 v.on, .int .i64 v.od, .int .i64 v.code] 48)).cell? ⟨p10, 6, none⟩ = some (.int .i64 u.fd) := blk_cell hC.k10 6
      have u7 : (w5.alloc (.cells #[.string v.name, .int .i64 v.d0, .int .i64 v.d1, .int .i64 v.d2, .int .i64 v.d3, .int .i64 v.fn, .int .i64 v.fd, .int .i64 v.on, .int .i64 v.od, .int .i64 v.code] 48)).cell? ⟨p10, 7, none⟩ = some (.int .i64 u.on) := blk_cell hC.k10 7
      have u8 : (w5.alloc (.cells #[.string v.name, .int .i64 v.d0, .int .i64 v.d1, .int .i64 v.d2, .int .i64 v.d3, .int .i64 v.fn, .int .i64 v.fd, .int .i64 v.on, .int .i64 v.od, .int .i64 v.code] 48)).cell? ⟨p10, 8, none⟩ = some (.int .i64 u.od) := blk_cell hC.k10 8
      have u9 : (w5.alloc (.cells #[.string v.name, .int .i64 v.d0, .int .i64 v.d1, .int .i64 v.d2, .int .i64 v.d3, .int .i64 v.fn, .int .i64 v.fd, .int .i64 v.on, .int .i64 v.od, .int .i64 v.code] 48)).cell? ⟨p10, 9, none⟩ = some (.int .i64 u.code) := blk_cell hC.k10 9
      have z0 : (w5.alloc (.cells #[.string v.name, .int .i64 v.d0, .int .i64 v.d1, .int .i64 v.d2, .int .i64 v.d3, .int .i64 v.fn, .int .i64 v.fd, .int .i64 v.on, .int .i64 v.od, .int .i64 v.code] 48)).cell? ⟨w5.heap.size, 0, none⟩ = some (.string v.name) := blk_cell hC.k12 0
      have z1 : (w5.alloc (.cells #[.string v.name, .int .i64 v.d0, .int .i64 v.d1, .int .i64 v.d2, .int .i64 v.d3, .int .i64 v.fn, .int .i64 v.fd, .int .i64 v.on, .int .i64 v.od, .int .i64 v.code] 48)).cell? ⟨w5.heap.size, 1, none⟩ = some (.int .i64 v.d0) := blk_cell hC.k12 1
      have z2 : (w5.alloc (.cells #[.string v.name, .int .i64 v.d0, .int .i64 v.d1, .int .i64 v.d2, .int .i64 v.d3, .int .i64 v.fn, .int .i64 v.fd, .int .i64 v.on, .int .i64 v.od, .int .i64 v.code] 48)).cell? ⟨w5.heap.size, 2, none⟩ = some (.int .i64 v.d1) := blk_cell hC.k12 2
      have z3 : (w5.alloc (.cells #[.string v.name, .int .i64 v.d0, .int .i64 v.d1, .int .i64 v.d2, .int .i64 v.d3, .int .i64 v.fn, .int .i64 v.fd, .int .i64 v.on, .int .i64 v.od, .int .i64 v.code] 48)).cell? ⟨w5.heap.size, 3, none⟩ = some (.int .i64 v.d2) := blk_cell hC.k12 3
      have z4 : (w5.alloc (.cells #[.string v.name, .int .i64 v.d0, .int .i64 v.d1, .int .i64 v.d2, .int .i64 v.d3, .int .i64 v.fn, .int .i64 v.fd, .int .i64 v.on, .int .i64 v.od, .int .i64 v.code] 48)).cell? ⟨w5.heap.size, 4, none⟩ = some (.int .i64 v.d3) := blk_cell hC.k12 4
      have z5 : (w5.alloc (.cells #[.string v.name, .int .i64 v.d0, .int .i64 v.d1, .int .i64 v.d2, .int .i64 v.d3, .int .i64 v.fn, .int .i64 v.fd, .int .i64 v.on, .int .i64 v.od, .int .i64 v.code] 48)).cell? ⟨w5.heap.size, 5, none⟩ = some (.int .i64 v.fn) := blk_cell hC.k12 5
      have z6 : (w5.alloc (.cells #[.string v.name, .int .i64 v.d0, .int .i64 v.d1, .int .i64 v.d2, .int .i64 v.d3, .int .i64 v.fn, .int .i64 v.fd, .int .i64 v.on, .int .i64 v.od, .int .i64 v.code] 48)).cell? ⟨w5.heap.size, 6, none⟩ = some (.int .i64 v.fd) := blk_cell hC.k12 6
      have z7 : (w5.alloc (.cells #[.string v.name, .int .i64 v.d0, .int .i64 v.d1, .int .i64 v.d2, .int .i64 v.d3, .int .i64 v.fn, .int .i64 v.fd, .int .i64 v.on, .int .i64 v.od, .int .i64 v.code] 48)).cell? ⟨w5.heap.size, 7, none⟩ = some (.int .i64 v.on) := blk_cell hC.k12 7
      have z8 : (w5.alloc (.cells #[.string v.name, .int .i64 v.d0, .int .i64 v.d1, .int .i64 v.d2, .int .i64 v.d3, .int .i64 v.fn, .int .i64 v.fd, .int .i64 v.on, .int .i64 v.od, .int .i64 v.code] 48)).cell? ⟨w5.heap.size, 8, none⟩ = some (.int .i64 v.od) := blk_cell hC.k12 8
      have z9 : (w5.alloc (.cells #[.string v.name, .int .i64 v.d0, .int .i64 v.d1, .int .i64 v.d2, .int .i64 v.d3, .int .i64 v.fn, .int .i64 v.fd, .int .i64 v.on, .int .i64 v.od, .int .i64 v.code] 48)).cell? ⟨w5.heap.size, 9, none⟩ = some (.int .i64 v.code) := blk_cell hC.k12 9
      by_cases hl : likeU u v
      · simp only [decide_eq_true hl] at he
        obtain ⟨M, hM, hxM⟩ := HK.out.fine rfl rfl hl HRV.out
        have HM := Lib.hid hM
        clear hM hl
        have b0 : (w5.alloc (.cells #[.string v.name, .int .i64 v.d0, .int .i64 v.d1, .int .i64 v.d2, .int .i64 v.d3, .int .i64 v.fn, .int .i64 v.fd, .int .i64 v.on, .int .i64 v.od, .int .i64 v.code] 48)).cell? ⟨p8, 0, none⟩ = some (.int .i64 v1) := blk_cell hC.k8 0
        have b1 : (w5.alloc (.cells #[.string v.name, .int .i64 v.d0, .int .i64 v.d1, .int .i64 v.d2, .int .i64 v.d3, .int .i64 v.fn, .int .i64 v.fd, .int .i64 v.on, .int .i64 v.od, .int .i64 v.code] 48)).cell? ⟨p8, 1, none⟩ = some (.int .i64 v2) := blk_cell hC.k8 1
        go_wp2_with fail
        obtain ⟨p12, hp12⟩ : ∃ p, p = w5.heap.size := ⟨_, rfl⟩
        obtain ⟨w6, hw6⟩ : ∃ w, w = w5.alloc (.cells #[.string v.name, .int .i64 v.d0, .int .i64 v.d1, .int .i64 v.d2, .int .i64 v.d3, .int .i64 v.fn, .int .i64 v.fd, .int .i64 v.on, .int .i64 v.od, .int .i64 v.code] 48) := ⟨_, rfl⟩
        rw [← hp12, ← hw6] at hC
        rw [← hp12, ← hw6]
        clear he hp12 hw6 b0 b1 u0 z0 u1 z1 u2 z2 u3 z3 u4 z4 u5 z5 u6 z6 u7 z7 u8 z8 u9 z9
        cases M with
        | none =>
          have cc := HM.out
          simp only [ansB, toldB] at cc
          simp only [outO, Prod.mk.injEq] at hxM
          obtain ⟨rfl, rfl, rfl⟩ := hxM
          refine (cc _).mono ?_
          rintro e w7 ⟨rfl, hb7⟩
          clear cc
          replace hC := (hC.step hb7).step (below_alloc (Below.refl _ _) (.cells #[.int .i64 0, .int .i64 0] 23))
          clear hb7
          have hx_ := hC.b.b2
          have d_0 : (w7.alloc (.cells #[.int .i64 0, .int .i64 0] 23)).cell? ⟨w.heap.size + 1, 0, none⟩ = some (.int .i64 0) := blk_cell hx_ 0
          have df_0 : (w7.alloc (.cells #[.int .i64 0, .int .i64 0] 23)).frozen? ⟨w.heap.size + 1, 0, none⟩ = false := blk_frozen hx_ 0
          have d_1 : (w7.alloc (.cells #[.int .i64 0, .int .i64 0] 23)).cell? ⟨w.heap.size + 1, 1, none⟩ = some (.int .i64 0) := blk_cell hx_ 1
          have df_1 : (w7.alloc (.cells #[.int .i64 0, .int .i64 0] 23)).frozen? ⟨w.heap.size + 1, 1, none⟩ = false := blk_frozen hx_ 1
          go_wp2_with fail
          have k_ := (blk_set (blk_set hx_ 0 (.int .i64 0)) 1 (.int .i64 0))
          have hB_ := (Below.setCell (Below.setCell hC.b.be (p := ⟨w.heap.size + 1, 0, none⟩) ((by show w.heap.size ≤ w.heap.size + 1; omega)) (.int .i64 0)) (p := ⟨w.heap.size + 1, 1, none⟩) ((by show w.heap.size ≤ w.heap.size + 1; omega)) (.int .i64 0))
          obtain ⟨w_, hw_⟩ : ∃ w_, w_ = (World.setCell (World.setCell (w7.alloc (.cells #[.int .i64 0, .int .i64 0] 23)) ⟨w.heap.size + 1, 0, none⟩ (.int .i64 0)) ⟨w.heap.size + 1, 1, none⟩ (.int .i64 0)) := ⟨_, rfl⟩
          rw [← hw_] at k_ hB_
          try rw [← hw_]
          clear hw_
          have s_0 : w_.cell? ⟨w.heap.size + 1, 0, none⟩ = some (.int .i64 0) := blk_cell k_ 0
          have s_1 : w_.cell? ⟨w.heap.size + 1, 1, none⟩ = some (.int .i64 0) := blk_cell k_ 1
          refine bodyPost_ret (by simp [results, Try.results44, go_sem, s_0, s_1]; try rfl) rfl ?_
          rw [HZ.out]
          exact ⟨rfl, hB_⟩
        | some m =>
          obtain ⟨m1, m2⟩ := m
          have cc := HM.out
          simp only [ansB, toldB] at cc
          simp only [outO, Prod.mk.injEq] at hxM
          obtain ⟨rfl, rfl, rfl⟩ := hxM
          refine (cc _).mono ?_
          rintro e w7 ⟨rfl, hb7⟩
          clear cc
          have k14 := blk_new w7 (.cells #[.int .i64 x1, .int .i64 x2] 23)
          replace hC := (hC.step hb7).step (below_alloc (Below.refl _ _) (.cells #[.int .i64 x1, .int .i64 x2] 23))
          clear hb7
          have g0 : (w7.alloc (.cells #[.int .i64 x1, .int .i64 x2] 23)).cell? ⟨w7.heap.size, 0, none⟩ = some (.int .i64 x1) := blk_cell k14 0
          have g1 : (w7.alloc (.cells #[.int .i64 x1, .int .i64 x2] 23)).cell? ⟨w7.heap.size, 1, none⟩ = some (.int .i64 x2) := blk_cell k14 1
          have hx_ := hC.b.b2
          have d_0 : (w7.alloc (.cells #[.int .i64 x1, .int .i64 x2] 23)).cell? ⟨w.heap.size + 1, 0, none⟩ = some (.int .i64 0) := blk_cell hx_ 0
          have df_0 : (w7.alloc (.cells #[.int .i64 x1, .int .i64 x2] 23)).frozen? ⟨w.heap.size + 1, 0, none⟩ = false := blk_frozen hx_ 0
          have d_1 : (w7.alloc (.cells #[.int .i64 x1, .int .i64 x2] 23)).cell? ⟨w.heap.size + 1, 1, none⟩ = some (.int .i64 0) := blk_cell hx_ 1
          have df_1 : (w7.alloc (.cells #[.int .i64 x1, .int .i64 x2] 23)).frozen? ⟨w.heap.size + 1, 1, none⟩ = false := blk_frozen hx_ 1
          go_wp2_with fail
          have k_ := (blk_set (blk_set hx_ 0 (.int .i64 x1)) 1 (.int .i64 x2))
          have hB_ := (Below.setCell (Below.setCell hC.b.be (p := ⟨w.heap.size + 1, 0, none⟩) ((by show w.heap.size ≤ w.heap.size + 1; omega)) (.int .i64 x1)) (p := ⟨w.heap.size + 1, 1, none⟩) ((by show w.heap.size ≤ w.heap.size + 1; omega)) (.int .i64 x2))
          obtain ⟨w_, hw_⟩ : ∃ w_, w_ = (World.setCell (World.setCell (w7.alloc (.cells #[.int .i64 x1, .int .i64 x2] 23)) ⟨w.heap.size + 1, 0, none⟩ (.int .i64 x1)) ⟨w.heap.size + 1, 1, none⟩ (.int .i64 x2)) := ⟨_, rfl⟩
          rw [← hw_] at k_ hB_
          try rw [← hw_]
          clear hw_
          have s_0 : w_.cell? ⟨w.heap.size + 1, 0, none⟩ = some (.int .i64 x1) := blk_cell k_ 0
          have s_1 : w_.cell? ⟨w.heap.size + 1, 1, none⟩ = some (.int .i64 x2) := blk_cell k_ 1
          refine bodyPost_ret (by simp [results, Try.results44, go_sem, s_0, s_1]; try rfl) rfl ?_
          rw [HZ.out]
          exact ⟨rfl, hB_⟩
      · simp only [decide_eq_false hl] at he
        have hx := HK.out.unlike rfl rfl hl
        simp only [Prod.mk.injEq] at hx
        obtain ⟨rfl, rfl, rfl⟩ := hx
        have hx_ := hC.b.b2
        have d_0 : (w5.alloc (.cells #[.string v.name, .int .i64 v.d0, .int .i64 v.d1, .int .i64 v.d2, .int .i64 v.d3, .int .i64 v.fn, .int .i64 v.fd, .int .i64 v.on, .int .i64 v.od, .int .i64 v.code] 48)).cell? ⟨w.heap.size + 1, 0, none⟩ = some (.int .i64 0) := blk_cell hx_ 0
        have df_0 : (w5.alloc (.cells #[.string v.name, .int .i64 v.d0, .int .i64 v.d1, .int .i64 v.d2, .int .i64 v.d3, .int .i64 v.fn, .int .i64 v.fd, .int .i64 v.on, .int .i64 v.od, .int .i64 v.code] 48)).frozen? ⟨w.heap.size + 1, 0, none⟩ = false := blk_frozen hx_ 0
        have d_1 : (w5.alloc (.cells #[.string v.name, .int .i64 v.d0, .int .i64 v.d1, .int .i64 v.d2, .int .i64 v.d3, .int .i64 v.fn, .int .i64 v.fd, .int .i64 v.on, .int .i64 v.od, .int .i64 v.code] 48)).cell? ⟨w.heap.size + 1, 1, none⟩ = some (.int .i64 0) := blk_cell hx_ 1
        have df_1 : (w5.alloc (.cells #[.string v.name, .int .i64 v.d0, .int .i64 v.d1, .int .i64 v.d2, .int .i64 v.d3, .int .i64 v.fn, .int .i64 v.fd, .int .i64 v.on, .int .i64 v.od, .int .i64 v.code] 48)).frozen? ⟨w.heap.size + 1, 1, none⟩ = false := blk_frozen hx_ 1
        go_wp2_with fail
        have k_ := (blk_set (blk_set hx_ 0 (.int .i64 0)) 1 (.int .i64 0))
        have hB_ := (Below.setCell (Below.setCell hC.b.be (p := ⟨w.heap.size + 1, 0, none⟩) ((by show w.heap.size ≤ w.heap.size + 1; omega)) (.int .i64 0)) (p := ⟨w.heap.size + 1, 1, none⟩) ((by show w.heap.size ≤ w.heap.size + 1; omega)) (.int .i64 0))
        obtain ⟨w_, hw_⟩ : ∃ w_, w_ = (World.setCell (World.setCell (w5.alloc (.cells #[.string v.name, .int .i64 v.d0, .int .i64 v.d1, .int .i64 v.d2, .int .i64 v.d3, .int .i64 v.fn, .int .i64 v.fd, .int .i64 v.on, .int .i64 v.od, .int .i64 v.code] 48)) ⟨w.heap.size + 1, 0, none⟩ (.int .i64 0)) ⟨w.heap.size + 1, 1, none⟩ (.int .i64 0)) := ⟨_, rfl⟩
        rw [← hw_] at k_ hB_
        try rw [← hw_]
        clear hw_
        have s_0 : w_.cell? ⟨w.heap.size + 1, 0, none⟩ = some (.int .i64 0) := blk_cell k_ 0
        have s_1 : w_.cell? ⟨w.heap.size + 1, 1, none⟩ = some (.int .i64 0) := blk_cell k_ 1
        refine bodyPost_ret (by simp [results, Try.results44, go_sem, s_0, s_1]; try rfl) rfl ?_
        rw [HZ.out]
        exact ⟨rfl, hB_⟩
  · have m : (v3 == 0) = false := by simp [n]
    have hz := HR.out
    rw [if_neg n] at hz
    have HZ := Lib.hid hz
    clear hz HR n
    have hx_ := hB.b2
    have d_0 : (w1.alloc (.cells #[.int .i64 v1, .int .i64 v2] 23)).cell? ⟨w.heap.size + 1, 0, none⟩ = some (.int .i64 0) := blk_cell hx_ 0
    have df_0 : (w1.alloc (.cells #[.int .i64 v1, .int .i64 v2] 23)).frozen? ⟨w.heap.size + 1, 0, none⟩ = false := blk_frozen hx_ 0
    have d_1 : (w1.alloc (.cells #[.int .i64 v1, .int .i64 v2] 23)).cell? ⟨w.heap.size + 1, 1, none⟩ = some (.int .i64 0) := blk_cell hx_ 1
    have df_1 : (w1.alloc (.cells #[.int .i64 v1, .int .i64 v2] 23)).frozen? ⟨w.heap.size + 1, 1, none⟩ = false := blk_frozen hx_ 1
    go_wp2_with fail
    have k_ := (blk_set (blk_set hx_ 0 (.int .i64 0)) 1 (.int .i64 0))
    have hB_ := (Below.setCell (Below.setCell hB.be (p := ⟨w.heap.size + 1, 0, none⟩) ((by show w.heap.size ≤ w.heap.size + 1; omega)) (.int .i64 0)) (p := ⟨w.heap.size + 1, 1, none⟩) ((by show w.heap.size ≤ w.heap.size + 1; omega)) (.int .i64 0))
    obtain ⟨w_, hw_⟩ : ∃ w_, w_ = (World.setCell (World.setCell (w1.alloc (.cells #[.int .i64 v1, .int .i64 v2] 23)) ⟨w.heap.size + 1, 0, none⟩ (.int .i64 0)) ⟨w.heap.size + 1, 1, none⟩ (.int .i64 0)) := ⟨_, rfl⟩
    rw [← hw_] at k_ hB_
    try rw [← hw_]
    clear hw_
    have s_0 : w_.cell? ⟨w.heap.size + 1, 0, none⟩ = some (.int .i64 0) := blk_cell k_ 0
    have s_1 : w_.cell? ⟨w.heap.size + 1, 1, none⟩ = some (.int .i64 0) := blk_cell k_ 1
    refine bodyPost_ret (by simp [results, Try.results44, go_sem, s_0, s_1]; try rfl) rfl ?_
    rw [HZ.out]
    exact ⟨rfl, hB_⟩
end Go.Proofs.Ytcldlfhnmkogeaa.Scale
