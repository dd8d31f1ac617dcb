import Derived.Test.YtmnohhmnkmnikaaTopUnit
import Derived.Test.YtmnohhmnkmnikaaTopTerm
import Derived.Test.YtmnohhmnkmnikaaPFewx1
import Derived.Test.YtmnohhmnkmnikaaPOfx1
import Derived.Test.YtmnohhmnkmnikaaPgoesx1
/- What the tops share: Few, Of, goes; obs.Of of a field that has a term, walked. -/
set_option linter.unusedVariables false
set_option linter.unusedSimpArgs false
namespace Go.Proofs.Ytmnohhmnkmnikaa.Obs
open Go.RowKit Go.Proofs.YtmnohhmnkmnikaaW.PrintWords Go.Proofs.YtmnohhmnkmnikaaW.PrintLast Go.Proofs.Ytmnohhmnkmnikaa.Nats Go.Proofs.Ytmnohhmnkmnikaa.HeapKit Go.Proofs.Ytmnohhmnkmnikaa.RatPlain Go.Proofs.Ytmnohhmnkmnikaa.Term Go.Proofs.Ytmnohhmnkmnikaa.Scale

theorem few_calls (f0 : ByteArray) (f1 : Int) (f2 : ByteArray) (f3 sn sd on od : Int) (f8 : ByteArray) (w : World) : Calls Try.prog 16 #[.agg #[.string f0, .int .i64 f1, .string f2, .int .i64 f3, .int .i64 sn, .int .i64 sd, .int .i64 on, .int .i64 od, .string f8]] w fun e w' => (e = .returned (.int .i64 0) ∨ (e = .returned (.int .i64 1) ∧ f0.size ≤ 50)) ∧ Below w.heap.size w w' := by
  obtain ⟨r, hr, h⟩ : ∃ r, PFew.lancetlaw19_Few.f f0 f1 f2 f3 sn sd on od f8 = some r ∧ (r = 0 ∨ (r = 1 ∧ f0.size ≤ 50)) := by
    unfold PFew.lancetlaw19_Few.f
    split
    · exact ⟨_, rfl, .inl rfl⟩
    · rename_i h0
      split
      · exact ⟨_, rfl, .inl rfl⟩
      · split
        · exact ⟨_, rfl, .inl rfl⟩
        · exact ⟨_, rfl, .inr ⟨rfl, by omega⟩⟩
  refine (PFew.lancetlaw19_Few.calls _ _ _ _ _ _ _ _ _ r w hr).mono ?_
  rintro e w' ⟨rfl, hb⟩
  rcases h with rfl | ⟨rfl, h⟩
  · exact ⟨.inl rfl, hb⟩
  · exact ⟨.inr ⟨rfl, h⟩, hb⟩
theorem of_calls (f0 : ByteArray) (f1 : Int) (f2 : ByteArray) (f3 sn sd on od : Int) (f8 : ByteArray) (w : World) : Calls Try.prog 17 #[.agg #[.string f0, .int .i64 f1, .string f2, .int .i64 f3, .int .i64 sn, .int .i64 sd, .int .i64 on, .int .i64 od, .string f8]] w fun e w' => e = .returned (.agg #[.string f0, .int .i64 f1, .string f2, .int .i64 f3, .int .i64 sn, .int .i64 sd, .int .i64 on, .int .i64 od, .string f8]) ∧ Below w.heap.size w w' :=
  POf.lancetlaw19_Of.calls _ _ _ _ _ _ _ _ _ _ _ _ _ _ _ _ _ _ w rfl
theorem goes_calls (w : World) : Calls Try.prog 6 #[] w fun e w' => e = .returned (.bool true) ∧ Below w.heap.size w w' :=
  (Pgoes.lancettop_goes.calls 100 true w (by decide +kernel)).mono (fun e w' h => ⟨h.1, h.2.below⟩)
theorem or1 : Go.bits .or .i64 0 1 = 1 := by decide
theorem or2 : Go.bits .or .i64 0 2 = 2 := by decide
theorem or8 : Go.bits .or .i64 0 8 = 8 := by decide
theorem or16 : Go.bits .or .i64 0 16 = 16 := by decide
/-- What an observation of a field with a term has: flags and value. -/
def obsF (ok : Bool) (e : Int) (ins : Bool) : Int := if ok = true then (if e = 2 then 2 else if e = 0 then (if ins = true then 0 else 8) else 16) else 1
def obsN (ok : Bool) (e x : Int) : Int := if ok = true ∧ e = 0 then x else 0
/-- The boxes. -/
structure Ob (w wx : World) (F R Z : Obj) (p9 p13 : Nat) (T O : Obj) : Prop where
  b : B3 w wx F R Z
  k9 : wx.heap[p9]? = some T
  k13 : wx.heap[p13]? = some O
  n1 : w.heap.size + 3 ≤ p13
  n2 : p9 ≠ p13
theorem Ob.step {w wx w2 : World} {F R Z : Obj} {p9 p13 : Nat} {T O : Obj} (h : Ob w wx F R Z p9 p13 T O) (hb : Below wx.heap.size wx w2) : Ob w w2 F R Z p9 p13 T O :=
  ⟨h.b.step hb, blk_below h.k9 hb, blk_below h.k13 hb, h.n1, h.n2⟩
theorem Ob.put {w wx : World} {F R Z : Obj} {p9 p13 : Nat} {T : Obj} {cs : Array Value} {t : TypeId} (h : Ob w wx F R Z p9 p13 T (.cells cs t)) (j : Nat) (v : Value) {cs' : Array Value} (e : cs.setIfInBounds j v = cs') : Ob w (wx.setCell ⟨p13, j, none⟩ v) F R Z p9 p13 T (.cells cs' t) :=
  ⟨h.b.far (p := ⟨p13, j, none⟩) h.n1 _, (Below.heap_setCell wx ⟨p13, j, none⟩ v p9 h.n2).trans h.k9, blk_put h.k13 j _ e, h.n1, h.n2⟩
/-- A block of eight cells, all stored. -/
def put8 (W : World) (b : Nat) (v0 v1 v2 v3 v4 v5 v6 v7 : Value) : World := (World.setCell (World.setCell (World.setCell (World.setCell (World.setCell (World.setCell (World.setCell (World.setCell W ⟨b, 0, none⟩ (v0)) ⟨b, 1, none⟩ (v1)) ⟨b, 2, none⟩ (v2)) ⟨b, 3, none⟩ (v3)) ⟨b, 4, none⟩ (v4)) ⟨b, 5, none⟩ (v5)) ⟨b, 6, none⟩ (v6)) ⟨b, 7, none⟩ (v7))
theorem put8_blk {W : World} {b : Nat} {t : TypeId} {o0 o1 o2 o3 o4 o5 o6 o7 : Value} (v0 v1 v2 v3 v4 v5 v6 v7 : Value) (h : W.heap[b]? = some (.cells #[o0, o1, o2, o3, o4, o5, o6, o7] t (0, 0))) : (put8 W b v0 v1 v2 v3 v4 v5 v6 v7).heap[b]? = some (.cells #[v0, v1, v2, v3, v4, v5, v6, v7] t (0, 0)) := by
  have h0 := blk_put (cs' := #[v0, o1, o2, o3, o4, o5, o6, o7]) h 0 v0 rfl
  have h1 := blk_put (cs' := #[v0, v1, o2, o3, o4, o5, o6, o7]) h0 1 v1 rfl
  have h2 := blk_put (cs' := #[v0, v1, v2, o3, o4, o5, o6, o7]) h1 2 v2 rfl
  have h3 := blk_put (cs' := #[v0, v1, v2, v3, o4, o5, o6, o7]) h2 3 v3 rfl
  have h4 := blk_put (cs' := #[v0, v1, v2, v3, v4, o5, o6, o7]) h3 4 v4 rfl
  have h5 := blk_put (cs' := #[v0, v1, v2, v3, v4, v5, o6, o7]) h4 5 v5 rfl
  have h6 := blk_put (cs' := #[v0, v1, v2, v3, v4, v5, v6, o7]) h5 6 v6 rfl
  have h7 := blk_put (cs' := #[v0, v1, v2, v3, v4, v5, v6, v7]) h6 7 v7 rfl
  exact h7
theorem put8_below {w W : World} {b n : Nat} (v0 v1 v2 v3 v4 v5 v6 v7 : Value) (h : Below n w W) (hb : n ≤ b) : Below n w (put8 W b v0 v1 v2 v3 v4 v5 v6 v7) := by
  have h0 := Below.setCell h (p := ⟨b, 0, none⟩) hb v0
  have h1 := Below.setCell h0 (p := ⟨b, 1, none⟩) hb v1
  have h2 := Below.setCell h1 (p := ⟨b, 2, none⟩) hb v2
  have h3 := Below.setCell h2 (p := ⟨b, 3, none⟩) hb v3
  have h4 := Below.setCell h3 (p := ⟨b, 4, none⟩) hb v4
  have h5 := Below.setCell h4 (p := ⟨b, 5, none⟩) hb v5
  have h6 := Below.setCell h5 (p := ⟨b, 6, none⟩) hb v6
  have h7 := Below.setCell h6 (p := ⟨b, 7, none⟩) hb v7
  exact h7
set_option maxRecDepth 100000 in
set_option maxHeartbeats 4000000 in
theorem of_term (f0 : ByteArray) (f1 : Int) (f2 : ByteArray) (f3 sn sd on od : Int) (f8 : ByteArray) (n : Int) (ok : Bool) (pt at_ : Int) (u : TRow) (c : Int) (X : Unit.URow) (xo : Bool) (v1 v2 e : Int) (ins : Bool)
    (hf : ∀ w, Calls Try.prog 18 #[.string f0] w fun e w' => e = .returned (.tuple #[.agg #[.string u.label, .int .i64 u.code, .string u.unit, .int .i64 u.ln, .int .i64 u.ld, .int .i64 u.mn, .int .i64 u.md], .bool true]) ∧ Below w.heap.size w w')
    (hc : ∀ w, Calls Try.prog 45 #[.string f0] w fun e w' => e = .returned (.tuple #[.int .i64 c, .bool true]) ∧ Below w.heap.size w w')
    (hu : ∀ w, Calls Try.prog 35 #[.string u.unit] w fun e w' => e = .returned (.tuple #[.agg #[.string X.name, .int .i64 X.d0, .int .i64 X.d1, .int .i64 X.d2, .int .i64 X.d3, .int .i64 X.fn, .int .i64 X.fd, .int .i64 X.on, .int .i64 X.od, .int .i64 X.code], .bool xo]) ∧ Below w.heap.size w w')
    (hi : ∀ w, Calls Try.prog 46 #[.agg #[.string f0, .int .i64 f1, .string f2, .int .i64 f3, .int .i64 sn, .int .i64 sd, .int .i64 on, .int .i64 od, .string f8], .int .i64 n, .string u.unit] w fun q w' => q = .returned (.tuple #[.agg #[.int .i64 v1, .int .i64 v2], .int .i64 e]) ∧ Below w.heap.size w w')
    (hs : e = 0 → ∀ w, Calls Try.prog 47 #[.agg #[.string u.label, .int .i64 u.code, .string u.unit, .int .i64 u.ln, .int .i64 u.ld, .int .i64 u.mn, .int .i64 u.md], .agg #[.int .i64 v1, .int .i64 v2]] w fun q w' => q = .returned (.bool ins) ∧ Below w.heap.size w w') (w : World) :
    Calls Try.prog 21 #[.agg #[.string f0, .int .i64 f1, .string f2, .int .i64 f3, .int .i64 sn, .int .i64 sd, .int .i64 on, .int .i64 od, .string f8], .agg #[.int .i64 n, .bool ok], .int .i64 pt, .int .i64 at_] w fun q w' => q = .returned (.agg #[.int .i64 pt, .string f0, .int .i64 c, .int .i64 X.code, .int .i64 (obsN ok e v1), .int .i64 (obsN ok e v2), .int .i64 (obsF ok e ins), .int .i64 at_]) ∧ Below w.heap.size w w' := by
  have HF := Lib.hid hf
  have HC := Lib.hid hc
  have HU := Lib.hid hu
  have HI := Lib.hid hi
  have HS := Lib.hid hs
  clear hf hc hu hi hs
  have hB := b3_start w (.cells #[.string f0, .int .i64 f1, .string f2, .int .i64 f3, .int .i64 sn, .int .i64 sd, .int .i64 on, .int .i64 od, .string f8] 55) (.cells #[.int .i64 n, .bool ok] 68) (.cells #[.int .i64 0, .string ⟨#[]⟩, .int .i64 0, .int .i64 0, .int .i64 0, .int .i64 0, .int .i64 0, .int .i64 0] 65)
  go_enter Try.func21, Try.ntmps21
  go_wp2_with fail
  refine (HF.out _).mono ?_
  rintro q w1 ⟨rfl, hb_⟩
  replace hB := hB.step hb_
  have z9 := hB.size
  replace hB := hB.step (below_alloc (Below.refl _ _) (.cells #[.string u.label, .int .i64 u.code, .string u.unit, .int .i64 u.ln, .int .i64 u.ld, .int .i64 u.mn, .int .i64 u.md] 58))
  have k9 := blk_new w1 (.cells #[.string u.label, .int .i64 u.code, .string u.unit, .int .i64 u.ln, .int .i64 u.ld, .int .i64 u.mn, .int .i64 u.md] 58)
  clear hb_
  have fa0 : (w1.alloc (.cells #[.string u.label, .int .i64 u.code, .string u.unit, .int .i64 u.ln, .int .i64 u.ld, .int .i64 u.mn, .int .i64 u.md] 58)).cell? ⟨w.heap.size, 0, none⟩ = some (.string f0) := blk_cell hB.b1 0
  have fa1 : (w1.alloc (.cells #[.string u.label, .int .i64 u.code, .string u.unit, .int .i64 u.ln, .int .i64 u.ld, .int .i64 u.mn, .int .i64 u.md] 58)).cell? ⟨w.heap.size, 1, none⟩ = some (.int .i64 f1) := blk_cell hB.b1 1
  have fa2 : (w1.alloc (.cells #[.string u.label, .int .i64 u.code, .string u.unit, .int .i64 u.ln, .int .i64 u.ld, .int .i64 u.mn, .int .i64 u.md] 58)).cell? ⟨w.heap.size, 2, none⟩ = some (.string f2) := blk_cell hB.b1 2
  have fa3 : (w1.alloc (.cells #[.string u.label, .int .i64 u.code, .string u.unit, .int .i64 u.ln, .int .i64 u.ld, .int .i64 u.mn, .int .i64 u.md] 58)).cell? ⟨w.heap.size, 3, none⟩ = some (.int .i64 f3) := blk_cell hB.b1 3
  have fa4 : (w1.alloc (.cells #[.string u.label, .int .i64 u.code, .string u.unit, .int .i64 u.ln, .int .i64 u.ld, .int .i64 u.mn, .int .i64 u.md] 58)).cell? ⟨w.heap.size, 4, none⟩ = some (.int .i64 sn) := blk_cell hB.b1 4
  have fa5 : (w1.alloc (.cells #[.string u.label, .int .i64 u.code, .string u.unit, .int .i64 u.ln, .int .i64 u.ld, .int .i64 u.mn, .int .i64 u.md] 58)).cell? ⟨w.heap.size, 5, none⟩ = some (.int .i64 sd) := blk_cell hB.b1 5
  have fa6 : (w1.alloc (.cells #[.string u.label, .int .i64 u.code, .string u.unit, .int .i64 u.ln, .int .i64 u.ld, .int .i64 u.mn, .int .i64 u.md] 58)).cell? ⟨w.heap.size, 6, none⟩ = some (.int .i64 on) := blk_cell hB.b1 6
  have fa7 : (w1.alloc (.cells #[.string u.label, .int .i64 u.code, .string u.unit, .int .i64 u.ln, .int .i64 u.ld, .int .i64 u.mn, .int .i64 u.md] 58)).cell? ⟨w.heap.size, 7, none⟩ = some (.int .i64 od) := blk_cell hB.b1 7
  have fa8 : (w1.alloc (.cells #[.string u.label, .int .i64 u.code, .string u.unit, .int .i64 u.ln, .int .i64 u.ld, .int .i64 u.mn, .int .i64 u.md] 58)).cell? ⟨w.heap.size, 8, none⟩ = some (.string f8) := blk_cell hB.b1 8
  go_wp2_with fail
  clear fa0 fa1 fa2 fa3 fa4 fa5 fa6 fa7 fa8
  refine (HC.out _).mono ?_
  rintro q w2 ⟨rfl, hb_⟩
  replace hB := hB.step hb_
  replace k9 := blk_below k9 hb_
  clear hb_
  obtain ⟨p9, hp9⟩ : ∃ p, p = w1.heap.size := ⟨_, rfl⟩
  rw [← hp9] at k9 z9
  rw [← hp9]
  clear hp9
  have z13 := blk_lt k9
  have hO : Ob w (w2.alloc (.cells #[.int .i64 pt, .string f0, .int .i64 c, .int .i64 0, .int .i64 0, .int .i64 0, .int .i64 0, .int .i64 at_] 65)) (.cells #[.string f0, .int .i64 f1, .string f2, .int .i64 f3, .int .i64 sn, .int .i64 sd, .int .i64 on, .int .i64 od, .string f8] 55) (.cells #[.int .i64 n, .bool ok] 68) (.cells #[.int .i64 0, .string ⟨#[]⟩, .int .i64 0, .int .i64 0, .int .i64 0, .int .i64 0, .int .i64 0, .int .i64 0] 65) p9 w2.heap.size (.cells #[.string u.label, .int .i64 u.code, .string u.unit, .int .i64 u.ln, .int .i64 u.ld, .int .i64 u.mn, .int .i64 u.md] 58) (.cells #[.int .i64 pt, .string f0, .int .i64 c, .int .i64 0, .int .i64 0, .int .i64 0, .int .i64 0, .int .i64 at_] 65) := ⟨hB.step (below_alloc (Below.refl _ _) _), blk_alloc k9 _, blk_new w2 _, by omega, by omega⟩
  have fa0 : w2.cell? ⟨w.heap.size, 0, none⟩ = some (.string f0) := blk_cell hB.b1 0
  have fa1 : w2.cell? ⟨w.heap.size, 1, none⟩ = some (.int .i64 f1) := blk_cell hB.b1 1
  have fa2 : w2.cell? ⟨w.heap.size, 2, none⟩ = some (.string f2) := blk_cell hB.b1 2
  have fa3 : w2.cell? ⟨w.heap.size, 3, none⟩ = some (.int .i64 f3) := blk_cell hB.b1 3
  have fa4 : w2.cell? ⟨w.heap.size, 4, none⟩ = some (.int .i64 sn) := blk_cell hB.b1 4
  have fa5 : w2.cell? ⟨w.heap.size, 5, none⟩ = some (.int .i64 sd) := blk_cell hB.b1 5
  have fa6 : w2.cell? ⟨w.heap.size, 6, none⟩ = some (.int .i64 on) := blk_cell hB.b1 6
  have fa7 : w2.cell? ⟨w.heap.size, 7, none⟩ = some (.int .i64 od) := blk_cell hB.b1 7
  have fa8 : w2.cell? ⟨w.heap.size, 8, none⟩ = some (.string f8) := blk_cell hB.b1 8
  have g0 : (w2.alloc (.cells #[.int .i64 pt, .string f0, .int .i64 c, .int .i64 0, .int .i64 0, .int .i64 0, .int .i64 0, .int .i64 at_] 65)).cell? ⟨p9, 0, none⟩ = some (.string u.label) := blk_cell hO.k9 0
  have g1 : (w2.alloc (.cells #[.int .i64 pt, .string f0, .int .i64 c, .int .i64 0, .int .i64 0, .int .i64 0, .int .i64 0, .int .i64 at_] 65)).cell? ⟨p9, 1, none⟩ = some (.int .i64 u.code) := blk_cell hO.k9 1
  have g2 : (w2.alloc (.cells #[.int .i64 pt, .string f0, .int .i64 c, .int .i64 0, .int .i64 0, .int .i64 0, .int .i64 0, .int .i64 at_] 65)).cell? ⟨p9, 2, none⟩ = some (.string u.unit) := blk_cell hO.k9 2
  have g3 : (w2.alloc (.cells #[.int .i64 pt, .string f0, .int .i64 c, .int .i64 0, .int .i64 0, .int .i64 0, .int .i64 0, .int .i64 at_] 65)).cell? ⟨p9, 3, none⟩ = some (.int .i64 u.ln) := blk_cell hO.k9 3
  have g4 : (w2.alloc (.cells #[.int .i64 pt, .string f0, .int .i64 c, .int .i64 0, .int .i64 0, .int .i64 0, .int .i64 0, .int .i64 at_] 65)).cell? ⟨p9, 4, none⟩ = some (.int .i64 u.ld) := blk_cell hO.k9 4
  have g5 : (w2.alloc (.cells #[.int .i64 pt, .string f0, .int .i64 c, .int .i64 0, .int .i64 0, .int .i64 0, .int .i64 0, .int .i64 at_] 65)).cell? ⟨p9, 5, none⟩ = some (.int .i64 u.mn) := blk_cell hO.k9 5
  have g6 : (w2.alloc (.cells #[.int .i64 pt, .string f0, .int .i64 c, .int .i64 0, .int .i64 0, .int .i64 0, .int .i64 0, .int .i64 at_] 65)).cell? ⟨p9, 6, none⟩ = some (.int .i64 u.md) := blk_cell hO.k9 6
  clear hB k9 z9 z13
  go_wp2_with fail
  clear fa0 fa1 fa2 fa3 fa4 fa5 fa6 fa7 fa8 g0 g1 g2 g3 g4 g5 g6
  obtain ⟨p13, hp13⟩ : ∃ p, p = w2.heap.size := ⟨_, rfl⟩
  rw [← hp13] at hO
  obtain ⟨W2, hW2⟩ : ∃ W, W = w2.alloc (.cells #[.int .i64 pt, .string f0, .int .i64 c, .int .i64 0, .int .i64 0, .int .i64 0, .int .i64 0, .int .i64 at_] 65) := ⟨_, rfl⟩
  rw [← hW2] at hO
  rw [← hW2, ← hp13]
  clear hW2 hp13
  refine (HU.out _).mono ?_
  rintro q w3 ⟨rfl, hb_⟩
  replace hO := (hO.step hb_).step (below_alloc (Below.refl _ _) (.cells #[.string X.name, .int .i64 X.d0, .int .i64 X.d1, .int .i64 X.d2, .int .i64 X.d3, .int .i64 X.fn, .int .i64 X.fd, .int .i64 X.on, .int .i64 X.od, .int .i64 X.code] 100))
  have k15 := blk_new w3 (.cells #[.string X.name, .int .i64 X.d0, .int .i64 X.d1, .int .i64 X.d2, .int .i64 X.d3, .int .i64 X.fn, .int .i64 X.fd, .int .i64 X.on, .int .i64 X.od, .int .i64 X.code] 100)
  clear hb_
  have hO4 := hO.put (cs' := #[.int .i64 pt, .string f0, .int .i64 c, .int .i64 X.code, .int .i64 0, .int .i64 0, .int .i64 0, .int .i64 at_]) 3 (.int .i64 X.code) rfl
  have x0 : (w3.alloc (.cells #[.string X.name, .int .i64 X.d0, .int .i64 X.d1, .int .i64 X.d2, .int .i64 X.d3, .int .i64 X.fn, .int .i64 X.fd, .int .i64 X.on, .int .i64 X.od, .int .i64 X.code] 100)).cell? ⟨w3.heap.size, 0, none⟩ = some (.string X.name) := blk_cell k15 0
  have x1 : (w3.alloc (.cells #[.string X.name, .int .i64 X.d0, .int .i64 X.d1, .int .i64 X.d2, .int .i64 X.d3, .int .i64 X.fn, .int .i64 X.fd, .int .i64 X.on, .int .i64 X.od, .int .i64 X.code] 100)).cell? ⟨w3.heap.size, 1, none⟩ = some (.int .i64 X.d0) := blk_cell k15 1
  have x2 : (w3.alloc (.cells #[.string X.name, .int .i64 X.d0, .int .i64 X.d1, .int .i64 X.d2, .int .i64 X.d3, .int .i64 X.fn, .int .i64 X.fd, .int .i64 X.on, .int .i64 X.od, .int .i64 X.code] 100)).cell? ⟨w3.heap.size, 2, none⟩ = some (.int .i64 X.d1) := blk_cell k15 2
  have x3 : (w3.alloc (.cells #[.string X.name, .int .i64 X.d0, .int .i64 X.d1, .int .i64 X.d2, .int .i64 X.d3, .int .i64 X.fn, .int .i64 X.fd, .int .i64 X.on, .int .i64 X.od, .int .i64 X.code] 100)).cell? ⟨w3.heap.size, 3, none⟩ = some (.int .i64 X.d2) := blk_cell k15 3
  have x4 : (w3.alloc (.cells #[.string X.name, .int .i64 X.d0, .int .i64 X.d1, .int .i64 X.d2, .int .i64 X.d3, .int .i64 X.fn, .int .i64 X.fd, .int .i64 X.on, .int .i64 X.od, .int .i64 X.code] 100)).cell? ⟨w3.heap.size, 4, none⟩ = some (.int .i64 X.d3) := blk_cell k15 4
  have x5 : (w3.alloc (.cells #[.string X.name, .int .i64 X.d0, .int .i64 X.d1, .int .i64 X.d2, .int .i64 X.d3, .int .i64 X.fn, .int .i64 X.fd, .int .i64 X.on, .int .i64 X.od, .int .i64 X.code] 100)).cell? ⟨w3.heap.size, 5, none⟩ = some (.int .i64 X.fn) := blk_cell k15 5
  have x6 : (w3.alloc (.cells #[.string X.name, .int .i64 X.d0, .int .i64 X.d1, .int .i64 X.d2, .int .i64 X.d3, .int .i64 X.fn, .int .i64 X.fd, .int .i64 X.on, .int .i64 X.od, .int .i64 X.code] 100)).cell? ⟨w3.heap.size, 6, none⟩ = some (.int .i64 X.fd) := blk_cell k15 6
  have x7 : (w3.alloc (.cells #[.string X.name, .int .i64 X.d0, .int .i64 X.d1, .int .i64 X.d2, .int .i64 X.d3, .int .i64 X.fn, .int .i64 X.fd, .int .i64 X.on, .int .i64 X.od, .int .i64 X.code] 100)).cell? ⟨w3.heap.size, 7, none⟩ = some (.int .i64 X.on) := blk_cell k15 7
  have x8 : (w3.alloc (.cells #[.string X.name, .int .i64 X.d0, .int .i64 X.d1, .int .i64 X.d2, .int .i64 X.d3, .int .i64 X.fn, .int .i64 X.fd, .int .i64 X.on, .int .i64 X.od, .int .i64 X.code] 100)).cell? ⟨w3.heap.size, 8, none⟩ = some (.int .i64 X.od) := blk_cell k15 8
  have x9 : (w3.alloc (.cells #[.string X.name, .int .i64 X.d0, .int .i64 X.d1, .int .i64 X.d2, .int .i64 X.d3, .int .i64 X.fn, .int .i64 X.fd, .int .i64 X.on, .int .i64 X.od, .int .i64 X.code] 100)).cell? ⟨w3.heap.size, 9, none⟩ = some (.int .i64 X.code) := blk_cell k15 9
  have a0 : (w3.alloc (.cells #[.string X.name, .int .i64 X.d0, .int .i64 X.d1, .int .i64 X.d2, .int .i64 X.d3, .int .i64 X.fn, .int .i64 X.fd, .int .i64 X.on, .int .i64 X.od, .int .i64 X.code] 100)).cell? ⟨p13, 0, none⟩ = some (.int .i64 pt) := blk_cell hO.k13 0
  have af0 : (w3.alloc (.cells #[.string X.name, .int .i64 X.d0, .int .i64 X.d1, .int .i64 X.d2, .int .i64 X.d3, .int .i64 X.fn, .int .i64 X.fd, .int .i64 X.on, .int .i64 X.od, .int .i64 X.code] 100)).frozen? ⟨p13, 0, none⟩ = false := blk_frozen hO.k13 0
  have a1 : (w3.alloc (.cells #[.string X.name, .int .i64 X.d0, .int .i64 X.d1, .int .i64 X.d2, .int .i64 X.d3, .int .i64 X.fn, .int .i64 X.fd, .int .i64 X.on, .int .i64 X.od, .int .i64 X.code] 100)).cell? ⟨p13, 1, none⟩ = some (.string f0) := blk_cell hO.k13 1
  have af1 : (w3.alloc (.cells #[.string X.name, .int .i64 X.d0, .int .i64 X.d1, .int .i64 X.d2, .int .i64 X.d3, .int .i64 X.fn, .int .i64 X.fd, .int .i64 X.on, .int .i64 X.od, .int .i64 X.code] 100)).frozen? ⟨p13, 1, none⟩ = false := blk_frozen hO.k13 1
  have a2 : (w3.alloc (.cells #[.string X.name, .int .i64 X.d0, .int .i64 X.d1, .int .i64 X.d2, .int .i64 X.d3, .int .i64 X.fn, .int .i64 X.fd, .int .i64 X.on, .int .i64 X.od, .int .i64 X.code] 100)).cell? ⟨p13, 2, none⟩ = some (.int .i64 c) := blk_cell hO.k13 2
  have af2 : (w3.alloc (.cells #[.string X.name, .int .i64 X.d0, .int .i64 X.d1, .int .i64 X.d2, .int .i64 X.d3, .int .i64 X.fn, .int .i64 X.fd, .int .i64 X.on, .int .i64 X.od, .int .i64 X.code] 100)).frozen? ⟨p13, 2, none⟩ = false := blk_frozen hO.k13 2
  have a3 : (w3.alloc (.cells #[.string X.name, .int .i64 X.d0, .int .i64 X.d1, .int .i64 X.d2, .int .i64 X.d3, .int .i64 X.fn, .int .i64 X.fd, .int .i64 X.on, .int .i64 X.od, .int .i64 X.code] 100)).cell? ⟨p13, 3, none⟩ = some (.int .i64 0) := blk_cell hO.k13 3
  have af3 : (w3.alloc (.cells #[.string X.name, .int .i64 X.d0, .int .i64 X.d1, .int .i64 X.d2, .int .i64 X.d3, .int .i64 X.fn, .int .i64 X.fd, .int .i64 X.on, .int .i64 X.od, .int .i64 X.code] 100)).frozen? ⟨p13, 3, none⟩ = false := blk_frozen hO.k13 3
  have a4 : (w3.alloc (.cells #[.string X.name, .int .i64 X.d0, .int .i64 X.d1, .int .i64 X.d2, .int .i64 X.d3, .int .i64 X.fn, .int .i64 X.fd, .int .i64 X.on, .int .i64 X.od, .int .i64 X.code] 100)).cell? ⟨p13, 4, none⟩ = some (.int .i64 0) := blk_cell hO.k13 4
  have af4 : (w3.alloc (.cells #[.string X.name, .int .i64 X.d0, .int .i64 X.d1, .int .i64 X.d2, .int .i64 X.d3, .int .i64 X.fn, .int .i64 X.fd, .int .i64 X.on, .int .i64 X.od, .int .i64 X.code] 100)).frozen? ⟨p13, 4, none⟩ = false := blk_frozen hO.k13 4
  have a5 : (w3.alloc (.cells #[.string X.name, .int .i64 X.d0, .int .i64 X.d1, .int .i64 X.d2, .int .i64 X.d3, .int .i64 X.fn, .int .i64 X.fd, .int .i64 X.on, .int .i64 X.od, .int .i64 X.code] 100)).cell? ⟨p13, 5, none⟩ = some (.int .i64 0) := blk_cell hO.k13 5
  have af5 : (w3.alloc (.cells #[.string X.name, .int .i64 X.d0, .int .i64 X.d1, .int .i64 X.d2, .int .i64 X.d3, .int .i64 X.fn, .int .i64 X.fd, .int .i64 X.on, .int .i64 X.od, .int .i64 X.code] 100)).frozen? ⟨p13, 5, none⟩ = false := blk_frozen hO.k13 5
  have a6 : (w3.alloc (.cells #[.string X.name, .int .i64 X.d0, .int .i64 X.d1, .int .i64 X.d2, .int .i64 X.d3, .int .i64 X.fn, .int .i64 X.fd, .int .i64 X.on, .int .i64 X.od, .int .i64 X.code] 100)).cell? ⟨p13, 6, none⟩ = some (.int .i64 0) := blk_cell hO.k13 6
  have af6 : (w3.alloc (.cells #[.string X.name, .int .i64 X.d0, .int .i64 X.d1, .int .i64 X.d2, .int .i64 X.d3, .int .i64 X.fn, .int .i64 X.fd, .int .i64 X.on, .int .i64 X.od, .int .i64 X.code] 100)).frozen? ⟨p13, 6, none⟩ = false := blk_frozen hO.k13 6
  have a7 : (w3.alloc (.cells #[.string X.name, .int .i64 X.d0, .int .i64 X.d1, .int .i64 X.d2, .int .i64 X.d3, .int .i64 X.fn, .int .i64 X.fd, .int .i64 X.on, .int .i64 X.od, .int .i64 X.code] 100)).cell? ⟨p13, 7, none⟩ = some (.int .i64 at_) := blk_cell hO.k13 7
  have af7 : (w3.alloc (.cells #[.string X.name, .int .i64 X.d0, .int .i64 X.d1, .int .i64 X.d2, .int .i64 X.d3, .int .i64 X.fn, .int .i64 X.fd, .int .i64 X.on, .int .i64 X.od, .int .i64 X.code] 100)).frozen? ⟨p13, 7, none⟩ = false := blk_frozen hO.k13 7
  have b0 : ((w3.alloc (.cells #[.string X.name, .int .i64 X.d0, .int .i64 X.d1, .int .i64 X.d2, .int .i64 X.d3, .int .i64 X.fn, .int .i64 X.fd, .int .i64 X.on, .int .i64 X.od, .int .i64 X.code] 100)).setCell ⟨p13, 3, none⟩ (.int .i64 X.code)).cell? ⟨(w.heap.size + 1), 0, none⟩ = some (.int .i64 n) := blk_cell hO4.b.b2 0
  have b1 : ((w3.alloc (.cells #[.string X.name, .int .i64 X.d0, .int .i64 X.d1, .int .i64 X.d2, .int .i64 X.d3, .int .i64 X.fn, .int .i64 X.fd, .int .i64 X.on, .int .i64 X.od, .int .i64 X.code] 100)).setCell ⟨p13, 3, none⟩ (.int .i64 X.code)).cell? ⟨(w.heap.size + 1), 1, none⟩ = some (.bool ok) := blk_cell hO4.b.b2 1
  cases ok with
  | false =>
    have hO5 := hO4.put (cs' := #[.int .i64 pt, .string f0, .int .i64 c, .int .i64 X.code, .int .i64 0, .int .i64 0, .int .i64 1, .int .i64 at_]) 6 (.int .i64 1) rfl
    have o1 := or1
    clear hO HI HS
    have c0 : ((w3.alloc (.cells #[.string X.name, .int .i64 X.d0, .int .i64 X.d1, .int .i64 X.d2, .int .i64 X.d3, .int .i64 X.fn, .int .i64 X.fd, .int .i64 X.on, .int .i64 X.od, .int .i64 X.code] 100)).setCell ⟨p13, 3, none⟩ (.int .i64 X.code)).cell? ⟨p13, 0, none⟩ = some (.int .i64 pt) := blk_cell hO4.k13 0
    have cf0 : ((w3.alloc (.cells #[.string X.name, .int .i64 X.d0, .int .i64 X.d1, .int .i64 X.d2, .int .i64 X.d3, .int .i64 X.fn, .int .i64 X.fd, .int .i64 X.on, .int .i64 X.od, .int .i64 X.code] 100)).setCell ⟨p13, 3, none⟩ (.int .i64 X.code)).frozen? ⟨p13, 0, none⟩ = false := blk_frozen hO4.k13 0
    have c1 : ((w3.alloc (.cells #[.string X.name, .int .i64 X.d0, .int .i64 X.d1, .int .i64 X.d2, .int .i64 X.d3, .int .i64 X.fn, .int .i64 X.fd, .int .i64 X.on, .int .i64 X.od, .int .i64 X.code] 100)).setCell ⟨p13, 3, none⟩ (.int .i64 X.code)).cell? ⟨p13, 1, none⟩ = some (.string f0) := blk_cell hO4.k13 1
    have cf1 : ((w3.alloc (.cells #[.string X.name, .int .i64 X.d0, .int .i64 X.d1, .int .i64 X.d2, .int .i64 X.d3, .int .i64 X.fn, .int .i64 X.fd, .int .i64 X.on, .int .i64 X.od, .int .i64 X.code] 100)).setCell ⟨p13, 3, none⟩ (.int .i64 X.code)).frozen? ⟨p13, 1, none⟩ = false := blk_frozen hO4.k13 1
    have c2 : ((w3.alloc (.cells #[.string X.name, .int .i64 X.d0, .int .i64 X.d1, .int .i64 X.d2, .int .i64 X.d3, .int .i64 X.fn, .int .i64 X.fd, .int .i64 X.on, .int .i64 X.od, .int .i64 X.code] 100)).setCell ⟨p13, 3, none⟩ (.int .i64 X.code)).cell? ⟨p13, 2, none⟩ = some (.int .i64 c) := blk_cell hO4.k13 2
    have cf2 : ((w3.alloc (.cells #[.string X.name, .int .i64 X.d0, .int .i64 X.d1, .int .i64 X.d2, .int .i64 X.d3, .int .i64 X.fn, .int .i64 X.fd, .int .i64 X.on, .int .i64 X.od, .int .i64 X.code] 100)).setCell ⟨p13, 3, none⟩ (.int .i64 X.code)).frozen? ⟨p13, 2, none⟩ = false := blk_frozen hO4.k13 2
    have c3 : ((w3.alloc (.cells #[.string X.name, .int .i64 X.d0, .int .i64 X.d1, .int .i64 X.d2, .int .i64 X.d3, .int .i64 X.fn, .int .i64 X.fd, .int .i64 X.on, .int .i64 X.od, .int .i64 X.code] 100)).setCell ⟨p13, 3, none⟩ (.int .i64 X.code)).cell? ⟨p13, 3, none⟩ = some (.int .i64 X.code) := blk_cell hO4.k13 3
    have cf3 : ((w3.alloc (.cells #[.string X.name, .int .i64 X.d0, .int .i64 X.d1, .int .i64 X.d2, .int .i64 X.d3, .int .i64 X.fn, .int .i64 X.fd, .int .i64 X.on, .int .i64 X.od, .int .i64 X.code] 100)).setCell ⟨p13, 3, none⟩ (.int .i64 X.code)).frozen? ⟨p13, 3, none⟩ = false := blk_frozen hO4.k13 3
    have c4 : ((w3.alloc (.cells #[.string X.name, .int .i64 X.d0, .int .i64 X.d1, .int .i64 X.d2, .int .i64 X.d3, .int .i64 X.fn, .int .i64 X.fd, .int .i64 X.on, .int .i64 X.od, .int .i64 X.code] 100)).setCell ⟨p13, 3, none⟩ (.int .i64 X.code)).cell? ⟨p13, 4, none⟩ = some (.int .i64 0) := blk_cell hO4.k13 4
    have cf4 : ((w3.alloc (.cells #[.string X.name, .int .i64 X.d0, .int .i64 X.d1, .int .i64 X.d2, .int .i64 X.d3, .int .i64 X.fn, .int .i64 X.fd, .int .i64 X.on, .int .i64 X.od, .int .i64 X.code] 100)).setCell ⟨p13, 3, none⟩ (.int .i64 X.code)).frozen? ⟨p13, 4, none⟩ = false := blk_frozen hO4.k13 4
    have c5 : ((w3.alloc (.cells #[.string X.name, .int .i64 X.d0, .int .i64 X.d1, .int .i64 X.d2, .int .i64 X.d3, .int .i64 X.fn, .int .i64 X.fd, .int .i64 X.on, .int .i64 X.od, .int .i64 X.code] 100)).setCell ⟨p13, 3, none⟩ (.int .i64 X.code)).cell? ⟨p13, 5, none⟩ = some (.int .i64 0) := blk_cell hO4.k13 5
    have cf5 : ((w3.alloc (.cells #[.string X.name, .int .i64 X.d0, .int .i64 X.d1, .int .i64 X.d2, .int .i64 X.d3, .int .i64 X.fn, .int .i64 X.fd, .int .i64 X.on, .int .i64 X.od, .int .i64 X.code] 100)).setCell ⟨p13, 3, none⟩ (.int .i64 X.code)).frozen? ⟨p13, 5, none⟩ = false := blk_frozen hO4.k13 5
    have c6 : ((w3.alloc (.cells #[.string X.name, .int .i64 X.d0, .int .i64 X.d1, .int .i64 X.d2, .int .i64 X.d3, .int .i64 X.fn, .int .i64 X.fd, .int .i64 X.on, .int .i64 X.od, .int .i64 X.code] 100)).setCell ⟨p13, 3, none⟩ (.int .i64 X.code)).cell? ⟨p13, 6, none⟩ = some (.int .i64 0) := blk_cell hO4.k13 6
    have cf6 : ((w3.alloc (.cells #[.string X.name, .int .i64 X.d0, .int .i64 X.d1, .int .i64 X.d2, .int .i64 X.d3, .int .i64 X.fn, .int .i64 X.fd, .int .i64 X.on, .int .i64 X.od, .int .i64 X.code] 100)).setCell ⟨p13, 3, none⟩ (.int .i64 X.code)).frozen? ⟨p13, 6, none⟩ = false := blk_frozen hO4.k13 6
    have c7 : ((w3.alloc (.cells #[.string X.name, .int .i64 X.d0, .int .i64 X.d1, .int .i64 X.d2, .int .i64 X.d3, .int .i64 X.fn, .int .i64 X.fd, .int .i64 X.on, .int .i64 X.od, .int .i64 X.code] 100)).setCell ⟨p13, 3, none⟩ (.int .i64 X.code)).cell? ⟨p13, 7, none⟩ = some (.int .i64 at_) := blk_cell hO4.k13 7
    have cf7 : ((w3.alloc (.cells #[.string X.name, .int .i64 X.d0, .int .i64 X.d1, .int .i64 X.d2, .int .i64 X.d3, .int .i64 X.fn, .int .i64 X.fd, .int .i64 X.on, .int .i64 X.od, .int .i64 X.code] 100)).setCell ⟨p13, 3, none⟩ (.int .i64 X.code)).frozen? ⟨p13, 7, none⟩ = false := blk_frozen hO4.k13 7
    have y0 : (((w3.alloc (.cells #[.string X.name, .int .i64 X.d0, .int .i64 X.d1, .int .i64 X.d2, .int .i64 X.d3, .int .i64 X.fn, .int .i64 X.fd, .int .i64 X.on, .int .i64 X.od, .int .i64 X.code] 100)).setCell ⟨p13, 3, none⟩ (.int .i64 X.code)).setCell ⟨p13, 6, none⟩ (.int .i64 1)).cell? ⟨p13, 0, none⟩ = some (.int .i64 pt) := blk_cell hO5.k13 0
    have y1 : (((w3.alloc (.cells #[.string X.name, .int .i64 X.d0, .int .i64 X.d1, .int .i64 X.d2, .int .i64 X.d3, .int .i64 X.fn, .int .i64 X.fd, .int .i64 X.on, .int .i64 X.od, .int .i64 X.code] 100)).setCell ⟨p13, 3, none⟩ (.int .i64 X.code)).setCell ⟨p13, 6, none⟩ (.int .i64 1)).cell? ⟨p13, 1, none⟩ = some (.string f0) := blk_cell hO5.k13 1
    have y2 : (((w3.alloc (.cells #[.string X.name, .int .i64 X.d0, .int .i64 X.d1, .int .i64 X.d2, .int .i64 X.d3, .int .i64 X.fn, .int .i64 X.fd, .int .i64 X.on, .int .i64 X.od, .int .i64 X.code] 100)).setCell ⟨p13, 3, none⟩ (.int .i64 X.code)).setCell ⟨p13, 6, none⟩ (.int .i64 1)).cell? ⟨p13, 2, none⟩ = some (.int .i64 c) := blk_cell hO5.k13 2
    have y3 : (((w3.alloc (.cells #[.string X.name, .int .i64 X.d0, .int .i64 X.d1, .int .i64 X.d2, .int .i64 X.d3, .int .i64 X.fn, .int .i64 X.fd, .int .i64 X.on, .int .i64 X.od, .int .i64 X.code] 100)).setCell ⟨p13, 3, none⟩ (.int .i64 X.code)).setCell ⟨p13, 6, none⟩ (.int .i64 1)).cell? ⟨p13, 3, none⟩ = some (.int .i64 X.code) := blk_cell hO5.k13 3
    have y4 : (((w3.alloc (.cells #[.string X.name, .int .i64 X.d0, .int .i64 X.d1, .int .i64 X.d2, .int .i64 X.d3, .int .i64 X.fn, .int .i64 X.fd, .int .i64 X.on, .int .i64 X.od, .int .i64 X.code] 100)).setCell ⟨p13, 3, none⟩ (.int .i64 X.code)).setCell ⟨p13, 6, none⟩ (.int .i64 1)).cell? ⟨p13, 4, none⟩ = some (.int .i64 0) := blk_cell hO5.k13 4
    have y5 : (((w3.alloc (.cells #[.string X.name, .int .i64 X.d0, .int .i64 X.d1, .int .i64 X.d2, .int .i64 X.d3, .int .i64 X.fn, .int .i64 X.fd, .int .i64 X.on, .int .i64 X.od, .int .i64 X.code] 100)).setCell ⟨p13, 3, none⟩ (.int .i64 X.code)).setCell ⟨p13, 6, none⟩ (.int .i64 1)).cell? ⟨p13, 5, none⟩ = some (.int .i64 0) := blk_cell hO5.k13 5
    have y6 : (((w3.alloc (.cells #[.string X.name, .int .i64 X.d0, .int .i64 X.d1, .int .i64 X.d2, .int .i64 X.d3, .int .i64 X.fn, .int .i64 X.fd, .int .i64 X.on, .int .i64 X.od, .int .i64 X.code] 100)).setCell ⟨p13, 3, none⟩ (.int .i64 X.code)).setCell ⟨p13, 6, none⟩ (.int .i64 1)).cell? ⟨p13, 6, none⟩ = some (.int .i64 1) := blk_cell hO5.k13 6
    have y7 : (((w3.alloc (.cells #[.string X.name, .int .i64 X.d0, .int .i64 X.d1, .int .i64 X.d2, .int .i64 X.d3, .int .i64 X.fn, .int .i64 X.fd, .int .i64 X.on, .int .i64 X.od, .int .i64 X.code] 100)).setCell ⟨p13, 3, none⟩ (.int .i64 X.code)).setCell ⟨p13, 6, none⟩ (.int .i64 1)).cell? ⟨p13, 7, none⟩ = some (.int .i64 at_) := blk_cell hO5.k13 7
    have hBz := hO5.b
    have r0 : (((w3.alloc (.cells #[.string X.name, .int .i64 X.d0, .int .i64 X.d1, .int .i64 X.d2, .int .i64 X.d3, .int .i64 X.fn, .int .i64 X.fd, .int .i64 X.on, .int .i64 X.od, .int .i64 X.code] 100)).setCell ⟨p13, 3, none⟩ (.int .i64 X.code)).setCell ⟨p13, 6, none⟩ (.int .i64 1)).cell? ⟨(w.heap.size + 1 + 1), 0, none⟩ = some (.int .i64 0) := blk_cell hBz.b3 0
    have rf0 : (((w3.alloc (.cells #[.string X.name, .int .i64 X.d0, .int .i64 X.d1, .int .i64 X.d2, .int .i64 X.d3, .int .i64 X.fn, .int .i64 X.fd, .int .i64 X.on, .int .i64 X.od, .int .i64 X.code] 100)).setCell ⟨p13, 3, none⟩ (.int .i64 X.code)).setCell ⟨p13, 6, none⟩ (.int .i64 1)).frozen? ⟨(w.heap.size + 1 + 1), 0, none⟩ = false := blk_frozen hBz.b3 0
    have r1 : (((w3.alloc (.cells #[.string X.name, .int .i64 X.d0, .int .i64 X.d1, .int .i64 X.d2, .int .i64 X.d3, .int .i64 X.fn, .int .i64 X.fd, .int .i64 X.on, .int .i64 X.od, .int .i64 X.code] 100)).setCell ⟨p13, 3, none⟩ (.int .i64 X.code)).setCell ⟨p13, 6, none⟩ (.int .i64 1)).cell? ⟨(w.heap.size + 1 + 1), 1, none⟩ = some (.string ⟨#[]⟩) := blk_cell hBz.b3 1
    have rf1 : (((w3.alloc (.cells #[.string X.name, .int .i64 X.d0, .int .i64 X.d1, .int .i64 X.d2, .int .i64 X.d3, .int .i64 X.fn, .int .i64 X.fd, .int .i64 X.on, .int .i64 X.od, .int .i64 X.code] 100)).setCell ⟨p13, 3, none⟩ (.int .i64 X.code)).setCell ⟨p13, 6, none⟩ (.int .i64 1)).frozen? ⟨(w.heap.size + 1 + 1), 1, none⟩ = false := blk_frozen hBz.b3 1
    have r2 : (((w3.alloc (.cells #[.string X.name, .int .i64 X.d0, .int .i64 X.d1, .int .i64 X.d2, .int .i64 X.d3, .int .i64 X.fn, .int .i64 X.fd, .int .i64 X.on, .int .i64 X.od, .int .i64 X.code] 100)).setCell ⟨p13, 3, none⟩ (.int .i64 X.code)).setCell ⟨p13, 6, none⟩ (.int .i64 1)).cell? ⟨(w.heap.size + 1 + 1), 2, none⟩ = some (.int .i64 0) := blk_cell hBz.b3 2
    have rf2 : (((w3.alloc (.cells #[.string X.name, .int .i64 X.d0, .int .i64 X.d1, .int .i64 X.d2, .int .i64 X.d3, .int .i64 X.fn, .int .i64 X.fd, .int .i64 X.on, .int .i64 X.od, .int .i64 X.code] 100)).setCell ⟨p13, 3, none⟩ (.int .i64 X.code)).setCell ⟨p13, 6, none⟩ (.int .i64 1)).frozen? ⟨(w.heap.size + 1 + 1), 2, none⟩ = false := blk_frozen hBz.b3 2
    have r3 : (((w3.alloc (.cells #[.string X.name, .int .i64 X.d0, .int .i64 X.d1, .int .i64 X.d2, .int .i64 X.d3, .int .i64 X.fn, .int .i64 X.fd, .int .i64 X.on, .int .i64 X.od, .int .i64 X.code] 100)).setCell ⟨p13, 3, none⟩ (.int .i64 X.code)).setCell ⟨p13, 6, none⟩ (.int .i64 1)).cell? ⟨(w.heap.size + 1 + 1), 3, none⟩ = some (.int .i64 0) := blk_cell hBz.b3 3
    have rf3 : (((w3.alloc (.cells #[.string X.name, .int .i64 X.d0, .int .i64 X.d1, .int .i64 X.d2, .int .i64 X.d3, .int .i64 X.fn, .int .i64 X.fd, .int .i64 X.on, .int .i64 X.od, .int .i64 X.code] 100)).setCell ⟨p13, 3, none⟩ (.int .i64 X.code)).setCell ⟨p13, 6, none⟩ (.int .i64 1)).frozen? ⟨(w.heap.size + 1 + 1), 3, none⟩ = false := blk_frozen hBz.b3 3
    have r4 : (((w3.alloc (.cells #[.string X.name, .int .i64 X.d0, .int .i64 X.d1, .int .i64 X.d2, .int .i64 X.d3, .int .i64 X.fn, .int .i64 X.fd, .int .i64 X.on, .int .i64 X.od, .int .i64 X.code] 100)).setCell ⟨p13, 3, none⟩ (.int .i64 X.code)).setCell ⟨p13, 6, none⟩ (.int .i64 1)).cell? ⟨(w.heap.size + 1 + 1), 4, none⟩ = some (.int .i64 0) := blk_cell hBz.b3 4
    have rf4 : (((w3.alloc (.cells #[.string X.name, .int .i64 X.d0, .int .i64 X.d1, .int .i64 X.d2, .int .i64 X.d3, .int .i64 X.fn, .int .i64 X.fd, .int .i64 X.on, .int .i64 X.od, .int .i64 X.code] 100)).setCell ⟨p13, 3, none⟩ (.int .i64 X.code)).setCell ⟨p13, 6, none⟩ (.int .i64 1)).frozen? ⟨(w.heap.size + 1 + 1), 4, none⟩ = false := blk_frozen hBz.b3 4
    have r5 : (((w3.alloc (.cells #[.string X.name, .int .i64 X.d0, .int .i64 X.d1, .int .i64 X.d2, .int .i64 X.d3, .int .i64 X.fn, .int .i64 X.fd, .int .i64 X.on, .int .i64 X.od, .int .i64 X.code] 100)).setCell ⟨p13, 3, none⟩ (.int .i64 X.code)).setCell ⟨p13, 6, none⟩ (.int .i64 1)).cell? ⟨(w.heap.size + 1 + 1), 5, none⟩ = some (.int .i64 0) := blk_cell hBz.b3 5
    have rf5 : (((w3.alloc (.cells #[.string X.name, .int .i64 X.d0, .int .i64 X.d1, .int .i64 X.d2, .int .i64 X.d3, .int .i64 X.fn, .int .i64 X.fd, .int .i64 X.on, .int .i64 X.od, .int .i64 X.code] 100)).setCell ⟨p13, 3, none⟩ (.int .i64 X.code)).setCell ⟨p13, 6, none⟩ (.int .i64 1)).frozen? ⟨(w.heap.size + 1 + 1), 5, none⟩ = false := blk_frozen hBz.b3 5
    have r6 : (((w3.alloc (.cells #[.string X.name, .int .i64 X.d0, .int .i64 X.d1, .int .i64 X.d2, .int .i64 X.d3, .int .i64 X.fn, .int .i64 X.fd, .int .i64 X.on, .int .i64 X.od, .int .i64 X.code] 100)).setCell ⟨p13, 3, none⟩ (.int .i64 X.code)).setCell ⟨p13, 6, none⟩ (.int .i64 1)).cell? ⟨(w.heap.size + 1 + 1), 6, none⟩ = some (.int .i64 0) := blk_cell hBz.b3 6
    have rf6 : (((w3.alloc (.cells #[.string X.name, .int .i64 X.d0, .int .i64 X.d1, .int .i64 X.d2, .int .i64 X.d3, .int .i64 X.fn, .int .i64 X.fd, .int .i64 X.on, .int .i64 X.od, .int .i64 X.code] 100)).setCell ⟨p13, 3, none⟩ (.int .i64 X.code)).setCell ⟨p13, 6, none⟩ (.int .i64 1)).frozen? ⟨(w.heap.size + 1 + 1), 6, none⟩ = false := blk_frozen hBz.b3 6
    have r7 : (((w3.alloc (.cells #[.string X.name, .int .i64 X.d0, .int .i64 X.d1, .int .i64 X.d2, .int .i64 X.d3, .int .i64 X.fn, .int .i64 X.fd, .int .i64 X.on, .int .i64 X.od, .int .i64 X.code] 100)).setCell ⟨p13, 3, none⟩ (.int .i64 X.code)).setCell ⟨p13, 6, none⟩ (.int .i64 1)).cell? ⟨(w.heap.size + 1 + 1), 7, none⟩ = some (.int .i64 0) := blk_cell hBz.b3 7
    have rf7 : (((w3.alloc (.cells #[.string X.name, .int .i64 X.d0, .int .i64 X.d1, .int .i64 X.d2, .int .i64 X.d3, .int .i64 X.fn, .int .i64 X.fd, .int .i64 X.on, .int .i64 X.od, .int .i64 X.code] 100)).setCell ⟨p13, 3, none⟩ (.int .i64 X.code)).setCell ⟨p13, 6, none⟩ (.int .i64 1)).frozen? ⟨(w.heap.size + 1 + 1), 7, none⟩ = false := blk_frozen hBz.b3 7
    go_wp2_with fail
    have k_ := put8_blk (.int .i64 pt) (.string f0) (.int .i64 c) (.int .i64 X.code) (.int .i64 0) (.int .i64 0) (.int .i64 1) (.int .i64 at_) hBz.b3
    have hB_ := put8_below (b := w.heap.size + 1 + 1) (.int .i64 pt) (.string f0) (.int .i64 c) (.int .i64 X.code) (.int .i64 0) (.int .i64 0) (.int .i64 1) (.int .i64 at_) hBz.be (by show w.heap.size ≤ w.heap.size + 1 + 1; omega)
    obtain ⟨w_, hw_⟩ : ∃ w_, w_ = put8 (((w3.alloc (.cells #[.string X.name, .int .i64 X.d0, .int .i64 X.d1, .int .i64 X.d2, .int .i64 X.d3, .int .i64 X.fn, .int .i64 X.fd, .int .i64 X.on, .int .i64 X.od, .int .i64 X.code] 100)).setCell ⟨p13, 3, none⟩ (.int .i64 X.code)).setCell ⟨p13, 6, none⟩ (.int .i64 1)) (w.heap.size + 1 + 1) (.int .i64 pt) (.string f0) (.int .i64 c) (.int .i64 X.code) (.int .i64 0) (.int .i64 0) (.int .i64 1) (.int .i64 at_) := ⟨_, rfl⟩
    rw [← hw_] at k_ hB_
    rw [show (World.setCell (World.setCell (World.setCell (World.setCell (World.setCell (World.setCell (World.setCell (World.setCell (((w3.alloc (.cells #[.string X.name, .int .i64 X.d0, .int .i64 X.d1, .int .i64 X.d2, .int .i64 X.d3, .int .i64 X.fn, .int .i64 X.fd, .int .i64 X.on, .int .i64 X.od, .int .i64 X.code] 100)).setCell ⟨p13, 3, none⟩ (.int .i64 X.code)).setCell ⟨p13, 6, none⟩ (.int .i64 1)) ⟨w.heap.size + 1 + 1, 0, none⟩ (.int .i64 pt)) ⟨w.heap.size + 1 + 1, 1, none⟩ (.string f0)) ⟨w.heap.size + 1 + 1, 2, none⟩ (.int .i64 c)) ⟨w.heap.size + 1 + 1, 3, none⟩ (.int .i64 X.code)) ⟨w.heap.size + 1 + 1, 4, none⟩ (.int .i64 0)) ⟨w.heap.size + 1 + 1, 5, none⟩ (.int .i64 0)) ⟨w.heap.size + 1 + 1, 6, none⟩ (.int .i64 1)) ⟨w.heap.size + 1 + 1, 7, none⟩ (.int .i64 at_)) = w_ from hw_.symm]
    clear hw_
    have s0 : w_.cell? ⟨(w.heap.size + 1 + 1), 0, none⟩ = some (.int .i64 pt) := blk_cell k_ 0
    have s1 : w_.cell? ⟨(w.heap.size + 1 + 1), 1, none⟩ = some (.string f0) := blk_cell k_ 1
    have s2 : w_.cell? ⟨(w.heap.size + 1 + 1), 2, none⟩ = some (.int .i64 c) := blk_cell k_ 2
    have s3 : w_.cell? ⟨(w.heap.size + 1 + 1), 3, none⟩ = some (.int .i64 X.code) := blk_cell k_ 3
    have s4 : w_.cell? ⟨(w.heap.size + 1 + 1), 4, none⟩ = some (.int .i64 0) := blk_cell k_ 4
    have s5 : w_.cell? ⟨(w.heap.size + 1 + 1), 5, none⟩ = some (.int .i64 0) := blk_cell k_ 5
    have s6 : w_.cell? ⟨(w.heap.size + 1 + 1), 6, none⟩ = some (.int .i64 1) := blk_cell k_ 6
    have s7 : w_.cell? ⟨(w.heap.size + 1 + 1), 7, none⟩ = some (.int .i64 at_) := blk_cell k_ 7
    refine bodyPost_ret (by simp [results, Try.results21, go_sem, s0, s1, s2, s3, s4, s5, s6, s7]; try rfl) rfl ?_
    exact ⟨rfl, hB_⟩
  | true =>
    clear hO
    have c0 : ((w3.alloc (.cells #[.string X.name, .int .i64 X.d0, .int .i64 X.d1, .int .i64 X.d2, .int .i64 X.d3, .int .i64 X.fn, .int .i64 X.fd, .int .i64 X.on, .int .i64 X.od, .int .i64 X.code] 100)).setCell ⟨p13, 3, none⟩ (.int .i64 X.code)).cell? ⟨w.heap.size, 0, none⟩ = some (.string f0) := blk_cell hO4.b.b1 0
    have c1 : ((w3.alloc (.cells #[.string X.name, .int .i64 X.d0, .int .i64 X.d1, .int .i64 X.d2, .int .i64 X.d3, .int .i64 X.fn, .int .i64 X.fd, .int .i64 X.on, .int .i64 X.od, .int .i64 X.code] 100)).setCell ⟨p13, 3, none⟩ (.int .i64 X.code)).cell? ⟨w.heap.size, 1, none⟩ = some (.int .i64 f1) := blk_cell hO4.b.b1 1
    have c2 : ((w3.alloc (.cells #[.string X.name, .int .i64 X.d0, .int .i64 X.d1, .int .i64 X.d2, .int .i64 X.d3, .int .i64 X.fn, .int .i64 X.fd, .int .i64 X.on, .int .i64 X.od, .int .i64 X.code] 100)).setCell ⟨p13, 3, none⟩ (.int .i64 X.code)).cell? ⟨w.heap.size, 2, none⟩ = some (.string f2) := blk_cell hO4.b.b1 2
    have c3 : ((w3.alloc (.cells #[.string X.name, .int .i64 X.d0, .int .i64 X.d1, .int .i64 X.d2, .int .i64 X.d3, .int .i64 X.fn, .int .i64 X.fd, .int .i64 X.on, .int .i64 X.od, .int .i64 X.code] 100)).setCell ⟨p13, 3, none⟩ (.int .i64 X.code)).cell? ⟨w.heap.size, 3, none⟩ = some (.int .i64 f3) := blk_cell hO4.b.b1 3
    have c4 : ((w3.alloc (.cells #[.string X.name, .int .i64 X.d0, .int .i64 X.d1, .int .i64 X.d2, .int .i64 X.d3, .int .i64 X.fn, .int .i64 X.fd, .int .i64 X.on, .int .i64 X.od, .int .i64 X.code] 100)).setCell ⟨p13, 3, none⟩ (.int .i64 X.code)).cell? ⟨w.heap.size, 4, none⟩ = some (.int .i64 sn) := blk_cell hO4.b.b1 4
    have c5 : ((w3.alloc (.cells #[.string X.name, .int .i64 X.d0, .int .i64 X.d1, .int .i64 X.d2, .int .i64 X.d3, .int .i64 X.fn, .int .i64 X.fd, .int .i64 X.on, .int .i64 X.od, .int .i64 X.code] 100)).setCell ⟨p13, 3, none⟩ (.int .i64 X.code)).cell? ⟨w.heap.size, 5, none⟩ = some (.int .i64 sd) := blk_cell hO4.b.b1 5
    have c6 : ((w3.alloc (.cells #[.string X.name, .int .i64 X.d0, .int .i64 X.d1, .int .i64 X.d2, .int .i64 X.d3, .int .i64 X.fn, .int .i64 X.fd, .int .i64 X.on, .int .i64 X.od, .int .i64 X.code] 100)).setCell ⟨p13, 3, none⟩ (.int .i64 X.code)).cell? ⟨w.heap.size, 6, none⟩ = some (.int .i64 on) := blk_cell hO4.b.b1 6
    have c7 : ((w3.alloc (.cells #[.string X.name, .int .i64 X.d0, .int .i64 X.d1, .int .i64 X.d2, .int .i64 X.d3, .int .i64 X.fn, .int .i64 X.fd, .int .i64 X.on, .int .i64 X.od, .int .i64 X.code] 100)).setCell ⟨p13, 3, none⟩ (.int .i64 X.code)).cell? ⟨w.heap.size, 7, none⟩ = some (.int .i64 od) := blk_cell hO4.b.b1 7
    have c8 : ((w3.alloc (.cells #[.string X.name, .int .i64 X.d0, .int .i64 X.d1, .int .i64 X.d2, .int .i64 X.d3, .int .i64 X.fn, .int .i64 X.fd, .int .i64 X.on, .int .i64 X.od, .int .i64 X.code] 100)).setCell ⟨p13, 3, none⟩ (.int .i64 X.code)).cell? ⟨w.heap.size, 8, none⟩ = some (.string f8) := blk_cell hO4.b.b1 8
    have d0 : ((w3.alloc (.cells #[.string X.name, .int .i64 X.d0, .int .i64 X.d1, .int .i64 X.d2, .int .i64 X.d3, .int .i64 X.fn, .int .i64 X.fd, .int .i64 X.on, .int .i64 X.od, .int .i64 X.code] 100)).setCell ⟨p13, 3, none⟩ (.int .i64 X.code)).cell? ⟨p9, 0, none⟩ = some (.string u.label) := blk_cell hO4.k9 0
    have d1 : ((w3.alloc (.cells #[.string X.name, .int .i64 X.d0, .int .i64 X.d1, .int .i64 X.d2, .int .i64 X.d3, .int .i64 X.fn, .int .i64 X.fd, .int .i64 X.on, .int .i64 X.od, .int .i64 X.code] 100)).setCell ⟨p13, 3, none⟩ (.int .i64 X.code)).cell? ⟨p9, 1, none⟩ = some (.int .i64 u.code) := blk_cell hO4.k9 1
    have d2 : ((w3.alloc (.cells #[.string X.name, .int .i64 X.d0, .int .i64 X.d1, .int .i64 X.d2, .int .i64 X.d3, .int .i64 X.fn, .int .i64 X.fd, .int .i64 X.on, .int .i64 X.od, .int .i64 X.code] 100)).setCell ⟨p13, 3, none⟩ (.int .i64 X.code)).cell? ⟨p9, 2, none⟩ = some (.string u.unit) := blk_cell hO4.k9 2
    have d3 : ((w3.alloc (.cells #[.string X.name, .int .i64 X.d0, .int .i64 X.d1, .int .i64 X.d2, .int .i64 X.d3, .int .i64 X.fn, .int .i64 X.fd, .int .i64 X.on, .int .i64 X.od, .int .i64 X.code] 100)).setCell ⟨p13, 3, none⟩ (.int .i64 X.code)).cell? ⟨p9, 3, none⟩ = some (.int .i64 u.ln) := blk_cell hO4.k9 3
    have d4 : ((w3.alloc (.cells #[.string X.name, .int .i64 X.d0, .int .i64 X.d1, .int .i64 X.d2, .int .i64 X.d3, .int .i64 X.fn, .int .i64 X.fd, .int .i64 X.on, .int .i64 X.od, .int .i64 X.code] 100)).setCell ⟨p13, 3, none⟩ (.int .i64 X.code)).cell? ⟨p9, 4, none⟩ = some (.int .i64 u.ld) := blk_cell hO4.k9 4
    have d5 : ((w3.alloc (.cells #[.string X.name, .int .i64 X.d0, .int .i64 X.d1, .int .i64 X.d2, .int .i64 X.d3, .int .i64 X.fn, .int .i64 X.fd, .int .i64 X.on, .int .i64 X.od, .int .i64 X.code] 100)).setCell ⟨p13, 3, none⟩ (.int .i64 X.code)).cell? ⟨p9, 5, none⟩ = some (.int .i64 u.mn) := blk_cell hO4.k9 5
    have d6 : ((w3.alloc (.cells #[.string X.name, .int .i64 X.d0, .int .i64 X.d1, .int .i64 X.d2, .int .i64 X.d3, .int .i64 X.fn, .int .i64 X.fd, .int .i64 X.on, .int .i64 X.od, .int .i64 X.code] 100)).setCell ⟨p13, 3, none⟩ (.int .i64 X.code)).cell? ⟨p9, 6, none⟩ = some (.int .i64 u.md) := blk_cell hO4.k9 6
    go_wp2_with fail
    clear x0 x1 x2 x3 x4 x5 x6 x7 x8 x9 a0 af0 a1 af1 a2 af2 a3 af3 a4 af4 a5 af5 a6 af6 a7 af7 b0 b1 c0 c1 c2 c3 c4 c5 c6 c7 c8 d0 d1 d2 d3 d4 d5 d6
    obtain ⟨W4, hW4⟩ : ∃ W, W = (w3.alloc (.cells #[.string X.name, .int .i64 X.d0, .int .i64 X.d1, .int .i64 X.d2, .int .i64 X.d3, .int .i64 X.fn, .int .i64 X.fd, .int .i64 X.on, .int .i64 X.od, .int .i64 X.code] 100)).setCell ⟨p13, 3, none⟩ (.int .i64 X.code) := ⟨_, rfl⟩
    rw [← hW4] at hO4
    rw [← hW4]
    clear hW4 k15
    refine (HI.out _).mono ?_
    rintro q w5 ⟨rfl, hb_⟩
    have hO6 := (hO4.step hb_).step (below_alloc (Below.refl _ _) (.cells #[.int .i64 v1, .int .i64 v2] 53))
    have k17 := blk_new w5 (.cells #[.int .i64 v1, .int .i64 v2] 53)
    clear hb_ hO4
    by_cases e2 : e = 2
    · subst e2
      have hO7 := hO6.put (cs' := #[.int .i64 pt, .string f0, .int .i64 c, .int .i64 X.code, .int .i64 0, .int .i64 0, .int .i64 2, .int .i64 at_]) 6 (.int .i64 2) rfl
      have o1 := or2
      clear HS
      have c0 : (w5.alloc (.cells #[.int .i64 v1, .int .i64 v2] 53)).cell? ⟨p13, 0, none⟩ = some (.int .i64 pt) := blk_cell hO6.k13 0
      have cf0 : (w5.alloc (.cells #[.int .i64 v1, .int .i64 v2] 53)).frozen? ⟨p13, 0, none⟩ = false := blk_frozen hO6.k13 0
      have c1 : (w5.alloc (.cells #[.int .i64 v1, .int .i64 v2] 53)).cell? ⟨p13, 1, none⟩ = some (.string f0) := blk_cell hO6.k13 1
      have cf1 : (w5.alloc (.cells #[.int .i64 v1, .int .i64 v2] 53)).frozen? ⟨p13, 1, none⟩ = false := blk_frozen hO6.k13 1
      have c2 : (w5.alloc (.cells #[.int .i64 v1, .int .i64 v2] 53)).cell? ⟨p13, 2, none⟩ = some (.int .i64 c) := blk_cell hO6.k13 2
      have cf2 : (w5.alloc (.cells #[.int .i64 v1, .int .i64 v2] 53)).frozen? ⟨p13, 2, none⟩ = false := blk_frozen hO6.k13 2
      have c3 : (w5.alloc (.cells #[.int .i64 v1, .int .i64 v2] 53)).cell? ⟨p13, 3, none⟩ = some (.int .i64 X.code) := blk_cell hO6.k13 3
      have cf3 : (w5.alloc (.cells #[.int .i64 v1, .int .i64 v2] 53)).frozen? ⟨p13, 3, none⟩ = false := blk_frozen hO6.k13 3
      have c4 : (w5.alloc (.cells #[.int .i64 v1, .int .i64 v2] 53)).cell? ⟨p13, 4, none⟩ = some (.int .i64 0) := blk_cell hO6.k13 4
      have cf4 : (w5.alloc (.cells #[.int .i64 v1, .int .i64 v2] 53)).frozen? ⟨p13, 4, none⟩ = false := blk_frozen hO6.k13 4
      have c5 : (w5.alloc (.cells #[.int .i64 v1, .int .i64 v2] 53)).cell? ⟨p13, 5, none⟩ = some (.int .i64 0) := blk_cell hO6.k13 5
      have cf5 : (w5.alloc (.cells #[.int .i64 v1, .int .i64 v2] 53)).frozen? ⟨p13, 5, none⟩ = false := blk_frozen hO6.k13 5
      have c6 : (w5.alloc (.cells #[.int .i64 v1, .int .i64 v2] 53)).cell? ⟨p13, 6, none⟩ = some (.int .i64 0) := blk_cell hO6.k13 6
      have cf6 : (w5.alloc (.cells #[.int .i64 v1, .int .i64 v2] 53)).frozen? ⟨p13, 6, none⟩ = false := blk_frozen hO6.k13 6
      have c7 : (w5.alloc (.cells #[.int .i64 v1, .int .i64 v2] 53)).cell? ⟨p13, 7, none⟩ = some (.int .i64 at_) := blk_cell hO6.k13 7
      have cf7 : (w5.alloc (.cells #[.int .i64 v1, .int .i64 v2] 53)).frozen? ⟨p13, 7, none⟩ = false := blk_frozen hO6.k13 7
      have y0 : ((w5.alloc (.cells #[.int .i64 v1, .int .i64 v2] 53)).setCell ⟨p13, 6, none⟩ (.int .i64 2)).cell? ⟨p13, 0, none⟩ = some (.int .i64 pt) := blk_cell hO7.k13 0
      have y1 : ((w5.alloc (.cells #[.int .i64 v1, .int .i64 v2] 53)).setCell ⟨p13, 6, none⟩ (.int .i64 2)).cell? ⟨p13, 1, none⟩ = some (.string f0) := blk_cell hO7.k13 1
      have y2 : ((w5.alloc (.cells #[.int .i64 v1, .int .i64 v2] 53)).setCell ⟨p13, 6, none⟩ (.int .i64 2)).cell? ⟨p13, 2, none⟩ = some (.int .i64 c) := blk_cell hO7.k13 2
      have y3 : ((w5.alloc (.cells #[.int .i64 v1, .int .i64 v2] 53)).setCell ⟨p13, 6, none⟩ (.int .i64 2)).cell? ⟨p13, 3, none⟩ = some (.int .i64 X.code) := blk_cell hO7.k13 3
      have y4 : ((w5.alloc (.cells #[.int .i64 v1, .int .i64 v2] 53)).setCell ⟨p13, 6, none⟩ (.int .i64 2)).cell? ⟨p13, 4, none⟩ = some (.int .i64 0) := blk_cell hO7.k13 4
      have y5 : ((w5.alloc (.cells #[.int .i64 v1, .int .i64 v2] 53)).setCell ⟨p13, 6, none⟩ (.int .i64 2)).cell? ⟨p13, 5, none⟩ = some (.int .i64 0) := blk_cell hO7.k13 5
      have y6 : ((w5.alloc (.cells #[.int .i64 v1, .int .i64 v2] 53)).setCell ⟨p13, 6, none⟩ (.int .i64 2)).cell? ⟨p13, 6, none⟩ = some (.int .i64 2) := blk_cell hO7.k13 6
      have y7 : ((w5.alloc (.cells #[.int .i64 v1, .int .i64 v2] 53)).setCell ⟨p13, 6, none⟩ (.int .i64 2)).cell? ⟨p13, 7, none⟩ = some (.int .i64 at_) := blk_cell hO7.k13 7
      have hBz := hO7.b
      have r0 : ((w5.alloc (.cells #[.int .i64 v1, .int .i64 v2] 53)).setCell ⟨p13, 6, none⟩ (.int .i64 2)).cell? ⟨(w.heap.size + 1 + 1), 0, none⟩ = some (.int .i64 0) := blk_cell hBz.b3 0
      have rf0 : ((w5.alloc (.cells #[.int .i64 v1, .int .i64 v2] 53)).setCell ⟨p13, 6, none⟩ (.int .i64 2)).frozen? ⟨(w.heap.size + 1 + 1), 0, none⟩ = false := blk_frozen hBz.b3 0
      have r1 : ((w5.alloc (.cells #[.int .i64 v1, .int .i64 v2] 53)).setCell ⟨p13, 6, none⟩ (.int .i64 2)).cell? ⟨(w.heap.size + 1 + 1), 1, none⟩ = some (.string ⟨#[]⟩) := blk_cell hBz.b3 1
      have rf1 : ((w5.alloc (.cells #[.int .i64 v1, .int .i64 v2] 53)).setCell ⟨p13, 6, none⟩ (.int .i64 2)).frozen? ⟨(w.heap.size + 1 + 1), 1, none⟩ = false := blk_frozen hBz.b3 1
      have r2 : ((w5.alloc (.cells #[.int .i64 v1, .int .i64 v2] 53)).setCell ⟨p13, 6, none⟩ (.int .i64 2)).cell? ⟨(w.heap.size + 1 + 1), 2, none⟩ = some (.int .i64 0) := blk_cell hBz.b3 2
      have rf2 : ((w5.alloc (.cells #[.int .i64 v1, .int .i64 v2] 53)).setCell ⟨p13, 6, none⟩ (.int .i64 2)).frozen? ⟨(w.heap.size + 1 + 1), 2, none⟩ = false := blk_frozen hBz.b3 2
      have r3 : ((w5.alloc (.cells #[.int .i64 v1, .int .i64 v2] 53)).setCell ⟨p13, 6, none⟩ (.int .i64 2)).cell? ⟨(w.heap.size + 1 + 1), 3, none⟩ = some (.int .i64 0) := blk_cell hBz.b3 3
      have rf3 : ((w5.alloc (.cells #[.int .i64 v1, .int .i64 v2] 53)).setCell ⟨p13, 6, none⟩ (.int .i64 2)).frozen? ⟨(w.heap.size + 1 + 1), 3, none⟩ = false := blk_frozen hBz.b3 3
      have r4 : ((w5.alloc (.cells #[.int .i64 v1, .int .i64 v2] 53)).setCell ⟨p13, 6, none⟩ (.int .i64 2)).cell? ⟨(w.heap.size + 1 + 1), 4, none⟩ = some (.int .i64 0) := blk_cell hBz.b3 4
      have rf4 : ((w5.alloc (.cells #[.int .i64 v1, .int .i64 v2] 53)).setCell ⟨p13, 6, none⟩ (.int .i64 2)).frozen? ⟨(w.heap.size + 1 + 1), 4, none⟩ = false := blk_frozen hBz.b3 4
      have r5 : ((w5.alloc (.cells #[.int .i64 v1, .int .i64 v2] 53)).setCell ⟨p13, 6, none⟩ (.int .i64 2)).cell? ⟨(w.heap.size + 1 + 1), 5, none⟩ = some (.int .i64 0) := blk_cell hBz.b3 5
      have rf5 : ((w5.alloc (.cells #[.int .i64 v1, .int .i64 v2] 53)).setCell ⟨p13, 6, none⟩ (.int .i64 2)).frozen? ⟨(w.heap.size + 1 + 1), 5, none⟩ = false := blk_frozen hBz.b3 5
      have r6 : ((w5.alloc (.cells #[.int .i64 v1, .int .i64 v2] 53)).setCell ⟨p13, 6, none⟩ (.int .i64 2)).cell? ⟨(w.heap.size + 1 + 1), 6, none⟩ = some (.int .i64 0) := blk_cell hBz.b3 6
      have rf6 : ((w5.alloc (.cells #[.int .i64 v1, .int .i64 v2] 53)).setCell ⟨p13, 6, none⟩ (.int .i64 2)).frozen? ⟨(w.heap.size + 1 + 1), 6, none⟩ = false := blk_frozen hBz.b3 6
      have r7 : ((w5.alloc (.cells #[.int .i64 v1, .int .i64 v2] 53)).setCell ⟨p13, 6, none⟩ (.int .i64 2)).cell? ⟨(w.heap.size + 1 + 1), 7, none⟩ = some (.int .i64 0) := blk_cell hBz.b3 7
      have rf7 : ((w5.alloc (.cells #[.int .i64 v1, .int .i64 v2] 53)).setCell ⟨p13, 6, none⟩ (.int .i64 2)).frozen? ⟨(w.heap.size + 1 + 1), 7, none⟩ = false := blk_frozen hBz.b3 7
      go_wp2_with fail
      have k_ := put8_blk (.int .i64 pt) (.string f0) (.int .i64 c) (.int .i64 X.code) (.int .i64 0) (.int .i64 0) (.int .i64 2) (.int .i64 at_) hBz.b3
      have hB_ := put8_below (b := w.heap.size + 1 + 1) (.int .i64 pt) (.string f0) (.int .i64 c) (.int .i64 X.code) (.int .i64 0) (.int .i64 0) (.int .i64 2) (.int .i64 at_) hBz.be (by show w.heap.size ≤ w.heap.size + 1 + 1; omega)
      obtain ⟨w_, hw_⟩ : ∃ w_, w_ = put8 ((w5.alloc (.cells #[.int .i64 v1, .int .i64 v2] 53)).setCell ⟨p13, 6, none⟩ (.int .i64 2)) (w.heap.size + 1 + 1) (.int .i64 pt) (.string f0) (.int .i64 c) (.int .i64 X.code) (.int .i64 0) (.int .i64 0) (.int .i64 2) (.int .i64 at_) := ⟨_, rfl⟩
      rw [← hw_] at k_ hB_
      rw [show (World.setCell (World.setCell (World.setCell (World.setCell (World.setCell (World.setCell (World.setCell (World.setCell ((w5.alloc (.cells #[.int .i64 v1, .int .i64 v2] 53)).setCell ⟨p13, 6, none⟩ (.int .i64 2)) ⟨w.heap.size + 1 + 1, 0, none⟩ (.int .i64 pt)) ⟨w.heap.size + 1 + 1, 1, none⟩ (.string f0)) ⟨w.heap.size + 1 + 1, 2, none⟩ (.int .i64 c)) ⟨w.heap.size + 1 + 1, 3, none⟩ (.int .i64 X.code)) ⟨w.heap.size + 1 + 1, 4, none⟩ (.int .i64 0)) ⟨w.heap.size + 1 + 1, 5, none⟩ (.int .i64 0)) ⟨w.heap.size + 1 + 1, 6, none⟩ (.int .i64 2)) ⟨w.heap.size + 1 + 1, 7, none⟩ (.int .i64 at_)) = w_ from hw_.symm]
      clear hw_
      have s0 : w_.cell? ⟨(w.heap.size + 1 + 1), 0, none⟩ = some (.int .i64 pt) := blk_cell k_ 0
      have s1 : w_.cell? ⟨(w.heap.size + 1 + 1), 1, none⟩ = some (.string f0) := blk_cell k_ 1
      have s2 : w_.cell? ⟨(w.heap.size + 1 + 1), 2, none⟩ = some (.int .i64 c) := blk_cell k_ 2
      have s3 : w_.cell? ⟨(w.heap.size + 1 + 1), 3, none⟩ = some (.int .i64 X.code) := blk_cell k_ 3
      have s4 : w_.cell? ⟨(w.heap.size + 1 + 1), 4, none⟩ = some (.int .i64 0) := blk_cell k_ 4
      have s5 : w_.cell? ⟨(w.heap.size + 1 + 1), 5, none⟩ = some (.int .i64 0) := blk_cell k_ 5
      have s6 : w_.cell? ⟨(w.heap.size + 1 + 1), 6, none⟩ = some (.int .i64 2) := blk_cell k_ 6
      have s7 : w_.cell? ⟨(w.heap.size + 1 + 1), 7, none⟩ = some (.int .i64 at_) := blk_cell k_ 7
      refine bodyPost_ret (by simp [results, Try.results21, go_sem, s0, s1, s2, s3, s4, s5, s6, s7]; try rfl) rfl ?_
      exact ⟨rfl, hB_⟩
    · have m2 : (e == 2) = false := by simp [e2]
      by_cases e0 : e = 0
      · subst e0
        have HI2 := Lib.hid (HS.out rfl)
        clear HS
        have hO7 := hO6.put (cs' := #[.int .i64 pt, .string f0, .int .i64 c, .int .i64 X.code, .int .i64 v1, .int .i64 0, .int .i64 0, .int .i64 at_]) 4 (.int .i64 v1) rfl
        have hO8 := hO7.put (cs' := #[.int .i64 pt, .string f0, .int .i64 c, .int .i64 X.code, .int .i64 v1, .int .i64 v2, .int .i64 0, .int .i64 at_]) 5 (.int .i64 v2) rfl
        have k17b := blk_far (blk_far k17 (p := ⟨p13, 4, none⟩) (blk_ne k17 hO6.k13 (by decide)) (.int .i64 v1)) (p := ⟨p13, 5, none⟩) (blk_ne k17 hO6.k13 (by decide)) (.int .i64 v2)
        have va0 : (w5.alloc (.cells #[.int .i64 v1, .int .i64 v2] 53)).cell? ⟨w5.heap.size, 0, none⟩ = some (.int .i64 v1) := blk_cell k17 0
        have va1 : (w5.alloc (.cells #[.int .i64 v1, .int .i64 v2] 53)).cell? ⟨w5.heap.size, 1, none⟩ = some (.int .i64 v2) := blk_cell k17 1
        have y0 : (w5.alloc (.cells #[.int .i64 v1, .int .i64 v2] 53)).cell? ⟨p13, 0, none⟩ = some (.int .i64 pt) := blk_cell hO6.k13 0
        have yf0 : (w5.alloc (.cells #[.int .i64 v1, .int .i64 v2] 53)).frozen? ⟨p13, 0, none⟩ = false := blk_frozen hO6.k13 0
        have y1 : (w5.alloc (.cells #[.int .i64 v1, .int .i64 v2] 53)).cell? ⟨p13, 1, none⟩ = some (.string f0) := blk_cell hO6.k13 1
        have yf1 : (w5.alloc (.cells #[.int .i64 v1, .int .i64 v2] 53)).frozen? ⟨p13, 1, none⟩ = false := blk_frozen hO6.k13 1
        have y2 : (w5.alloc (.cells #[.int .i64 v1, .int .i64 v2] 53)).cell? ⟨p13, 2, none⟩ = some (.int .i64 c) := blk_cell hO6.k13 2
        have yf2 : (w5.alloc (.cells #[.int .i64 v1, .int .i64 v2] 53)).frozen? ⟨p13, 2, none⟩ = false := blk_frozen hO6.k13 2
        have y3 : (w5.alloc (.cells #[.int .i64 v1, .int .i64 v2] 53)).cell? ⟨p13, 3, none⟩ = some (.int .i64 X.code) := blk_cell hO6.k13 3
        have yf3 : (w5.alloc (.cells #[.int .i64 v1, .int .i64 v2] 53)).frozen? ⟨p13, 3, none⟩ = false := blk_frozen hO6.k13 3
        have y4 : (w5.alloc (.cells #[.int .i64 v1, .int .i64 v2] 53)).cell? ⟨p13, 4, none⟩ = some (.int .i64 0) := blk_cell hO6.k13 4
        have yf4 : (w5.alloc (.cells #[.int .i64 v1, .int .i64 v2] 53)).frozen? ⟨p13, 4, none⟩ = false := blk_frozen hO6.k13 4
        have y5 : (w5.alloc (.cells #[.int .i64 v1, .int .i64 v2] 53)).cell? ⟨p13, 5, none⟩ = some (.int .i64 0) := blk_cell hO6.k13 5
        have yf5 : (w5.alloc (.cells #[.int .i64 v1, .int .i64 v2] 53)).frozen? ⟨p13, 5, none⟩ = false := blk_frozen hO6.k13 5
        have y6 : (w5.alloc (.cells #[.int .i64 v1, .int .i64 v2] 53)).cell? ⟨p13, 6, none⟩ = some (.int .i64 0) := blk_cell hO6.k13 6
        have yf6 : (w5.alloc (.cells #[.int .i64 v1, .int .i64 v2] 53)).frozen? ⟨p13, 6, none⟩ = false := blk_frozen hO6.k13 6
        have y7 : (w5.alloc (.cells #[.int .i64 v1, .int .i64 v2] 53)).cell? ⟨p13, 7, none⟩ = some (.int .i64 at_) := blk_cell hO6.k13 7
        have yf7 : (w5.alloc (.cells #[.int .i64 v1, .int .i64 v2] 53)).frozen? ⟨p13, 7, none⟩ = false := blk_frozen hO6.k13 7
        have wb0 : ((w5.alloc (.cells #[.int .i64 v1, .int .i64 v2] 53)).setCell ⟨p13, 4, none⟩ (.int .i64 v1)).cell? ⟨p13, 0, none⟩ = some (.int .i64 pt) := blk_cell hO7.k13 0
        have wbf0 : ((w5.alloc (.cells #[.int .i64 v1, .int .i64 v2] 53)).setCell ⟨p13, 4, none⟩ (.int .i64 v1)).frozen? ⟨p13, 0, none⟩ = false := blk_frozen hO7.k13 0
        have wb1 : ((w5.alloc (.cells #[.int .i64 v1, .int .i64 v2] 53)).setCell ⟨p13, 4, none⟩ (.int .i64 v1)).cell? ⟨p13, 1, none⟩ = some (.string f0) := blk_cell hO7.k13 1
        have wbf1 : ((w5.alloc (.cells #[.int .i64 v1, .int .i64 v2] 53)).setCell ⟨p13, 4, none⟩ (.int .i64 v1)).frozen? ⟨p13, 1, none⟩ = false := blk_frozen hO7.k13 1
        have wb2 : ((w5.alloc (.cells #[.int .i64 v1, .int .i64 v2] 53)).setCell ⟨p13, 4, none⟩ (.int .i64 v1)).cell? ⟨p13, 2, none⟩ = some (.int .i64 c) := blk_cell hO7.k13 2
        have wbf2 : ((w5.alloc (.cells #[.int .i64 v1, .int .i64 v2] 53)).setCell ⟨p13, 4, none⟩ (.int .i64 v1)).frozen? ⟨p13, 2, none⟩ = false := blk_frozen hO7.k13 2
        have wb3 : ((w5.alloc (.cells #[.int .i64 v1, .int .i64 v2] 53)).setCell ⟨p13, 4, none⟩ (.int .i64 v1)).cell? ⟨p13, 3, none⟩ = some (.int .i64 X.code) := blk_cell hO7.k13 3
        have wbf3 : ((w5.alloc (.cells #[.int .i64 v1, .int .i64 v2] 53)).setCell ⟨p13, 4, none⟩ (.int .i64 v1)).frozen? ⟨p13, 3, none⟩ = false := blk_frozen hO7.k13 3
        have wb4 : ((w5.alloc (.cells #[.int .i64 v1, .int .i64 v2] 53)).setCell ⟨p13, 4, none⟩ (.int .i64 v1)).cell? ⟨p13, 4, none⟩ = some (.int .i64 v1) := blk_cell hO7.k13 4
        have wbf4 : ((w5.alloc (.cells #[.int .i64 v1, .int .i64 v2] 53)).setCell ⟨p13, 4, none⟩ (.int .i64 v1)).frozen? ⟨p13, 4, none⟩ = false := blk_frozen hO7.k13 4
        have wb5 : ((w5.alloc (.cells #[.int .i64 v1, .int .i64 v2] 53)).setCell ⟨p13, 4, none⟩ (.int .i64 v1)).cell? ⟨p13, 5, none⟩ = some (.int .i64 0) := blk_cell hO7.k13 5
        have wbf5 : ((w5.alloc (.cells #[.int .i64 v1, .int .i64 v2] 53)).setCell ⟨p13, 4, none⟩ (.int .i64 v1)).frozen? ⟨p13, 5, none⟩ = false := blk_frozen hO7.k13 5
        have wb6 : ((w5.alloc (.cells #[.int .i64 v1, .int .i64 v2] 53)).setCell ⟨p13, 4, none⟩ (.int .i64 v1)).cell? ⟨p13, 6, none⟩ = some (.int .i64 0) := blk_cell hO7.k13 6
        have wbf6 : ((w5.alloc (.cells #[.int .i64 v1, .int .i64 v2] 53)).setCell ⟨p13, 4, none⟩ (.int .i64 v1)).frozen? ⟨p13, 6, none⟩ = false := blk_frozen hO7.k13 6
        have wb7 : ((w5.alloc (.cells #[.int .i64 v1, .int .i64 v2] 53)).setCell ⟨p13, 4, none⟩ (.int .i64 v1)).cell? ⟨p13, 7, none⟩ = some (.int .i64 at_) := blk_cell hO7.k13 7
        have wbf7 : ((w5.alloc (.cells #[.int .i64 v1, .int .i64 v2] 53)).setCell ⟨p13, 4, none⟩ (.int .i64 v1)).frozen? ⟨p13, 7, none⟩ = false := blk_frozen hO7.k13 7
        have t0 : (((w5.alloc (.cells #[.int .i64 v1, .int .i64 v2] 53)).setCell ⟨p13, 4, none⟩ (.int .i64 v1)).setCell ⟨p13, 5, none⟩ (.int .i64 v2)).cell? ⟨p9, 0, none⟩ = some (.string u.label) := blk_cell hO8.k9 0
        have t1 : (((w5.alloc (.cells #[.int .i64 v1, .int .i64 v2] 53)).setCell ⟨p13, 4, none⟩ (.int .i64 v1)).setCell ⟨p13, 5, none⟩ (.int .i64 v2)).cell? ⟨p9, 1, none⟩ = some (.int .i64 u.code) := blk_cell hO8.k9 1
        have t2 : (((w5.alloc (.cells #[.int .i64 v1, .int .i64 v2] 53)).setCell ⟨p13, 4, none⟩ (.int .i64 v1)).setCell ⟨p13, 5, none⟩ (.int .i64 v2)).cell? ⟨p9, 2, none⟩ = some (.string u.unit) := blk_cell hO8.k9 2
        have t3 : (((w5.alloc (.cells #[.int .i64 v1, .int .i64 v2] 53)).setCell ⟨p13, 4, none⟩ (.int .i64 v1)).setCell ⟨p13, 5, none⟩ (.int .i64 v2)).cell? ⟨p9, 3, none⟩ = some (.int .i64 u.ln) := blk_cell hO8.k9 3
        have t4 : (((w5.alloc (.cells #[.int .i64 v1, .int .i64 v2] 53)).setCell ⟨p13, 4, none⟩ (.int .i64 v1)).setCell ⟨p13, 5, none⟩ (.int .i64 v2)).cell? ⟨p9, 4, none⟩ = some (.int .i64 u.ld) := blk_cell hO8.k9 4
        have t5 : (((w5.alloc (.cells #[.int .i64 v1, .int .i64 v2] 53)).setCell ⟨p13, 4, none⟩ (.int .i64 v1)).setCell ⟨p13, 5, none⟩ (.int .i64 v2)).cell? ⟨p9, 5, none⟩ = some (.int .i64 u.mn) := blk_cell hO8.k9 5
        have t6 : (((w5.alloc (.cells #[.int .i64 v1, .int .i64 v2] 53)).setCell ⟨p13, 4, none⟩ (.int .i64 v1)).setCell ⟨p13, 5, none⟩ (.int .i64 v2)).cell? ⟨p9, 6, none⟩ = some (.int .i64 u.md) := blk_cell hO8.k9 6
        have s0 : (((w5.alloc (.cells #[.int .i64 v1, .int .i64 v2] 53)).setCell ⟨p13, 4, none⟩ (.int .i64 v1)).setCell ⟨p13, 5, none⟩ (.int .i64 v2)).cell? ⟨w5.heap.size, 0, none⟩ = some (.int .i64 v1) := blk_cell k17b 0
        have s1 : (((w5.alloc (.cells #[.int .i64 v1, .int .i64 v2] 53)).setCell ⟨p13, 4, none⟩ (.int .i64 v1)).setCell ⟨p13, 5, none⟩ (.int .i64 v2)).cell? ⟨w5.heap.size, 1, none⟩ = some (.int .i64 v2) := blk_cell k17b 1
        go_wp2_with fail
        clear va0 va1 y0 yf0 y1 yf1 y2 yf2 y3 yf3 y4 yf4 y5 yf5 y6 yf6 y7 yf7 wb0 wbf0 wb1 wbf1 wb2 wbf2 wb3 wbf3 wb4 wbf4 wb5 wbf5 wb6 wbf6 wb7 wbf7 t0 t1 t2 t3 t4 t5 t6 s0 s1
        obtain ⟨W8, hW8⟩ : ∃ W, W = ((w5.alloc (.cells #[.int .i64 v1, .int .i64 v2] 53)).setCell ⟨p13, 4, none⟩ (.int .i64 v1)).setCell ⟨p13, 5, none⟩ (.int .i64 v2) := ⟨_, rfl⟩
        rw [← hW8] at hO8
        rw [← hW8]
        clear hW8 k17 k17b hO6 hO7 m2
        refine (HI2.out _).mono ?_
        rintro q w8 ⟨rfl, hb_⟩
        replace hO8 := hO8.step hb_
        clear hb_
        cases ins with
        | true =>
          have y0 : w8.cell? ⟨p13, 0, none⟩ = some (.int .i64 pt) := blk_cell hO8.k13 0
          have y1 : w8.cell? ⟨p13, 1, none⟩ = some (.string f0) := blk_cell hO8.k13 1
          have y2 : w8.cell? ⟨p13, 2, none⟩ = some (.int .i64 c) := blk_cell hO8.k13 2
          have y3 : w8.cell? ⟨p13, 3, none⟩ = some (.int .i64 X.code) := blk_cell hO8.k13 3
          have y4 : w8.cell? ⟨p13, 4, none⟩ = some (.int .i64 v1) := blk_cell hO8.k13 4
          have y5 : w8.cell? ⟨p13, 5, none⟩ = some (.int .i64 v2) := blk_cell hO8.k13 5
          have y6 : w8.cell? ⟨p13, 6, none⟩ = some (.int .i64 0) := blk_cell hO8.k13 6
          have y7 : w8.cell? ⟨p13, 7, none⟩ = some (.int .i64 at_) := blk_cell hO8.k13 7
          have hBz := hO8.b
          have r0 : w8.cell? ⟨(w.heap.size + 1 + 1), 0, none⟩ = some (.int .i64 0) := blk_cell hBz.b3 0
          have rf0 : w8.frozen? ⟨(w.heap.size + 1 + 1), 0, none⟩ = false := blk_frozen hBz.b3 0
          have r1 : w8.cell? ⟨(w.heap.size + 1 + 1), 1, none⟩ = some (.string ⟨#[]⟩) := blk_cell hBz.b3 1
          have rf1 : w8.frozen? ⟨(w.heap.size + 1 + 1), 1, none⟩ = false := blk_frozen hBz.b3 1
          have r2 : w8.cell? ⟨(w.heap.size + 1 + 1), 2, none⟩ = some (.int .i64 0) := blk_cell hBz.b3 2
          have rf2 : w8.frozen? ⟨(w.heap.size + 1 + 1), 2, none⟩ = false := blk_frozen hBz.b3 2
          have r3 : w8.cell? ⟨(w.heap.size + 1 + 1), 3, none⟩ = some (.int .i64 0) := blk_cell hBz.b3 3
          have rf3 : w8.frozen? ⟨(w.heap.size + 1 + 1), 3, none⟩ = false := blk_frozen hBz.b3 3
          have r4 : w8.cell? ⟨(w.heap.size + 1 + 1), 4, none⟩ = some (.int .i64 0) := blk_cell hBz.b3 4
          have rf4 : w8.frozen? ⟨(w.heap.size + 1 + 1), 4, none⟩ = false := blk_frozen hBz.b3 4
          have r5 : w8.cell? ⟨(w.heap.size + 1 + 1), 5, none⟩ = some (.int .i64 0) := blk_cell hBz.b3 5
          have rf5 : w8.frozen? ⟨(w.heap.size + 1 + 1), 5, none⟩ = false := blk_frozen hBz.b3 5
          have r6 : w8.cell? ⟨(w.heap.size + 1 + 1), 6, none⟩ = some (.int .i64 0) := blk_cell hBz.b3 6
          have rf6 : w8.frozen? ⟨(w.heap.size + 1 + 1), 6, none⟩ = false := blk_frozen hBz.b3 6
          have r7 : w8.cell? ⟨(w.heap.size + 1 + 1), 7, none⟩ = some (.int .i64 0) := blk_cell hBz.b3 7
          have rf7 : w8.frozen? ⟨(w.heap.size + 1 + 1), 7, none⟩ = false := blk_frozen hBz.b3 7
          go_wp2_with fail
          have k_ := put8_blk (.int .i64 pt) (.string f0) (.int .i64 c) (.int .i64 X.code) (.int .i64 v1) (.int .i64 v2) (.int .i64 0) (.int .i64 at_) hBz.b3
          have hB_ := put8_below (b := w.heap.size + 1 + 1) (.int .i64 pt) (.string f0) (.int .i64 c) (.int .i64 X.code) (.int .i64 v1) (.int .i64 v2) (.int .i64 0) (.int .i64 at_) hBz.be (by show w.heap.size ≤ w.heap.size + 1 + 1; omega)
          obtain ⟨w_, hw_⟩ : ∃ w_, w_ = put8 w8 (w.heap.size + 1 + 1) (.int .i64 pt) (.string f0) (.int .i64 c) (.int .i64 X.code) (.int .i64 v1) (.int .i64 v2) (.int .i64 0) (.int .i64 at_) := ⟨_, rfl⟩
          rw [← hw_] at k_ hB_
          rw [show (World.setCell (World.setCell (World.setCell (World.setCell (World.setCell (World.setCell (World.setCell (World.setCell w8 ⟨w.heap.size + 1 + 1, 0, none⟩ (.int .i64 pt)) ⟨w.heap.size + 1 + 1, 1, none⟩ (.string f0)) ⟨w.heap.size + 1 + 1, 2, none⟩ (.int .i64 c)) ⟨w.heap.size + 1 + 1, 3, none⟩ (.int .i64 X.code)) ⟨w.heap.size + 1 + 1, 4, none⟩ (.int .i64 v1)) ⟨w.heap.size + 1 + 1, 5, none⟩ (.int .i64 v2)) ⟨w.heap.size + 1 + 1, 6, none⟩ (.int .i64 0)) ⟨w.heap.size + 1 + 1, 7, none⟩ (.int .i64 at_)) = w_ from hw_.symm]
          clear hw_
          have s0 : w_.cell? ⟨(w.heap.size + 1 + 1), 0, none⟩ = some (.int .i64 pt) := blk_cell k_ 0
          have s1 : w_.cell? ⟨(w.heap.size + 1 + 1), 1, none⟩ = some (.string f0) := blk_cell k_ 1
          have s2 : w_.cell? ⟨(w.heap.size + 1 + 1), 2, none⟩ = some (.int .i64 c) := blk_cell k_ 2
          have s3 : w_.cell? ⟨(w.heap.size + 1 + 1), 3, none⟩ = some (.int .i64 X.code) := blk_cell k_ 3
          have s4 : w_.cell? ⟨(w.heap.size + 1 + 1), 4, none⟩ = some (.int .i64 v1) := blk_cell k_ 4
          have s5 : w_.cell? ⟨(w.heap.size + 1 + 1), 5, none⟩ = some (.int .i64 v2) := blk_cell k_ 5
          have s6 : w_.cell? ⟨(w.heap.size + 1 + 1), 6, none⟩ = some (.int .i64 0) := blk_cell k_ 6
          have s7 : w_.cell? ⟨(w.heap.size + 1 + 1), 7, none⟩ = some (.int .i64 at_) := blk_cell k_ 7
          refine bodyPost_ret (by simp [results, Try.results21, go_sem, s0, s1, s2, s3, s4, s5, s6, s7]; try rfl) rfl ?_
          exact ⟨rfl, hB_⟩
        | false =>
          have hO9 := hO8.put (cs' := #[.int .i64 pt, .string f0, .int .i64 c, .int .i64 X.code, .int .i64 v1, .int .i64 v2, .int .i64 8, .int .i64 at_]) 6 (.int .i64 8) rfl
          have o1 := or8
          have c0 : w8.cell? ⟨p13, 0, none⟩ = some (.int .i64 pt) := blk_cell hO8.k13 0
          have cf0 : w8.frozen? ⟨p13, 0, none⟩ = false := blk_frozen hO8.k13 0
          have c1 : w8.cell? ⟨p13, 1, none⟩ = some (.string f0) := blk_cell hO8.k13 1
          have cf1 : w8.frozen? ⟨p13, 1, none⟩ = false := blk_frozen hO8.k13 1
          have c2 : w8.cell? ⟨p13, 2, none⟩ = some (.int .i64 c) := blk_cell hO8.k13 2
          have cf2 : w8.frozen? ⟨p13, 2, none⟩ = false := blk_frozen hO8.k13 2
          have c3 : w8.cell? ⟨p13, 3, none⟩ = some (.int .i64 X.code) := blk_cell hO8.k13 3
          have cf3 : w8.frozen? ⟨p13, 3, none⟩ = false := blk_frozen hO8.k13 3
          have c4 : w8.cell? ⟨p13, 4, none⟩ = some (.int .i64 v1) := blk_cell hO8.k13 4
          have cf4 : w8.frozen? ⟨p13, 4, none⟩ = false := blk_frozen hO8.k13 4
          have c5 : w8.cell? ⟨p13, 5, none⟩ = some (.int .i64 v2) := blk_cell hO8.k13 5
          have cf5 : w8.frozen? ⟨p13, 5, none⟩ = false := blk_frozen hO8.k13 5
          have c6 : w8.cell? ⟨p13, 6, none⟩ = some (.int .i64 0) := blk_cell hO8.k13 6
          have cf6 : w8.frozen? ⟨p13, 6, none⟩ = false := blk_frozen hO8.k13 6
          have c7 : w8.cell? ⟨p13, 7, none⟩ = some (.int .i64 at_) := blk_cell hO8.k13 7
          have cf7 : w8.frozen? ⟨p13, 7, none⟩ = false := blk_frozen hO8.k13 7
          have y0 : (w8.setCell ⟨p13, 6, none⟩ (.int .i64 8)).cell? ⟨p13, 0, none⟩ = some (.int .i64 pt) := blk_cell hO9.k13 0
          have y1 : (w8.setCell ⟨p13, 6, none⟩ (.int .i64 8)).cell? ⟨p13, 1, none⟩ = some (.string f0) := blk_cell hO9.k13 1
          have y2 : (w8.setCell ⟨p13, 6, none⟩ (.int .i64 8)).cell? ⟨p13, 2, none⟩ = some (.int .i64 c) := blk_cell hO9.k13 2
          have y3 : (w8.setCell ⟨p13, 6, none⟩ (.int .i64 8)).cell? ⟨p13, 3, none⟩ = some (.int .i64 X.code) := blk_cell hO9.k13 3
          have y4 : (w8.setCell ⟨p13, 6, none⟩ (.int .i64 8)).cell? ⟨p13, 4, none⟩ = some (.int .i64 v1) := blk_cell hO9.k13 4
          have y5 : (w8.setCell ⟨p13, 6, none⟩ (.int .i64 8)).cell? ⟨p13, 5, none⟩ = some (.int .i64 v2) := blk_cell hO9.k13 5
          have y6 : (w8.setCell ⟨p13, 6, none⟩ (.int .i64 8)).cell? ⟨p13, 6, none⟩ = some (.int .i64 8) := blk_cell hO9.k13 6
          have y7 : (w8.setCell ⟨p13, 6, none⟩ (.int .i64 8)).cell? ⟨p13, 7, none⟩ = some (.int .i64 at_) := blk_cell hO9.k13 7
          have hBz := hO9.b
          have r0 : (w8.setCell ⟨p13, 6, none⟩ (.int .i64 8)).cell? ⟨(w.heap.size + 1 + 1), 0, none⟩ = some (.int .i64 0) := blk_cell hBz.b3 0
          have rf0 : (w8.setCell ⟨p13, 6, none⟩ (.int .i64 8)).frozen? ⟨(w.heap.size + 1 + 1), 0, none⟩ = false := blk_frozen hBz.b3 0
          have r1 : (w8.setCell ⟨p13, 6, none⟩ (.int .i64 8)).cell? ⟨(w.heap.size + 1 + 1), 1, none⟩ = some (.string ⟨#[]⟩) := blk_cell hBz.b3 1
          have rf1 : (w8.setCell ⟨p13, 6, none⟩ (.int .i64 8)).frozen? ⟨(w.heap.size + 1 + 1), 1, none⟩ = false := blk_frozen hBz.b3 1
          have r2 : (w8.setCell ⟨p13, 6, none⟩ (.int .i64 8)).cell? ⟨(w.heap.size + 1 + 1), 2, none⟩ = some (.int .i64 0) := blk_cell hBz.b3 2
          have rf2 : (w8.setCell ⟨p13, 6, none⟩ (.int .i64 8)).frozen? ⟨(w.heap.size + 1 + 1), 2, none⟩ = false := blk_frozen hBz.b3 2
          have r3 : (w8.setCell ⟨p13, 6, none⟩ (.int .i64 8)).cell? ⟨(w.heap.size + 1 + 1), 3, none⟩ = some (.int .i64 0) := blk_cell hBz.b3 3
          have rf3 : (w8.setCell ⟨p13, 6, none⟩ (.int .i64 8)).frozen? ⟨(w.heap.size + 1 + 1), 3, none⟩ = false := blk_frozen hBz.b3 3
          have r4 : (w8.setCell ⟨p13, 6, none⟩ (.int .i64 8)).cell? ⟨(w.heap.size + 1 + 1), 4, none⟩ = some (.int .i64 0) := blk_cell hBz.b3 4
          have rf4 : (w8.setCell ⟨p13, 6, none⟩ (.int .i64 8)).frozen? ⟨(w.heap.size + 1 + 1), 4, none⟩ = false := blk_frozen hBz.b3 4
          have r5 : (w8.setCell ⟨p13, 6, none⟩ (.int .i64 8)).cell? ⟨(w.heap.size + 1 + 1), 5, none⟩ = some (.int .i64 0) := blk_cell hBz.b3 5
          have rf5 : (w8.setCell ⟨p13, 6, none⟩ (.int .i64 8)).frozen? ⟨(w.heap.size + 1 + 1), 5, none⟩ = false := blk_frozen hBz.b3 5
          have r6 : (w8.setCell ⟨p13, 6, none⟩ (.int .i64 8)).cell? ⟨(w.heap.size + 1 + 1), 6, none⟩ = some (.int .i64 0) := blk_cell hBz.b3 6
          have rf6 : (w8.setCell ⟨p13, 6, none⟩ (.int .i64 8)).frozen? ⟨(w.heap.size + 1 + 1), 6, none⟩ = false := blk_frozen hBz.b3 6
          have r7 : (w8.setCell ⟨p13, 6, none⟩ (.int .i64 8)).cell? ⟨(w.heap.size + 1 + 1), 7, none⟩ = some (.int .i64 0) := blk_cell hBz.b3 7
          have rf7 : (w8.setCell ⟨p13, 6, none⟩ (.int .i64 8)).frozen? ⟨(w.heap.size + 1 + 1), 7, none⟩ = false := blk_frozen hBz.b3 7
          go_wp2_with fail
          have k_ := put8_blk (.int .i64 pt) (.string f0) (.int .i64 c) (.int .i64 X.code) (.int .i64 v1) (.int .i64 v2) (.int .i64 8) (.int .i64 at_) hBz.b3
          have hB_ := put8_below (b := w.heap.size + 1 + 1) (.int .i64 pt) (.string f0) (.int .i64 c) (.int .i64 X.code) (.int .i64 v1) (.int .i64 v2) (.int .i64 8) (.int .i64 at_) hBz.be (by show w.heap.size ≤ w.heap.size + 1 + 1; omega)
          obtain ⟨w_, hw_⟩ : ∃ w_, w_ = put8 (w8.setCell ⟨p13, 6, none⟩ (.int .i64 8)) (w.heap.size + 1 + 1) (.int .i64 pt) (.string f0) (.int .i64 c) (.int .i64 X.code) (.int .i64 v1) (.int .i64 v2) (.int .i64 8) (.int .i64 at_) := ⟨_, rfl⟩
          rw [← hw_] at k_ hB_
          rw [show (World.setCell (World.setCell (World.setCell (World.setCell (World.setCell (World.setCell (World.setCell (World.setCell (w8.setCell ⟨p13, 6, none⟩ (.int .i64 8)) ⟨w.heap.size + 1 + 1, 0, none⟩ (.int .i64 pt)) ⟨w.heap.size + 1 + 1, 1, none⟩ (.string f0)) ⟨w.heap.size + 1 + 1, 2, none⟩ (.int .i64 c)) ⟨w.heap.size + 1 + 1, 3, none⟩ (.int .i64 X.code)) ⟨w.heap.size + 1 + 1, 4, none⟩ (.int .i64 v1)) ⟨w.heap.size + 1 + 1, 5, none⟩ (.int .i64 v2)) ⟨w.heap.size + 1 + 1, 6, none⟩ (.int .i64 8)) ⟨w.heap.size + 1 + 1, 7, none⟩ (.int .i64 at_)) = w_ from hw_.symm]
          clear hw_
          have s0 : w_.cell? ⟨(w.heap.size + 1 + 1), 0, none⟩ = some (.int .i64 pt) := blk_cell k_ 0
          have s1 : w_.cell? ⟨(w.heap.size + 1 + 1), 1, none⟩ = some (.string f0) := blk_cell k_ 1
          have s2 : w_.cell? ⟨(w.heap.size + 1 + 1), 2, none⟩ = some (.int .i64 c) := blk_cell k_ 2
          have s3 : w_.cell? ⟨(w.heap.size + 1 + 1), 3, none⟩ = some (.int .i64 X.code) := blk_cell k_ 3
          have s4 : w_.cell? ⟨(w.heap.size + 1 + 1), 4, none⟩ = some (.int .i64 v1) := blk_cell k_ 4
          have s5 : w_.cell? ⟨(w.heap.size + 1 + 1), 5, none⟩ = some (.int .i64 v2) := blk_cell k_ 5
          have s6 : w_.cell? ⟨(w.heap.size + 1 + 1), 6, none⟩ = some (.int .i64 8) := blk_cell k_ 6
          have s7 : w_.cell? ⟨(w.heap.size + 1 + 1), 7, none⟩ = some (.int .i64 at_) := blk_cell k_ 7
          refine bodyPost_ret (by simp [results, Try.results21, go_sem, s0, s1, s2, s3, s4, s5, s6, s7]; try rfl) rfl ?_
          exact ⟨rfl, hB_⟩
      · have m0 : (e == 0) = false := by simp [e0]
        have hO7 := hO6.put (cs' := #[.int .i64 pt, .string f0, .int .i64 c, .int .i64 X.code, .int .i64 0, .int .i64 0, .int .i64 16, .int .i64 at_]) 6 (.int .i64 16) rfl
        have o1 := or16
        clear HS
        have q1 : obsF true e ins = 16 := by unfold obsF; rw [if_pos rfl, if_neg e2, if_neg e0]
        have q2 : ∀ x, obsN true e x = 0 := fun x => by unfold obsN; rw [if_neg (fun h => e0 h.2)]
        have c0 : (w5.alloc (.cells #[.int .i64 v1, .int .i64 v2] 53)).cell? ⟨p13, 0, none⟩ = some (.int .i64 pt) := blk_cell hO6.k13 0
        have cf0 : (w5.alloc (.cells #[.int .i64 v1, .int .i64 v2] 53)).frozen? ⟨p13, 0, none⟩ = false := blk_frozen hO6.k13 0
        have c1 : (w5.alloc (.cells #[.int .i64 v1, .int .i64 v2] 53)).cell? ⟨p13, 1, none⟩ = some (.string f0) := blk_cell hO6.k13 1
        have cf1 : (w5.alloc (.cells #[.int .i64 v1, .int .i64 v2] 53)).frozen? ⟨p13, 1, none⟩ = false := blk_frozen hO6.k13 1
        have c2 : (w5.alloc (.cells #[.int .i64 v1, .int .i64 v2] 53)).cell? ⟨p13, 2, none⟩ = some (.int .i64 c) := blk_cell hO6.k13 2
        have cf2 : (w5.alloc (.cells #[.int .i64 v1, .int .i64 v2] 53)).frozen? ⟨p13, 2, none⟩ = false := blk_frozen hO6.k13 2
        have c3 : (w5.alloc (.cells #[.int .i64 v1, .int .i64 v2] 53)).cell? ⟨p13, 3, none⟩ = some (.int .i64 X.code) := blk_cell hO6.k13 3
        have cf3 : (w5.alloc (.cells #[.int .i64 v1, .int .i64 v2] 53)).frozen? ⟨p13, 3, none⟩ = false := blk_frozen hO6.k13 3
        have c4 : (w5.alloc (.cells #[.int .i64 v1, .int .i64 v2] 53)).cell? ⟨p13, 4, none⟩ = some (.int .i64 0) := blk_cell hO6.k13 4
        have cf4 : (w5.alloc (.cells #[.int .i64 v1, .int .i64 v2] 53)).frozen? ⟨p13, 4, none⟩ = false := blk_frozen hO6.k13 4
        have c5 : (w5.alloc (.cells #[.int .i64 v1, .int .i64 v2] 53)).cell? ⟨p13, 5, none⟩ = some (.int .i64 0) := blk_cell hO6.k13 5
        have cf5 : (w5.alloc (.cells #[.int .i64 v1, .int .i64 v2] 53)).frozen? ⟨p13, 5, none⟩ = false := blk_frozen hO6.k13 5
        have c6 : (w5.alloc (.cells #[.int .i64 v1, .int .i64 v2] 53)).cell? ⟨p13, 6, none⟩ = some (.int .i64 0) := blk_cell hO6.k13 6
        have cf6 : (w5.alloc (.cells #[.int .i64 v1, .int .i64 v2] 53)).frozen? ⟨p13, 6, none⟩ = false := blk_frozen hO6.k13 6
        have c7 : (w5.alloc (.cells #[.int .i64 v1, .int .i64 v2] 53)).cell? ⟨p13, 7, none⟩ = some (.int .i64 at_) := blk_cell hO6.k13 7
        have cf7 : (w5.alloc (.cells #[.int .i64 v1, .int .i64 v2] 53)).frozen? ⟨p13, 7, none⟩ = false := blk_frozen hO6.k13 7
        have y0 : ((w5.alloc (.cells #[.int .i64 v1, .int .i64 v2] 53)).setCell ⟨p13, 6, none⟩ (.int .i64 16)).cell? ⟨p13, 0, none⟩ = some (.int .i64 pt) := blk_cell hO7.k13 0
        have y1 : ((w5.alloc (.cells #[.int .i64 v1, .int .i64 v2] 53)).setCell ⟨p13, 6, none⟩ (.int .i64 16)).cell? ⟨p13, 1, none⟩ = some (.string f0) := blk_cell hO7.k13 1
        have y2 : ((w5.alloc (.cells #[.int .i64 v1, .int .i64 v2] 53)).setCell ⟨p13, 6, none⟩ (.int .i64 16)).cell? ⟨p13, 2, none⟩ = some (.int .i64 c) := blk_cell hO7.k13 2
        have y3 : ((w5.alloc (.cells #[.int .i64 v1, .int .i64 v2] 53)).setCell ⟨p13, 6, none⟩ (.int .i64 16)).cell? ⟨p13, 3, none⟩ = some (.int .i64 X.code) := blk_cell hO7.k13 3
        have y4 : ((w5.alloc (.cells #[.int .i64 v1, .int .i64 v2] 53)).setCell ⟨p13, 6, none⟩ (.int .i64 16)).cell? ⟨p13, 4, none⟩ = some (.int .i64 0) := blk_cell hO7.k13 4
        have y5 : ((w5.alloc (.cells #[.int .i64 v1, .int .i64 v2] 53)).setCell ⟨p13, 6, none⟩ (.int .i64 16)).cell? ⟨p13, 5, none⟩ = some (.int .i64 0) := blk_cell hO7.k13 5
        have y6 : ((w5.alloc (.cells #[.int .i64 v1, .int .i64 v2] 53)).setCell ⟨p13, 6, none⟩ (.int .i64 16)).cell? ⟨p13, 6, none⟩ = some (.int .i64 16) := blk_cell hO7.k13 6
        have y7 : ((w5.alloc (.cells #[.int .i64 v1, .int .i64 v2] 53)).setCell ⟨p13, 6, none⟩ (.int .i64 16)).cell? ⟨p13, 7, none⟩ = some (.int .i64 at_) := blk_cell hO7.k13 7
        have hBz := hO7.b
        have r0 : ((w5.alloc (.cells #[.int .i64 v1, .int .i64 v2] 53)).setCell ⟨p13, 6, none⟩ (.int .i64 16)).cell? ⟨(w.heap.size + 1 + 1), 0, none⟩ = some (.int .i64 0) := blk_cell hBz.b3 0
        have rf0 : ((w5.alloc (.cells #[.int .i64 v1, .int .i64 v2] 53)).setCell ⟨p13, 6, none⟩ (.int .i64 16)).frozen? ⟨(w.heap.size + 1 + 1), 0, none⟩ = false := blk_frozen hBz.b3 0
        have r1 : ((w5.alloc (.cells #[.int .i64 v1, .int .i64 v2] 53)).setCell ⟨p13, 6, none⟩ (.int .i64 16)).cell? ⟨(w.heap.size + 1 + 1), 1, none⟩ = some (.string ⟨#[]⟩) := blk_cell hBz.b3 1
        have rf1 : ((w5.alloc (.cells #[.int .i64 v1, .int .i64 v2] 53)).setCell ⟨p13, 6, none⟩ (.int .i64 16)).frozen? ⟨(w.heap.size + 1 + 1), 1, none⟩ = false := blk_frozen hBz.b3 1
        have r2 : ((w5.alloc (.cells #[.int .i64 v1, .int .i64 v2] 53)).setCell ⟨p13, 6, none⟩ (.int .i64 16)).cell? ⟨(w.heap.size + 1 + 1), 2, none⟩ = some (.int .i64 0) := blk_cell hBz.b3 2
        have rf2 : ((w5.alloc (.cells #[.int .i64 v1, .int .i64 v2] 53)).setCell ⟨p13, 6, none⟩ (.int .i64 16)).frozen? ⟨(w.heap.size + 1 + 1), 2, none⟩ = false := blk_frozen hBz.b3 2
        have r3 : ((w5.alloc (.cells #[.int .i64 v1, .int .i64 v2] 53)).setCell ⟨p13, 6, none⟩ (.int .i64 16)).cell? ⟨(w.heap.size + 1 + 1), 3, none⟩ = some (.int .i64 0) := blk_cell hBz.b3 3
        have rf3 : ((w5.alloc (.cells #[.int .i64 v1, .int .i64 v2] 53)).setCell ⟨p13, 6, none⟩ (.int .i64 16)).frozen? ⟨(w.heap.size + 1 + 1), 3, none⟩ = false := blk_frozen hBz.b3 3
        have r4 : ((w5.alloc (.cells #[.int .i64 v1, .int .i64 v2] 53)).setCell ⟨p13, 6, none⟩ (.int .i64 16)).cell? ⟨(w.heap.size + 1 + 1), 4, none⟩ = some (.int .i64 0) := blk_cell hBz.b3 4
        have rf4 : ((w5.alloc (.cells #[.int .i64 v1, .int .i64 v2] 53)).setCell ⟨p13, 6, none⟩ (.int .i64 16)).frozen? ⟨(w.heap.size + 1 + 1), 4, none⟩ = false := blk_frozen hBz.b3 4
        have r5 : ((w5.alloc (.cells #[.int .i64 v1, .int .i64 v2] 53)).setCell ⟨p13, 6, none⟩ (.int .i64 16)).cell? ⟨(w.heap.size + 1 + 1), 5, none⟩ = some (.int .i64 0) := blk_cell hBz.b3 5
        have rf5 : ((w5.alloc (.cells #[.int .i64 v1, .int .i64 v2] 53)).setCell ⟨p13, 6, none⟩ (.int .i64 16)).frozen? ⟨(w.heap.size + 1 + 1), 5, none⟩ = false := blk_frozen hBz.b3 5
        have r6 : ((w5.alloc (.cells #[.int .i64 v1, .int .i64 v2] 53)).setCell ⟨p13, 6, none⟩ (.int .i64 16)).cell? ⟨(w.heap.size + 1 + 1), 6, none⟩ = some (.int .i64 0) := blk_cell hBz.b3 6
        have rf6 : ((w5.alloc (.cells #[.int .i64 v1, .int .i64 v2] 53)).setCell ⟨p13, 6, none⟩ (.int .i64 16)).frozen? ⟨(w.heap.size + 1 + 1), 6, none⟩ = false := blk_frozen hBz.b3 6
        have r7 : ((w5.alloc (.cells #[.int .i64 v1, .int .i64 v2] 53)).setCell ⟨p13, 6, none⟩ (.int .i64 16)).cell? ⟨(w.heap.size + 1 + 1), 7, none⟩ = some (.int .i64 0) := blk_cell hBz.b3 7
        have rf7 : ((w5.alloc (.cells #[.int .i64 v1, .int .i64 v2] 53)).setCell ⟨p13, 6, none⟩ (.int .i64 16)).frozen? ⟨(w.heap.size + 1 + 1), 7, none⟩ = false := blk_frozen hBz.b3 7
        go_wp2_with fail
        have k_ := put8_blk (.int .i64 pt) (.string f0) (.int .i64 c) (.int .i64 X.code) (.int .i64 0) (.int .i64 0) (.int .i64 16) (.int .i64 at_) hBz.b3
        have hB_ := put8_below (b := w.heap.size + 1 + 1) (.int .i64 pt) (.string f0) (.int .i64 c) (.int .i64 X.code) (.int .i64 0) (.int .i64 0) (.int .i64 16) (.int .i64 at_) hBz.be (by show w.heap.size ≤ w.heap.size + 1 + 1; omega)
        obtain ⟨w_, hw_⟩ : ∃ w_, w_ = put8 ((w5.alloc (.cells #[.int .i64 v1, .int .i64 v2] 53)).setCell ⟨p13, 6, none⟩ (.int .i64 16)) (w.heap.size + 1 + 1) (.int .i64 pt) (.string f0) (.int .i64 c) (.int .i64 X.code) (.int .i64 0) (.int .i64 0) (.int .i64 16) (.int .i64 at_) := ⟨_, rfl⟩
        rw [← hw_] at k_ hB_
        rw [show (World.setCell (World.setCell (World.setCell (World.setCell (World.setCell (World.setCell (World.setCell (World.setCell ((w5.alloc (.cells #[.int .i64 v1, .int .i64 v2] 53)).setCell ⟨p13, 6, none⟩ (.int .i64 16)) ⟨w.heap.size + 1 + 1, 0, none⟩ (.int .i64 pt)) ⟨w.heap.size + 1 + 1, 1, none⟩ (.string f0)) ⟨w.heap.size + 1 + 1, 2, none⟩ (.int .i64 c)) ⟨w.heap.size + 1 + 1, 3, none⟩ (.int .i64 X.code)) ⟨w.heap.size + 1 + 1, 4, none⟩ (.int .i64 0)) ⟨w.heap.size + 1 + 1, 5, none⟩ (.int .i64 0)) ⟨w.heap.size + 1 + 1, 6, none⟩ (.int .i64 16)) ⟨w.heap.size + 1 + 1, 7, none⟩ (.int .i64 at_)) = w_ from hw_.symm]
        clear hw_
        have s0 : w_.cell? ⟨(w.heap.size + 1 + 1), 0, none⟩ = some (.int .i64 pt) := blk_cell k_ 0
        have s1 : w_.cell? ⟨(w.heap.size + 1 + 1), 1, none⟩ = some (.string f0) := blk_cell k_ 1
        have s2 : w_.cell? ⟨(w.heap.size + 1 + 1), 2, none⟩ = some (.int .i64 c) := blk_cell k_ 2
        have s3 : w_.cell? ⟨(w.heap.size + 1 + 1), 3, none⟩ = some (.int .i64 X.code) := blk_cell k_ 3
        have s4 : w_.cell? ⟨(w.heap.size + 1 + 1), 4, none⟩ = some (.int .i64 0) := blk_cell k_ 4
        have s5 : w_.cell? ⟨(w.heap.size + 1 + 1), 5, none⟩ = some (.int .i64 0) := blk_cell k_ 5
        have s6 : w_.cell? ⟨(w.heap.size + 1 + 1), 6, none⟩ = some (.int .i64 16) := blk_cell k_ 6
        have s7 : w_.cell? ⟨(w.heap.size + 1 + 1), 7, none⟩ = some (.int .i64 at_) := blk_cell k_ 7
        refine bodyPost_ret (by simp [results, Try.results21, go_sem, s0, s1, s2, s3, s4, s5, s6, s7]; try rfl) rfl ?_
        rw [q1, q2, q2]
        exact ⟨rfl, hB_⟩
end Go.Proofs.Ytmnohhmnkmnikaa.Obs

