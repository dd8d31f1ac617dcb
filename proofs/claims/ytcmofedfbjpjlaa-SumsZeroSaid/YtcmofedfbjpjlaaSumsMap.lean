import Derived.Test.YtcmofedfbjpjlaaSumsPlain
import Derived.Test.YtcmofedfbjpjlaaPNamedx1
import Derived.Test.YtcmofedfbjpjlaaCrcCalls
import Derived.Test.YtcmofedfbjpjlaaHeapKit
import Derived.MapKept
import Derived.RangeFuncKeeps
/- The table of the kinds of endings (sums.kinds), walked. -/
set_option linter.unusedVariables false
set_option linter.unusedSimpArgs false
namespace Go.Proofs.Ytcmofedfbjpjlaa.Sums
open Go.RowKit Go.Proofs.YtcmofedfbjpjlaaW.PrintWords Go.Proofs.YtcmofedfbjpjlaaW.PrintLast Go.Proofs.Ytcmofedfbjpjlaa.Nats Go.Proofs.Ytcmofedfbjpjlaa.HeapKit

section
variable {P : Program} {ops : Array Oper} {rest : List Oper} {o : Oper} {a : Act} {Q : Exit → Act → World → Prop}
theorem skip_event {W w1 : World} (hgd : o.guard = none) (hd : o.dst = none) (hrun : (execOp a.eval o).run P W = .ok .skip w1) (h : wpList P ops Q rest a w1) : wpList P ops Q (o :: rest) a W := by
  refine wpList_plain hgd fun K hK => ?_
  unfold Oper.wp
  rw [hrun]
  refine hK _ _ ?_
  rw [hd]
  exact h
/-- An entry is laid into a map. -/
theorem put_event {W : World} {t : TypeId} {x v : Operand} {s : ByteArray} (ho : o.op = .insert t x (.const (.string s)) v) (hgd : o.guard = none) (hd : o.dst = none) {kt et : TypeId} {m : Nat} {es es' : Array MapEntry} {clock : Nat} {val : Value} (hm : P.underlying t = some (.map kt et)) (hk : P.underlying kt = some .string) (hx : a.eval x = .map (some m)) (hv : a.eval v = val) (hb : W.heap[m]? = some (.map es clock)) (hf : Instr.findNow .string (.string s) es.toList 0 = some none)
    (he : es.push { key := .string s, val := val, born := clock } = es') (h : ∀ w1, w1 = W.putObj m (.map es' (clock + 1)) → wpList P ops Q rest a w1) : wpList P ops Q (o :: rest) a W := by
  refine skip_event hgd hd (w1 := W.putObj m (.map es' (clock + 1))) ?_ (h _ rfl)
  have hc : (Instr.checkKey false 10000 kt (.string s)).run P W = .ok () W := MapKept.run_checkKey (k := .string s) hk (by simp [MapKept.IsKey]) false 9999
  have e1 : a.eval (.const (.string s)) = .string s := rfl
  unfold execOp
  simp only [ho, hx, hv, e1]
  subst he
  simp [Instr.mapUpdate, run_underlying hm, MapKept.run_getObj_map hb, hc, MapKept.run_findKey hk hf, MapKept.run_setObj_map _ hb, Result.andThen, World.putObj]
theorem gate_key {t : TypeId} {x v : Operand} {s : ByteArray} (_ho : o.op = .insert t x (.const (.string s)) v) {W : World} (h : wpList P ops Q (o :: rest) a W) : wpList P ops Q (o :: rest) a W := h
end
/-- What is looked up in a map of texts. -/
theorem run_look {P : Program} {W : World} {t kt et : TypeId} {m : Nat} {es : Array MapEntry} {clock : Nat} {s : ByteArray} (hm : P.underlying t = some (.map kt et)) (hk : P.underlying kt = some .string) (hb : W.heap[m]? = some (.map es clock)) :
    (∀ i v, Instr.findNow .string (.string s) es.toList 0 = some (some (i, v)) → (Instr.lookup t (.map (some m)) (.string s) true).run P W = .ok (.tuple #[v, .bool true]) W) ∧
    (∀ z, Instr.findNow .string (.string s) es.toList 0 = some none → (zeroValue et).run P W = .ok z W → (Instr.lookup t (.map (some m)) (.string s) true).run P W = .ok (.tuple #[z, .bool false]) W) := by
  have hc : ∀ e : Bool, (Instr.checkKey e 10000 kt (.string s)).run P W = .ok () W := fun e => MapKept.run_checkKey (k := .string s) hk (by simp [MapKept.IsKey]) e 9999
  constructor
  · intro i v hf
    simp [Instr.lookup, run_underlying hm, MapKept.run_getObj_map hb, hc, MapKept.run_findKey hk hf, Result.andThen]
  · intro z hf hz
    simp [Instr.lookup, run_underlying hm, MapKept.run_getObj_map hb, hc, MapKept.run_findKey hk hf, hz, Result.andThen]
theorem below_put {n m : Nat} {W0 W : World} {es es' : Array MapEntry} {c c' : Nat} (h : Below n W0 W) (hm : n ≤ m) (hb : W.heap[m]? = some (.map es c)) (hn : n ≤ W0.heap.size) : Below n W0 (W.putObj m (.map es' c')) := by
  have e : (W.putObj m (.map es' c')).heap.size = W.heap.size := World.putObj_size
  refine ⟨h.os, h.tape, h.output, by rw [e]; exact h.size, fun k hk => ?_⟩
  rw [World.putObj_heap_other (by omega)]
  exact h.block k hk
theorem map_put {m : Nat} {W : World} {es es' : Array MapEntry} {c c' : Nat} (hb : W.heap[m]? = some (.map es c)) : (W.putObj m (.map es' c')).heap[m]? = some (.map es' c') := World.putObj_heap_same (blk_lt hb)
theorem cells_put {m k : Nat} {W : World} {es es' : Array MapEntry} {c c' : Nat} {cs : Array Value} {t : TypeId} {fz : Nat × Nat} (h : W.heap[k]? = some (.cells cs t fz)) (hb : W.heap[m]? = some (.map es c)) : (W.putObj m (.map es' c')).heap[k]? = some (.cells cs t fz) := by
  have hne : k ≠ m := by
    rintro rfl
    rw [hb] at h
    cases h
  rw [World.putObj_heap_other hne]
  exact h

/-- A kind of chapter 4, as a value: a closure over a block that holds it. -/
def dv (b : Nat) : Value := .func (.func 76) #[] #[.pointer (some ⟨b, 0, none⟩)]
def kcells (w p f : Nat) (t : Bool) (last : Nat) : Array Value := #[.int .i64 (w : Int), .int .u32 (p : Int), .int .u32 (f : Int), .bool t, .int .u32 (last : Int)]
set_option maxRecDepth 100000 in
set_option maxHeartbeats 1000000 in
theorem divided_calls {s : ByteArray} {w p f last : Nat} {t : Bool} (hN : PNamed.crc_Named.f s = some ((w : Int), (p : Int), (f : Int), t, (last : Int), true)) (W : World) :
    Calls Try.prog 75 #[.string s] W fun e w' => ∃ b, e = .returned (dv b) ∧ W.heap.size ≤ b ∧ w'.heap[b]? = some (.cells (kcells w p f t last) 65 (0, 0)) ∧ Below W.heap.size W w' := by
  have hc := fun w => PNamed.crc_Named.calls s _ _ _ _ _ _ w hN
  have HC := Lib.hid hc
  clear hc hN
  go_enter Try.func75, Try.ntmps75
  go_wp2_with fail
  refine (HC.out _).mono ?_
  rintro e w1 ⟨rfl, hb1⟩
  have k := blk_new w1 (.cells #[.int .i64 (w : Int), .int .u32 (p : Int), .int .u32 (f : Int), .bool t, .int .u32 (last : Int)] 65)
  have hB := bthen hb1 (below_alloc (Below.refl _ _) (.cells #[.int .i64 (w : Int), .int .u32 (p : Int), .int .u32 (f : Int), .bool t, .int .u32 (last : Int)] 65))
  go_wp2_with fail
  go_ret
  exact ⟨w1.heap.size, rfl, hb1.size, k, hB⟩
end Go.Proofs.Ytcmofedfbjpjlaa.Sums
