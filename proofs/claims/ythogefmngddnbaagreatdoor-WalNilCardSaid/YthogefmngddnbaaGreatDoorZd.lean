/- How a folder lies in memory, and its first contracts: ready, get, step. -/
import Derived.Test.YthogefmngddnbaaGreatDoorZa
import Derived.MapKept
import Derived.Deep.QuietTactic
import Derived.BigQuiet
import Derived.Laws.IdiomRangeMap
import Derived.Deep.RegionWith
import Derived.IntWalk
import Derived.Shelf.SlGeneric
import Derived.Shelf.SlIter.Nil
import Derived.Shelf.SortM.Plain
import Derived.Shelf.SortM.SortNone
import Derived.Shelf.SlMaps.Clone
import Derived.Ground.GgzProg
import Derived.Ground.SlgmProg
import Derived.Ground.SlmcProg
import Derived.Test.YthogefmngddnbaaGreatDoorProg
import Derived.Maps.OwnSet
set_option linter.unusedVariables false
set_option linter.unusedSimpArgs false
namespace Go.Proofs.YthogefmngddnbaaGreatDoor
open Go.RowKit Go.MapKept

/-- a map from names to files -/
def MapAt (h : Array Obj) (m : Nat) (L : Nm) : Prop :=
  ∃ es clk, h[m]? = some (.map es clk) ∧ Stamped es clk ∧ es.toList.map (fun e => (e.key, e.val)) = L.map (fun p => (Value.string p.1, Value.pointer (some ⟨p.2, 0, none⟩)))

/-- a change of names as a function value -/
def ClosAt (h : Array Obj) (F : BSet) : Value → FOp → Prop
  | v, .create name id => ∃ bx bn, v = .func (.func 174) #[] #[.pointer (some ⟨bx, 0, none⟩), .pointer (some ⟨bn, 0, none⟩)] ∧ F bx ∧ F bn ∧
      h[bx]? = some (.cells #[.pointer (some ⟨id, 0, none⟩)] 112 (0, 0)) ∧ h[bn]? = some (.cells #[.string name] 9 (0, 0)) ∧ name.size ≤ maxLen
  | v, .delete name => ∃ bn, v = .func (.func 151) #[] #[.pointer (some ⟨bn, 0, none⟩)] ∧ F bn ∧ h[bn]? = some (.cells #[.string name] 9 (0, 0)) ∧ name.size ≤ maxLen
theorem ClosAt.keep {h h' : Array Obj} {F G : BSet} {v : Value} {op : FOp} (hx : ClosAt h F v op) (hk : Kept F h h') (hG : ∀ k, F k → G k) : ClosAt h' G v op := by
  cases op with
  | create name id => obtain ⟨bx, bn, e, f1, f2, h1, h2, h3⟩ := hx; exact ⟨bx, bn, e, hG _ f1, hG _ f2, by rw [hk _ f1]; exact h1, by rw [hk _ f2]; exact h2, h3⟩
  | delete name => obtain ⟨bn, e, f1, h1, h3⟩ := hx; exact ⟨bn, e, hG _ f1, by rw [hk _ f1]; exact h1, h3⟩

def ClosAll (h : Array Obj) (F : BSet) (vs : List Value) (ops : List FOp) : Prop := vs.length = ops.length ∧ ∀ (i : Nat) v op, vs[i]? = some v → ops[i]? = some op → ClosAt h F v op
theorem ClosAll.keep {h h' : Array Obj} {F G : BSet} {vs : List Value} {ops : List FOp} (hx : ClosAll h F vs ops) (hk : Kept F h h') (hG : ∀ k, F k → G k) : ClosAll h' G vs ops :=
  ⟨hx.1, fun i v op h1 h2 => (hx.2 i v op h1 h2).keep hk hG⟩
def FileAt (h : Array Obj) (id : Nat) (x : Fl) : Prop := h[id]? = some (.cells #[.string x.bytes, .int .i64 x.synced] 119 (0, 0))

structure FsRep (h : Array Obj) (b : Nat) (f : Fs) (F : BSet) : Prop where
  lt : ∀ k, F k → k < h.size
  own : F b
  ex : ∃ m1 m2 sv vs, h[b]? = some (.cells #[.map (some m1), .map (some m2), sv, .int .i64 f.room, .bool f.on, .bool f.armed, .int .i64 f.steps] 106 (0, 0)) ∧
    F m1 ∧ F m2 ∧ m1 ≠ m2 ∧ MapAt h m1 f.now ∧ MapAt h m2 f.firm ∧ Owns h F 113 1 sv f.since.length vs ∧ ClosAll h F vs f.since
  files : ∀ id, id ∈ f.ids → F id ∧ FileAt h id (f.cont id)
  wf : f.Wf

theorem MapAt.keep {h h' : Array Obj} {m : Nat} {L : Nm} (hx : MapAt h m L) (hk : h'[m]? = h[m]?) : MapAt h' m L := by
  obtain ⟨es, clk, h1, h2⟩ := hx; exact ⟨es, clk, hk.trans h1, h2⟩
theorem FsRep.keep {h h' : Array Obj} {b : Nat} {f : Fs} {F : BSet} (r : FsRep h b f F) (hk : Kept F h h') (hs : h.size ≤ h'.size) : FsRep h' b f F := by
  obtain ⟨m1, m2, sv, vs, h1, f1, f2, hne, hm1, hm2, ho, hc⟩ := r.ex
  refine ⟨fun k hF => Nat.lt_of_lt_of_le (r.lt k hF) hs, r.own, ⟨m1, m2, sv, vs, (hk _ r.own).trans h1, f1, f2, hne, hm1.keep (hk _ f1), hm2.keep (hk _ f2), ho.keep hk (fun _ h => h), ?_⟩, ?_, r.wf⟩
  · exact hc.keep hk (fun _ h => h)
  · intro id hid
    obtain ⟨hF, hx⟩ := r.files id hid
    exact ⟨hF, (hk _ hF).trans hx⟩
theorem FsRep.mod {w w' : World} {b : Nat} {f : Fs} {F G : BSet} (r : FsRep w.heap b f F) (m : Mod G w w') (hd : ∀ k, F k → ¬ G k) : FsRep w'.heap b f F :=
  r.keep (fun k hF => m.block k (r.lt k hF) (hd k hF)) m.size
theorem FsRep.mod0 {w w' : World} {b : Nat} {f : Fs} {F : BSet} (r : FsRep w.heap b f F) (m : Mod BSet.none w w') : FsRep w'.heap b f F := r.mod m (fun _ _ h => h)
end Go.Proofs.YthogefmngddnbaaGreatDoor
/- What the operations on a map from names to files do, on the raw entries. -/
namespace Go.Proofs.YthogefmngddnbaaGreatDoor
open Go.RowKit Go.MapKept

theorem under102 : Tryz.prog.underlying 102 = some (.map 9 112) := by kernel_rfl
theorem under9 : Tryz.prog.underlying 9 = some .string := by kernel_rfl
theorem zero112 : (Tryz.prog.info? 112).map (·.zero) = some (some (.pointer none)) := by kernel_rfl

abbrev ent (p : ByteArray × Nat) : Value × Value := (Value.string p.1, Value.pointer (some ⟨p.2, 0, none⟩))

theorem findNow_str (s : ByteArray) : ∀ (es : List MapEntry) (L : Nm) (i : Nat), es.map (fun e => (e.key, e.val)) = L.map ent →
    Instr.findNow .string (.string s) es i = some ((L.findIdx? (fun p => p.1 = s)).bind fun j => (L[j]?).map fun p => (i + j, Value.pointer (some ⟨p.2, 0, none⟩))) := by
  intro es
  induction es with
  | nil => intro L i h; cases L with
    | nil => rfl
    | cons p L => simp at h
  | cons e es ih =>
    intro L i h
    cases L with
    | nil => simp at h
    | cons p L =>
      simp only [List.map_cons, List.cons.injEq, Prod.mk.injEq] at h
      obtain ⟨⟨hk, hv⟩, h⟩ := h
      unfold Instr.findNow
      rw [hk]
      by_cases hs : p.1 = s
      · subst hs
        have : Instr.sameNow .string (.string p.1) (.string p.1) = some true := by
          simp only [Instr.sameNow, (bytes_beq p.1 p.1).2 rfl]
        simp only [this]
        simp [hv, List.findIdx?_cons]
      · have : Instr.sameNow .string (.string s) (.string p.1) = some false := by
          simp only [Instr.sameNow]
          congr 1
          rw [Bool.eq_false_iff]; intro h; exact hs ((bytes_beq _ _).1 h).symm
        simp only [this]
        rw [ih L (i + 1) h]
        simp only [List.findIdx?_cons, hs, decide_false, Bool.false_eq_true, if_false]
        cases L.findIdx? (fun p => decide (p.1 = s)) with
        | none => rfl
        | some j => simp [Nat.add_comm, Nat.add_left_comm]

theorem mget_idx (L : Nm) (s : ByteArray) : mget L s = (L.findIdx? (fun p => p.1 = s)).bind fun j => (L[j]?).map (·.2) := by
  unfold mget
  induction L with
  | nil => rfl
  | cons p L ih =>
    by_cases hs : p.1 = s
    · simp [List.find?_cons, List.findIdx?_cons, hs]
    · simp only [List.find?_cons, List.findIdx?_cons, hs, decide_false, Bool.false_eq_true, if_false]
      rw [ih]
      cases L.findIdx? (fun p => decide (p.1 = s)) <;> simp

theorem zero112_run (w : World) : (zeroValue 112).run Tryz.prog w = .ok (.pointer none) w := by kernel_rfl

theorem check_str (b : Bool) (s : ByteArray) (w : World) : (Instr.checkKey b 10000 9 (.string s)).run Tryz.prog w = .ok () w := by
  rw [show (10000 : Nat) = 9999 + 1 from rfl]
  unfold Instr.checkKey
  simp [run_underlying under9]

theorem findKey_run {es : List MapEntry} {L : Nm} (s : ByteArray) (w : World) (h : es.map (fun e => (e.key, e.val)) = L.map ent) :
    (Instr.findKey 9 (.string s) es).run Tryz.prog w = .ok ((L.findIdx? (fun p => p.1 = s)).bind fun j => (L[j]?).map fun p => (j, Value.pointer (some ⟨p.2, 0, none⟩))) w := by
  have hf := findNow_str s es L 0 h
  simp only [Nat.zero_add] at hf
  unfold Instr.findKey
  simp [run_underlying under9, hf]

theorem idx_lt {L : Nm} {s : ByteArray} {j : Nat} (h : L.findIdx? (fun p => p.1 = s) = some j) : ∃ p, L[j]? = some p ∧ p.1 = s := by
  rw [List.findIdx?_eq_some_iff_getElem] at h
  obtain ⟨hj, hp, _⟩ := h
  exact ⟨L[j], List.getElem?_eq_getElem hj, by simpa using hp⟩

theorem lookup_run {w : World} {m : Nat} {L : Nm} (s : ByteArray) (h : MapAt w.heap m L) :
    (Instr.lookup 102 (.map (some m)) (.string s) true).run Tryz.prog w = .ok (.tuple #[.pointer ((mget L s).map fun i => ⟨i, 0, none⟩), .bool (mget L s).isSome]) w := by
  obtain ⟨es, clk, h1, h2, h3⟩ := h
  unfold Instr.lookup
  have hf := findKey_run s w h3
  rw [mget_idx]
  cases hi : L.findIdx? (fun p => decide (p.1 = s)) with
  | none =>
    rw [hi] at hf
    simp only [Option.bind_none] at hf
    simp [run_underlying under102, MapKept.run_getObj_map h1, check_str, hf, Result.andThen, zero112_run]
  | some j =>
    rw [hi] at hf
    obtain ⟨p, hp, hs⟩ := idx_lt hi
    simp only [Option.bind_some, hp, Option.map_some] at hf
    simp [run_underlying under102, MapKept.run_getObj_map h1, check_str, hf, Result.andThen, hp]

theorem lookup_run1 {w : World} {m : Nat} {L : Nm} (s : ByteArray) {id : Nat} (h : MapAt w.heap m L) (hid : mget L s = some id) :
    (Instr.lookup 102 (.map (some m)) (.string s) false).run Tryz.prog w = .ok (.pointer (some ⟨id, 0, none⟩)) w := by
  obtain ⟨es, clk, h1, h2, h3⟩ := h
  have hf := findKey_run s w h3
  rw [mget_idx] at hid
  cases hi : L.findIdx? (fun p => decide (p.1 = s)) with
  | none => rw [hi] at hid; cases hid
  | some j =>
    rw [hi] at hf hid
    obtain ⟨p, hp, hs⟩ := idx_lt hi
    simp only [Option.bind_some, hp, Option.map_some, Option.some.injEq] at hf hid
    subst hid
    unfold Instr.lookup
    simp [run_underlying under102, MapKept.run_getObj_map h1, check_str, hf, Result.andThen]

theorem len_run {w : World} {m : Nat} {L : Nm} (h : MapAt w.heap m L) (ty : TypeId) : (Builtin.len_ #[102] ty #[.map (some m)]).run Tryz.prog w = .ok (.int .i64 L.length) w := by
  obtain ⟨es, clk, h1, h2, h3⟩ := h
  have : es.size = L.length := by have := congrArg List.length h3; simpa using this
  unfold Builtin.len_
  simp [go_sem, run_underlying under102, MapKept.run_getObj_map h1, this, goInt]

/-- the one place of a key -/
theorem mput_idx {L : Nm} {s : ByteArray} {j id : Nat} (hn : (L.map (·.1)).Nodup) (h : L.findIdx? (fun p => p.1 = s) = some j) : mput L s id = L.set j (s, id) := by
  obtain ⟨p, hp, hs⟩ := idx_lt h
  have hsome : (mget L s).isSome = true := by rw [mget_idx, h]; simp [hp]
  unfold mput
  rw [if_pos hsome]
  apply List.ext_getElem?
  intro i
  rw [List.getElem?_map, List.getElem?_set]
  by_cases hij : j = i
  · subst hij
    have hlt := (List.getElem?_eq_some_iff.1 hp).1
    rw [if_pos rfl, if_pos hlt, hp]; simp [hs]
  · rw [if_neg hij]
    cases hi : L[i]? with
    | none => rfl
    | some q =>
      simp only [Option.map_some, Option.some.injEq]
      rw [if_neg]
      intro hq
      apply hij
      have h1 : (L.map (·.1))[j]? = some s := by simp [hp, hs]
      have h2 : (L.map (·.1))[i]? = some s := by simp [hi, hq]
      exact (List.getElem?_inj (List.getElem?_eq_some_iff.1 h1).1 hn).1 (h1.trans h2.symm)
theorem mdel_idx {L : Nm} {s : ByteArray} {j : Nat} (hn : (L.map (·.1)).Nodup) (h : L.findIdx? (fun p => p.1 = s) = some j) : mdel L s = L.eraseIdx j := by
  unfold mdel
  induction L generalizing j with
  | nil => simp at h
  | cons p L ih =>
    simp only [List.map_cons, List.nodup_cons] at hn
    by_cases hs : p.1 = s
    · simp [List.findIdx?_cons, hs] at h
      subst h
      simp only [List.filter_cons, hs, ne_eq, not_true_eq_false, decide_false, Bool.false_eq_true, if_false, List.eraseIdx_cons_zero]
      rw [List.filter_eq_self]
      intro q hq
      simp only [decide_not, Bool.not_eq_true', decide_eq_false_iff_not]
      intro h
      exact hn.1 (List.mem_map.2 ⟨q, hq, by rw [h, hs]⟩)
    · simp only [List.findIdx?_cons, hs, decide_false, Bool.false_eq_true, if_false, Option.map_eq_some_iff] at h
      obtain ⟨i, hi, rfl⟩ := h
      simp only [List.filter_cons, hs, ne_eq, not_false_eq_true, decide_true, if_true, List.eraseIdx_cons_succ]
      rw [ih hn.2 hi]
theorem miss_idx {L : Nm} {s : ByteArray} (h : L.findIdx? (fun p => p.1 = s) = none) : (mget L s).isSome = false ∧ mdel L s = L := by
  refine ⟨by rw [mget_idx, h]; rfl, ?_⟩
  rw [List.findIdx?_eq_none_iff] at h
  unfold mdel
  rw [List.filter_eq_self]
  intro q hq
  simpa using h q hq

theorem map_eraseIdx {α β : Type} (f : α → β) : ∀ (l : List α) (j : Nat), (l.eraseIdx j).map f = (l.map f).eraseIdx j
  | [], j => by simp
  | a :: l, 0 => rfl
  | a :: l, j + 1 => by simp [map_eraseIdx f l j]
theorem setBlock_mod (w : World) (m : Nat) (o : Obj) : Mod (BSet.one m) w { w with heap := w.heap.setIfInBounds m o } :=
  ⟨rfl, rfl, by simp, fun k _ hk => by rw [Array.getElem?_setIfInBounds, if_neg (fun h => hk h.symm)]⟩

theorem update_run {w : World} {m : Nat} {L : Nm} (s : ByteArray) (id : Nat) (h : MapAt w.heap m L) (hn : (L.map (·.1)).Nodup) :
    ∃ w', (Instr.mapUpdate 102 (.map (some m)) (.string s) (.pointer (some ⟨id, 0, none⟩))).run Tryz.prog w = .ok () w' ∧ MapAt w'.heap m (mput L s id) ∧ Mod (BSet.one m) w w' := by
  obtain ⟨es, clk, h1, h2, h3⟩ := h
  have hm := lt_of_at h1
  have hf := findKey_run s w h3
  cases hi : L.findIdx? (fun p => decide (p.1 = s)) with
  | none =>
    rw [hi] at hf
    simp only [Option.bind_none] at hf
    refine ⟨{ w with heap := w.heap.setIfInBounds m (.map (es.push { key := .string s, val := .pointer (some ⟨id, 0, none⟩), born := clk }) (clk + 1)) }, ?_, ⟨_, _, (heap_set h1).1, ?_, ?_⟩, setBlock_mod _ _ _⟩
    · unfold Instr.mapUpdate
      simp [run_underlying under102, MapKept.run_getObj_map h1, check_str, hf, MapKept.run_setObj_map _ h1, Result.andThen]
    · refine stamped_push h2 ?_
      intro x hx hk
      rw [List.findIdx?_eq_none_iff] at hi
      have : (x.key, x.val) ∈ L.map ent := by rw [← h3]; exact List.mem_map.2 ⟨x, hx, rfl⟩
      obtain ⟨p, hp, he⟩ := List.mem_map.1 this
      simp only [ent, Prod.mk.injEq] at he
      have := hi p hp
      rw [hk] at he
      simp only [Value.string.injEq] at he
      simp [he.1] at this
    · unfold mput
      rw [if_neg (by simp [(miss_idx hi).1])]
      simp [h3]
  | some j =>
    obtain ⟨p, hp, hs⟩ := idx_lt hi
    rw [hi] at hf
    simp only [Option.bind_some, hp, Option.map_some] at hf
    have hlen : es.toList.length = L.length := by have := congrArg List.length h3; simpa using this
    have hjL := (List.getElem?_eq_some_iff.1 hp).1
    obtain ⟨e, he⟩ : ∃ e, es[j]? = some e := ⟨es[j]'(by simp at hlen; omega), by simp⟩
    have hee : (e.key, e.val) = ent p := by
      have h4 : (es.toList.map (fun e => (e.key, e.val)))[j]? = (L.map ent)[j]? := by rw [h3]
      simpa [he, hp] using h4
    have hkey : e.key = .string s := by simp only [ent, Prod.mk.injEq] at hee; rw [hee.1, hs]
    refine ⟨{ w with heap := w.heap.setIfInBounds m (.map (es.modify j fun e => { e with key := .string s, val := .pointer (some ⟨id, 0, none⟩) }) clk) }, ?_, ⟨_, _, (heap_set h1).1, ?_, ?_⟩, setBlock_mod _ _ _⟩
    · unfold Instr.mapUpdate
      simp [run_underlying under102, MapKept.run_getObj_map h1, check_str, hf, MapKept.run_setObj_map _ h1, Result.andThen, he, hkey, run_keyThatStays (d := .string) (k := .string s) trivial]
    · exact stamped_modify h2 _ _ (fun _ _ => rfl) (fun e' _ he' => by rw [he] at he'; cases he'; exact hkey.symm)
    · rw [mput_idx hn hi]
      apply List.ext_getElem?
      intro i
      have h4 : (es.toList.map (fun e => (e.key, e.val)))[i]? = (L.map ent)[i]? := by rw [h3]
      simp only [List.getElem?_map, Array.toList_modify, List.getElem?_modify, List.getElem?_set] at h4 ⊢
      by_cases hij : j = i
      · subst hij
        simp [he, hjL]
      · simp only [hij, if_false]
        simpa using h4

theorem delete_run {w : World} {m : Nat} {L : Nm} (s : ByteArray) (ty : TypeId) (h : MapAt w.heap m L) (hn : (L.map (·.1)).Nodup) :
    ∃ w', (Builtin.delete_ #[102, 9] ty #[.map (some m), .string s]).run Tryz.prog w = .ok (.tuple #[]) w' ∧ MapAt w'.heap m (mdel L s) ∧ Mod (BSet.one m) w w' := by
  obtain ⟨es, clk, h1, h2, h3⟩ := h
  have hm := lt_of_at h1
  have hf := findKey_run s w h3
  cases hi : L.findIdx? (fun p => decide (p.1 = s)) with
  | none =>
    rw [hi] at hf
    simp only [Option.bind_none] at hf
    refine ⟨{ w with heap := w.heap.setIfInBounds m (.map es clk) }, ?_, ⟨_, _, (heap_set h1).1, h2, ?_⟩, setBlock_mod _ _ _⟩
    · unfold Builtin.delete_
      simp [run_underlying under102, MapKept.run_getObj_map h1, check_str, hf, MapKept.run_setObj_map _ h1, Result.andThen]
    · rw [(miss_idx hi).2, h3]
  | some j =>
    obtain ⟨p, hp, hs⟩ := idx_lt hi
    rw [hi] at hf
    simp only [Option.bind_some, hp, Option.map_some] at hf
    refine ⟨{ w with heap := w.heap.setIfInBounds m (.map (es.eraseIdxIfInBounds j) clk) }, ?_, ⟨_, _, (heap_set h1).1, stamped_erase h2 j, ?_⟩, setBlock_mod _ _ _⟩
    · unfold Builtin.delete_
      simp [run_underlying under102, MapKept.run_getObj_map h1, check_str, hf, MapKept.run_setObj_map _ h1, Result.andThen]
    · rw [mdel_idx hn hi]
      have hlen : es.size = L.length := by have := congrArg List.length h3; simpa using this
      have hjL := (List.getElem?_eq_some_iff.1 hp).1
      unfold Array.eraseIdxIfInBounds
      rw [dif_pos (by omega), Array.toList_eraseIdx, map_eraseIdx, h3, map_eraseIdx]
end Go.Proofs.YthogefmngddnbaaGreatDoor
/- The folder's methods: ready, get, step. -/
namespace Go.Proofs.YthogefmngddnbaaGreatDoor
open Go.RowKit Go.MapKept

theorem ent178 : Enters 178 := fun _ _ => by kernel_rfl

structure FCells (w : World) (b m1 m2 : Nat) (sv : Value) (f : Fs) : Prop where
  c0 : w.cell? ⟨b, 0, none⟩ = some (.map (some m1))
  c1 : w.cell? ⟨b, 1, none⟩ = some (.map (some m2))
  c2 : w.cell? ⟨b, 2, none⟩ = some sv
  c3 : w.cell? ⟨b, 3, none⟩ = some (.int .i64 f.room)
  c4 : w.cell? ⟨b, 4, none⟩ = some (.bool f.on)
  c5 : w.cell? ⟨b, 5, none⟩ = some (.bool f.armed)
  c6 : w.cell? ⟨b, 6, none⟩ = some (.int .i64 f.steps)
theorem fcells {w : World} {b m1 m2 : Nat} {sv : Value} {f : Fs} (h : w.heap[b]? = some (.cells #[.map (some m1), .map (some m2), sv, .int .i64 f.room, .bool f.on, .bool f.armed, .int .i64 f.steps] 106 (0, 0))) : FCells w b m1 m2 sv f :=
  ⟨cell_of_at h 0, cell_of_at h 1, cell_of_at h 2, cell_of_at h 3, cell_of_at h 4, cell_of_at h 5, cell_of_at h 6⟩

def readyOf (f : Fs) (xs : List ByteArray) : Int := if f.on then (if xs.all okName then 0 else 1) else 14

set_option maxHeartbeats 400000 in
theorem ready_any (b : Nat) (f : Fs) (F : BSet) (v : Value) (xs : List ByteArray) (w : World) (hr : FsRep w.heap b f F) (hv : SlAt w.heap v (strs xs)) (hsz : ∀ s, s ∈ xs → s.size ≤ maxLen) :
    Calls Tryz.prog 128 #[.pointer (some ⟨b, 0, none⟩), v] w fun e w' => e = .returned (.int .i64 (readyOf f xs)) ∧ Mod BSet.none w w' := by
  obtain ⟨m1, m2, sv, vs, hb, -⟩ := hr.ex
  have h4 := (fcells hb).c4
  have hE := Lib.hid ent178
  have hp : StrPred 178 #[] (fun s => !okName s) xs w := fun s hs w1 _ => (readyf_any s w1 (hsz s hs)).mono fun e w2 ⟨h1, h2⟩ => ⟨h1, by rw [h2]; exact Mod.refl _ _⟩
  have hP := Lib.hid hp
  have hV := Lib.hid hv
  have hany : xs.any (fun s => !okName s) = !xs.all okName := by rw [← List.not_all_eq_any_not]
  have hA := Lib.hid hany
  clear hr hsz hp hb hany hv
  cases hon : f.on with
  | false =>
    have ho := Lib.hid hon
    rw [hon] at h4
    go_enter Tryz.func128, Tryz.ntmps128
    go_wp2
    go_ret
    exact ⟨ret_int (by unfold readyOf; rw [ho.out]; rfl), Mod.refl _ _⟩
  | true =>
    have ho := Lib.hid hon
    rw [hon] at h4
    clear hon
    cases hx : xs.all okName with
    | true =>
      have hx' := Lib.hid hx
      clear hx
      go_enter Tryz.func128, Tryz.ntmps128
      go_wp2_with (go_at_call 111; refine (containsFunc_str 178 #[] (fun s => !okName s) v xs _ hV.out hE.out hP.out).mono ?_; rintro e w1 ⟨rfl, hm⟩; rw [hA.out, hx'.out])
      go_ret
      exact ⟨ret_int (by unfold readyOf; rw [ho.out, hx'.out]; rfl), hm⟩
    | false =>
      have hx' := Lib.hid hx
      clear hx
      go_enter Tryz.func128, Tryz.ntmps128
      go_wp2_with (go_at_call 111; refine (containsFunc_str 178 #[] (fun s => !okName s) v xs _ hV.out hE.out hP.out).mono ?_; rintro e w1 ⟨rfl, hm⟩; rw [hA.out, hx'.out])
      go_ret
      exact ⟨ret_int (by unfold readyOf; rw [ho.out, hx'.out]; rfl), hm⟩

theorem slAt_nil (h : Array Obj) (c : Nat) : SlAt h (.slice none 0 c) [] := ⟨none, c, rfl, by simp, fun h => absurd rfl h⟩
theorem slAt_one {h : Array Obj} {b : Nat} {x : Value} {t : TypeId} {fr : Nat × Nat} (hb : h[b]? = some (.cells #[x] t fr)) (c : Nat) : SlAt h (.slice (some ⟨b, 0, none⟩) 1 c) [x] :=
  ⟨some ⟨b, 0, none⟩, c, rfl, by simp [maxLen], fun _ => ⟨b, 0, _, _, _, rfl, hb, fun i hi => by simp at hi; subst hi; rfl⟩⟩

theorem ready1_eq (f : Fs) (name : ByteArray) : readyOf f [name] = f.ready1 name := by simp [readyOf, Fs.ready1]

theorem MapAt.mod {w w' : World} {F : BSet} {m : Nat} {L : Nm} (h : MapAt w.heap m L) (hm : Mod F w w') (hF : ¬ F m) : MapAt w'.heap m L := by
  obtain ⟨es, clk, h1, h2⟩ := h; exact ⟨es, clk, hm.at h1 hF, h2⟩
theorem get_bad {f : Fs} {name : ByteArray} (h : f.ready1 name ≠ 0) : f.get name = (none, f.ready1 name) := by unfold Fs.get; rw [if_pos h]
theorem get_some {f : Fs} {name : ByteArray} {id : Nat} (h : f.ready1 name = 0) (hg : mget f.now name = some id) : f.get name = (some id, 0) := by unfold Fs.get; rw [if_neg (by simp [h]), hg]
theorem get_none {f : Fs} {name : ByteArray} (h : f.ready1 name = 0) (hg : mget f.now name = none) : f.get name = (none, 12) := by unfold Fs.get; rw [if_neg (by simp [h]), hg]
theorem ready1_cases (f : Fs) (name : ByteArray) : f.ready1 name = 0 ∨ f.ready1 name = 1 ∨ f.ready1 name = 14 := by unfold Fs.ready1; split <;> (try split) <;> simp

def GetP (f : Fs) (name : ByteArray) (w : World) (e : Ending) (w' : World) : Prop :=
  e = .returned (.tuple #[.pointer ((f.get name).1.map fun i => ⟨i, 0, none⟩), .int .i64 (f.get name).2]) ∧ Mod BSet.none w w'

set_option maxHeartbeats 400000 in
theorem get_any (b : Nat) (f : Fs) (F : BSet) (name : ByteArray) (w : World) (hr : FsRep w.heap b f F) (hsz : name.size ≤ maxLen) :
    Calls Tryz.prog 75 #[.pointer (some ⟨b, 0, none⟩), .string name] w (GetP f name w) := by
  obtain ⟨m1, m2, sv, vs, hb, F1, F2, hne, hm1, -⟩ := hr.ex
  have hR := Lib.hid hr
  have hB := Lib.hid hb
  have hM := Lib.hid hm1
  have hone := Lib.hid (ready1_eq f name)
  have base : ∀ w1, Mod BSet.none (w.alloc (.cells #[.string name] 9)) w1 → Mod BSet.none w w1 := fun w1 hm => ((Mod.refl BSet.none w).alloc _).trans hm (fun _ _ h => h)
  clear hb hm1 hr
  by_cases h0 : f.ready1 name = 0
  · have h0' := Lib.hid h0
    clear h0
    cases hg : mget f.now name with
    | none =>
      have hg' := Lib.hid hg
      clear hg
      go_enter Tryz.func75, Tryz.ntmps75
      go_wp2_with fail
      refine (ready_any b f F _ [name] _ (hR.out.mod0 ((Mod.refl _ _).alloc _)) (slAt_one (by exact at_new) 1) (by simpa using hsz)).mono ?_
      rintro e w1 ⟨rfl, hm⟩
      rw [hone.out, h0'.out]
      have c0 := (fcells (hm.at (at_alloc hB.out) (fun h => h))).c0
      have hl := lookup_run name (hM.out.mod (base w1 hm) (fun h => h))
      rw [hg'.out] at hl
      have hmm := base w1 hm
      simp only [Option.map_none, Option.isSome_none] at hl
      go_wp2
      go_ret2
      exact ⟨by rw [get_none h0'.out hg'.out]; rfl, hmm⟩
    | some id =>
      have hg' := Lib.hid hg
      clear hg
      go_enter Tryz.func75, Tryz.ntmps75
      go_wp2_with fail
      refine (ready_any b f F _ [name] _ (hR.out.mod0 ((Mod.refl _ _).alloc _)) (slAt_one (by exact at_new) 1) (by simpa using hsz)).mono ?_
      rintro e w1 ⟨rfl, hm⟩
      rw [hone.out, h0'.out]
      have c0 := (fcells (hm.at (at_alloc hB.out) (fun h => h))).c0
      have hl := lookup_run name (hM.out.mod (base w1 hm) (fun h => h))
      rw [hg'.out] at hl
      have hmm := base w1 hm
      simp only [Option.map_some, Option.isSome_some] at hl
      go_wp2
      go_ret2
      exact ⟨by rw [get_some h0'.out hg'.out]; rfl, hmm⟩
  · have h0' := Lib.hid h0
    clear h0
    obtain ⟨r, hr, hr0⟩ : ∃ r : Int, f.ready1 name = r ∧ (r == 0) = false := ⟨_, rfl, beq_eq_false_iff_ne.2 h0'.out⟩
    have hr' := Lib.hid hr
    have hr1 : (r != 0) = true := by rw [bne, hr0]; rfl
    clear hr
    go_enter Tryz.func75, Tryz.ntmps75
    go_wp2_with fail
    refine (ready_any b f F _ [name] _ (hR.out.mod0 ((Mod.refl _ _).alloc _)) (slAt_one (by exact at_new) 1) (by simpa using hsz)).mono ?_
    rintro e w1 ⟨rfl, hm⟩
    rw [hone.out, hr'.out]
    have hmm := base w1 hm
    go_wp2
    go_ret2
    exact ⟨by rw [get_bad h0'.out, hr'.out]; rfl, hmm⟩
end Go.Proofs.YthogefmngddnbaaGreatDoor
/- The folder's methods: step, a change of names, happens. -/
namespace Go.Proofs.YthogefmngddnbaaGreatDoor
open Go.RowKit Go.MapKept

theorem FsRep.weaken {h : Array Obj} {b : Nat} {f : Fs} {F G : BSet} (r : FsRep h b f F) (hG : ∀ k, F k → G k) (hl : ∀ k, G k → k < h.size) : FsRep h b f G := by
  obtain ⟨m1, m2, sv, vs, h1, f1, f2, hne, hm1, hm2, ho, hc⟩ := r.ex
  exact ⟨hl, hG _ r.own, ⟨m1, m2, sv, vs, h1, hG _ f1, hG _ f2, hne, hm1, hm2, ho.keep (fun _ _ => rfl) hG, hc.keep (fun _ _ => rfl) hG⟩, fun id hid => ⟨hG _ (r.files id hid).1, (r.files id hid).2⟩, r.wf⟩
theorem FsRep.grow {w w' : World} {b : Nat} {f : Fs} {F : BSet} (r : FsRep w.heap b f F) (hm : Mod BSet.none w w') : FsRep w'.heap b f (grow F w w') :=
  (r.mod0 hm).weaken (fun _ h => .inl h) (fun k h => by rcases h with h | h; exact Nat.lt_of_lt_of_le (r.lt k h) hm.size; exact h.2)
def fsObj (m1 m2 : Nat) (sv : Value) (f : Fs) : Obj := .cells #[.map (some m1), .map (some m2), sv, .int .i64 f.room, .bool f.on, .bool f.armed, .int .i64 f.steps] 106 (0, 0)

theorem step_off {f : Fs} (h : f.armed = false) : f.step = (f, 0) := by unfold Fs.step; rw [h]; rfl
theorem step_on {f : Fs} (h : f.armed = true) (hs : 0 < f.steps) : f.step = ({ f with steps := f.steps - 1 }, 0) := by unfold Fs.step; rw [h]; simp [hs]
theorem step_out {f : Fs} (h : f.armed = true) (hs : ¬ 0 < f.steps) : f.step = ({ f with on := false }, 14) := by unfold Fs.step; rw [h]; simp [hs]

def StepP (b m1 m2 : Nat) (sv : Value) (f : Fs) (w : World) (e : Ending) (w' : World) : Prop :=
  e = .returned (.int .i64 f.step.2) ∧ w'.heap[b]? = some (fsObj m1 m2 sv f.step.1) ∧ Mod (BSet.one b) w w'
set_option maxHeartbeats 400000 in
theorem step_any (b m1 m2 : Nat) (sv : Value) (f : Fs) (w : World) (hb : w.heap[b]? = some (fsObj m1 m2 sv f)) (h0 : 0 ≤ f.steps) (h1 : f.steps ≤ 9223372036854775807) :
    Calls Tryz.prog 117 #[.pointer (some ⟨b, 0, none⟩)] w (StepP b m1 m2 sv f w) := by
  have c4 := (fcells hb).c4
  have c5 := (fcells hb).c5
  have c6 := (fcells hb).c6
  have f4 : w.frozen? ⟨b, 4, none⟩ = false := free_of_at hb 4
  have f6 : w.frozen? ⟨b, 6, none⟩ = false := free_of_at hb 6
  have hB := Lib.hid hb
  clear hb
  cases ha : f.armed with
  | false =>
    rw [ha] at c5
    have ha' := Lib.hid ha
    clear ha
    go_enter Tryz.func117, Tryz.ntmps117
    go_wp2
    go_ret
    exact ⟨by rw [step_off ha'.out]; rfl, by rw [step_off ha'.out]; exact hB.out, Mod.refl _ _⟩
  | true =>
    rw [ha] at c5
    have ha' := Lib.hid ha
    clear ha
    by_cases hs : 0 < f.steps
    · have hs' := Lib.hid hs
      go_enter Tryz.func117, Tryz.ntmps117
      go_wp2
      go_ret
      exact ⟨by rw [step_on ha'.out hs'.out]; rfl, by rw [step_on ha'.out hs'.out]; exact at_setCell_same hB.out, mod_one _ _ _ _⟩
    · have hs' := Lib.hid hs
      go_enter Tryz.func117, Tryz.ntmps117
      go_wp2
      go_ret
      exact ⟨by rw [step_out ha'.out (by have := hs'.out; omega)]; rfl, by rw [step_out ha'.out (by have := hs'.out; omega)]; exact at_setCell_same hB.out, mod_one _ _ _ _⟩

theorem MapAt.stay {h h' : Array Obj} {m t : Nat} {L : Nm} (hx : MapAt h m L) (hs : Stay t h h') (ht : 999 ≠ t) : MapAt h' m L := by
  obtain ⟨es, clk, h1, h2⟩ := hx; exact ⟨es, clk, hs _ _ h1 ht, h2⟩
theorem ClosAt.stay {h h' : Array Obj} {F : BSet} {t : Nat} {v : Value} {op : FOp} (hx : ClosAt h F v op) (hs : Stay t h h') (h1 : 112 ≠ t) (h2 : 9 ≠ t) : ClosAt h' F v op := by
  cases op with
  | create name id => obtain ⟨bx, bn, e, f1, f2, g1, g2, h3⟩ := hx; exact ⟨bx, bn, e, f1, f2, hs _ _ g1 h1, hs _ _ g2 h2, h3⟩
  | delete name => obtain ⟨bn, e, f1, g1, h3⟩ := hx; exact ⟨bn, e, f1, hs _ _ g1 h2, h3⟩
theorem ClosAll.stay {h h' : Array Obj} {F : BSet} {t : Nat} {vs : List Value} {ops : List FOp} (hx : ClosAll h F vs ops) (hs : Stay t h h') (h1 : 112 ≠ t) (h2 : 9 ≠ t) : ClosAll h' F vs ops :=
  ⟨hx.1, fun i v op a b => (hx.2 i v op a b).stay hs h1 h2⟩
theorem ClosAll.snoc {h : Array Obj} {F : BSet} {vs : List Value} {ops : List FOp} {v : Value} {op : FOp} (hx : ClosAll h F vs ops) (hv : ClosAt h F v op) : ClosAll h F (vs ++ [v]) (ops ++ [op]) := by
  refine ⟨by simp [hx.1], fun i u p hu hp => ?_⟩
  rcases Nat.lt_trichotomy i vs.length with hi | hi | hi
  · rw [List.getElem?_append_left hi] at hu
    rw [List.getElem?_append_left (by rw [← hx.1]; exact hi)] at hp
    exact hx.2 i u p hu hp
  · subst hi
    rw [List.getElem?_append_right (Nat.le_refl _)] at hu
    rw [hx.1, List.getElem?_append_right (Nat.le_refl _)] at hp
    simp at hu hp
    subst hu; subst hp
    exact hv
  · rw [List.getElem?_eq_none (by simp; omega)] at hu; cases hu
theorem FileAt.stay {h h' : Array Obj} {t id : Nat} {x : Fl} (hx : FileAt h id x) (hs : Stay t h h') (ht : 119 ≠ t) : FileAt h' id x := hs _ _ hx ht

/-- a change of names, called on a map -/
def ChangeP (m : Nat) (L : Nm) (w : World) (e : Ending) (w' : World) : Prop := e = .returned (.tuple #[]) ∧ MapAt w'.heap m L ∧ Mod (BSet.one m) w w'
set_option maxHeartbeats 400000 in
theorem change_any {h : Array Obj} {F : BSet} {v : Value} {op : FOp} (hc : ClosAt h F v op) :
    ∃ k caps, v = .func (.func k) #[] caps ∧ Enters k ∧ ∀ (w : World) (m : Nat) (L : Nm), ClosAt w.heap F v op → MapAt w.heap m L → (L.map (·.1)).Nodup → Calls Tryz.prog k (#[.map (some m)] ++ caps) w (ChangeP m (op.app L) w) := by
  cases op with
  | create name id =>
    obtain ⟨bx, bn, rfl, -⟩ := hc
    refine ⟨174, _, rfl, fun _ _ => by kernel_rfl, fun w m L hc hm hn => ?_⟩
    obtain ⟨bx', bn', he, _, _, h1, h2, h3⟩ := hc
    simp at he
    obtain ⟨rfl, rfl⟩ := he
    obtain ⟨w1, hu, hM, hmod⟩ := update_run name id hm hn
    have hM := Lib.hid hM
    have x0 := cell_of_at h1 0
    have n0 := cell_of_at h2 0
    simp at x0 n0
    clear h1 h2 hm hn
    go_enter Tryz.func174, Tryz.ntmps174
    go_wp2
    go_end0
    exact ⟨rfl, hM.out, hmod⟩
  | delete name =>
    obtain ⟨bn, rfl, -⟩ := hc
    refine ⟨151, _, rfl, fun _ _ => by kernel_rfl, fun w m L hc hm hn => ?_⟩
    obtain ⟨bn', he, _, h2, h3⟩ := hc
    simp at he
    subst he
    obtain ⟨w1, hu, hM, hmod⟩ := delete_run name 0 hm hn
    have hM := Lib.hid hM
    have n0 := cell_of_at h2 0
    simp at n0
    clear h2 hm hn
    go_enter Tryz.func151, Tryz.ntmps151
    go_wp2
    go_end0
    exact ⟨rfl, hM.out, hmod⟩

theorem under104 : Tryz.prog.underlying 104 = some (.slice 113) := by kernel_rfl
theorem info113 : (Tryz.prog.info? 113).map (fun i => (i.zero, i.size, i.bytes)) = some (some .nilFunc, 1, 8) := by kernel_rfl

theorem ids_happens {f : Fs} {op : FOp} {id : Nat} (h : id ∈ (f.happens op).1.ids) (hw : f.now = Fs.hist f.firm f.since) : id ∈ f.ids ∨ ∃ n, op = .create n id := by
  have hfi : f.step.1.firm = f.firm ∧ f.step.1.cont = f.cont := by unfold Fs.step; split <;> (try split) <;> exact ⟨rfl, rfl⟩
  simp only [Fs.ids, Fs.happens, List.mem_append, List.mem_map, List.mem_filterMap, hfi.1] at h ⊢
  rcases h with (⟨p, hp, rfl⟩ | h) | ⟨q, hq, h⟩
  · rcases mem_app hp with hp | ⟨n, id, rfl, rfl⟩
    · exact .inl (.inl (.inl ⟨p, hp, rfl⟩))
    · exact .inr ⟨n, rfl⟩
  · exact .inl (.inl (.inr h))
  · rcases hq with hq | hq
    · exact .inl (.inr ⟨q, hq, h⟩)
    · simp at hq
      subst hq
      cases q with
      | create n i => simp at h; subst h; exact .inr ⟨n, rfl⟩
      | delete n => simp at h
theorem step_same (f : Fs) : f.step.1.firm = f.firm ∧ f.step.1.cont = f.cont ∧ f.step.1.room = f.room ∧ f.step.1.now = f.now ∧ f.step.1.since = f.since ∧ f.step.1.armed = f.armed := by
  unfold Fs.step; split <;> (try split) <;> exact ⟨rfl, rfl, rfl, rfl, rfl, rfl⟩

def HapP (b : Nat) (F : BSet) (f : Fs) (op : FOp) (w : World) (e : Ending) (w' : World) : Prop :=
  e = .returned (.int .i64 (f.happens op).2) ∧ FsRep w'.heap b (f.happens op).1 (grow F w w') ∧ Mod F w w'
set_option maxHeartbeats 400000 in
theorem happens_any (b : Nat) (F : BSet) (f : Fs) (op : FOp) (v : Value) (w : World) (hr : FsRep w.heap b f F) (hc : ClosAt w.heap F v op)
    (hid : ∀ n id, op = .create n id → F id ∧ FileAt w.heap id (f.cont id)) (hwf : (f.happens op).1.Wf) (hlen : f.since.length ≤ 1073741824) :
    Calls Tryz.prog 150 #[.pointer (some ⟨b, 0, none⟩), v] w (HapP b F f op w) := by
  obtain ⟨m1, m2, sv, vs, hb, f1, f2, hne, hm1, hm2, ho, hcl⟩ := hr.ex
  have hR := Lib.hid hr
  have hB := Lib.hid hb
  have hs0 := hr.wf.steps0
  have hs1 := hr.wf.steps1
  obtain ⟨i0, hi, hz0, hz1, hz2⟩ := info_parts info113
  obtain ⟨k, caps, rfl, hE, hcalls⟩ := change_any hc
  have hE' : ∀ args w, (callFunc k args).run Tryz.prog w = .ok (.enter k args) w := hE
  have hC := Lib.hid hcalls
  have hID := Lib.hid hid
  have hnd := Lib.hid hr.wf.nodup
  have HCl := Lib.hid hcl
  have HC := Lib.hid hc
  have Hm2 := Lib.hid hm2
  have HL := Lib.hid hlen
  have HW := Lib.hid hwf
  clear hr hb hE hcalls hid hcl hc hm2 hlen hwf
  go_enter Tryz.func150, Tryz.ntmps150
  go_wp2_with fail
  refine (step_any b m1 m2 sv f _ (by exact hB.out) (by exact hs0) (by exact hs1)).mono ?_
  rintro e w1 ⟨rfl, hb1, hmod1⟩
  have st1 := Lib.hid (hmod1.stay (by exact hB.out) 106 rfl)
  have HM1 := Lib.hid (hm1.stay st1.out (by decide))
  have d0 := (fcells hb1).c0
  have HB1 := Lib.hid hb1
  have H1 := Lib.hid hmod1
  clear hb1 hmod1
  go_wp2_with fail
  refine (hC.out _ m1 f.now (HC.out.stay st1.out (by decide) (by decide)) HM1.out hnd.out).mono ?_
  rintro e w2 ⟨rfl, hM2, hmod2⟩
  have st2 : Stay 999 w1.heap w2.heap := by
    obtain ⟨es, clk, hm, _⟩ := HM1.out
    exact hmod2.stay hm 999 rfl
  have HB2 := Lib.hid (st2 _ _ HB1.out (show 106 ≠ 999 by decide))
  have d2 := (fcells HB2.out).c2
  have e2 : w2.frozen? ⟨b, 2, none⟩ = false := free_of_at HB2.out 2
  have HO := Lib.hid ((ho.stay st1.out (by decide)).stay st2 (by decide))
  have hb2 : b < w2.heap.size := lt_of_at HB2.out
  have St2 := Lib.hid st2
  have H2 := Lib.hid hmod2
  have HM2 := Lib.hid hM2
  clear ho hm1 st2 hmod2 hM2
  go_wp2_with (at_builtin; refine wpList_append_F _ F rfl _ _ 104 rfl 113 i0 .nilFunc 1 8 under104 hi hz0 hz1 hz2 rfl (by decide) sv f.since.length vs rfl (HO.out.stay (t := 0) (stay_alloc _ _ _) (by decide)) ⟨w2.heap.size, 0, none⟩ 1 1 [.func (.func k) #[] caps] rfl rfl ?c1 ?c2 ?c3 ?c4 ?_)
  case c1 => exact cell_one_new _ _ _
  case c2 => intro u hu; simp at hu; subst hu; rfl
  case c3 => have := HL.out; unfold maxLen; omega
  case c4 => have := HL.out; omega
  intro v' w3 hown3 hgrow st3
  obtain ⟨g, cap, rfl⟩ : ∃ g cap, v' = .slice (some ⟨g, 0, none⟩) (f.since.length + 1) cap := hown3.form
  have HB3 := Lib.hid (st3 _ _ (at_alloc HB2.out) (show 106 ≠ 113 by decide))
  have e3 : w3.frozen? ⟨b, 2, none⟩ = false := free_of_at HB3.out 2
  have d3 := (fcells HB3.out).c2
  have G := Lib.hid hgrow
  have S3 := Lib.hid st3
  have O3 := Lib.hid hown3
  clear hgrow st3 hown3 d2 e2
  go_wp2
  go_ret
  have hsz : w.heap.size ≤ w2.heap.size := Nat.le_trans H1.out.size H2.out.size
  have hsz3 : w2.heap.size + 1 ≤ w3.heap.size := by have := G.out.size; simpa using this
  have hmod3 : Mod F w w3 := (((H1.out.mono (G := F) (fun j _ hj => by rw [show j = b from hj]; exact hR.out.own)).trans H2.out (fun j _ hj => by rw [show j = m1 from hj]; exact f1)).alloc _).trans G.out (fun _ _ h => h)
  refine ⟨rfl, ?_, hmod3.setCell (.inl (show F b from hR.out.own)) _⟩
  obtain ⟨m1', m2', sv', vs', hb', f1', f2', hne', hm1', hm2', ho', hcl'⟩ := hR.out.ex
  have late : ∀ (j : Nat) (o : Obj), w2.heap[j]? = some o → tyOf o ≠ 106 → tyOf o ≠ 113 → (w3.setCell ⟨b, 2, none⟩ (.slice (some ⟨g, 0, none⟩) (f.since.length + 1) cap)).heap[j]? = some o := fun j o hk h1 h3 =>
    stay_set HB3.out _ _ (S3.out _ _ (at_alloc hk) h3) h1
  have hstay : ∀ (j : Nat) (o : Obj), w.heap[j]? = some o → tyOf o ≠ 106 → tyOf o ≠ 999 → tyOf o ≠ 113 → (w3.setCell ⟨b, 2, none⟩ (.slice (some ⟨g, 0, none⟩) (f.since.length + 1) cap)).heap[j]? = some o := fun j o hk h1 h2 h3 =>
    late j o (St2.out _ _ (st1.out _ _ hk h1) h2) h1 h3
  obtain ⟨q1, q2, q3, q4, q5, q6⟩ := step_same f
  have hsize : (w3.setCell ⟨b, 2, none⟩ (.slice (some ⟨g, 0, none⟩) (f.since.length + 1) cap)).heap.size = w3.heap.size := by simp [World.setCell]
  have hg : ∀ j, F j → grow F w (w3.setCell ⟨b, 2, none⟩ (.slice (some ⟨g, 0, none⟩) (f.since.length + 1) cap)) j := fun _ h => .inl h
  have clos : ∀ (u : Value) (p : FOp), ClosAt w.heap F u p → ClosAt (w3.setCell ⟨b, 2, none⟩ (.slice (some ⟨g, 0, none⟩) (f.since.length + 1) cap)).heap F u p := fun u p hu =>
    ((((hu.stay st1.out (by decide) (by decide)).stay St2.out (by decide) (by decide)).stay (stay_alloc 113 _ _) (by decide) (by decide)).stay S3.out (by decide) (by decide)).stay (stay_set HB3.out) (by decide) (by decide)
  refine ⟨fun i hi => ?_, .inl hR.out.own, ⟨m1, m2, .slice (some ⟨g, 0, none⟩) (f.since.length + 1) cap, vs ++ [.func (.func k) #[] caps], ?_, .inl f1, .inl f2, hne, ?_, ?_, ?_, ?_⟩, ?_, HW.out⟩
  · rw [hsize]
    rcases hi with hi | hi
    · have := hR.out.lt i hi; omega
    · rw [hsize] at hi; exact hi.2
  · rw [at_setCell_same HB3.out]
    simp [Fs.happens]
  · obtain ⟨es, clk, h1, h2⟩ := HM2.out
    exact ⟨es, clk, late _ _ h1 (show 999 ≠ 106 by decide) (show 999 ≠ 113 by decide), h2⟩
  · obtain ⟨es, clk, h1, h2⟩ := Hm2.out
    have h3 := H2.out.at (st1.out _ _ h1 (show 999 ≠ 106 by decide)) (fun h => hne (show m1 = m2 from h.symm))
    refine ⟨es, clk, late _ _ h3 (show 999 ≠ 106 by decide) (show 999 ≠ 113 by decide), ?_⟩
    simp only [Fs.happens, q1]; exact h2
  · have hl : (f.happens op).1.since.length = f.since.length + 1 := by simp [Fs.happens]
    rw [hl]
    refine (O3.out.weaken (fun j hj => ?_)).stay (stay_set HB3.out) (by decide)
    rcases hj with hj | hj
    · exact .inl hj
    · refine .inr ⟨?_, ?_⟩
      · have := hj.1; simp at this; omega
      · rw [hsize]; exact hj.2
  · have hall : ClosAll (w3.setCell ⟨b, 2, none⟩ (.slice (some ⟨g, 0, none⟩) (f.since.length + 1) cap)).heap F vs f.since := ⟨HCl.out.1, fun i u p h1 h2 => clos u p (HCl.out.2 i u p h1 h2)⟩
    exact (hall.snoc (clos _ _ HC.out)).keep (fun _ _ => rfl) hg
  · intro id hid
    rw [show (f.happens op).1.cont = f.cont from q2]
    rcases ids_happens hid hR.out.wf.now with hid | ⟨n, rfl⟩
    · obtain ⟨h1, h2⟩ := hR.out.files id hid
      exact ⟨.inl h1, hstay _ _ h2 (show 119 ≠ 106 by decide) (show 119 ≠ 999 by decide) (show 119 ≠ 113 by decide)⟩
    · obtain ⟨h1, h2⟩ := hID.out n id rfl
      exact ⟨.inl h1, hstay _ _ h2 (show 119 ≠ 106 by decide) (show 119 ≠ 999 by decide) (show 119 ≠ 113 by decide)⟩
end Go.Proofs.YthogefmngddnbaaGreatDoor
/- What holds of a folder is kept by all that is done to it. -/
namespace Go.Proofs.YthogefmngddnbaaGreatDoor
namespace Fs

theorem step_fields (f : Fs) : f.step.1.firm = f.firm ∧ f.step.1.cont = f.cont ∧ f.step.1.room = f.room ∧ f.step.1.now = f.now ∧ f.step.1.since = f.since ∧ f.step.1.armed = f.armed := by
  unfold Fs.step; split <;> (try split) <;> exact ⟨rfl, rfl, rfl, rfl, rfl, rfl⟩
theorem step_steps {f : Fs} (h0 : 0 ≤ f.steps) (h1 : f.steps ≤ 9223372036854775807) : 0 ≤ f.step.1.steps ∧ f.step.1.steps ≤ 9223372036854775807 := by
  unfold Fs.step; split
  · split
    · exact ⟨by show 0 ≤ f.steps - 1; omega, by show f.steps - 1 ≤ _; omega⟩
    · exact ⟨h0, h1⟩
  · exact ⟨h0, h1⟩
theorem step_ids (f : Fs) : f.step.1.ids = f.ids := by
  obtain ⟨h1, h2, h3, h4, h5, h6⟩ := step_fields f
  unfold ids; rw [h1, h4, h5]
theorem Wf.step {f : Fs} (h : f.Wf) : f.step.1.Wf := by
  obtain ⟨h1, h2, h3, h4, h5, h6⟩ := step_fields f
  have := step_steps h.steps0 h.steps1
  exact ⟨by rw [h3]; exact h.room0, by rw [h3]; exact h.room1, this.1, this.2, by rw [h4, h1, h5]; exact h.now, by rw [h1, h5]; exact h.many, by rw [h1]; exact h.firmNodup, by rw [h1]; exact h.firmNames,
    by rw [h5]; exact h.sinceNames, by rw [step_ids, h2]; exact h.size⟩
theorem mget_ids {f : Fs} {n : ByteArray} {id : Nat} (h : mget f.now n = some id) : id ∈ f.ids := by
  unfold ids
  simp only [List.mem_append, List.mem_map]
  exact .inl (.inl ⟨_, mget_mem h, rfl⟩)
theorem take_snoc_cases {α : Type} (l : List α) (a : α) (i : Nat) : (l ++ [a]).take i = l.take i ∨ (l ++ [a]).take i = l ++ [a] := by
  by_cases h : i ≤ l.length
  · left; rw [List.take_append_of_le_length h]
  · right; rw [List.take_of_length_le (by simp; omega)]
theorem length_mput_new {L : Nm} {k : ByteArray} {v : Nat} (h : mget L k = none) : (mput L k v).length = L.length + 1 := by
  unfold mput; rw [h]; simp
theorem length_mdel (L : Nm) (k : ByteArray) : (mdel L k).length ≤ L.length := List.length_filter_le _ _

theorem Wf.happens {f : Fs} (h : f.Wf) (op : FOp) (hl : (op.app f.now).length ≤ 64) (hn : ∀ n id, op = .create n id → okName n = true ∧ (f.cont id).bytes.size ≤ 1099511627776 ∧ (f.cont id).synced ≤ (f.cont id).bytes.size) : (f.happens op).1.Wf := by
  obtain ⟨h1, h2, h3, h4, h5, h6⟩ := step_fields f
  have hs := step_steps h.steps0 h.steps1
  refine ⟨by show 0 ≤ f.step.1.room; rw [h3]; exact h.room0, by show f.step.1.room ≤ _; rw [h3]; exact h.room1, hs.1, hs.2, ?_, ?_, ?_, ?_, ?_, ?_⟩
  · show op.app f.now = hist f.step.1.firm (f.since ++ [op])
    rw [h1, hist_snoc, ← h.now]
  · intro i
    show (hist f.step.1.firm ((f.since ++ [op]).take i)).length ≤ 64
    rw [h1]
    rcases take_snoc_cases f.since op i with e | e
    · rw [e]; exact h.many i
    · rw [e, hist_snoc, ← h.now]; exact hl
  · show (f.step.1.firm.map (·.1)).Nodup; rw [h1]; exact h.firmNodup
  · show ∀ p, p ∈ f.step.1.firm → _; rw [h1]; exact h.firmNames
  · intro n id hm
    rcases List.mem_append.1 hm with hm | hm
    · exact h.sinceNames n id hm
    · simp at hm; exact (hn n id hm.symm).1
  · intro id hid
    show (f.step.1.cont id).bytes.size ≤ _ ∧ (f.step.1.cont id).synced ≤ (f.step.1.cont id).bytes.size
    rw [h2]
    have : id ∈ f.ids ∨ ∃ n, op = .create n id := by
      simp only [Fs.ids, Fs.happens, List.mem_append, List.mem_map, List.mem_filterMap, h1] at hid ⊢
      rcases hid with (⟨p, hp, rfl⟩ | hid) | ⟨q, hq, hid⟩
      · rcases mem_app hp with hp | ⟨n, id, rfl, rfl⟩
        · exact .inl (.inl (.inl ⟨p, hp, rfl⟩))
        · exact .inr ⟨n, rfl⟩
      · exact .inl (.inl (.inr hid))
      · rcases hq with hq | hq
        · exact .inl (.inr ⟨q, hq, hid⟩)
        · simp at hq
          subst hq
          cases q with
          | create n i => simp at hid; subst hid; exact .inr ⟨n, rfl⟩
          | delete n => simp at hid
    rcases this with hid | ⟨n, rfl⟩
    · exact h.size id hid
    · exact (hn n id rfl).2

theorem Wf.cont {f : Fs} (h : f.Wf) (id : Nat) (x : Fl) (hx : x.bytes.size ≤ 1099511627776 ∧ x.synced ≤ x.bytes.size) : ({ f with cont := upd f.cont id x } : Fs).Wf :=
  ⟨h.room0, h.room1, h.steps0, h.steps1, h.now, h.many, h.firmNodup, h.firmNames, h.sinceNames, fun j hj => by
    show (upd f.cont id x j).bytes.size ≤ _ ∧ (upd f.cont id x j).synced ≤ (upd f.cont id x j).bytes.size
    unfold upd
    split
    · exact hx
    · exact h.size j hj⟩

theorem Wf.create {f : Fs} (h : f.Wf) {name : ByteArray} (nid : Nat) (h1 : okName name = true) (h2 : mget f.now name = none) (h3 : f.now.length < 64) :
    (({ f with cont := upd f.cont nid ⟨⟨#[]⟩, 0⟩ } : Fs).happens (.create name nid)).1.Wf := by
  refine (h.cont nid ⟨⟨#[]⟩, 0⟩ ⟨by decide, by decide⟩).happens _ ?_ ?_
  · show (mput f.now name nid).length ≤ 64
    rw [length_mput_new h2]; omega
  · intro n id he
    cases he
    refine ⟨h1, ?_⟩
    show (upd f.cont nid ⟨⟨#[]⟩, 0⟩ nid).bytes.size ≤ _ ∧ _
    simp [upd]; decide
theorem Wf.delete {f : Fs} (h : f.Wf) (name : ByteArray) : (f.happens (.delete name)).1.Wf :=
  h.happens _ (Nat.le_trans (length_mdel _ _) h.nowMany) (fun n id he => by cases he)
theorem used_ge {f : Fs} {n : ByteArray} {id : Nat} (h : mget f.now n = some id) : (f.cont id).bytes.size ≤ f.used := by
  unfold used
  have hm := mget_mem h
  generalize f.now = L at hm
  induction L with
  | nil => simp at hm
  | cons p L ih =>
    simp only [List.map_cons, List.sum_cons]
    rcases List.mem_cons.1 hm with rfl | hm
    · exact Nat.le_add_right _ _
    · have := ih hm; omega
theorem Wf.append {f : Fs} (h : f.Wf) {name : ByteArray} {id : Nat} (s : ByteArray) (hg : mget f.now name = some id) (hr : (f.used : Int) + s.size ≤ f.room) :
    ({ f.step.1 with cont := upd f.cont id ⟨(f.cont id).bytes ++ s, (f.cont id).synced⟩ } : Fs).Wf := by
  have h2 := (step_fields f).2.1
  have := h.step.cont id ⟨(f.cont id).bytes ++ s, (f.cont id).synced⟩ (by
    have h3 := used_ge hg
    have h4 := h.room1
    have h5 := (h.size id (mget_ids hg)).2
    simp only [ByteArray.size_append]
    omega)
  rw [h2] at this
  exact this
theorem Wf.sync {f : Fs} (h : f.Wf) {name : ByteArray} {id : Nat} (hg : mget f.now name = some id) :
    ({ f.step.1 with cont := upd f.cont id ⟨(f.cont id).bytes, (f.cont id).bytes.size⟩ } : Fs).Wf := by
  have h2 := (step_fields f).2.1
  have := h.step.cont id ⟨(f.cont id).bytes, (f.cont id).bytes.size⟩ ⟨(h.size id (mget_ids hg)).1, Nat.le_refl _⟩
  rw [h2] at this
  exact this
theorem Wf.syncDir {f : Fs} (h : f.Wf) : ({ f.step.1 with firm := f.now, since := [] } : Fs).Wf := by
  obtain ⟨h1, h2, h3, h4, h5, h6⟩ := step_fields f
  have hs := h.step
  refine ⟨hs.room0, hs.room1, hs.steps0, hs.steps1, ?_, ?_, h.nodup, h.names, ?_, ?_⟩
  · show f.step.1.now = hist f.now []; rw [h4]; rfl
  · intro i; show (hist f.now ([].take i)).length ≤ 64; simp [hist]; exact h.nowMany
  · intro n id hm; cases hm
  · intro id hid
    show (f.step.1.cont id).bytes.size ≤ _ ∧ (f.step.1.cont id).synced ≤ (f.step.1.cont id).bytes.size
    rw [h2]
    refine h.size id ?_
    simp only [ids, List.mem_append, List.mem_map, h4, List.filterMap_nil, List.not_mem_nil, or_false] at hid ⊢
    rcases hid with hid | hid <;> exact .inl (.inl hid)
theorem roomOf_bd (n : Int) : 0 ≤ roomOf n ∧ roomOf n ≤ 1099511627776 := by unfold roomOf; omega
theorem Wf.limit {f : Fs} (h : f.Wf) (n : Int) : (f.limit n).Wf :=
  ⟨(roomOf_bd n).1, (roomOf_bd n).2, h.steps0, h.steps1, h.now, h.many, h.firmNodup, h.firmNames, h.sinceNames, h.size⟩
theorem Wf.arm {f : Fs} (h : f.Wf) (n : Int) (hn : n ≤ 9223372036854775807) : (f.arm n).Wf :=
  ⟨h.room0, h.room1, by show 0 ≤ max n 0; omega, by show max n 0 ≤ _; omega, h.now, h.many, h.firmNodup, h.firmNames, h.sinceNames, h.size⟩
end Fs
end Go.Proofs.YthogefmngddnbaaGreatDoor
/- The folder's methods: Create, Delete, Sync, Read. -/
namespace Go.Proofs.YthogefmngddnbaaGreatDoor
open Go.RowKit Go.MapKept

/-- what a method of a folder leaves: its number, the folder, and all else -/
def FsP (b : Nat) (F : BSet) (r : Fs × Int) (w : World) (e : Ending) (w' : World) : Prop :=
  e = .returned (.int .i64 r.2) ∧ FsRep w'.heap b r.1 (grow F w w') ∧ Mod F w w'
theorem FsP.same {b : Nat} {F : BSet} {f : Fs} {n : Int} {w w' : World} {e : Ending} (he : e = .returned (.int .i64 n)) (hr : FsRep w.heap b f F) (hm : Mod BSet.none w w') : FsP b F (f, n) w e w' :=
  ⟨he, hr.grow hm, hm.mono (fun _ _ h => h.elim)⟩
theorem Mod.none_any {F : BSet} {w w' : World} (h : Mod BSet.none w w') : Mod F w w' := h.mono (fun _ _ h => h.elim)

theorem FsRep.ids_lt {h : Array Obj} {b : Nat} {f : Fs} {F : BSet} (r : FsRep h b f F) {id : Nat} (hid : id ∈ f.ids) : id < h.size := lt_of_at (r.files id hid).2
theorem Mod.grow_then {F : BSet} {a b c : World} (h : Mod BSet.none a b) (k : Mod (grow F a b) b c) : Mod F a c :=
  h.none_any.trans k (fun i hi hg => by rcases hg with hg | hg; exact hg; omega)
/-- a file that no name has had yet -/
theorem FsRep.newFile {h : Array Obj} {b nid : Nat} {f : Fs} {F : BSet} (x : Fl) (r : FsRep h b f F) (hn : nid ∉ f.ids) (hx : x.bytes.size ≤ 1099511627776 ∧ x.synced ≤ x.bytes.size) : FsRep h b ({ f with cont := upd f.cont nid x } : Fs) F := by
  obtain ⟨m1, m2, sv, vs, h1, f1, f2, hne, hm1, hm2, ho, hc⟩ := r.ex
  refine ⟨r.lt, r.own, ⟨m1, m2, sv, vs, h1, f1, f2, hne, hm1, hm2, ho, hc⟩, fun id hid => ?_, r.wf.cont nid x hx⟩
  have hid' : id ∈ f.ids := hid
  have : upd f.cont nid x id = f.cont id := by unfold upd; rw [if_neg (by rintro rfl; exact hn hid')]
  obtain ⟨h2, h3⟩ := r.files id hid'
  exact ⟨h2, by show FileAt h id (upd f.cont nid x id); rw [this]; exact h3⟩

theorem create_bad {f : Fs} {n : ByteArray} (nid : Nat) (h : f.ready1 n ≠ 0) : f.create nid n = (f, f.ready1 n) := by unfold Fs.create; rw [if_pos h]
theorem create_there {f : Fs} {n : ByteArray} (nid : Nat) (h : f.ready1 n = 0) (hg : (mget f.now n).isSome = true) : f.create nid n = (f, 13) := by unfold Fs.create; rw [if_neg (by simp [h]), if_pos hg]
theorem create_full {f : Fs} {n : ByteArray} (nid : Nat) (h : f.ready1 n = 0) (hg : (mget f.now n).isSome = false) (hl : 64 ≤ f.now.length) : f.create nid n = (f, 15) := by unfold Fs.create; rw [if_neg (by simp [h]), if_neg (by simp [hg]), if_pos hl]
theorem create_new {f : Fs} {n : ByteArray} (nid : Nat) (h : f.ready1 n = 0) (hg : (mget f.now n).isSome = false) (hl : ¬ 64 ≤ f.now.length) : f.create nid n = ({ f with cont := upd f.cont nid ⟨⟨#[]⟩, 0⟩ } : Fs).happens (.create n nid) := by
  unfold Fs.create; rw [if_neg (by simp [h]), if_neg (by simp [hg]), if_neg hl]
theorem ready1_ok {f : Fs} {n : ByteArray} (h : f.ready1 n = 0) : okName n = true ∧ f.on = true := by
  unfold Fs.ready1 at h
  cases h1 : f.on <;> cases h2 : okName n <;> simp_all

def CreateP (b : Nat) (F : BSet) (f : Fs) (name : ByteArray) (w : World) (e : Ending) (w' : World) : Prop := ∃ nid, nid ∉ f.ids ∧ FsP b F (f.create nid name) w e w'

set_option maxHeartbeats 1000000 in
theorem create_any (b : Nat) (f : Fs) (F : BSet) (name : ByteArray) (w : World) (hr : FsRep w.heap b f F) (hsz : name.size ≤ maxLen) (hlen : f.since.length ≤ 1073741824) :
    Calls Tryz.prog 120 #[.pointer (some ⟨b, 0, none⟩), .string name] w (CreateP b F f name w) := by
  obtain ⟨m1, m2, sv, vs, hb, F1, F2, hne, hm1, -⟩ := hr.ex
  have hR := Lib.hid hr
  have hB := Lib.hid hb
  have hM := Lib.hid hm1
  have hone := Lib.hid (ready1_eq f name)
  have hS := Lib.hid hsz
  have hL := Lib.hid hlen
  have hfresh : ∃ i, i ∉ f.ids := ⟨w.heap.size, fun h => absurd (hr.ids_lt h) (Nat.lt_irrefl _)⟩
  have hF := Lib.hid hfresh
  have base : ∀ w1, Mod BSet.none ((w.alloc (.cells #[.string name] 9)).alloc (.cells #[.string name] 9)) w1 → Mod BSet.none w w1 := fun w1 hm => (((Mod.refl BSet.none w).alloc _).alloc _).trans hm (fun _ _ h => h)
  clear hb hm1 hr hsz hlen hfresh
  by_cases h0 : f.ready1 name = 0
  · have h0' := Lib.hid h0
    clear h0
    cases hg : (mget f.now name).isSome with
    | true =>
      have hg' := Lib.hid hg
      obtain ⟨id, hid⟩ := Option.isSome_iff_exists.1 hg
      have hi := Lib.hid hid
      clear hg hid
      go_enter Tryz.func120, Tryz.ntmps120
      go_wp2_with fail
      refine (ready_any b f F _ [name] _ (hR.out.mod0 (((Mod.refl _ _).alloc _).alloc _)) (slAt_one (at_newk (by simp)) 1) (by simpa using hS.out)).mono ?_
      rintro e w1 ⟨rfl, hm⟩
      rw [hone.out, h0'.out]
      have hm0 := base w1 hm
      have c0 := (fcells (hm0.at hB.out (fun h => h))).c0
      have n0 : w1.cell? ⟨w.heap.size, 0, none⟩ = some (.string name) := cell_of_at (hm.at (at_alloc at_new) (fun h => h)) 0
      have hl : ∀ n, (Instr.lookup 102 (.map (some m1)) (.string name) true).run Tryz.prog (w1.drewN n) = .ok (.tuple #[.pointer (some ⟨id, 0, none⟩), .bool true]) (w1.drewN n) := fun n => by
        have := lookup_run (w := w1.drewN n) name (show MapAt w1.heap m1 f.now from hM.out.mod hm0 (fun h => h))
        rw [hi.out] at this
        exact this
      go_wp2_with fail
      go_quiet (fail)
      go_wp2
      go_ret
      refine ⟨_, hF.out.choose_spec, ?_⟩
      rw [create_there _ h0'.out hg'.out]
      exact FsP.same rfl hR.out (hm0.drewN _)
    | false =>
      have hg' := Lib.hid hg
      have hi : Hid (mget f.now name = none) := Lib.hid (by cases h : mget f.now name with | none => rfl | some x => rw [h] at hg; cases hg)
      have hmf : ∀ fn first cap w, (Instr.makeFunc fn first cap).run Tryz.prog w = .ok (.func fn first cap) w := fun _ _ _ _ => rfl
      clear hg
      by_cases h64 : 64 ≤ f.now.length
      · have h64' := Lib.hid h64
        go_enter Tryz.func120, Tryz.ntmps120
        go_wp2_with fail
        refine (ready_any b f F _ [name] _ (hR.out.mod0 (((Mod.refl _ _).alloc _).alloc _)) (slAt_one (at_newk (by simp)) 1) (by simpa using hS.out)).mono ?_
        rintro e w1 ⟨rfl, hm⟩
        rw [hone.out, h0'.out]
        have hm0 := base w1 hm
        have c0 := (fcells (hm0.at hB.out (fun h => h))).c0
        have n0 : w1.cell? ⟨w.heap.size, 0, none⟩ = some (.string name) := cell_of_at (hm.at (at_alloc at_new) (fun h => h)) 0
        have hl : ∀ n, (Instr.lookup 102 (.map (some m1)) (.string name) true).run Tryz.prog (w1.drewN n) = .ok (.tuple #[.pointer none, .bool false]) (w1.drewN n) := fun n => by
          have := lookup_run (w := w1.drewN n) name (show MapAt w1.heap m1 f.now from hM.out.mod hm0 (fun h => h))
          rw [hi.out] at this
          exact this
        have hln : ∀ n ty, (Builtin.len_ #[102] ty #[.map (some m1)]).run Tryz.prog (w1.drewN n) = .ok (.int .i64 f.now.length) (w1.drewN n) := fun n ty => len_run (w := w1.drewN n) (show MapAt w1.heap m1 f.now from hM.out.mod hm0 (fun h => h)) ty
        go_wp2_with fail
        go_quiet (fail)
        go_wp2
        go_ret
        refine ⟨_, hF.out.choose_spec, ?_⟩
        rw [create_full _ h0'.out hg'.out h64'.out]
        exact FsP.same rfl hR.out (hm0.drewN _)
      · have h64' := Lib.hid h64
        go_enter Tryz.func120, Tryz.ntmps120
        go_wp2_with fail
        refine (ready_any b f F _ [name] _ (hR.out.mod0 (((Mod.refl _ _).alloc _).alloc _)) (slAt_one (at_newk (by simp)) 1) (by simpa using hS.out)).mono ?_
        rintro e w1 ⟨rfl, hm⟩
        rw [hone.out, h0'.out]
        have hm0 := base w1 hm
        have c0 := (fcells (hm0.at hB.out (fun h => h))).c0
        have n0 : w1.cell? ⟨w.heap.size, 0, none⟩ = some (.string name) := cell_of_at (hm.at (at_alloc at_new) (fun h => h)) 0
        have hl : ∀ n, (Instr.lookup 102 (.map (some m1)) (.string name) true).run Tryz.prog (w1.drewN n) = .ok (.tuple #[.pointer none, .bool false]) (w1.drewN n) := fun n => by
          have := lookup_run (w := w1.drewN n) name (show MapAt w1.heap m1 f.now from hM.out.mod hm0 (fun h => h))
          rw [hi.out] at this
          exact this
        have hln : ∀ n ty, (Builtin.len_ #[102] ty #[.map (some m1)]).run Tryz.prog (w1.drewN n) = .ok (.int .i64 f.now.length) (w1.drewN n) := fun n ty => len_run (w := w1.drewN n) (show MapAt w1.heap m1 f.now from hM.out.mod hm0 (fun h => h)) ty
        go_wp2_with fail
        go_quiet (fail)
        go_wp2_with fail
        have hm2 : Mod BSet.none w (((w1.drewN nq).alloc (.cells #[.string ⟨#[]⟩, .int .i64 0] 119)).alloc (.cells #[.pointer (some ⟨w1.heap.size, 0, none⟩)] 112)) := ((hm0.drewN nq).alloc _).alloc _
        have hid : w1.heap.size ∉ f.ids := fun h => absurd (Nat.lt_of_lt_of_le (hR.out.ids_lt h) hm0.size) (Nat.lt_irrefl _)
        have hsz1 : w.heap.size < w1.heap.size := by have := hm.size; simp at this; omega
        refine (happens_any b (grow F w _) ({ f with cont := upd f.cont w1.heap.size ⟨⟨#[]⟩, 0⟩ } : Fs) (.create name w1.heap.size) _ _ ((hR.out.grow hm2).newFile _ hid ⟨by decide, by decide⟩) ?_ ?_ (hR.out.wf.create _ (ready1_ok h0'.out).1 hi.out (by have := h64'.out; omega)) hL.out).mono ?_
        · refine ⟨_, _, rfl, .inr ⟨?_, ?_⟩, .inr ⟨Nat.le_refl _, ?_⟩, at_newk (by simp), ?_, hS.out⟩
          · omega
          · simp
          · simp; omega
          · exact at_alloc (at_alloc (show w1.heap[w.heap.size]? = _ from hm.at (at_alloc at_new) (fun h => h)))
        · intro n id he
          cases he
          refine ⟨.inr ⟨by omega, by simp; omega⟩, ?_⟩
          show _ = some (Obj.cells #[.string (upd f.cont w1.heap.size _ w1.heap.size).bytes, .int .i64 ((upd f.cont w1.heap.size _ w1.heap.size).synced : Nat)] 119 (0, 0))
          simp only [upd, if_true]
          exact at_alloc (at_newk (by simp))
        rintro e w3 ⟨rfl, h3, hm3⟩
        rw [grow_trans hm2.size hm3.size] at h3
        have H3 := Lib.hid h3
        have HM3 := Lib.hid (hm2.grow_then hm3)
        have Hid' := Lib.hid hid
        clear h3 hm3 hid hm2
        go_wp2
        go_ret
        refine ⟨w1.heap.size, Hid'.out, ?_⟩
        rw [create_new _ h0'.out hg'.out h64'.out]
        exact ⟨rfl, H3.out, HM3.out⟩
  · have h0' := Lib.hid h0
    clear h0
    obtain ⟨r, hr, hr0⟩ : ∃ r : Int, f.ready1 name = r ∧ (r == 0) = false := ⟨_, rfl, beq_eq_false_iff_ne.2 h0'.out⟩
    have hr' := Lib.hid hr
    have hr1 : (r != 0) = true := by rw [bne, hr0]; rfl
    clear hr
    go_enter Tryz.func120, Tryz.ntmps120
    go_wp2_with fail
    refine (ready_any b f F _ [name] _ (hR.out.mod0 (((Mod.refl _ _).alloc _).alloc _)) (slAt_one (at_newk (by simp)) 1) (by simpa using hS.out)).mono ?_
    rintro e w1 ⟨rfl, hm⟩
    rw [hone.out, hr'.out]
    have hm0 := base w1 hm
    go_wp2
    go_ret
    refine ⟨_, hF.out.choose_spec, ?_⟩
    rw [create_bad _ h0'.out]
    exact FsP.same (by rw [hr'.out]; rfl) hR.out hm0
end Go.Proofs.YthogefmngddnbaaGreatDoor
/- The folder's methods: Delete, Sync, Read, Limit, Arm, New. -/
namespace Go.Proofs.YthogefmngddnbaaGreatDoor
open Go.RowKit Go.MapKept

theorem get_cases (f : Fs) (name : ByteArray) : (∃ id, f.get name = (some id, 0) ∧ f.ready1 name = 0 ∧ mget f.now name = some id) ∨ (∃ r, f.get name = (none, r) ∧ (r == 0) = false) := by
  by_cases h : f.ready1 name = 0
  · cases hg : mget f.now name with
    | some id => exact .inl ⟨id, get_some h hg, h, rfl⟩
    | none => exact .inr ⟨12, get_none h hg, rfl⟩
  · exact .inr ⟨_, get_bad h, beq_eq_false_iff_ne.2 h⟩

set_option maxHeartbeats 1000000 in
theorem delete_any (b : Nat) (f : Fs) (F : BSet) (name : ByteArray) (w : World) (hr : FsRep w.heap b f F) (hsz : name.size ≤ maxLen) (hlen : f.since.length ≤ 1073741824) :
    Calls Tryz.prog 98 #[.pointer (some ⟨b, 0, none⟩), .string name] w (FsP b F (f.delete name) w) := by
  have hR := Lib.hid hr
  have hS := Lib.hid hsz
  have hL := Lib.hid hlen
  have hmf : ∀ fn first cap w, (Instr.makeFunc fn first cap).run Tryz.prog w = .ok (.func fn first cap) w := fun _ _ _ _ => rfl
  clear hr hsz hlen
  have base : ∀ w1, Mod BSet.none (w.alloc (.cells #[.string name] 9)) w1 → Mod BSet.none w w1 := fun w1 hm => ((Mod.refl BSet.none w).alloc _).trans hm (fun _ _ h => h)
  rcases get_cases f name with ⟨id, hg, h0, hgm⟩ | ⟨r, hg, hr0⟩
  · have G := Lib.hid hg
    have hd : f.delete name = f.happens (.delete name) := by unfold Fs.delete; rw [hg]
    have D := Lib.hid hd
    clear hg h0 hgm hd
    go_enter Tryz.func98, Tryz.ntmps98
    go_wp2_with fail
    refine (get_any b f F name _ (hR.out.mod0 ((Mod.refl _ _).alloc _)) hS.out).mono ?_
    rintro e w1 ⟨rfl, hm⟩
    rw [G.out]
    have hm0 := base w1 hm
    have n0 : w1.cell? ⟨w.heap.size, 0, none⟩ = some (.string name) := cell_of_at (hm.at at_new (fun h => h)) 0
    have hsz1 : w.heap.size < w1.heap.size := by have := hm.size; simp at this; omega
    go_wp2_with fail
    refine (happens_any b (grow F w _) f (.delete name) _ _ (hR.out.grow (by exact hm0)) ⟨_, rfl, .inr ⟨Nat.le_refl _, by exact hsz1⟩, hm.at at_new (fun h => h), hS.out⟩ (fun n id h => by cases h) (hR.out.wf.delete name) hL.out).mono ?_
    rintro e w3 ⟨rfl, h3, hm3⟩
    rw [grow_trans (by exact hm0.size) hm3.size] at h3
    have H3 := Lib.hid h3
    have HM3 := Lib.hid (hm0.grow_then hm3)
    clear h3 hm3
    go_wp2
    go_ret
    rw [D.out]
    exact ⟨rfl, H3.out, HM3.out⟩
  · have G := Lib.hid hg
    have hr1 : (r != 0) = true := by rw [bne, hr0]; rfl
    have hd : f.delete name = (f, r) := by unfold Fs.delete; rw [hg]
    have D := Lib.hid hd
    clear hg hd
    go_enter Tryz.func98, Tryz.ntmps98
    go_wp2_with fail
    refine (get_any b f F name _ (hR.out.mod0 ((Mod.refl _ _).alloc _)) hS.out).mono ?_
    rintro e w1 ⟨rfl, hm⟩
    rw [G.out]
    have hm0 := base w1 hm
    go_wp2
    go_ret
    rw [D.out]
    exact FsP.same rfl hR.out hm0

def ReadP (f : Fs) (name : ByteArray) (w : World) (e : Ending) (w' : World) : Prop := e = .returned (.tuple #[.string (f.read name).1, .int .i64 (f.read name).2]) ∧ Mod BSet.none w w'
set_option maxHeartbeats 1000000 in
theorem read_any (b : Nat) (f : Fs) (F : BSet) (name : ByteArray) (w : World) (hr : FsRep w.heap b f F) (hsz : name.size ≤ maxLen) :
    Calls Tryz.prog 26 #[.pointer (some ⟨b, 0, none⟩), .string name] w (ReadP f name w) := by
  have hR := Lib.hid hr
  have hS := Lib.hid hsz
  clear hr hsz
  rcases get_cases f name with ⟨id, hg, h0, hgm⟩ | ⟨r, hg, hr0⟩
  · have G := Lib.hid hg
    have hd : f.read name = ((f.cont id).bytes, 0) := by unfold Fs.read; rw [hg]
    have D := Lib.hid hd
    have hf := Lib.hid (hR.out.files id (Fs.mget_ids hgm)).2
    clear hg h0 hgm hd
    go_enter Tryz.func26, Tryz.ntmps26
    go_wp2_with fail
    refine (get_any b f F name _ (by exact hR.out) hS.out).mono ?_
    rintro e w1 ⟨rfl, hm⟩
    rw [G.out]
    have n0 : w1.cell? ⟨id, 0, none⟩ = some (.string (f.cont id).bytes) := cell_of_at (hm.at hf.out (fun h => h)) 0
    go_wp2
    go_ret2
    exact ⟨by rw [D.out]; rfl, hm⟩
  · have G := Lib.hid hg
    have hr1 : (r != 0) = true := by rw [bne, hr0]; rfl
    have hd : f.read name = (⟨#[]⟩, r) := by unfold Fs.read; rw [hg]
    have D := Lib.hid hd
    clear hg hd
    go_enter Tryz.func26, Tryz.ntmps26
    go_wp2_with fail
    refine (get_any b f F name _ (by exact hR.out) hS.out).mono ?_
    rintro e w1 ⟨rfl, hm⟩
    rw [G.out]
    go_wp2
    go_ret2
    exact ⟨by rw [D.out]; rfl, hm⟩

theorem FsRep.step {w w' : World} {b m1 m2 : Nat} {sv : Value} {f : Fs} {F : BSet} (r : FsRep w.heap b f F) (hb : w.heap[b]? = some (fsObj m1 m2 sv f)) (hb' : w'.heap[b]? = some (fsObj m1 m2 sv f.step.1)) (m : Mod (BSet.one b) w w') : FsRep w'.heap b f.step.1 F := by
  obtain ⟨q1, q2, q3, q4, q5, q6⟩ := step_same f
  obtain ⟨m1', m2', sv', vs', h1, f1, f2, hne, hm1, hm2, ho, hc⟩ := r.ex
  have st := m.stay hb 106 rfl
  rw [hb] at h1
  simp [fsObj] at h1
  obtain ⟨rfl, rfl, rfl⟩ := h1
  refine ⟨fun k hk => Nat.lt_of_lt_of_le (r.lt k hk) m.size, r.own, ⟨m1, m2, sv, vs', hb', f1, f2, hne, by rw [q4]; exact hm1.stay st (by decide), by rw [q1]; exact hm2.stay st (by decide), by rw [q5]; exact ho.stay st (by decide), by rw [q5]; exact hc.stay st (by decide) (by decide)⟩, fun id hid => ?_, r.wf.step⟩
  rw [Fs.step_ids] at hid
  rw [q2]
  exact ⟨(r.files id hid).1, (r.files id hid).2.stay st (by decide)⟩
def StepRP (b : Nat) (F : BSet) (f : Fs) (w : World) (e : Ending) (w' : World) : Prop := e = .returned (.int .i64 f.step.2) ∧ FsRep w'.heap b f.step.1 F ∧ Mod (BSet.one b) w w'
theorem step_rep (b : Nat) (f : Fs) (F : BSet) (w : World) (hr : FsRep w.heap b f F) : Calls Tryz.prog 117 #[.pointer (some ⟨b, 0, none⟩)] w (StepRP b F f w) := by
  obtain ⟨m1, m2, sv, vs, hb, -⟩ := hr.ex
  exact (step_any b m1 m2 sv f w hb hr.wf.steps0 hr.wf.steps1).mono fun e w' ⟨h1, h2, h3⟩ => ⟨h1, hr.step hb h2 h3, h3⟩
/-- a file's bytes are written -/
theorem FsRep.setFile {w w' : World} {b id : Nat} {f : Fs} {F : BSet} {x : Fl} (r : FsRep w.heap b f F) (hid : id ∈ f.ids) (hx : FileAt w'.heap id x) (m : Mod (BSet.one id) w w') (hw : ({ f with cont := upd f.cont id x } : Fs).Wf) :
    FsRep w'.heap b ({ f with cont := upd f.cont id x } : Fs) F := by
  obtain ⟨m1, m2, sv, vs, h1, f1, f2, hne, hm1, hm2, ho, hc⟩ := r.ex
  have st := m.stay (r.files id hid).2 119 rfl
  refine ⟨fun k hk => Nat.lt_of_lt_of_le (r.lt k hk) m.size, r.own, ⟨m1, m2, sv, vs, st _ _ h1 (show 106 ≠ 119 by decide), f1, f2, hne, hm1.stay st (by decide), hm2.stay st (by decide), ho.stay st (by decide), hc.stay st (by decide) (by decide)⟩, fun j hj => ?_, hw⟩
  have hj' : j ∈ f.ids := hj
  refine ⟨(r.files j hj').1, ?_⟩
  show FileAt w'.heap j (upd f.cont id x j)
  unfold upd
  split
  · next h => subst h; exact hx
  · next h => exact m.at (r.files j hj').2 h
theorem FsRep.own_id {h : Array Obj} {b id : Nat} {f : Fs} {F : BSet} (r : FsRep h b f F) (hid : id ∈ f.ids) : F id := (r.files id hid).1

theorem step2_cases (f : Fs) : (f.step.2 = 0) ∨ (f.step.2 = 14) := by unfold Fs.step; split <;> (try split) <;> simp
theorem FsP.of {b : Nat} {F : BSet} {r : Fs × Int} {w w' : World} {e : Ending} (he : e = .returned (.int .i64 r.2)) (hr : FsRep w'.heap b r.1 F) (hm : Mod F w w') : FsP b F r w e w' :=
  ⟨he, hr.weaken (fun _ h => .inl h) (fun k h => by rcases h with h | h; exact hr.lt k h; exact h.2), hm⟩

set_option maxHeartbeats 1000000 in
theorem sync_any (b : Nat) (f : Fs) (F : BSet) (name : ByteArray) (w : World) (hr : FsRep w.heap b f F) (hsz : name.size ≤ maxLen) :
    Calls Tryz.prog 68 #[.pointer (some ⟨b, 0, none⟩), .string name] w (FsP b F (f.sync name) w) := by
  have hR := Lib.hid hr
  have hS := Lib.hid hsz
  clear hr hsz
  rcases get_cases f name with ⟨id, hg, h0, hgm⟩ | ⟨r, hg, hr0⟩
  · have G := Lib.hid hg
    have hid := Lib.hid (Fs.mget_ids hgm)
    have hgm' := Lib.hid hgm
    have hszb : (f.cont id).bytes.size ≤ 9223372036854775807 := by have := (hR.out.wf.size id hid.out).1; omega
    clear hg h0 hgm
    rcases step2_cases f with hs | hs
    · have hd : f.sync name = ({ f.step.1 with cont := upd f.cont id ⟨(f.cont id).bytes, (f.cont id).bytes.size⟩ }, 0) := by unfold Fs.sync; rw [G.out]; simp [hs]
      have D := Lib.hid hd
      have hs' := Lib.hid hs
      clear hd hs
      go_enter Tryz.func68, Tryz.ntmps68
      go_wp2_with fail
      refine (get_any b f F name _ (by exact hR.out) hS.out).mono ?_
      rintro e w1 ⟨rfl, hm⟩
      rw [G.out]
      go_wp2_with fail
      refine (step_rep b f F _ (by exact hR.out.mod0 hm)).mono ?_
      rintro e w2 ⟨rfl, h2, hm2⟩
      rw [hs'.out]
      have hid2 : id ∈ f.step.1.ids := by rw [Fs.step_ids]; exact hid.out
      have hf2 : FileAt w2.heap id (f.cont id) := by have := (h2.files id hid2).2; rw [(step_same f).2.1] at this; exact this
      have n0 : w2.cell? ⟨id, 0, none⟩ = some (.string (f.cont id).bytes) := cell_of_at hf2 0
      have n1 : w2.cell? ⟨id, 1, none⟩ = some (.int .i64 (f.cont id).synced) := cell_of_at hf2 1
      have e1 : w2.frozen? ⟨id, 1, none⟩ = false := free_of_at hf2 1
      have H2 := Lib.hid h2
      have HM2 := Lib.hid hm2
      have HF2 := Lib.hid hf2
      have HI2 := Lib.hid hid2
      clear h2 hm2 hf2 hid2
      go_wp2
      go_ret
      rw [D.out]
      have hc := (step_same f).2.1
      refine FsP.of rfl ?_ (((hm.none_any).trans (HM2.out.mono (G := F) (fun j _ hj => by rw [show j = b from hj]; exact hR.out.own)) (fun _ _ h => h)).setCell (.inl (show F id from hR.out.own_id hid.out)) _)
      have := H2.out.setFile (w' := w2.setCell ⟨id, 1, none⟩ (.int .i64 (f.cont id).bytes.size)) (x := ⟨(f.cont id).bytes, (f.cont id).bytes.size⟩) HI2.out (by unfold FileAt; rw [at_setCell_same HF2.out]; simp) (mod_one _ _ _ _) (by rw [hc]; exact hR.out.wf.sync hgm'.out)
      rw [hc] at this
      exact this
    · have hd : f.sync name = f.step := by unfold Fs.sync; rw [G.out]; simp [hs]
      have D := Lib.hid hd
      have hs' := Lib.hid hs
      clear hd hs
      go_enter Tryz.func68, Tryz.ntmps68
      go_wp2_with fail
      refine (get_any b f F name _ (by exact hR.out) hS.out).mono ?_
      rintro e w1 ⟨rfl, hm⟩
      rw [G.out]
      go_wp2_with fail
      refine (step_rep b f F _ (by exact hR.out.mod0 hm)).mono ?_
      rintro e w2 ⟨rfl, h2, hm2⟩
      rw [hs'.out]
      have H2 := Lib.hid h2
      have HM2 := Lib.hid hm2
      clear h2 hm2
      go_wp2
      go_ret
      rw [D.out]
      exact FsP.of (by rw [hs'.out]; rfl) H2.out ((hm.none_any).trans (HM2.out.mono (G := F) (fun j _ hj => by rw [show j = b from hj]; exact hR.out.own)) (fun _ _ h => h))
  · have G := Lib.hid hg
    have hr1 : (r != 0) = true := by rw [bne, hr0]; rfl
    have hd : f.sync name = (f, r) := by unfold Fs.sync; rw [hg]
    have D := Lib.hid hd
    clear hg hd
    go_enter Tryz.func68, Tryz.ntmps68
    go_wp2_with fail
    refine (get_any b f F name _ (by exact hR.out) hS.out).mono ?_
    rintro e w1 ⟨rfl, hm⟩
    rw [G.out]
    go_wp2
    go_ret
    rw [D.out]
    exact FsP.same rfl hR.out hm
end Go.Proofs.YthogefmngddnbaaGreatDoor
/- The folder's methods: Used (a range over a map, in whatever order), Append. -/
namespace Go.Proofs.YthogefmngddnbaaGreatDoor
open Go.RowKit Go.MapKept

/-- an entry with a number in its value's place -/
def numbered (g : MapEntry → Int) (e : MapEntry) : MapEntry := { e with val := .int .i64 (g e) }
def gSum (g : MapEntry → Int) (es : List MapEntry) (seen : Array Nat) : Int := seenSum (es.map (numbered g)) seen
theorem born_numbered (g : MapEntry → Int) (es : List MapEntry) : (es.map (numbered g)).map (·.born) = es.map (·.born) := by rw [List.map_map]; rfl
theorem gSum_none (g : MapEntry → Int) (es : List MapEntry) : gSum g es #[] = 0 := seenSum_none _
theorem gSum_push (g : MapEntry → Int) (seen : Array Nat) (e : MapEntry) (hs : seen.contains e.born = false) (es : List MapEntry) (hn : (es.map (·.born)).Nodup) (he : e ∈ es) : gSum g es (seen.push e.born) = gSum g es seen + g e :=
  seenSum_push seen (numbered g e) hs (es.map (numbered g)) (by rw [born_numbered]; exact hn) (List.mem_map.2 ⟨e, he, rfl⟩)
theorem gSum_all (g : MapEntry → Int) (es : Array MapEntry) (seen : Array Nat) (h : (leftOf es seen).size = 0) : gSum g es.toList seen = (es.toList.map g).sum := by
  unfold gSum
  rw [seenSum_full seen _ (fun x hx => by obtain ⟨y, hy, rfl⟩ := List.mem_map.1 hx; exact all_seen es seen h y hy), List.map_map]
  rfl
theorem gSum_nonneg (g : MapEntry → Int) (hg : ∀ e, 0 ≤ g e) : ∀ (es : List MapEntry) (seen : Array Nat), 0 ≤ gSum g es seen ∧ gSum g es seen ≤ (es.map g).sum := by
  intro es seen
  induction es with
  | nil => exact ⟨Int.le_refl _, Int.le_refl _⟩
  | cons e es ih =>
    unfold gSum at ih ⊢
    simp only [List.map_cons, List.sum_cons, seenSum]
    have h0 := hg e
    split
    · have : valOf (numbered g e).val = g e := rfl
      omega
    · omega
def sizeIn (f : Fs) (e : MapEntry) : Int := match e.val with | .pointer (some a) => (f.cont a.block).bytes.size | _ => 0
theorem sizeIn_nonneg (f : Fs) (e : MapEntry) : 0 ≤ sizeIn f e := by unfold sizeIn; split <;> omega
theorem sum_sizeIn {f : Fs} {es : List MapEntry} : ∀ {L : Nm}, es.map (fun e => (e.key, e.val)) = L.map ent → (es.map (sizeIn f)).sum = ((L.map fun p => (f.cont p.2).bytes.size).sum : Nat) := by
  induction es with
  | nil => intro L h; cases L with
    | nil => rfl
    | cons p L => simp at h
  | cons e es ih =>
    intro L h
    cases L with
    | nil => simp at h
    | cons p L =>
      simp only [List.map_cons, List.cons.injEq, Prod.mk.injEq] at h
      simp only [List.map_cons, List.sum_cons, ih h.2]
      have : sizeIn f e = (f.cont p.2).bytes.size := by unfold sizeIn; rw [h.1.2]
      omega
theorem sum_le_mul (l : List Nat) (B : Nat) (h : ∀ x, x ∈ l → x ≤ B) : l.sum ≤ l.length * B := by
  induction l with
  | nil => simp
  | cons a l ih =>
    have h1 := h a List.mem_cons_self
    have h2 := ih (fun x hx => h x (List.mem_cons_of_mem _ hx))
    simp only [List.sum_cons, List.length_cons, Nat.add_mul]
    omega
theorem used_le {f : Fs} (h : f.Wf) : f.used ≤ 64 * 1099511627776 := by
  unfold Fs.used
  refine Nat.le_trans (sum_le_mul _ 1099511627776 ?_) ?_
  · intro x hx
    obtain ⟨p, hp, rfl⟩ := List.mem_map.1 hx
    refine (h.size p.2 ?_).1
    simp only [Fs.ids, List.mem_append, List.mem_map]
    exact .inl (.inl ⟨p, hp, rfl⟩)
  · have := h.nowMany
    rw [List.length_map]
    exact Nat.mul_le_mul_right _ this

def UsedP (f : Fs) (w : World) (e : Ending) (w' : World) : Prop := e = .returned (.int .i64 f.used) ∧ Mod BSet.none w w'
set_option maxRecDepth 1000000 in
set_option maxHeartbeats 1000000 in
theorem used_any (b : Nat) (f : Fs) (F : BSet) (w : World) (hr : FsRep w.heap b f F) : Calls Tryz.prog 116 #[.pointer (some ⟨b, 0, none⟩)] w (UsedP f w) := by
  obtain ⟨m1, m2, sv, vs, hb, F1, F2, hne, ⟨es, clk, hm1, hst, hes⟩, -⟩ := hr.ex
  have c0 := (fcells hb).c0
  have hrg := run_range_map (P := Tryz.prog) w 102 9 112 m1 es clk under102 hm1
  have hR := Lib.hid hr
  have hM := Lib.hid hm1
  have hS := Lib.hid hst
  have hE := Lib.hid hes
  have hU := used_le hr.wf
  have hsum := Lib.hid (sum_sizeIn (f := f) hes)
  clear hb hm1 hr hst hes
  go_enter Tryz.func116, Tryz.ntmps116
  go_wp2
  go_loopw [3, 5] (fun s _ w' => ∃ (w1 : World) (seen : Array Nat), w1.Alike w ∧ w' = w1.alloc (.mapIter (some m1) clk seen clk) ∧ s = .int .i64 (gSum (sizeIn f) es.toList seen)) (fun _ _ w' => (leftOf es (w'.iterSeen w.heap.size)).size)
  case atStart => exact ⟨w, #[], ⟨rfl, rfl, rfl⟩, rfl, by rw [gSum_none]⟩
  case round =>
    obtain ⟨w1, seen, hal, rfl, rfl⟩ := hrel
    have hsz : w1.heap.size = w.heap.size := by rw [hal.1]
    have hb1 : w1.heap[m1]? = some (.map es clk) := by rw [hal.1]; exact hM.out
    have law := run_next_map (P := Tryz.prog) w1 0 m1 clk clk seen es clk hb1 hS.out.1 (Nat.le_refl _)
    rw [hsz] at law
    have hbd := gSum_nonneg (sizeIn f) (sizeIn_nonneg f) es.toList seen
    rcases law with ⟨h0, hrun⟩ | ⟨e, he, w2, hal2, hrun⟩
    · have hnx : ∀ ty, (Instr.next (.pointer (some ⟨w.heap.size, 0, none⟩)) false ty).run Tryz.prog (w1.alloc (.mapIter (some m1) clk seen clk)) = _ := fun _ => hrun
      have hall := Lib.hid (gSum_all (sizeIn f) es seen h0)
      clear h0 hrun
      go_wp2
      go_ret
      refine ⟨?_, ?_⟩
      · refine ret_int ?_
        rw [hall.out, hsum.out]; rfl
      · exact ⟨hal.2.1, hal.2.2, by simp [hal.1], fun k hk _ => by rw [Below.heap_alloc _ _ _ (by omega), hal.1]⟩
    · obtain ⟨hmem, hns⟩ := mem_left he
      obtain ⟨p, hp, hpe⟩ : ∃ p, p ∈ f.now ∧ (e.key, e.val) = ent p := by
        have : (e.key, e.val) ∈ f.now.map ent := by rw [← hE.out]; exact List.mem_map.2 ⟨e, hmem, rfl⟩
        obtain ⟨p, hp, h⟩ := List.mem_map.1 this
        exact ⟨p, hp, h.symm⟩
      simp only [ent, Prod.mk.injEq] at hpe
      have hid : p.2 ∈ f.ids := by
        simp only [Fs.ids, List.mem_append, List.mem_map]
        exact .inl (.inl ⟨p, hp, rfl⟩)
      have hgp := Lib.hid (gSum_push (sizeIn f) seen e hns es.toList hS.out.2.1 hmem)
      have hge : sizeIn f e = (f.cont p.2).bytes.size := by unfold sizeIn; rw [hpe.2]
      have hbd2 := gSum_nonneg (sizeIn f) (sizeIn_nonneg f) es.toList (seen.push e.born)
      have hbig : gSum (sizeIn f) es.toList seen + (f.cont p.2).bytes.size ≤ 70368744177664 := by
        have h1 := hgp.out
        have h2 := hsum.out
        have h3 : ((f.now.map fun p => (f.cont p.2).bytes.size).sum : Nat) ≤ 64 * 1099511627776 := hU
        rw [hge] at h1
        omega
      have hbig0 : 0 ≤ gSum (sizeIn f) es.toList seen := hbd.1
      rw [hpe.1, hpe.2] at hrun
      have hnx : ∀ ty, (Instr.next (.pointer (some ⟨w.heap.size, 0, none⟩)) false ty).run Tryz.prog (w1.alloc (.mapIter (some m1) clk seen clk)) = _ := fun _ => hrun
      have hsz2 : w2.heap.size = w.heap.size := by rw [hal2.1, hal.1]
      have hb2 : w2.heap[m1]? = some (.map es clk) := by rw [hal2.1]; exact hb1
      have hen := run_entry_map (P := Tryz.prog) w2 m1 clk seen es clk e hb2 hmem hS.out.2.1
      rw [hsz2, hpe.1, hpe.2] at hen
      have hf : w2.heap[p.2]? = some (.cells #[.string (f.cont p.2).bytes, .int .i64 (f.cont p.2).synced] 119 (0, 0)) := by
        rw [hal2.1, hal.1]; exact (hR.out.files p.2 hid).2
      have hcell : ∀ o, (w2.alloc o).cell? ⟨p.2, 0, none⟩ = some (.string (f.cont p.2).bytes) := fun o => cell_of_at (at_alloc hf) 0
      have HG := Lib.hid hge
      have HP := Lib.hid hpe
      have HN := Lib.hid hns
      have HE := Lib.hid he
      clear hrun hge hpe hns he hf hb2 hbd hbd2 hU hp hid
      go_wp2
      go_roundw
      case rel =>
        refine ⟨w2, seen.push e.born, ⟨hal2.1.trans hal.1, hal2.2.1.trans hal.2.1, hal2.2.2.trans hal.2.2⟩, rfl, ?_⟩
        rw [hgp.out, HG.out]
      case measure =>
        rw [← hsz2, World.iterSeen_alloc, hsz2, ← hsz, World.iterSeen_alloc]
        exact left_shrinks es seen e HE.out
end Go.Proofs.YthogefmngddnbaaGreatDoor
/- The folder's methods: Append. -/
namespace Go.Proofs.YthogefmngddnbaaGreatDoor
open Go.RowKit Go.MapKept

set_option maxHeartbeats 1000000 in
theorem append_any (b : Nat) (f : Fs) (F : BSet) (name s : ByteArray) (w : World) (hr : FsRep w.heap b f F) (hsz : name.size ≤ maxLen) (hs : s.size ≤ 1152921504606846976) :
    Calls Tryz.prog 67 #[.pointer (some ⟨b, 0, none⟩), .string name, .string s] w (FsP b F (f.append name s) w) := by
  obtain ⟨m1, m2, sv, vs, hb, -⟩ := hr.ex
  have hR := Lib.hid hr
  have hB := Lib.hid hb
  have hS := Lib.hid hsz
  have hu := used_le hr.wf
  have hroom := hr.wf.room0
  have hroom1 := hr.wf.room1
  have hw0 : IntKind.i64.wrap ((f.used : Int) + s.size) = (f.used : Int) + s.size := IntWalk.i64_in _ (by omega)
  clear hr hsz hb
  rcases get_cases f name with ⟨id, hg, h0, hgm⟩ | ⟨r, hg, hr0⟩
  · have G := Lib.hid hg
    have hid := Lib.hid (Fs.mget_ids hgm)
    have hgm' := Lib.hid hgm
    have hszb : (f.cont id).bytes.size ≤ 1099511627776 := (hR.out.wf.size id hid.out).1
    clear hg h0 hgm
    by_cases hfull : f.room < (f.used : Int) + s.size
    · have hd : f.append name s = (f, 15) := by unfold Fs.append; rw [G.out]; simp [hfull]
      have D := Lib.hid hd
      clear hd
      go_enter Tryz.func67, Tryz.ntmps67
      go_wp2_with fail
      refine (get_any b f F name _ (by exact hR.out) hS.out).mono ?_
      rintro e w1 ⟨rfl, hm⟩
      rw [G.out]
      have hR1 := Lib.hid (hR.out.mod0 hm)
      have c3 := (fcells (hm.at hB.out (fun h => h))).c3
      have hw := hw0
      go_wp2_with fail
      go_region_with (go_at_call 116; refine (used_any b f F _ (by exact hR1.out)).mono ?_; rintro e w2 ⟨rfl, hm2⟩; have c3' := (fcells (hm2.at (hm.at hB.out (fun h => h)) (fun h => h))).c3)
      all_goals
        have hm2' := hm2
        go_wp2
        go_ret
        rw [D.out]
        exact FsP.same rfl hR.out (hm.drew.trans hm2' (fun _ _ h => h))
    · have hd : f.append name s = ({ f.step.1 with cont := upd f.cont id ⟨(f.cont id).bytes ++ s, (f.cont id).synced⟩ }, f.step.2) := by unfold Fs.append; rw [G.out]; simp [hfull]
      have D := Lib.hid hd
      have hfull' : (f.used : Int) + s.size ≤ f.room := by omega
      clear hd hfull
      go_enter Tryz.func67, Tryz.ntmps67
      go_wp2_with fail
      refine (get_any b f F name _ (by exact hR.out) hS.out).mono ?_
      rintro e w1 ⟨rfl, hm⟩
      rw [G.out]
      have hR1 := Lib.hid (hR.out.mod0 hm)
      have c3 := (fcells (hm.at hB.out (fun h => h))).c3
      have hw := hw0
      go_wp2_with fail
      go_region_with (go_at_call 116; refine (used_any b f F _ (by exact hR1.out)).mono ?_; rintro e w2 ⟨rfl, hm2⟩; have c3' := (fcells (hm2.at (hm.at hB.out (fun h => h)) (fun h => h))).c3)
      all_goals
        have hm2' : Mod BSet.none w w2 := hm.drew.trans hm2 (fun _ _ h => h)
        clear hw
        go_wp2_with fail
        refine (step_rep b f F _ (by exact hR.out.mod0 hm2')).mono ?_
        rintro e w3 ⟨rfl, h3, hm3⟩
        have hid3 : id ∈ f.step.1.ids := by rw [Fs.step_ids]; exact hid.out
        have hf3 : FileAt w3.heap id (f.cont id) := by have := (h3.files id hid3).2; rw [(step_same f).2.1] at this; exact this
        have n0 : w3.cell? ⟨id, 0, none⟩ = some (.string (f.cont id).bytes) := cell_of_at hf3 0
        have e0 : w3.frozen? ⟨id, 0, none⟩ = false := free_of_at hf3 0
        have H3 := Lib.hid h3
        have HM3 := Lib.hid hm3
        have HF3 := Lib.hid hf3
        have HI3 := Lib.hid hid3
        clear h3 hm3 hf3 hid3
        go_wp2
        go_ret
        rw [D.out]
        have hc := (step_same f).2.1
        have hmm : Mod F w w3 := (hm2'.none_any).trans (HM3.out.mono (G := F) (fun j _ hj => by rw [show j = b from hj]; exact hR.out.own)) (fun _ _ h => h)
        refine FsP.of rfl ?_ (hmm.setCell (.inl (show F id from hR.out.own_id hid.out)) _)
        have := H3.out.setFile (w' := w3.setCell ⟨id, 0, none⟩ (.string ((f.cont id).bytes ++ s))) (x := ⟨(f.cont id).bytes ++ s, (f.cont id).synced⟩) HI3.out (by unfold FileAt; rw [at_setCell_same HF3.out]; simp) (mod_one _ _ _ _) (by rw [hc]; exact hR.out.wf.append s hgm'.out hfull')
        rw [hc] at this
        exact this
  · have G := Lib.hid hg
    have hr1 : (r != 0) = true := by rw [bne, hr0]; rfl
    have hd : f.append name s = (f, r) := by unfold Fs.append; rw [hg]
    have D := Lib.hid hd
    clear hg hd
    go_enter Tryz.func67, Tryz.ntmps67
    go_wp2_with fail
    refine (get_any b f F name _ (by exact hR.out) hS.out).mono ?_
    rintro e w1 ⟨rfl, hm⟩
    rw [G.out]
    go_wp2
    go_ret
    rw [D.out]
    exact FsP.same rfl hR.out hm
end Go.Proofs.YthogefmngddnbaaGreatDoor
/-
  DERIVED: THE SHELF's CONTRACTS AT THIS DUMP, IN PLAIN WORDS (tools/lay-plain.mjs out of 'TryzIt.lean', which tools/lay-shelf.mjs wrote): THE SAME DECLARATIONS UNDER THE SAME NAMES: 'import', 'namespace', 'open', 'def', 'theorem' AND NOTHING ELSE: no command of the shelf's: FOR A HAND-IN. Each laying: the table of numbers ('.._ren') and one theorem, a field a fact of the dump's own or the kernel's comparison; each contract: ONE APPLICATION.
-/
namespace Go.Proofs
open Go.Shelf
def Tryz.keys73_ren : Go.Shelf.Ren := ⟨fun | 7 => 73 | 10 => 127 | n => n, fun | 23 => 102 | 26 => 9 | 3 => 112 | 28 => 116 | 0 => 0 | 27 => 115 | 33 => 48 | 4 => 4 | n => n, fun | n => n⟩
theorem Tryz.keys73 : Go.Proofs.SlLaysZ.n7 Tryz.prog Tryz.keys73_ren := {
  mixed := by kernel_rfl
  f7 := ⟨Tryz.f73.name, by decide, Tryz.func73.trans (congrArg some (by kernel_rfl))⟩
  f10 := ⟨Tryz.f127.name, by decide, Tryz.func127.trans (congrArg some (by kernel_rfl))⟩
  t0 := Tryz.underlying0
  a0 := Tryz.isAgg0
  z0 := Tryz.sizeOf0
  v0 := Tryz.zeroValue0
  t4 := Tryz.underlying4
  a4 := Tryz.isAgg4
  z4 := Tryz.sizeOf4
  v4 := Tryz.zeroValue4
  t23 := Tryz.underlying102
  a23 := Tryz.isAgg102
  z23 := Tryz.sizeOf102
  v23 := Tryz.zeroValue102
  t26 := Tryz.underlying9
  a26 := Tryz.isAgg9
  z26 := Tryz.sizeOf9
  v26 := Tryz.zeroValue9
  t27 := Tryz.underlying115
  a27 := Tryz.isAgg115
  z27 := Tryz.sizeOf115
  v27 := Tryz.zeroValue115
  t28 := Tryz.underlying116
  a28 := Tryz.isAgg116
  z28 := Tryz.sizeOf116
  v28 := Tryz.zeroValue116
  t33 := Tryz.underlying48
  a33 := Tryz.isAgg48
  z33 := Tryz.sizeOf48
  v33 := Tryz.zeroValue48 }
def Tryz.sorted72_ren : Go.Shelf.Ren := ⟨fun | 6 => 72 | 8 => 125 | 9 => 126 | 11 => 175 | 13 => 177 | 12 => 176 | 23 => 222 | 24 => 223 | 14 => 213 | 15 => 214 | 16 => 215 | 17 => 216 | 18 => 217 | 19 => 218 | 20 => 219 | 21 => 220 | 22 => 221 | 25 => 246 | 26 => 247 | 27 => 248 | 28 => 249 | 29 => 250 | 30 => 251 | 31 => 268 | n => n, fun | 26 => 9 | 28 => 116 | 24 => 22 | 0 => 0 | 3 => 3 | 37 => 182 | 48 => 217 | 50 => 143 | 4 => 4 | 40 => 226 | 39 => 225 | 45 => 122 | 5 => 5 | 9 => 9 | 51 => 254 | 55 => 257 | 57 => 276 | 58 => 277 | 33 => 48 | n => n, fun | n => n⟩
theorem Tryz.sorted72 : Go.Proofs.SlLaysZ.n6 Tryz.prog Tryz.sorted72_ren := {
  mixed := by kernel_rfl
  f6 := ⟨Tryz.f72.name, by decide, Tryz.func72.trans (congrArg some (by kernel_rfl))⟩
  f8 := ⟨Tryz.f125.name, by decide, Tryz.func125.trans (congrArg some (by kernel_rfl))⟩
  f11 := ⟨Tryz.f175.name, by decide, Tryz.func175.trans (congrArg some (by kernel_rfl))⟩
  t0 := Tryz.underlying0
  a0 := Tryz.isAgg0
  z0 := Tryz.sizeOf0
  v0 := Tryz.zeroValue0
  t24 := Tryz.underlying22
  a24 := Tryz.isAgg22
  z24 := Tryz.sizeOf22
  v24 := Tryz.zeroValue22
  t26 := Tryz.underlying9
  a26 := Tryz.isAgg9
  z26 := Tryz.sizeOf9
  v26 := Tryz.zeroValue9
  t28 := Tryz.underlying116
  a28 := Tryz.isAgg116
  z28 := Tryz.sizeOf116
  v28 := Tryz.zeroValue116
  i26 := by kernel_rfl }
def Tryz.sort126_ren : Go.Shelf.Ren := ⟨fun | 6 => 126 | 8 => 177 | 9 => 176 | 19 => 222 | 20 => 223 | 21 => 213 | 22 => 214 | 23 => 215 | 24 => 216 | 25 => 217 | 26 => 218 | 27 => 219 | 28 => 220 | 29 => 221 | 36 => 246 | 31 => 247 | 32 => 248 | 37 => 249 | 38 => 250 | 39 => 251 | 41 => 268 | n => n, fun | 27 => 22 | 29 => 9 | 3 => 3 | 32 => 182 | 26 => 22 | 0 => 0 | 44 => 217 | 46 => 143 | 4 => 4 | 36 => 226 | 35 => 225 | 41 => 122 | 5 => 5 | 9 => 9 | 53 => 254 | 57 => 257 | 63 => 276 | 64 => 277 | n => n, fun | n => n⟩
theorem Tryz.sort126 : Go.Proofs.SlLaysM.n6 Tryz.prog Tryz.sort126_ren := {
  mixed := by kernel_rfl
  f6 := ⟨Tryz.f126.name, by decide, Tryz.func126.trans (congrArg some (by kernel_rfl))⟩
  f8 := Tryz.func177.trans (congrArg some (by kernel_rfl))
  f9 := ⟨Tryz.f176.name, by decide, Tryz.func176.trans (congrArg some (by kernel_rfl))⟩
  f19 := Tryz.func222.trans (congrArg some (by kernel_rfl))
  f20 := Tryz.func223.trans (congrArg some (by kernel_rfl))
  f21 := ⟨Tryz.f213.name, by decide, Tryz.func213.trans (congrArg some (by kernel_rfl))⟩
  f22 := ⟨Tryz.f214.name, by decide, Tryz.func214.trans (congrArg some (by kernel_rfl))⟩
  f23 := ⟨Tryz.f215.name, by decide, Tryz.func215.trans (congrArg some (by kernel_rfl))⟩
  f24 := ⟨Tryz.f216.name, by decide, Tryz.func216.trans (congrArg some (by kernel_rfl))⟩
  f25 := ⟨Tryz.f217.name, by decide, Tryz.func217.trans (congrArg some (by kernel_rfl))⟩
  f26 := ⟨Tryz.f218.name, by decide, Tryz.func218.trans (congrArg some (by kernel_rfl))⟩
  f27 := ⟨Tryz.f219.name, by decide, Tryz.func219.trans (congrArg some (by kernel_rfl))⟩
  f28 := ⟨Tryz.f220.name, by decide, Tryz.func220.trans (congrArg some (by kernel_rfl))⟩
  f29 := ⟨Tryz.f221.name, by decide, Tryz.func221.trans (congrArg some (by kernel_rfl))⟩
  f31 := Tryz.func247.trans (congrArg some (by kernel_rfl))
  f32 := Tryz.func248.trans (congrArg some (by kernel_rfl))
  f36 := ⟨Tryz.f246.name, by decide, Tryz.func246.trans (congrArg some (by kernel_rfl))⟩
  f37 := ⟨Tryz.f249.name, by decide, Tryz.func249.trans (congrArg some (by kernel_rfl))⟩
  f38 := ⟨Tryz.f250.name, by decide, Tryz.func250.trans (congrArg some (by kernel_rfl))⟩
  f39 := ⟨Tryz.f251.name, by decide, Tryz.func251.trans (congrArg some (by kernel_rfl))⟩
  f41 := ⟨Tryz.f268.name, by decide, Tryz.func268.trans (congrArg some (by kernel_rfl))⟩
  t0 := Tryz.underlying0
  a0 := Tryz.isAgg0
  z0 := Tryz.sizeOf0
  v0 := Tryz.zeroValue0
  t3 := Tryz.underlying3
  a3 := Tryz.isAgg3
  z3 := Tryz.sizeOf3
  v3 := Tryz.zeroValue3
  t4 := Tryz.underlying4
  a4 := Tryz.isAgg4
  z4 := Tryz.sizeOf4
  v4 := Tryz.zeroValue4
  t5 := Tryz.underlying5
  a5 := Tryz.isAgg5
  z5 := Tryz.sizeOf5
  v5 := Tryz.zeroValue5
  t9 := Tryz.underlying9
  a9 := Tryz.isAgg9
  z9 := Tryz.sizeOf9
  v9 := Tryz.zeroValue9
  t26 := Tryz.underlying22
  a26 := Tryz.isAgg22
  z26 := Tryz.sizeOf22
  v26 := Tryz.zeroValue22
  t27 := Tryz.underlying22
  a27 := Tryz.isAgg22
  z27 := Tryz.sizeOf22
  v27 := Tryz.zeroValue22
  t29 := Tryz.underlying9
  a29 := Tryz.isAgg9
  z29 := Tryz.sizeOf9
  v29 := Tryz.zeroValue9
  t32 := Tryz.underlying182
  a32 := Tryz.isAgg182
  z32 := Tryz.sizeOf182
  v32 := Tryz.zeroValue182
  t35 := Tryz.underlying225
  a35 := Tryz.isAgg225
  z35 := Tryz.sizeOf225
  v35 := Tryz.zeroValue225
  t36 := Tryz.underlying226
  a36 := Tryz.isAgg226
  z36 := Tryz.sizeOf226
  v36 := Tryz.zeroValue226
  t41 := Tryz.underlying122
  a41 := Tryz.isAgg122
  z41 := Tryz.sizeOf122
  v41 := Tryz.zeroValue122
  t44 := Tryz.underlying217
  a44 := Tryz.isAgg217
  z44 := Tryz.sizeOf217
  v44 := Tryz.zeroValue217
  t46 := Tryz.underlying143
  a46 := Tryz.isAgg143
  z46 := Tryz.sizeOf143
  v46 := Tryz.zeroValue143
  t53 := Tryz.underlying254
  a53 := Tryz.isAgg254
  z53 := Tryz.sizeOf254
  v53 := Tryz.zeroValue254
  t57 := Tryz.underlying257
  a57 := Tryz.isAgg257
  z57 := Tryz.sizeOf257
  v57 := Tryz.zeroValue257
  t63 := Tryz.underlying276
  a63 := Tryz.isAgg276
  z63 := Tryz.sizeOf276
  v63 := Tryz.zeroValue276
  t64 := Tryz.underlying277
  a64 := Tryz.isAgg277
  z64 := Tryz.sizeOf277
  v64 := Tryz.zeroValue277 }
def Tryz.clone71_ren : Go.Shelf.Ren := ⟨fun | 5 => 71 | 7 => 124 | n => n, fun | 23 => 102 | 25 => 9 | 3 => 112 | 4 => 4 | 20 => 20 | n => n, fun | n => n⟩
theorem Tryz.clone71 : Go.Proofs.SlLaysW.n5 Tryz.prog Tryz.clone71_ren := {
  mixed := by kernel_rfl
  f5 := ⟨Tryz.f71.name, by decide, Tryz.func71.trans (congrArg some (by kernel_rfl))⟩
  f7 := Tryz.func124.trans (congrArg some (by kernel_rfl))
  t4 := Tryz.underlying4
  a4 := Tryz.isAgg4
  z4 := Tryz.sizeOf4
  v4 := Tryz.zeroValue4
  t20 := Tryz.underlying20
  a20 := Tryz.isAgg20
  z20 := Tryz.sizeOf20
  v20 := Tryz.zeroValue20
  t23 := Tryz.underlying102
  a23 := Tryz.isAgg102
  z23 := Tryz.sizeOf102
  v23 := Tryz.zeroValue102 }
end Go.Proofs
/- The folder's methods: Names (slices.Sorted of maps.Keys), SyncDir (maps.Clone), Limit, Arm, On, New. -/
namespace Go.Proofs.YthogefmngddnbaaGreatDoor
open Go.RowKit Go.MapKept Go.Maps Go.Sort Go.Shelf Go.ChangeMaps

def ofL (l : List UInt8) : ByteArray := ⟨l.toArray⟩
def sortL (l : List (List UInt8)) : List (List UInt8) := l.mergeSort (fun x y => decide (x ≤ y))
def Fs.names (f : Fs) : List ByteArray := (sortL (f.now.map (·.1.data.toList))).map ofL

theorem le_total_bytes (a b : List UInt8) : (decide (a ≤ b) || decide (b ≤ a)) = true := by
  simp; exact List.le_total a b
theorem le_trans_bytes (a b c : List UInt8) (h1 : decide (a ≤ b) = true) (h2 : decide (b ≤ c) = true) : decide (a ≤ c) = true := by
  simp at *; exact List.le_trans h1 h2
theorem sortL_perm {a b : List (List UInt8)} (h : a.Perm b) : sortL a = sortL b := by
  refine List.Perm.eq_of_pairwise (le := fun x y => decide (x ≤ y) = true) ?_ (List.pairwise_mergeSort le_trans_bytes le_total_bytes a) (List.pairwise_mergeSort le_trans_bytes le_total_bytes b) ?_
  · intro x y _ _ h1 h2
    simp at h1 h2
    exact List.le_antisymm h1 h2
  · exact (List.mergeSort_perm a _).trans (h.trans (List.mergeSort_perm b _).symm)

/-- how a file's place reads: as nothing but itself -/
def ptrElem (v : Value) : Option (DataW Unit × List MemPlace) := match v with | .pointer _ => some (.nil, []) | _ => none

theorem strKeys_map {H : Type} (es : List (Lit × DataW H)) : strKeys (.map es) = es.map fun p => strOf p.1 := rfl
theorem own_of_map {w : World} {m : Nat} {L : Nm} (h : MapAt w.heap m L) (hL : L.length ≤ 64) (hs : ∀ p, p ∈ L → okName p.1 = true) :
    ∃ D : DataW Unit, w.ownsMap Tryz.prog 9 ptrElem m 64 D ∧ Maps.size D ≤ 64 ∧ (strKeys D).Perm (L.map (·.1.data.toList)) := by
  obtain ⟨es, clk, h1, h2, h3⟩ := h
  have hsz : es.size = L.length := by have := congrArg List.length h3; simpa using this
  have hrd : ∀ x, x ∈ es.toList → ∃ p, p ∈ L ∧ (x.key, x.val) = ent p ∧ WideElems.rd (H := Unit) Tryz.prog 9 ptrElem x = some (.string p.1.data.toList, .nil) := by
    intro x hx
    have : (x.key, x.val) ∈ L.map ent := by rw [← h3]; exact List.mem_map.2 ⟨x, hx, rfl⟩
    obtain ⟨p, hp, he⟩ := List.mem_map.1 this
    have he' := he
    simp only [ent, Prod.mk.injEq] at he
    refine ⟨p, hp, he'.symm, ?_⟩
    unfold WideElems.rd
    rw [← he.1, ← he.2, WideMaps.keyOf_string_mk under9 (by have := okName_size (hs p hp); unfold maxLen; omega)]
    rfl
  have hkeys : ∀ (l : List MapEntry) (M : Nm), l.map (fun e => (e.key, e.val)) = M.map ent → (∀ x, x ∈ l → x ∈ es.toList) → l.map (fun x => strOf (WideElems.rg (H := Unit) Tryz.prog 9 ptrElem x).1) = M.map (·.1.data.toList) := by
    intro l
    induction l with
    | nil => intro M h _; cases M with
      | nil => rfl
      | cons p M => simp at h
    | cons x l ih =>
      intro M h hm
      cases M with
      | nil => simp at h
      | cons p M =>
        simp only [List.map_cons, List.cons.injEq] at h ⊢
        refine ⟨?_, ih M h.2 (fun y hy => hm y (List.mem_cons_of_mem _ hy))⟩
        obtain ⟨q, _, hq, hr⟩ := hrd x (hm x List.mem_cons_self)
        have : ent q = ent p := hq.symm.trans h.1
        simp only [ent, Prod.mk.injEq, Value.string.injEq] at this
        unfold WideElems.rg
        rw [hr, this.1]
        rfl
  have hown : w.ownsMap Tryz.prog 9 ptrElem m 64 (.map ((es.toList.map (WideElems.rg (H := Unit) Tryz.prog 9 ptrElem)).foldr DataW.insert [])) :=
    ⟨es, clk, h1, ⟨by unfold maxLen; omega, h2, fun x hx => by obtain ⟨p, _, _, hr⟩ := hrd x hx; exact ⟨_, hr⟩⟩, by omega, rfl⟩
  refine ⟨_, hown, hown.size_le, ?_⟩
  · rw [strKeys_map]
    refine ((WideShapes.sorted_perm _).map _).trans ?_
    rw [List.map_map]
    rw [← hkeys es.toList L h3 (fun _ h => h)]
    simp only [Function.comp_def]
    generalize List.map _ es.toList = l
    exact List.Perm.refl l

/-- slices.Sort's two contracts here -/
theorem sorts72 (m : Nat) : AnyZ.SortsIn Tryz.prog Tryz.sorted72_ren Fence.wide m :=
  ⟨fun blk off cap ss W hH hblk hsz => callsIn_wide.2 (AnyM.slices_Sort_string Tryz.sort126 blk off cap ss W hH hblk hsz),
   fun p cap W => callsIn_wide.2 (AnyM.slices_Sort_string_none Tryz.sort126 p cap W)⟩
theorem keys_any (mb : Option Nat) (W : World) : Calls Tryz.prog 73 #[.map mb] W fun e w' => e = .returned (.func (.func 127) #[] #[.pointer (some ⟨W.heap.size, 0, none⟩)]) ∧ w' = W.alloc (.cells #[.map mb] 102) :=
  callsIn_wide.1 (AnyZ.keys_in Tryz.keys73 Fence.wide 5 trivial rfl mb W)
set_option maxHeartbeats 1000000 in
theorem sorted_any {H : Type} (b nn : Nat) (D0 : DataW H) (R : Value → Option (DataW H × List MemPlace)) (w : World) (hown : w.ownsMap Tryz.prog 9 R b nn D0) (hmax : Maps.size D0 ≤ maxLen) (hbytes : Maps.size D0 * 16 ≤ 140737488355328) :
    Calls Tryz.prog 72 #[.func (.func 127) #[] #[.pointer (some ⟨w.heap.size, 0, none⟩)]] (w.alloc (.cells #[.map (some b)] 102)) fun e w' => ∃ (v : Value) (ss : List (List UInt8)), e = .returned v ∧ ss.Perm (strKeys D0) ∧
      w'.ownsRow (w.alloc (.cells #[.map (some b)] 102)).heap.size 9 1 v ss.length ((ss.mergeSort (fun x y => decide (x ≤ y))).map encStr) ∧ (v = .slice none 0 0 ↔ ss = []) ∧ Below (w.alloc (.cells #[.map (some b)] 102)).heap.size (w.alloc (.cells #[.map (some b)] 102)) w' := by
  have hbl := hown.lt
  have hseq : SeqGives Fence.wide 2 Tryz.prog 127 #[.pointer (some ⟨w.heap.size, 0, none⟩)] encStr (fun ss => ss.Perm (strKeys D0)) (Maps.size D0) (w.alloc (.cells #[.map (some b)] 102)) :=
    AnyZ.keys_gives (ρ := Tryz.keys73_ren) { Tryz.keys73 with } Fence.wide _ trivial rfl (by omega) w.heap.size b nn D0 _ (by simp) (by simp) (by
      obtain ⟨es, clock, hb, Ft, hs, hD⟩ := hown
      exact ⟨es, clock, (Below.heap_alloc _ _ b hbl).trans hb, Ft, hs, hD⟩)
  exact callsIn_wide.1 (AnyZ.sorted_in Tryz.sorted72 Fence.wide 5 trivial trivial trivial trivial rfl (by omega) (sorts72 _) (enters_of Tryz.func126 (by kernel_rfl) rfl) 127 #[.pointer (some ⟨w.heap.size, 0, none⟩)] trivial (enters_of Tryz.func127 (by kernel_rfl) rfl) _ _ hmax hbytes _ hseq)

/-- the sorted keys of a map from names to files, in a slice of the call's own -/
def SortedP (L : Nm) (w : World) (e : Ending) (w' : World) : Prop :=
  ∃ v, e = .returned v ∧ Owns w'.heap (grow BSet.none w w') 9 1 v L.length (strs ((sortL (L.map (·.1.data.toList))).map ofL)) ∧ Mod BSet.none w w'
theorem sortedKeys_any (m : Nat) (L : Nm) (w : World) (h : MapAt w.heap m L) (hL : L.length ≤ 64) (hs : ∀ p, p ∈ L → okName p.1 = true) :
    Calls Tryz.prog 72 #[.func (.func 127) #[] #[.pointer (some ⟨w.heap.size, 0, none⟩)]] (w.alloc (.cells #[.map (some m)] 102)) (SortedP L w) := by
  obtain ⟨D, hown, hsz, hperm⟩ := own_of_map h hL hs
  refine (sorted_any m 64 D ptrElem w hown (by unfold maxLen; omega) (by omega)).mono ?_
  rintro e w' ⟨v, ss, rfl, hp, hrow, _, hb⟩
  have hmod : Mod BSet.none w w' := ((Mod.refl BSet.none w).alloc _).trans (Mod.of_below (F := BSet.none) hb) (fun _ _ h => h)
  have hlen : ss.length = L.length := by rw [(hp.trans hperm).length_eq, List.length_map]
  have hlist : (ss.mergeSort (fun x y => decide (x ≤ y))).map encStr = strs ((sortL (L.map (·.1.data.toList))).map ofL) := by
    rw [← sortL_perm (hp.trans hperm)]
    unfold strs sortL
    rw [List.map_map]
    rfl
  rw [hlist, hlen] at hrow
  refine ⟨v, rfl, Owns.of_row hrow (fun k hk => .inr ⟨?_, (hrow.lt k hk).2⟩), hmod⟩
  have := (hrow.lt k hk).1
  simp at this; omega

def NamesP (f : Fs) (w : World) (e : Ending) (w' : World) : Prop := SortedP f.now w e w'
set_option maxHeartbeats 400000 in
theorem names_any (b : Nat) (f : Fs) (F : BSet) (w : World) (hr : FsRep w.heap b f F) : Calls Tryz.prog 25 #[.pointer (some ⟨b, 0, none⟩)] w (NamesP f w) := by
  obtain ⟨m1, m2, sv, vs, hb, F1, F2, hne, hm1, -⟩ := hr.ex
  have c0 := (fcells hb).c0
  have hM := Lib.hid hm1
  have hR := Lib.hid hr
  clear hb hm1 hr
  go_enter Tryz.func25, Tryz.ntmps25
  go_wp2_with fail
  refine (keys_any _ _).mono ?_
  rintro e w1 ⟨rfl, rfl⟩
  go_wp2_with fail
  refine (sortedKeys_any m1 f.now w hM.out hR.out.wf.nowMany hR.out.wf.names).mono ?_
  rintro e w2 ⟨v, rfl, ho, hm⟩
  have HO := Lib.hid ho
  have HM := Lib.hid hm
  clear ho hm
  go_wp2
  go_ret
  exact ⟨v, rfl, HO.out, HM.out⟩
theorem names_nil (w : World) : Calls Tryz.prog 25 #[.pointer none] w fun e w' => e = .returned (.slice none 0 0) ∧ w = w' := by
  go_enter Tryz.func25, Tryz.ntmps25
  go_wp2
  go_ret
  exact ⟨rfl, rfl⟩
end Go.Proofs.YthogefmngddnbaaGreatDoor
/- The folder's methods: SyncDir (maps.Clone), Limit, Arm, On, New. -/
namespace Go.Proofs.YthogefmngddnbaaGreatDoor
open Go.RowKit Go.MapKept Go.Shelf

def CloneP (m : Nat) (L : Nm) (w : World) (e : Ending) (w' : World) : Prop := e = .returned (.map (some w.heap.size)) ∧ MapAt w'.heap w.heap.size L ∧ Mod BSet.none w w' ∧ w'.heap.size = w.heap.size + 1
theorem clone_any (m : Nat) (L : Nm) (w : World) (h : MapAt w.heap m L) : Calls Tryz.prog 71 #[.map (some m)] w (CloneP m L w) := by
  obtain ⟨es, clk, h1, h2⟩ := h
  refine (AnyW.maps_Clone Tryz.clone71 m es clk w h1).mono ?_
  rintro e w' ⟨rfl, rfl⟩
  exact ⟨rfl, ⟨es, clk, at_new, h2⟩, (Mod.refl _ _).alloc _, by simp⟩

theorem ready_none (f : Fs) : readyOf f [] = if f.on then 0 else 14 := by unfold readyOf; simp

set_option maxHeartbeats 1000000 in
theorem syncDir_any (b : Nat) (f : Fs) (F : BSet) (w : World) (hr : FsRep w.heap b f F) : Calls Tryz.prog 79 #[.pointer (some ⟨b, 0, none⟩)] w (FsP b F f.syncDir w) := by
  have hR := Lib.hid hr
  have hone := Lib.hid (ready_none f)
  clear hr
  cases hon : f.on with
  | false =>
    have hd : f.syncDir = (f, 14) := by unfold Fs.syncDir; rw [hon]; rfl
    have D := Lib.hid hd
    have O := Lib.hid hon
    clear hd hon
    go_enter Tryz.func79, Tryz.ntmps79
    go_wp2_with fail
    refine (ready_any b f F _ [] _ (by exact hR.out) (slAt_nil _ 0) (by simp)).mono ?_
    rintro e w1 ⟨rfl, hm⟩
    rw [hone.out, O.out]
    go_wp2
    go_ret
    rw [D.out]
    exact FsP.same rfl hR.out hm
  | true =>
    have O := Lib.hid hon
    rcases step2_cases f with hs | hs
    · have hd : f.syncDir = ({ f.step.1 with firm := f.now, since := [] }, 0) := by unfold Fs.syncDir; rw [hon]; simp [hs]
      have D := Lib.hid hd
      have hs' := Lib.hid hs
      clear hd hon hs
      go_enter Tryz.func79, Tryz.ntmps79
      go_wp2_with fail
      refine (ready_any b f F _ [] _ (by exact hR.out) (slAt_nil _ 0) (by simp)).mono ?_
      rintro e w1 ⟨rfl, hm⟩
      rw [hone.out, O.out]
      go_wp2_with fail
      refine (step_rep b f F _ (by exact hR.out.mod0 hm)).mono ?_
      rintro e w2 ⟨rfl, h2, hm2⟩
      rw [hs'.out]
      obtain ⟨m1, m2, sv, vs, hb, F1, F2, hne, hm1, -⟩ := h2.ex
      have c0 := (fcells hb).c0
      have M1 := Lib.hid hm1
      have B2 := Lib.hid hb
      have H2 := Lib.hid h2
      have HM2 := Lib.hid hm2
      clear h2 hm2 hm1 hb
      go_wp2_with fail
      refine (clone_any m1 _ _ (by exact M1.out)).mono ?_
      rintro e w3 ⟨rfl, hM3, hm3, hsz3⟩
      have B3 := Lib.hid (hm3.at B2.out (fun h => h))
      have d1 := (fcells B3.out).c1
      have d2 := (fcells B3.out).c2
      have e1 : w3.frozen? ⟨b, 1, none⟩ = false := free_of_at B3.out 1
      have e2 : w3.frozen? ⟨b, 2, none⟩ = false := free_of_at B3.out 2
      have HM3 := Lib.hid hM3
      have Hm3 := Lib.hid hm3
      clear hM3 hm3
      go_wp2
      go_ret
      rw [D.out]
      have hb4 : ((w3.setCell ⟨b, 1, none⟩ (.map (some w2.heap.size))).setCell ⟨b, 2, none⟩ (.slice none 0 0)).heap[b]? = some (fsObj m1 w2.heap.size (.slice none 0 0) f.step.1) := by
        rw [at_setCell_same (at_setCell_same B3.out)]; simp [fsObj]
      have late : ∀ (j : Nat) (o : Obj), w3.heap[j]? = some o → tyOf o ≠ 106 → ((w3.setCell ⟨b, 1, none⟩ (.map (some w2.heap.size))).setCell ⟨b, 2, none⟩ (.slice none 0 0)).heap[j]? = some o := fun j o hj ht =>
        stay_set (at_setCell_same B3.out) _ _ (stay_set B3.out _ _ hj ht) ht
      have hq := step_same f
      have hbw : b < w.heap.size := hR.out.lt b hR.out.own
      have hsz12 : w.heap.size ≤ w2.heap.size := Nat.le_trans hm.size HM2.out.size
      have hsz4 : ((w3.setCell ⟨b, 1, none⟩ (.map (some w2.heap.size))).setCell ⟨b, 2, none⟩ (.slice none 0 0)).heap.size = w3.heap.size := by simp [World.setCell]
      have mm : Mod F w w3 := ((hm.none_any).trans (HM2.out.mono (G := F) (fun j _ hj => by rw [show j = b from hj]; exact hR.out.own)) (fun _ _ h => h)).trans Hm3.out.none_any (fun _ _ h => h)
      refine ⟨rfl, ⟨fun k hk => ?_, .inl hR.out.own, ⟨m1, w2.heap.size, .slice none 0 0, [], hb4, .inl F1, .inr ⟨hsz12, by rw [hsz4, hsz3]; omega⟩, ?_, ?_, ?_, ⟨rfl, .inl ⟨rfl, rfl⟩⟩, ⟨rfl, fun i u p h => by simp at h⟩⟩, ?_, hR.out.wf.syncDir⟩,
        (mm.setCell (.inl (show F b from hR.out.own)) _).setCell (.inl (show F b from hR.out.own)) _⟩
      · rw [hsz4]
        rcases hk with hk | hk
        · have := hR.out.lt k hk; omega
        · rw [hsz4] at hk; exact hk.2
      · intro he
        obtain ⟨es, clk, h1, _⟩ := M1.out
        have := lt_of_at h1
        omega
      · obtain ⟨es, clk, h1, h2⟩ := M1.out
        exact ⟨es, clk, late _ _ (Hm3.out.at h1 (fun h => h)) (show 999 ≠ 106 by decide), h2⟩
      · obtain ⟨es, clk, h1, h2⟩ := HM3.out
        exact ⟨es, clk, late _ _ h1 (show 999 ≠ 106 by decide), by rw [hq.2.2.2.1] at h2; exact h2⟩
      · intro id hid
        have hid2 : id ∈ f.step.1.ids := by
          rw [Fs.step_ids]
          simp only [Fs.ids, List.mem_append, List.mem_map, hq.2.2.2.1, List.filterMap_nil, List.not_mem_nil, or_false] at hid ⊢
          rcases hid with hid | hid <;> exact .inl (.inl hid)
        obtain ⟨h1, h2⟩ := H2.out.files id hid2
        exact ⟨.inl h1, late _ _ (Hm3.out.at h2 (fun h => h)) (show 119 ≠ 106 by decide)⟩
    · have hd : f.syncDir = f.step := by unfold Fs.syncDir; rw [hon]; simp [hs]
      have D := Lib.hid hd
      have hs' := Lib.hid hs
      clear hd hon hs
      go_enter Tryz.func79, Tryz.ntmps79
      go_wp2_with fail
      refine (ready_any b f F _ [] _ (by exact hR.out) (slAt_nil _ 0) (by simp)).mono ?_
      rintro e w1 ⟨rfl, hm⟩
      rw [hone.out, O.out]
      go_wp2_with fail
      refine (step_rep b f F _ (by exact hR.out.mod0 hm)).mono ?_
      rintro e w2 ⟨rfl, h2, hm2⟩
      rw [hs'.out]
      have H2 := Lib.hid h2
      have HM2 := Lib.hid hm2
      clear h2 hm2
      go_wp2
      go_ret
      rw [D.out]
      exact FsP.of (by rw [hs'.out]; rfl) H2.out ((hm.none_any).trans (HM2.out.mono (G := F) (fun j _ hj => by rw [show j = b from hj]; exact hR.out.own)) (fun _ _ h => h))

theorem room_any (n : Int) (w : World) : Calls Tryz.prog 63 #[.int .i64 n] w fun e w' => e = .returned (.int .i64 (Fs.roomOf n)) ∧ w = w' := by
  go_enter Tryz.func63, Tryz.ntmps63
  go_wp2
  go_ret
  refine ⟨ret_int ?_, rfl⟩
  unfold Fs.roomOf
  first | rfl | (simp; omega)
/-- a field of the folder's own is written -/
theorem mod_two (w : World) (b i j : Nat) (u v : Value) : Mod (BSet.one b) w ((w.setCell ⟨b, i, none⟩ u).setCell ⟨b, j, none⟩ v) := (mod_one w b i u).trans (mod_one _ b j v) (fun _ _ h => h)
theorem FsRep.field {w w' : World} {b m1 m2 : Nat} {sv : Value} {f f' : Fs} {F : BSet} (r : FsRep w.heap b f F) (hb : w.heap[b]? = some (fsObj m1 m2 sv f)) (hb' : w'.heap[b]? = some (fsObj m1 m2 sv f')) (m : Mod (BSet.one b) w w')
    (h1 : f'.now = f.now) (h2 : f'.firm = f.firm) (h3 : f'.since = f.since) (h4 : f'.cont = f.cont) (hw : f'.Wf) : FsRep w'.heap b f' F := by
  obtain ⟨m1', m2', sv', vs', g1, f1, f2, hne, hm1, hm2, ho, hc⟩ := r.ex
  have st := m.stay hb 106 rfl
  rw [hb] at g1
  simp [fsObj] at g1
  obtain ⟨rfl, rfl, rfl, -⟩ := g1
  refine ⟨fun k hk => Nat.lt_of_lt_of_le (r.lt k hk) m.size, r.own, ⟨m1, m2, sv, vs', hb', f1, f2, hne, by rw [h1]; exact hm1.stay st (by decide), by rw [h2]; exact hm2.stay st (by decide), by rw [h3]; exact ho.stay st (by decide), by rw [h3]; exact hc.stay st (by decide) (by decide)⟩, fun id hid => ?_, hw⟩
  have hid' : id ∈ f.ids := by unfold Fs.ids at hid ⊢; rw [h1, h2, h3] at hid; exact hid
  rw [h4]
  exact ⟨(r.files id hid').1, (r.files id hid').2.stay st (by decide)⟩

/-- what a method without a result leaves -/
def FsU (b : Nat) (F : BSet) (f' : Fs) (w : World) (e : Ending) (w' : World) : Prop := e = .returned (.tuple #[]) ∧ FsRep w'.heap b f' F ∧ Mod (BSet.one b) w w'
set_option maxHeartbeats 400000 in
theorem limit_any (b : Nat) (f : Fs) (F : BSet) (n : Int) (w : World) (hr : FsRep w.heap b f F) : Calls Tryz.prog 17 #[.pointer (some ⟨b, 0, none⟩), .int .i64 n] w (FsU b F (f.limit n) w) := by
  obtain ⟨m1, m2, sv, vs, hb, -⟩ := hr.ex
  have c3 := (fcells hb).c3
  have e3 : w.frozen? ⟨b, 3, none⟩ = false := free_of_at hb 3
  have hR := Lib.hid hr
  have hB := Lib.hid hb
  clear hr hb
  go_enter Tryz.func17, Tryz.ntmps17
  go_wp2_with (go_at_call 63; refine (room_any _ _).mono ?_; rintro e w1 ⟨rfl, rfl⟩)
  go_end0
  exact ⟨rfl, hR.out.field hB.out (by rw [at_setCell_same hB.out]; simp [fsObj, Fs.limit]) (mod_one _ _ _ _) rfl rfl rfl rfl (hR.out.wf.limit n), mod_one _ _ _ _⟩
set_option maxHeartbeats 400000 in
theorem arm_any (b : Nat) (f : Fs) (F : BSet) (n : Int) (w : World) (hr : FsRep w.heap b f F) (hn : n ≤ 9223372036854775807) : Calls Tryz.prog 35 #[.pointer (some ⟨b, 0, none⟩), .int .i64 n] w (FsU b F (f.arm n) w) := by
  obtain ⟨m1, m2, sv, vs, hb, -⟩ := hr.ex
  have c5 := (fcells hb).c5
  have c6 := (fcells hb).c6
  have e5 : w.frozen? ⟨b, 5, none⟩ = false := free_of_at hb 5
  have e6 : w.frozen? ⟨b, 6, none⟩ = false := free_of_at hb 6
  have hR := Lib.hid hr
  have hB := Lib.hid hb
  have hN := Lib.hid hn
  clear hr hb hn
  go_enter Tryz.func35, Tryz.ntmps35
  go_wp2
  go_end0
  exact ⟨rfl, hR.out.field hB.out (by rw [at_setCell_same (at_setCell_same hB.out)]; simp [fsObj, Fs.arm]) (mod_two _ _ _ _ _ _) rfl rfl rfl rfl (hR.out.wf.arm n hN.out), mod_two _ _ _ _ _ _⟩
set_option maxHeartbeats 400000 in
theorem on_any (b : Nat) (f : Fs) (F : BSet) (w : World) (hr : FsRep w.heap b f F) : Calls Tryz.prog 60 #[.pointer (some ⟨b, 0, none⟩)] w fun e w' => e = .returned (.bool f.on) ∧ w = w' := by
  obtain ⟨m1, m2, sv, vs, hb, -⟩ := hr.ex
  have c4 := (fcells hb).c4
  clear hr hb
  go_enter Tryz.func60, Tryz.ntmps60
  go_wp2
  go_ret
  exact ⟨rfl, rfl⟩

def Fs.new (n : Int) : Fs := { cont := fun _ => ⟨⟨#[]⟩, 0⟩, now := [], firm := [], since := [], room := Fs.roomOf n, on := true, armed := false, steps := 0 }
theorem Fs.Wf.new (n : Int) : (Fs.new n).Wf where
  room0 := (roomOf_bd n).1
  room1 := (roomOf_bd n).2
  steps0 := Int.le_refl 0
  steps1 := by show (0 : Int) ≤ 9223372036854775807; decide
  now := rfl
  many := fun i => by show (Fs.hist [] ([].take i)).length ≤ 64; simp [hist]
  firmNodup := List.nodup_nil
  firmNames := fun p hp => by cases hp
  sinceNames := fun n id h => by cases h
  size := fun id h => by cases h
def NewP (n : Int) (w : World) (e : Ending) (w' : World) : Prop := ∃ b, e = .returned (.pointer (some ⟨b, 0, none⟩)) ∧ FsRep w'.heap b (Fs.new n) (grow BSet.none w w') ∧ Mod BSet.none w w'
set_option maxHeartbeats 400000 in
theorem new_any (n : Int) (w : World) : Calls Tryz.prog 15 #[.int .i64 n] w (NewP n w) := by
  have hmm := @run_makeMap Tryz.prog
  go_enter Tryz.func15, Tryz.ntmps15
  go_wp2_with (go_at_call 63; refine (room_any _ _).mono ?_; rintro e w1 ⟨rfl, rfl⟩)
  go_ret
  have hsz : (((w.alloc (.map #[] 0)).alloc (.map #[] 0)).alloc (fsObj w.heap.size (w.heap.size + 1) (.slice none 0 0) (Fs.new n))).heap.size = w.heap.size + 3 := by simp
  refine ⟨w.heap.size + 1 + 1, rfl, ⟨fun k hk => ?_, .inr ⟨by omega, by simp⟩, ⟨w.heap.size, w.heap.size + 1, .slice none 0 0, [], at_newk (by simp), .inr ⟨Nat.le_refl _, by simp; omega⟩, .inr ⟨by omega, by simp⟩, by omega, ?_, ?_, ⟨rfl, .inl ⟨rfl, rfl⟩⟩, ⟨rfl, fun i u p h => by simp at h⟩⟩, (fun id hid => by cases hid), Fs.Wf.new n⟩, (((Mod.refl _ _).alloc _).alloc _).alloc _⟩
  · rcases hk with hk | hk
    · exact hk.elim
    · exact hk.2
  · exact ⟨#[], 0, at_alloc (at_alloc at_new), stamped_empty 0, rfl⟩
  · exact ⟨#[], 0, at_alloc (at_newk (by simp)), stamped_empty 0, rfl⟩
end Go.Proofs.YthogefmngddnbaaGreatDoor
