/- Words for what a call does to the heap: which blocks it may turn, and what stays. -/
import Derived.Test.YthogefmngddnbaaGreatDoorProg
import Derived.WalkKit
import Derived.WalkSpells
import Derived.WalkLawsBesides
import Derived.Lib.Hide
import Derived.Deep.QuietTactic
import Derived.BigQuiet
import Derived.Lib.LaidTab
import Derived.OpenShut
import Derived.Laws.BitsAllLaws
import Derived.Laws.ShiftsVarLaws
set_option linter.unusedVariables false
set_option linter.unusedSimpArgs false
namespace Go.Proofs.YthogefmngddnbaaGreatDoor
open Go.RowKit

/-- a set of blocks -/
abbrev BSet := Nat → Prop
def BSet.none : BSet := fun _ => False
def BSet.or (F G : BSet) : BSet := fun b => F b ∨ G b
def BSet.one (b : Nat) : BSet := fun c => c = b

/-- Of the blocks that were there, only those of F may have turned. -/
structure Mod (F : BSet) (w w' : World) : Prop where
  os : w'.os = w.os
  output : w'.output = w.output
  size : w.heap.size ≤ w'.heap.size
  block : ∀ k, k < w.heap.size → ¬ F k → w'.heap[k]? = w.heap[k]?

theorem Mod.refl (F : BSet) (w : World) : Mod F w w := ⟨rfl, rfl, Nat.le_refl _, fun _ _ _ => rfl⟩
theorem Mod.mono {F G : BSet} {w w' : World} (h : Mod F w w') (hs : ∀ k, k < w.heap.size → F k → G k) : Mod G w w' :=
  ⟨h.os, h.output, h.size, fun k hk hG => h.block k hk (fun hF => hG (hs k hk hF))⟩
/-- two steps, the second of which may turn what the first one made -/
theorem Mod.trans {F G : BSet} {a b c : World} (h : Mod F a b) (k : Mod G b c) (hs : ∀ i, i < a.heap.size → G i → F i) : Mod F a c :=
  ⟨k.os.trans h.os, k.output.trans h.output, Nat.le_trans h.size k.size, fun i hi hF =>
    (k.block i (Nat.lt_of_lt_of_le hi h.size) (fun hG => hF (hs i hi hG))).trans (h.block i hi hF)⟩
theorem Mod.drew {F : BSet} {a w : World} (h : Mod F a w) : Mod F a w.drew := ⟨h.os, h.output, h.size, h.block⟩
theorem Mod.drewN {F : BSet} {a w : World} (h : Mod F a w) (n : Nat) : Mod F a (w.drewN n) := ⟨h.os, h.output, h.size, h.block⟩
theorem Mod.alloc {F : BSet} {a w : World} (h : Mod F a w) (o : Obj) : Mod F a (w.alloc o) :=
  ⟨h.os, h.output, Nat.le_trans h.size (by simp), fun k hk hF => (Below.heap_alloc _ _ _ (Nat.lt_of_lt_of_le hk h.size)).trans (h.block k hk hF)⟩
theorem Mod.setCell {F : BSet} {a w : World} (h : Mod F a w) {p : Addr} (hp : F p.block ∨ a.heap.size ≤ p.block) (u : Value) : Mod F a (w.setCell p u) :=
  ⟨h.os, h.output, Nat.le_trans h.size (by simp [World.setCell]), fun k hk hF => by
    rw [Below.heap_setCell _ _ _ _ (by rintro rfl; rcases hp with hp | hp; exact hF hp; omega)]; exact h.block k hk hF⟩
theorem Mod.of_below {F : BSet} {w w' : World} (h : Below w.heap.size w w') : Mod F w w' := ⟨h.os, h.output, h.size, fun k hk _ => h.block k hk⟩
theorem Mod.frame {w w' : World} (h : Mod BSet.none w w') (may : MemPlace → Prop) : w.keptBut w' may := by
  refine ⟨h.os, h.output, fun i hi => ?_⟩
  rw [h.block i hi (fun h => h)]
  split <;> simp_all
theorem Mod.cell {F : BSet} {w w' : World} (h : Mod F w w') {p : Addr} {v : Value} (hc : w.cell? p = some v) (hF : ¬ F p.block) : w'.cell? p = some v :=
  (World.cell?_of_block (w := w) (h.block _ (World.block_lt_of_cell? w p hc) hF)).trans hc
theorem Mod.frozen {F : BSet} {w w' : World} (h : Mod F w w') {p : Addr} {v : Value} (hc : w.cell? p = some v) (hF : ¬ F p.block) : w'.frozen? p = w.frozen? p :=
  World.frozen?_of_block (w := w) (h.block _ (World.block_lt_of_cell? w p hc) hF)
theorem Mod.at {F : BSet} {w w' : World} (h : Mod F w w') {b : Nat} {o : Obj} (hc : w.heap[b]? = some o) (hF : ¬ F b) : w'.heap[b]? = some o :=
  (h.block _ (Array.getElem?_eq_some_iff.1 hc).1 hF).trans hc

theorem lt_of_at {h : Array Obj} {b : Nat} {o : Obj} (hc : h[b]? = some o) : b < h.size := (Array.getElem?_eq_some_iff.1 hc).1

theorem cell_of_at {w : World} {b : Nat} {cs : Array Value} {t : TypeId} {fr : Nat × Nat} (h : w.heap[b]? = some (.cells cs t fr)) (i : Nat) : w.cell? ⟨b, i, none⟩ = cs[i]? := by
  simp [World.cell?, h]
theorem free_of_at {w : World} {b : Nat} {cs : Array Value} {t : TypeId} (h : w.heap[b]? = some (.cells cs t (0, 0))) (i : Nat) : w.frozen? ⟨b, i, none⟩ = false := by
  simp [World.frozen?, h]
theorem at_alloc {w : World} {b : Nat} {o o' : Obj} (h : w.heap[b]? = some o) : (w.alloc o').heap[b]? = some o := by
  rw [Below.heap_alloc _ _ _ (lt_of_at h)]; exact h
theorem at_new {w : World} {o : Obj} : (w.alloc o).heap[w.heap.size]? = some o := by show (w.heap.push o)[w.heap.size]? = _; simp
theorem at_newk {w : World} {o : Obj} {n : Nat} (hn : n = w.heap.size) : (w.alloc o).heap[n]? = some o := by subst hn; exact at_new
theorem at_setCell {w : World} {b : Nat} {o : Obj} {p : Addr} {u : Value} (h : w.heap[b]? = some o) (hb : b ≠ p.block) : (w.setCell p u).heap[b]? = some o := by
  rw [Below.heap_setCell _ _ _ _ hb]; exact h
theorem at_setCell_same {w : World} {b i : Nat} {cs : Array Value} {t : TypeId} {fr : Nat × Nat} {u : Value} (h : w.heap[b]? = some (.cells cs t fr)) :
    (w.setCell ⟨b, i, none⟩ u).heap[b]? = some (.cells (cs.setIfInBounds i u) t fr) := by
  simp [World.setCell, Array.getElem?_modify, h]
end Go.Proofs.YthogefmngddnbaaGreatDoor
/- Rows that a call owns, kinds of blocks, and append. -/
namespace Go.Proofs.YthogefmngddnbaaGreatDoor
open Go.RowKit

/-- a slice value that owns its row -/
def Owns (h : Array Obj) (F : BSet) (e : TypeId) (size : Nat) (v : Value) (n : Nat) (xs : List Value) : Prop :=
  xs.length = n * size ∧ ((v = .slice none 0 0 ∧ n = 0) ∨
    ∃ g cap cur, v = .slice (some ⟨g, 0, none⟩) n cap ∧ F g ∧ h[g]? = some (.cells cur e (0, 0)) ∧ n ≤ cap ∧ cap ≤ maxLen ∧ cur.size = cap * size ∧ cur.toList.take (n * size) = xs)
theorem Owns.row {w : World} {F : BSet} {e : TypeId} {size : Nat} {v : Value} {n : Nat} {xs : List Value} (h : Owns w.heap F e size v n xs) : w.ownsRow 0 e size v n xs := by
  obtain ⟨h1, h2⟩ := h
  refine ⟨h1, ?_⟩
  rcases h2 with h2 | ⟨g, cap, cur, h3, _, h4⟩
  · exact .inl h2
  · exact .inr ⟨g, cap, cur, h3, Nat.zero_le _, h4⟩
theorem Owns.of_row {w : World} {F : BSet} {base : Nat} {e : TypeId} {size : Nat} {v : Value} {n : Nat} {xs : List Value} (h : w.ownsRow base e size v n xs) (hF : ∀ k, v.ownBlock = some k → F k) : Owns w.heap F e size v n xs := by
  obtain ⟨h1, h2⟩ := h
  refine ⟨h1, ?_⟩
  rcases h2 with h2 | ⟨g, cap, cur, rfl, _, h4⟩
  · exact .inl h2
  · exact .inr ⟨g, cap, cur, rfl, hF g rfl, h4⟩
/-- the blocks of a set are as they were -/
def Kept (F : BSet) (h h' : Array Obj) : Prop := ∀ k, F k → h'[k]? = h[k]?
theorem Owns.keep {h h' : Array Obj} {F G : BSet} {e : TypeId} {size : Nat} {v : Value} {n : Nat} {xs : List Value} (hx : Owns h F e size v n xs) (hk : Kept F h h') (hG : ∀ k, F k → G k) : Owns h' G e size v n xs := by
  obtain ⟨h1, h2⟩ := hx
  refine ⟨h1, ?_⟩
  rcases h2 with h2 | ⟨g, cap, cur, h3, hF, h4, h5⟩
  · exact .inl h2
  · exact .inr ⟨g, cap, cur, h3, hG g hF, by rw [hk g hF]; exact h4, h5⟩

/-- the blocks of a set, and those that were made since -/
def grow (F : BSet) (w w' : World) : BSet := fun k => F k ∨ (w.heap.size ≤ k ∧ k < w'.heap.size)
theorem grow_trans {F : BSet} {a b c : World} (h1 : a.heap.size ≤ b.heap.size) (h2 : b.heap.size ≤ c.heap.size) : grow (grow F a b) b c = grow F a c := by
  funext k; apply propext; unfold grow
  constructor
  · rintro ((h | h) | h)
    · exact .inl h
    · exact .inr ⟨h.1, by omega⟩
    · exact .inr ⟨by omega, h.2⟩
  · rintro (h | h)
    · exact .inl (.inl h)
    · by_cases hk : k < b.heap.size
      · exact .inl (.inr ⟨h.1, hk⟩)
      · exact .inr ⟨by omega, h.2⟩
theorem grow_self (F : BSet) (w : World) : grow F w w = F := by
  funext k; apply propext; unfold grow
  constructor
  · rintro (h | h)
    · exact h
    · omega
  · exact .inl

theorem mod_one (w : World) (b i : Nat) (u : Value) : Mod (BSet.one b) w (w.setCell ⟨b, i, none⟩ u) := Mod.setCell (F := BSet.one b) (Mod.refl _ w) (.inl (show BSet.one b b from rfl)) u
/-- the kind of a block: its element's type -/
def tyOf : Obj → Nat
  | .cells _ t _ => t
  | .map _ _ => 999
  | _ => 998
/-- all but the blocks of one kind stay -/
def Stay (t : Nat) (h h' : Array Obj) : Prop := ∀ (k : Nat) (o : Obj), h[k]? = some o → tyOf o ≠ t → h'[k]? = some o
theorem Mod.stay {b : Nat} {o : Obj} {w w' : World} (m : Mod (BSet.one b) w w') (hb : w.heap[b]? = some o) (t : Nat) (ht : tyOf o = t) : Stay t w.heap w'.heap := by
  subst ht
  intro k o' hk hne
  refine m.at hk (fun h => hne ?_)
  rw [show k = b from h, hb] at hk
  rw [Option.some.inj hk]
theorem Stay.of_mod0 {w w' : World} (m : Mod BSet.none w w') (t : Nat) : Stay t w.heap w'.heap := fun _ _ hk _ => m.at hk (fun h => h)
theorem Owns.stay {h h' : Array Obj} {F : BSet} {e : TypeId} {t size : Nat} {v : Value} {n : Nat} {xs : List Value} (hx : Owns h F e size v n xs) (hs : Stay t h h') (ht : e ≠ t) : Owns h' F e size v n xs := by
  obtain ⟨h1, h2⟩ := hx
  refine ⟨h1, ?_⟩
  rcases h2 with h2 | ⟨g, cap, cur, h3, hF, h4, h5⟩
  · exact .inl h2
  · exact .inr ⟨g, cap, cur, h3, hF, hs _ _ h4 ht, h5⟩
theorem Owns.weaken {h : Array Obj} {F G : BSet} {e : TypeId} {size : Nat} {v : Value} {n : Nat} {xs : List Value} (hx : Owns h F e size v n xs) (hG : ∀ k, F k → G k) : Owns h G e size v n xs := hx.keep (fun _ _ => rfl) hG
theorem owns_form {w : World} {base : Nat} {e : TypeId} {size : Nat} {v : Value} {n : Nat} {xs : List Value} (h : w.ownsRow base e size v (n + 1) xs) : ∃ g cap, v = .slice (some ⟨g, 0, none⟩) (n + 1) cap := by
  rcases h.2 with ⟨_, h⟩ | ⟨g, cap, cur, rfl, _⟩
  · omega
  · exact ⟨g, cap, rfl⟩
theorem stay_grown {w w' : World} {base : Nat} {e : TypeId} {size : Nat} {v : Value} {n : Nat} {xs : List Value} (hg : w.grownBy w' v.ownBlock) (h : w.ownsRow base e size v n xs) : Stay e w.heap w'.heap := by
  intro k o hk hne
  rw [hg.block k (lt_of_at hk) ?_]
  · exact hk
  · intro he
    rcases h.2 with ⟨rfl, _⟩ | ⟨g, cap, cur, rfl, _, hgg, _⟩
    · simp [Value.ownBlock] at he
    · simp [Value.ownBlock] at he
      subst he
      rw [hgg] at hk
      cases hk
      exact hne rfl
theorem stay_alloc (t : Nat) (w : World) (o : Obj) : Stay t w.heap (w.alloc o).heap := fun _ _ hk _ => at_alloc hk
theorem stay_set {w : World} {b i t : Nat} {cs : Array Value} {fr : Nat × Nat} {u : Value} (h : w.heap[b]? = some (.cells cs t fr)) : Stay t w.heap (w.setCell ⟨b, i, none⟩ u).heap :=
  (mod_one w b i u).stay h t rfl
theorem Stay.trans {t : Nat} {a b c : Array Obj} (h : Stay t a b) (k : ∀ (i : Nat) (o : Obj), a[i]? = some o → tyOf o ≠ t → b[i]? = some o → c[i]? = some o) : Stay t a c := fun i o ho hne => k i o ho hne (h i o ho hne)

theorem Owns.lt {h : Array Obj} {F : BSet} {e : TypeId} {size : Nat} {v : Value} {n : Nat} {xs : List Value} (hx : Owns h F e size v n xs) {g : Nat} (hg : v.ownBlock = some g) : F g ∧ g < h.size := by
  rcases hx.2 with ⟨rfl, _⟩ | ⟨g', cap, cur, rfl, hF, h4, _⟩
  · simp [Value.ownBlock] at hg
  · simp [Value.ownBlock] at hg; subst hg; exact ⟨hF, lt_of_at h4⟩
theorem Mod.grown {F : BSet} {a w w' : World} {row : Option Nat} (h : Mod F a w) (hg : w.grownBy w' row) (hF : ∀ g, row = some g → g < a.heap.size → F g) : Mod F a w' :=
  ⟨hg.os.trans h.os, hg.output.trans h.output, Nat.le_trans h.size hg.size, fun k hk hn =>
    (hg.block k (Nat.lt_of_lt_of_le hk h.size) (fun he => hn (hF k he.symm hk))).trans (h.block k hk hn)⟩

/-- append, said of blocks: the row that was owned, or a new one -/
theorem append_owns (w : World) (F : BSet) (t ty e : TypeId) (i : TypeInfo) (z : Value) (size bytes : Nat) (ht : Tryz.prog.underlying t = some (.slice e)) (hi : Tryz.prog.info? e = some i) (hz : i.zero = some z)
    (hsize : i.size = size) (hby : i.bytes = bytes) (hzs : z.cells.size = size) (hsz : 0 < size)
    (v : Value) (n : Nat) (xs : List Value) (hown : Owns w.heap F e size v n xs)
    (a : Addr) (m c : Nat) (news : List Value) (hl : news.length = m * size) (hnews : ∀ j u, news[j]? = some u → w.cell? (a.add j) = some u) (h1 : ∀ u ∈ news, u.oneCell' = true)
    (h63 : n + m ≤ maxLen) (hbytes : (n + m) * bytes ≤ 140737488355328) :
    ∃ v' w', (Builtin.append_ #[t, t] ty #[v, .slice (some a) m c]).run Tryz.prog w = .ok v' w' ∧ Owns w'.heap (grow F w w') e size v' (n + m) (xs ++ news) ∧ Mod F w w' ∧ Stay e w.heap w'.heap := by
  obtain ⟨v', w', hr, h2, h3, h4⟩ := run_append_own (P := Tryz.prog) w 0 t ty e i z size bytes ht hi hz hsize hby hzs hsz v n xs hown.row a m c news hl hnews h1 h63 hbytes (Nat.zero_le _)
  have hsmall : n + m ≤ 9223372036854775807 := by simp only [maxLen] at h63; omega
  refine ⟨v', w', hr, Owns.of_row h2 (fun k hk => ?_), (Mod.refl F w).grown h3 (fun g hg _ => (hown.lt hg).1), stay_grown h3 hown.row⟩
  have hk2 := (h2.lt k hk).2
  have key : v'.ownBlock = v.ownBlock ∨ v'.ownBlock = some w.heap.size := by
    subst hsize; subst hby
    rcases hown.2 with ⟨rfl, rfl⟩ | ⟨g, cap, cur, rfl, hF, hg, hnc, hcm, hcs, htake⟩
    · by_cases hm : m = 0
      · subst hm
        rw [h4.2 ⟨rfl, rfl⟩]
        exact .inl rfl
      · have hr' := run_append_nil (P := Tryz.prog) w t ty e i z ht hi hz a m c news hl hnews (by omega) (by omega) (by have hb := hbytes; simp only [Nat.zero_add] at hb; omega)
        rw [hr] at hr'
        cases hr'
        exact .inr rfl
    · by_cases hroom : n + m ≤ cap
      · have hfit : n * i.size + news.length ≤ cur.size := by rw [hl, hcs, ← Nat.add_mul]; exact Nat.mul_le_mul_right _ hroom
        have hr' := run_append_room (P := Tryz.prog) w t ty e i ht hi g n cap cur hg a m c news hl hnews h1 hroom hfit
        rw [hr] at hr'
        cases hr'
        exact .inl rfl
      · have hr' := run_append_grow (P := Tryz.prog) w t ty e i z ht hi hz ⟨g, 0, none⟩ n cap xs hown.1 (hown.row.cells (g := g) rfl) a m c news hl hnews (by omega) (by omega) (growslice_fits (by omega) hbytes)
        rw [hr] at hr'
        cases hr'
        exact .inr rfl
  rcases key with hv | hv
  · exact .inl (hown.lt (hv ▸ hk)).1
  · rw [hv] at hk
    cases hk
    exact .inr ⟨Nat.le_refl _, hk2⟩

theorem wpList_append_F {ops : Array Oper} {rest : List Oper} {o : Oper} {a : Act} {Q : Exit → Act → World → Prop} (w : World) (F : BSet) (hgd : o.guard = none) (s x : Operand) (t : TypeId)
    (ho : o.op = .call { callee := .builtin .append, args := #[s, x], argTypes := #[t, t] })
    (e : TypeId) (i : TypeInfo) (z : Value) (size bytes : Nat) (ht : Tryz.prog.underlying t = some (.slice e)) (hi : Tryz.prog.info? e = some i) (hz : i.zero = some z)
    (hsize : i.size = size) (hby : i.bytes = bytes) (hzs : z.cells.size = size) (hsz : 0 < size)
    (v : Value) (n : Nat) (xs : List Value) (hs : a.eval s = v) (hown : Owns w.heap F e size v n xs)
    (ad : Addr) (m c : Nat) (news : List Value) (hx : a.eval x = .slice (some ad) m c) (hl : news.length = m * size) (hnews : ∀ j u, news[j]? = some u → w.cell? (ad.add j) = some u) (h1 : ∀ u ∈ news, u.oneCell' = true)
    (h63 : n + m ≤ maxLen) (hbytes : (n + m) * bytes ≤ 140737488355328)
    (h : ∀ v' w', Owns w'.heap (grow F w w') e size v' (n + m) (xs ++ news) → Mod F w w' → Stay e w.heap w'.heap → wpList Tryz.prog ops Q rest (a.put o.dst v') w') : wpList Tryz.prog ops Q (o :: rest) a w :=
  wpList_plain hgd fun _ hK => by
    obtain ⟨v', w', hr, h2, h3, h4⟩ := append_owns w F t o.type e i z size bytes ht hi hz hsize hby hzs hsz v n xs hown ad m c news hl hnews h1 h63 hbytes
    unfold Oper.wp execOp
    simp only [ho, resolve, invoke, builtin, Sem.run_bind, Sem.run_pure, Result.andThen_ok, List.map_toArray, List.map_cons, List.map_nil, hs, hx, hr]
    exact hK _ _ (h v' w' h2 h3 h4)
theorem Owns.form {h : Array Obj} {F : BSet} {e : TypeId} {size : Nat} {v : Value} {n : Nat} {xs : List Value} (hx : Owns h F e size v (n + 1) xs) : ∃ g cap, v = .slice (some ⟨g, 0, none⟩) (n + 1) cap := by
  rcases hx.2 with ⟨_, h⟩ | ⟨g, cap, cur, rfl, _⟩
  · omega
  · exact ⟨g, cap, rfl⟩
end Go.Proofs.YthogefmngddnbaaGreatDoor
/- The folder of files as a plain function of what was done: no program in sight. -/
namespace Go.Proofs.YthogefmngddnbaaGreatDoor

/-- bytes of a text -/
def okByte (c : UInt8) : Bool := (97 ≤ c && c ≤ 122) || (48 ≤ c && c ≤ 57) || c == 46
def okName (s : ByteArray) : Bool := s.data.toList.all okByte && s.data.toList != [] && decide (s.size ≤ 20)

structure Fl where
  bytes : ByteArray
  synced : Nat

inductive FOp where
  | create (name : ByteArray) (id : Nat)
  | delete (name : ByteArray)

abbrev Nm := List (ByteArray × Nat)

def mget (L : Nm) (k : ByteArray) : Option Nat := (L.find? (fun p => p.1 = k)).map (·.2)
def mput (L : Nm) (k : ByteArray) (v : Nat) : Nm := if (mget L k).isSome then L.map (fun p => if p.1 = k then (k, v) else p) else L ++ [(k, v)]
def mdel (L : Nm) (k : ByteArray) : Nm := L.filter (fun p => p.1 ≠ k)

def FOp.app : FOp → Nm → Nm
  | .create n id, L => mput L n id
  | .delete n, L => mdel L n

structure Fs where
  cont : Nat → Fl
  now : Nm
  firm : Nm
  since : List FOp
  room : Int
  on : Bool
  armed : Bool
  steps : Int

def upd {α : Type} (f : Nat → α) (i : Nat) (v : α) : Nat → α := fun j => if j = i then v else f j

namespace Fs
def step (f : Fs) : Fs × Int := if f.armed then (if 0 < f.steps then ({ f with steps := f.steps - 1 }, 0) else ({ f with on := false }, 14)) else (f, 0)
def happens (f : Fs) (op : FOp) : Fs × Int := ({ f.step.1 with now := op.app f.now, since := f.since ++ [op] }, f.step.2)
def ready1 (f : Fs) (name : ByteArray) : Int := if f.on then (if okName name then 0 else 1) else 14
def get (f : Fs) (name : ByteArray) : Option Nat × Int := if f.ready1 name ≠ 0 then (none, f.ready1 name) else match mget f.now name with | some id => (some id, 0) | none => (none, 12)
def create (f : Fs) (nid : Nat) (name : ByteArray) : Fs × Int :=
  if f.ready1 name ≠ 0 then (f, f.ready1 name) else if (mget f.now name).isSome then (f, 13) else if 64 ≤ f.now.length then (f, 15)
  else ({ f with cont := upd f.cont nid ⟨⟨#[]⟩, 0⟩ }).happens (.create name nid)
def used (f : Fs) : Nat := (f.now.map fun p => (f.cont p.2).bytes.size).sum
def append (f : Fs) (name s : ByteArray) : Fs × Int :=
  match f.get name with
  | (none, e) => (f, e)
  | (some id, _) => if f.room < (f.used : Int) + s.size then (f, 15) else ({ f.step.1 with cont := upd f.cont id ⟨(f.cont id).bytes ++ s, (f.cont id).synced⟩ }, f.step.2)
def sync (f : Fs) (name : ByteArray) : Fs × Int :=
  match f.get name with
  | (none, e) => (f, e)
  | (some id, _) => if f.step.2 = 0 then ({ f.step.1 with cont := upd f.cont id ⟨(f.cont id).bytes, (f.cont id).bytes.size⟩ }, 0) else f.step
def delete (f : Fs) (name : ByteArray) : Fs × Int :=
  match f.get name with
  | (none, e) => (f, e)
  | (some _, _) => f.happens (.delete name)
def syncDir (f : Fs) : Fs × Int :=
  if f.on then (if f.step.2 = 0 then ({ f.step.1 with firm := f.now, since := [] }, 0) else f.step) else (f, 14)
def read (f : Fs) (name : ByteArray) : ByteArray × Int :=
  match f.get name with
  | (none, e) => (⟨#[]⟩, e)
  | (some id, _) => ((f.cont id).bytes, 0)
def roomOf (n : Int) : Int := min (max n 0) 1099511627776
def arm (f : Fs) (n : Int) : Fs := { f with armed := true, steps := max n 0 }
def limit (f : Fs) (n : Int) : Fs := { f with room := roomOf n }
def hist (L : Nm) (ops : List FOp) : Nm := ops.foldl (fun L op => op.app L) L
def ids (f : Fs) : List Nat := f.now.map (·.2) ++ f.firm.map (·.2) ++ f.since.filterMap (fun | .create _ id => some id | _ => none)
def Fresh (f : Fs) (i : Nat) : Prop := i ∉ f.ids

/-- what holds of each folder that there is: its sizes -/
structure Wf (f : Fs) : Prop where
  room0 : 0 ≤ f.room
  room1 : f.room ≤ 1099511627776
  steps0 : 0 ≤ f.steps
  steps1 : f.steps ≤ 9223372036854775807
  now : f.now = hist f.firm f.since
  many : ∀ i, (hist f.firm (f.since.take i)).length ≤ 64
  firmNodup : (f.firm.map (·.1)).Nodup
  firmNames : ∀ p, p ∈ f.firm → okName p.1 = true
  sinceNames : ∀ n id, FOp.create n id ∈ f.since → okName n = true
  size : ∀ id, id ∈ f.ids → (f.cont id).bytes.size ≤ 1099511627776 ∧ (f.cont id).synced ≤ (f.cont id).bytes.size
end Fs
theorem mget_isSome {L : Nm} {k : ByteArray} : (mget L k).isSome = true ↔ k ∈ L.map (·.1) := by
  unfold mget
  simp only [Option.isSome_map, List.find?_isSome, List.mem_map]
  constructor
  · rintro ⟨x, hx, h⟩; exact ⟨x, hx, by simpa using h⟩
  · rintro ⟨x, hx, h⟩; exact ⟨x, hx, by simpa using h⟩
theorem mget_none {L : Nm} {k : ByteArray} : mget L k = none ↔ k ∉ L.map (·.1) := by
  rw [← mget_isSome]; cases mget L k <;> simp
theorem mget_mem {L : Nm} {k : ByteArray} {v : Nat} (h : mget L k = some v) : (k, v) ∈ L := by
  unfold mget at h
  obtain ⟨p, hp, rfl⟩ := Option.map_eq_some_iff.1 h
  have h1 := List.mem_of_find?_eq_some hp
  have h2 := List.find?_some hp
  simp at h2
  rw [← h2]; exact h1
theorem keys_mput (L : Nm) (k : ByteArray) (v : Nat) : (mput L k v).map (·.1) = if (mget L k).isSome = true then L.map (·.1) else L.map (·.1) ++ [k] := by
  unfold mput
  by_cases h : (mget L k).isSome = true
  · rw [if_pos h, if_pos h, List.map_map]
    apply List.map_congr_left
    intro p _
    simp only [Function.comp]
    split
    · next h => exact h.symm
    · rfl
  · rw [if_neg h, if_neg h]; simp
theorem keys_mdel (L : Nm) (k : ByteArray) : (mdel L k).map (·.1) = (L.map (·.1)).filter (· ≠ k) := by
  unfold mdel; rw [List.filter_map]; rfl
theorem nodup_app (L : Nm) (op : FOp) (h : (L.map (·.1)).Nodup) : ((op.app L).map (·.1)).Nodup := by
  cases op with
  | create n id =>
    show ((mput L n id).map (·.1)).Nodup
    rw [keys_mput]
    split
    · exact h
    · next hn => rw [List.nodup_append]; exact ⟨h, by simp, by simpa using fun a b hab => by rintro rfl; exact hn (mget_isSome.2 (List.mem_map.2 ⟨_, hab, rfl⟩))⟩
  | delete n =>
    show ((mdel L n).map (·.1)).Nodup
    rw [keys_mdel]
    exact h.filter _
theorem nodup_hist (ops : List FOp) : ∀ (L : Nm), (L.map (·.1)).Nodup → ((Fs.hist L ops).map (·.1)).Nodup := by
  induction ops with
  | nil => exact fun L h => h
  | cons op ops ih => exact fun L h => ih _ (nodup_app L op h)
theorem ids_mput {L : Nm} {k : ByteArray} {v : Nat} {p : ByteArray × Nat} (h : p ∈ mput L k v) : p ∈ L ∨ p = (k, v) := by
  unfold mput at h
  split at h
  · obtain ⟨q, hq, rfl⟩ := List.mem_map.1 h
    split
    · exact .inr rfl
    · exact .inl hq
  · rcases List.mem_append.1 h with h | h
    · exact .inl h
    · exact .inr (by simpa using h)
theorem mem_app {L : Nm} {op : FOp} {p : ByteArray × Nat} (h : p ∈ op.app L) : p ∈ L ∨ ∃ n id, op = .create n id ∧ p = (n, id) := by
  cases op with
  | create n id => rcases ids_mput h with h | h; exact .inl h; exact .inr ⟨n, id, rfl, h⟩
  | delete n => exact .inl ((List.mem_filter.1 h).1)
theorem mem_hist (ops : List FOp) : ∀ (L : Nm) (p : ByteArray × Nat), p ∈ Fs.hist L ops → p ∈ L ∨ ∃ n id, FOp.create n id ∈ ops ∧ p = (n, id) := by
  induction ops with
  | nil => exact fun L p h => .inl h
  | cons op ops ih =>
    intro L p h
    rcases ih _ p h with h | ⟨n, id, h1, h2⟩
    · rcases mem_app h with h | ⟨n, id, h1, h2⟩
      · exact .inl h
      · exact .inr ⟨n, id, by rw [h1]; exact List.mem_cons_self, h2⟩
    · exact .inr ⟨n, id, List.mem_cons_of_mem _ h1, h2⟩
theorem hist_snoc (L : Nm) (ops : List FOp) (op : FOp) : Fs.hist L (ops ++ [op]) = op.app (Fs.hist L ops) := by
  unfold Fs.hist; rw [List.foldl_append]; rfl
theorem hist_nil (L : Nm) : Fs.hist L [] = L := rfl
theorem Fs.Wf.nodup {f : Fs} (h : f.Wf) : (f.now.map (·.1)).Nodup := by rw [h.now]; exact nodup_hist _ _ h.firmNodup
theorem Fs.Wf.names {f : Fs} (h : f.Wf) : ∀ p, p ∈ f.now → okName p.1 = true := by
  intro p hp
  rw [h.now] at hp
  rcases mem_hist _ _ _ hp with hp | ⟨n, id, h1, rfl⟩
  · exact h.firmNames p hp
  · exact h.sinceNames n id h1
theorem Fs.Wf.nowMany {f : Fs} (h : f.Wf) : f.now.length ≤ 64 := by
  have := h.many f.since.length
  rw [List.take_length, ← h.now] at this
  exact this
theorem okName_size {s : ByteArray} (h : okName s = true) : s.size ≤ 20 := by
  unfold okName at h; simp at h; exact h.2
end Go.Proofs.YthogefmngddnbaaGreatDoor
/- Names of files: the walks of named, and of ready. -/
namespace Go.Proofs.YthogefmngddnbaaGreatDoor
open Go.RowKit

theorem okByte_iff (c : UInt8) : okByte c = true ↔ (97 ≤ (c.toNat : Int) ∧ (c.toNat : Int) ≤ 122) ∨ (48 ≤ (c.toNat : Int) ∧ (c.toNat : Int) ≤ 57) ∨ (c.toNat : Int) = 46 := by
  unfold okByte
  simp [UInt8.le_iff_toNat_le, ← UInt8.toNat_inj]
  omega
theorem take_snoc (s : ByteArray) (k : Nat) (h : k < s.size) : s.data.toList.take (k + 1) = s.data.toList.take k ++ [s[k]] := by
  rw [List.take_succ_eq_append_getElem (by simpa using h)]; rfl
theorem okName_false (s : ByteArray) (k : Nat) (h : k < s.size) (hb : okByte s[k] = false) : okName s = false := by
  unfold okName
  have : s.data.toList.all okByte = false := by
    rw [List.all_eq_false]
    exact ⟨s[k], List.getElem_mem (l := s.data.toList) (n := k) (by simpa using h), by simp [hb]⟩
  simp [this]
theorem okName_full (s : ByteArray) (h : s.data.toList.all okByte = true) : okName s = (!s.toList.isEmpty && decide ((s.size : Int) ≤ 20)) := by
  unfold okName
  rw [h, ByteArray.toList_eq]
  cases hd : s.data.toList with
  | nil => simp
  | cons a l => show (true && decide (s.size ≤ 20)) = (!(a :: l).isEmpty && _); simp; omega
theorem ret_bool {a b : Bool} (h : a = b) : Ending.returned (.bool a) = .returned (.bool b) := by rw [h]

set_option maxHeartbeats 400000 in
theorem named_any (s : ByteArray) (w : World) (hs : s.size ≤ maxLen) :
    Calls Tryz.prog 179 #[.string s] w fun e w' => e = .returned (.bool (okName s)) ∧ w = w' := by
  unfold maxLen at hs
  go_enter Tryz.func179, Tryz.ntmps179
  go_wp2
  go_loop [3, 4, 7] (fun _ _ i => ∃ k : Nat, k ≤ s.size ∧ i = .int .i64 k ∧ (s.data.toList.take k).all okByte = true) (fun _ _ i => s.size - (intOf i).toNat)
  case atStart => exact ⟨0, Nat.zero_le _, rfl, rfl⟩
  case round =>
    obtain ⟨k, hk, rfl, ha⟩ := hrel
    by_cases hlt : k < s.size
    · have hts := Lib.hid (take_snoc s k hlt)
      have hbad := Lib.hid (okName_false s k hlt)
      have hbi := Lib.hid (okByte_iff s[k])
      go_wp2
      all_goals first
        | (go_ret
           refine ⟨ret_bool ?_, rfl⟩
           rw [hbad.out]
           rw [Bool.eq_false_iff]
           intro hc
           have hx := hbi.out.1 hc
           simp at *
           omega)
        | (go_round
           case rel =>
             refine ⟨k + 1, by omega, by go_num, ?_⟩
             rw [hts.out, List.all_append, ha]
             simp only [List.all_cons, List.all_nil, Bool.and_true, Bool.true_and]
             apply hbi.out.2
             simp at *
             omega
           case measure => simp [intOf]; omega)
    · have hfull : s.data.toList.take k = s.data.toList := List.take_of_length_le (by simp; omega)
      rw [hfull] at ha
      have hA := Lib.hid (okName_full s ha)
      clear ha hfull
      go_wp2
      all_goals
        go_ret
        refine ⟨ret_bool ?_, rfl⟩
        rw [hA.out]
        try simp [*]

/-- ready's own closure -/
theorem readyf_any (s : ByteArray) (w : World) (hs : s.size ≤ maxLen) :
    Calls Tryz.prog 178 #[.string s] w fun e w' => e = .returned (.bool (!okName s)) ∧ w = w' := by
  go_enter Tryz.func178, Tryz.ntmps178
  go_wp2_with (go_at_call 179; refine (named_any _ _ hs).mono ?_; rintro e w' ⟨rfl, rfl⟩)
  go_ret
  exact ⟨rfl, rfl⟩

end Go.Proofs.YthogefmngddnbaaGreatDoor
/- Slices of texts: what they hold; slices.IndexFunc, ContainsFunc at a slice of texts and whatever function value. -/
namespace Go.Proofs.YthogefmngddnbaaGreatDoor
open Go.RowKit

/-- a slice that holds these cells, one each -/
def SlAt (h : Array Obj) (v : Value) (xs : List Value) : Prop :=
  ∃ a c, v = .slice a xs.length c ∧ xs.length ≤ maxLen ∧ (xs ≠ [] → ∃ b o cs t fr, a = some ⟨b, o, none⟩ ∧ h[b]? = some (.cells cs t fr) ∧ ∀ i, i < xs.length → cs[o + i]? = xs[i]?)
/-- .. of a set of blocks -/
def SlIn (F : BSet) (v : Value) : Prop := match v with | .slice (some a) n _ => 0 < n → F a.block | _ => True
def strs (xs : List ByteArray) : List Value := xs.map .string
@[simp] theorem strs_length (xs : List ByteArray) : (strs xs).length = xs.length := by simp [strs]
theorem SlAt.mod {F : BSet} {w w' : World} {v : Value} {xs : List Value} (h : SlAt w.heap v xs) (m : Mod F w w') (hF : ∀ b o n c, v = .slice (some ⟨b, o, none⟩) n c → 0 < n → ¬ F b) : SlAt w'.heap v xs := by
  obtain ⟨a, c, rfl, hl, h⟩ := h
  refine ⟨a, c, rfl, hl, fun hne => ?_⟩
  obtain ⟨b, o, cs, t, fr, rfl, hb, hx⟩ := h hne
  exact ⟨b, o, cs, t, fr, rfl, m.at hb (hF b o _ _ rfl (List.length_pos_iff.2 hne)), hx⟩
theorem SlAt.mod0 {w w' : World} {v : Value} {xs : List Value} (h : SlAt w.heap v xs) (m : Mod BSet.none w w') : SlAt w'.heap v xs := h.mod m (fun _ _ _ _ _ _ h => h)

def Enters (k : FuncId) : Prop := ∀ args w, (callFunc k args).run Tryz.prog w = .ok (.enter k args) w
def StrPred (k : FuncId) (caps : Array Value) (p : ByteArray → Bool) (xs : List ByteArray) (w : World) : Prop :=
  ∀ s, s ∈ xs → ∀ w', Mod BSet.none w w' → Calls Tryz.prog k (#[.string s] ++ caps) w' fun e w'' => e = .returned (.bool (p s)) ∧ Mod BSet.none w' w''

def idxOf (p : ByteArray → Bool) (xs : List ByteArray) : Int := match xs.findIdx? p with | some i => i | none => -1

theorem ret_int {k : IntKind} {a b : Int} (h : a = b) : Ending.returned (.int k a) = .returned (.int k b) := by rw [h]
theorem idxOf_hit (p : ByteArray → Bool) (xs : List ByteArray) (j : Nat) (hj : j < xs.length) (h : ∀ q, q < j → (xs[q]?).any p = false) (hp : p xs[j] = true) : idxOf p xs = j := by
  unfold idxOf
  have : xs.findIdx? p = some j := by
    rw [List.findIdx?_eq_some_iff_getElem]
    exact ⟨hj, hp, fun q hq => by have := h q hq; rw [List.getElem?_eq_getElem (by omega)] at this; simpa using this⟩
  rw [this]
theorem idxOf_miss (p : ByteArray → Bool) (xs : List ByteArray) (h : ∀ q, q < xs.length → (xs[q]?).any p = false) : idxOf p xs = -1 := by
  unfold idxOf
  have : xs.findIdx? p = none := by
    rw [List.findIdx?_eq_none_iff]
    intro x hx
    obtain ⟨q, hq, rfl⟩ := List.getElem_of_mem hx
    have := h q hq
    rw [List.getElem?_eq_getElem hq] at this
    simpa using this
  rw [this]
theorem idxOf_nonneg (p : ByteArray → Bool) (xs : List ByteArray) : decide (idxOf p xs ≥ 0) = xs.any p := by
  unfold idxOf
  rw [Bool.eq_iff_iff]
  cases h : xs.findIdx? p with
  | none => simp [List.findIdx?_eq_none_iff] at h; simpa using h
  | some i => rw [List.findIdx?_eq_some_iff_getElem] at h; obtain ⟨hi, hp, _⟩ := h; simp; exact ⟨_, List.getElem_mem hi, hp⟩

set_option maxHeartbeats 400000 in
theorem indexFunc_str (k : FuncId) (caps : Array Value) (p : ByteArray → Bool) (v : Value) (xs : List ByteArray) (w : World) (hv : SlAt w.heap v (strs xs)) (hk : Enters k) (hp : StrPred k caps p xs w) :
    Calls Tryz.prog 169 #[v, .func (.func k) #[] caps] w fun e w' => e = .returned (.int .i64 (idxOf p xs)) ∧ Mod BSet.none w w' := by
  have hv' := hv
  obtain ⟨a, c, rfl, hl, hx⟩ := hv
  rw [strs_length] at hx hl ⊢
  unfold maxLen at hl
  go_enter Tryz.func169, Tryz.ntmps169
  go_wp2
  go_loopw [5, 8] (fun _ i wr => ∃ j : Nat, j ≤ xs.length ∧ i = .int .i64 j ∧ (∀ q, q < j → (xs[q]?).any p = false) ∧ Mod BSet.none w wr) (fun _ i _ => xs.length - (intOf i).toNat)
  case atStart => exact ⟨0, Nat.zero_le _, rfl, fun q hq => absurd hq (by omega), Mod.refl _ _⟩
  case round =>
    obtain ⟨j, hj, rfl, ha, hm⟩ := hrel
    by_cases hlt : j < xs.length
    · have hne : strs xs ≠ [] := by intro h; have := congrArg List.length h; simp at this; rw [this] at hlt; simp at hlt
      obtain ⟨b, o, cs, t, fr, rfl, hb, hxs⟩ := hx hne
      have hcell : wr.cell? ⟨b, o + j, none⟩ = some (.string (xs[j]'hlt)) := by
        rw [cell_of_at (hm.at hb (fun h => h)), hxs j hlt]; simp [strs, hlt]
      have hH := Lib.hid ha
      have hP := Lib.hid hp
      have hK := hk
      unfold Enters at hk
      clear ha hp hxs hb hx hne
      go_wp2_with fail
      refine (hP.out _ (List.getElem_mem hlt) _ hm).mono ?_
      rintro e w1 ⟨rfl, hm1⟩
      have hm2 := hm.trans hm1 (fun _ _ h => h)
      cases hpj : p xs[j] with
      | true =>
        go_wp2
        go_ret
        refine ⟨ret_int ?_, hm2⟩
        exact (idxOf_hit p xs j hlt hH.out hpj).symm
      | false =>
        go_wp2
        go_roundw
        case rel =>
          refine ⟨j + 1, by omega, by go_num, fun q hq => ?_, hm2⟩
          rcases Nat.lt_succ_iff_lt_or_eq.1 hq with h | rfl
          · exact hH.out q h
          · simp [hlt, hpj]
        case measure => simp [intOf]; omega
    · have hH := Lib.hid ha
      clear ha hp
      go_wp2
      go_ret
      exact ⟨ret_int (idxOf_miss p xs (fun q hq => hH.out q (by omega))).symm, hm⟩

theorem containsFunc_str (k : FuncId) (caps : Array Value) (p : ByteArray → Bool) (v : Value) (xs : List ByteArray) (w : World) (hv : SlAt w.heap v (strs xs)) (hk : Enters k) (hp : StrPred k caps p xs w) :
    Calls Tryz.prog 111 #[v, .func (.func k) #[] caps] w fun e w' => e = .returned (.bool (xs.any p)) ∧ Mod BSet.none w w' := by
  have hn := Lib.hid (idxOf_nonneg p xs)
  go_enter Tryz.func111, Tryz.ntmps111
  go_wp2_with (go_at_call 169; refine (indexFunc_str k caps p v xs _ hv hk hp).mono ?_; rintro e w' ⟨rfl, hm⟩)
  go_ret
  exact ⟨ret_bool (by rw [← hn.out]), hm⟩
end Go.Proofs.YthogefmngddnbaaGreatDoor
/- Sums: the walk of sum.behind, Of, Sealed, Open. -/
namespace Go.Proofs.YthogefmngddnbaaGreatDoor
open Go.RowKit

def sumTab : List Int := [0, 274646895, 549293790, 820201905, 1098587580, 1361435347, 1640403810, 1905808397, 2197175160, 2460548119, 2722870694, 2987750089, 3280807620, 3553878443, 3811616794, 4084100981]
def crcHalf (c : Int) : Int := bits BinOp.xor IntKind.u32 (c / 16) (sumTab[(bits BinOp.and IntKind.u32 c 15).toNat]?.getD 0)
def crcIn (c : Int) (b : UInt8) : Int := bits BinOp.xor IntKind.u32 c ((b.toNat : Int) % 4294967296)
def crcByte (c : Int) (b : UInt8) : Int := crcHalf (crcHalf (crcIn c b))
def crcAll (c : Int) (l : List UInt8) : Int := l.foldl crcByte c
theorem u32_range (op : BinOp) (x y : Int) : 0 ≤ bits op .u32 x y ∧ bits op .u32 x y ≤ 4294967295 := bounds_u32 (wf_bits op .u32 x y)
theorem and15 {x : Int} (h0 : 0 ≤ x) (h1 : x ≤ 4294967295) : 0 ≤ bits BinOp.and IntKind.u32 x 15 ∧ bits BinOp.and IntKind.u32 x 15 < 16 := by
  rw [u32_and x 15 h0 (by omega) (by decide) (by decide)]
  have : x.toNat &&& (15 : Int).toNat ≤ 15 := Nat.and_le_right
  omega
theorem crcHalf_range (c : Int) : 0 ≤ crcHalf c ∧ crcHalf c ≤ 4294967295 := u32_range _ _ _
theorem crcIn_range (c : Int) (b : UInt8) : 0 ≤ crcIn c b ∧ crcIn c b ≤ 4294967295 := u32_range _ _ _
theorem crcAll_range (l : List UInt8) : ∀ c, 0 ≤ c ∧ c ≤ 4294967295 → 0 ≤ crcAll c l ∧ crcAll c l ≤ 4294967295 := by
  induction l with
  | nil => exact fun c h => h
  | cons b l ih => exact fun c _ => ih _ (crcHalf_range _)
theorem crcAll_snoc (c : Int) (l : List UInt8) (b : UInt8) : crcAll c (l ++ [b]) = crcByte (crcAll c l) b := by unfold crcAll; rw [List.foldl_append]; rfl

def sumOf (s : ByteArray) : Int := bits BinOp.xor IntKind.u32 IntKind.u32.max (crcAll 4294967295 s.data.toList)
theorem sumOf_range (s : ByteArray) : 0 ≤ sumOf s ∧ sumOf s ≤ 4294967295 := u32_range _ _ _
def SumTab (w : World) : Prop := ∀ i, i < 16 → w.cell? ⟨5, i, none⟩ = some (.int .u32 (sumTab.getD i 0))

set_option maxHeartbeats 400000 in
theorem behind_one (c : Int) (b k : Nat) (s : ByteArray) (w : World) (h0 : 0 ≤ c) (h1 : c ≤ 4294967295) (hs : s.size ≤ maxLen) (hb : w.cell? ⟨b, 0, none⟩ = some (.string s)) (ht : SumTab w) :
    Calls Tryz.prog 242 #[.int .u32 c, .slice (some ⟨b, 0, none⟩) 1 k] w fun e w' => e = .returned (.int .u32 (crcAll c s.data.toList)) ∧ w = w' := by
  unfold maxLen at hs
  unfold SumTab at ht
  go_enter Tryz.func242, Tryz.ntmps242
  go_wp2
  refine wp_loop_rounds 2 ?_
  rw [rounds_succ]
  go_wp2
  go_loop [0, 7, 16] (fun c7 _ i => ∃ (j : Nat), j ≤ s.size ∧ i = .int .i64 j ∧ c7 = .int .u32 (crcAll c (s.data.toList.take j))) (fun _ _ i => s.size - (intOf i).toNat)
  case atStart => exact ⟨0, Nat.zero_le _, rfl, rfl⟩
  case round =>
    obtain ⟨j, hj, rfl, rfl⟩ := hrel
    obtain ⟨cc, hcc⟩ : ∃ cc, crcAll c (s.data.toList.take j) = cc := ⟨_, rfl⟩
    have hr := crcAll_range (s.data.toList.take j) c ⟨h0, h1⟩
    rw [hcc] at hr ⊢
    obtain ⟨hc0, hc1⟩ := hr
    have HC := Lib.hid hcc
    clear hcc
    by_cases hlt : j < s.size
    · have a1 := and15 (crcIn_range cc s[j]).1 (crcIn_range cc s[j]).2
      have a2 := and15 (crcHalf_range (crcIn cc s[j])).1 (crcHalf_range (crcIn cc s[j])).2
      have r1 := crcIn_range cc s[j]
      have r2 := crcHalf_range (crcIn cc s[j])
      have hts := Lib.hid (take_snoc s j hlt)
      simp only [crcHalf, crcIn] at a1 a2 r1 r2
      go_wp2
      go_round
      case rel =>
        refine ⟨j + 1, by omega, by go_num, ?_⟩
        rw [hts.out, crcAll_snoc, HC.out]
        rfl
      case measure => simp [intOf]; omega
    · have hfull : s.data.toList.take j = s.data.toList := List.take_of_length_le (by simp; omega)
      have HF := Lib.hid hfull
      clear hfull
      rw [HF.out] at HC
      clear HF
      go_wp2
      rw [rounds_succ]
      go_wp2
      go_ret
      exact ⟨ret_int HC.out.symm, rfl⟩

set_option maxHeartbeats 400000 in
theorem of_one (b k : Nat) (s : ByteArray) (w : World) (hs : s.size ≤ maxLen) (hb : w.cell? ⟨b, 0, none⟩ = some (.string s)) (ht : SumTab w) :
    Calls Tryz.prog 207 #[.slice (some ⟨b, 0, none⟩) 1 k] w fun e w' => e = .returned (.int .u32 (sumOf s)) ∧ w = w' := by
  have hr := crcAll_range s.data.toList 4294967295 ⟨by decide, by decide⟩
  have HT := Lib.hid ht
  clear ht
  go_enter Tryz.func207, Tryz.ntmps207
  go_wp2_with (go_at_call 242; refine (behind_one _ b k s _ (by decide) (by decide) hs hb HT.out).mono ?_; rintro e w' ⟨rfl, rfl⟩)
  all_goals go_ret
  all_goals first | exact ⟨rfl, rfl⟩ | exact absurd (by assumption) (by decide)

theorem under32 : Tryz.prog.underlying 32 = some (.slice 5) := by kernel_rfl
theorem under9s : Tryz.prog.underlying 9 = some .string := by kernel_rfl
theorem under5 : Tryz.prog.underlying 5 = some (.int .u8) := by kernel_rfl
def byteVals (l : List UInt8) : List Value := l.map fun b => .int .u8 b.toNat
theorem push_fold (l : List UInt8) : ∀ r : ByteArray, (l.map fun b => ((b.toNat : Nat) : Int)).foldl (fun r n => r.push (UInt8.ofNat n.toNat)) r = r ++ ⟨l.toArray⟩ := by
  induction l with
  | nil => intro r; rcases r with ⟨r⟩; apply ByteArray.ext; simp
  | cons b l ih =>
    intro r
    simp only [List.map_cons, List.foldl_cons]
    rw [ih]
    rcases r with ⟨r⟩
    apply ByteArray.ext
    simp [ByteArray.push]
/-- string(b) of a slice of bytes -/
theorem bytes_to_string {w : World} {b o n c : Nat} {l : List UInt8} (hn : l.length = n) (hc : ∀ j u, (byteVals l)[j]? = some u → w.cell? ((⟨b, o, none⟩ : Addr).add j) = some u) :
    (convert 32 9 (.slice (some ⟨b, o, none⟩) n c)).run Tryz.prog w = .ok (.string ⟨l.toArray⟩) w := by
  rw [run_convert_bytes_string w 32 9 5 _ _ _ under32 under5 under9s]
  have hl := run_loadCells_list (P := Tryz.prog) w ⟨b, o, none⟩ (byteVals l) hc
  rw [show (byteVals l).length = n from by simp [byteVals, hn]] at hl
  rw [run_bytesToString w ⟨b, o, none⟩ n c (l.map fun b => ((b.toNat : Nat) : Int)) (by rw [hl]; congr 2; simp [byteVals])]
  rw [push_fold]
  simp

def sumBytes (c : Int) : List UInt8 := [UInt8.ofNat (c / 16777216).toNat, UInt8.ofNat (c / 65536 % 256).toNat, UInt8.ofNat (c / 256 % 256).toNat, UInt8.ofNat (c % 256).toNat]
def sealOf (s : ByteArray) : ByteArray := s ++ ⟨(sumBytes (sumOf s)).toArray⟩
theorem u8_ofNat {n : Int} (h0 : 0 ≤ n) (h1 : n < 256) : ((UInt8.ofNat n.toNat).toNat : Int) = n := by
  simp [UInt8.toNat_ofNat']; omega
theorem sumBytes_vals {c : Int} (h0 : 0 ≤ c) (h1 : c ≤ 4294967295) : byteVals (sumBytes c) = [.int .u8 (c / 16777216), .int .u8 (c / 65536 % 256), .int .u8 (c / 256 % 256), .int .u8 (c % 256)] := by
  unfold byteVals sumBytes
  simp only [List.map_cons, List.map_nil]
  rw [u8_ofNat (by omega) (by omega), u8_ofNat (by omega) (by omega), u8_ofNat (by omega) (by omega), u8_ofNat (by omega) (by omega)]

def SealP (s : ByteArray) (w : World) (e : Ending) (w' : World) : Prop := e = .returned (.string (sealOf s)) ∧ Mod BSet.none w w'
set_option maxRecDepth 100000 in
set_option maxHeartbeats 400000 in
theorem sealed_any (s : ByteArray) (w : World) (hs : s.size ≤ 1099511627776) (ht : SumTab w) (hsz : 9 ≤ w.heap.size) :
    Calls Tryz.prog 170 #[.string s] w (SealP s w) := by
  obtain ⟨c0, c1⟩ := sumOf_range s
  have hT : SumTab (w.alloc (.cells #[.string s] 9)) := fun i hi => by rw [World.cell?_alloc_lt (h := by show 5 < _; omega)]; exact ht i hi
  have HT := Lib.hid hT
  have hv := Lib.hid (sumBytes_vals c0 c1)
  have hcv : (convert 32 9 (.slice (some ⟨w.heap.size + 1, 0, none⟩) 4 4)).run Tryz.prog ((w.alloc (.cells #[.string s] 9)).alloc (.cells #[.int .u8 (sumOf s / 16777216), .int .u8 (sumOf s / 65536 % 256), .int .u8 (sumOf s / 256 % 256), .int .u8 (sumOf s % 256)] 5)) =
      .ok (.string ⟨(sumBytes (sumOf s)).toArray⟩) ((w.alloc (.cells #[.string s] 9)).alloc (.cells #[.int .u8 (sumOf s / 16777216), .int .u8 (sumOf s / 65536 % 256), .int .u8 (sumOf s / 256 % 256), .int .u8 (sumOf s % 256)] 5)) := by
    refine bytes_to_string rfl (fun j u hu => ?_)
    rw [hv.out] at hu
    have hj : j < 4 := by have := (List.getElem?_eq_some_iff.1 hu).1; simpa using this
    rw [Addr.add_lit]
    rw [cell_of_at (at_newk (by simp))]
    simpa using hu
  have hlen : (⟨(sumBytes (sumOf s)).toArray⟩ : ByteArray).size = 4 := rfl
  clear ht hT
  obtain ⟨tail, htail⟩ : ∃ t : ByteArray, (⟨(sumBytes (sumOf s)).toArray⟩ : ByteArray) = t := ⟨_, rfl⟩
  have HTL := Lib.hid htail
  rw [htail] at hcv hlen
  have hlen4 : tail.size ≤ 4 := by omega
  clear htail hlen
  go_enter Tryz.func170, Tryz.ntmps170
  go_wp2_with (go_at_call 207; refine (of_one _ 1 s _ (by unfold maxLen; omega) (cell_of_at at_new 0) HT.out).mono ?_; rintro e w' ⟨rfl, rfl⟩)
  go_ret
  exact ⟨by unfold sealOf; rw [HTL.out]; rfl, ((Mod.refl _ _).alloc _).alloc _⟩

/-- sum.Open -/
def openOf (s : ByteArray) : Option ByteArray := if 4 ≤ s.size ∧ sealOf (s.extract 0 (s.size - 4)) = s then some (s.extract 0 (s.size - 4)) else none
def OpenP (s : ByteArray) (w : World) (e : Ending) (w' : World) : Prop :=
  e = .returned (.tuple #[.string ((openOf s).getD ⟨#[]⟩), .bool (openOf s).isSome]) ∧ Mod BSet.none w w'

theorem openOf_none_short {s : ByteArray} (h : ¬ 4 ≤ s.size) : openOf s = none := by unfold openOf; rw [if_neg (fun hh => h hh.1)]
theorem openOf_none_bad {s : ByteArray} (h : ¬ sealOf (s.extract 0 (s.size - 4)) = s) : openOf s = none := by unfold openOf; rw [if_neg (fun hh => h hh.2)]
theorem openOf_some {s : ByteArray} (h : 4 ≤ s.size) (h2 : sealOf (s.extract 0 (s.size - 4)) = s) : openOf s = some (s.extract 0 (s.size - 4)) := by unfold openOf; rw [if_pos ⟨h, h2⟩]
theorem toList_beq (a b : ByteArray) : (a.toList == b.toList) = decide (a = b) := by
  rw [ByteArray.toList_eq, ByteArray.toList_eq, Bool.eq_iff_iff]
  simp
  constructor
  · intro h; exact ByteArray.ext h
  · rintro rfl; rfl
set_option maxRecDepth 100000 in
set_option maxHeartbeats 400000 in
theorem open_any (s : ByteArray) (w : World) (hs : s.size ≤ 1099511627776) (ht : SumTab w) (hsz : 9 ≤ w.heap.size) : Calls Tryz.prog 161 #[.string s] w (OpenP s w) := by
  have HT := Lib.hid ht
  clear ht
  by_cases h4 : 4 ≤ s.size
  · obtain ⟨n, hn⟩ : ∃ n, s.size = n + 4 := ⟨s.size - 4, by omega⟩
    have hn4 : s.size - 4 = n := by omega
    have hi : ((s.size : Int) - 4) = (n : Int) := by omega
    have hnl : n ≤ s.size := by omega
    have hnb : n ≤ 1099511627776 := by omega
    have HN := Lib.hid hn
    have HN4 := Lib.hid hn4
    clear hn hn4
    have hex : (s.extract 0 n).size ≤ 1099511627776 := by rw [ByteArray.size_extract]; omega
    by_cases hok : sealOf (s.extract 0 n) = s
    · have hb : ((sealOf (s.extract 0 n)).toList == s.toList) = true := by rw [toList_beq]; exact decide_eq_true hok
      have HO := Lib.hid hok
      clear hok
      go_enter Tryz.func161, Tryz.ntmps161
      go_wp2_with fail
      refine (sealed_any _ _ (by exact hex) (by exact HT.out) (by exact hsz)).mono ?_
      rintro e w1 ⟨rfl, hm⟩
      go_wp2
      go_ret2
      exact ⟨by rw [openOf_some h4 (by rw [HN4.out]; exact HO.out), HN4.out]; rfl, hm⟩
    · have hb : ((sealOf (s.extract 0 n)).toList == s.toList) = false := by rw [toList_beq]; exact decide_eq_false hok
      have HO := Lib.hid hok
      clear hok
      go_enter Tryz.func161, Tryz.ntmps161
      go_wp2_with fail
      refine (sealed_any _ _ (by exact hex) (by exact HT.out) (by exact hsz)).mono ?_
      rintro e w1 ⟨rfl, hm⟩
      go_wp2
      go_ret2
      exact ⟨by rw [openOf_none_bad (by rw [HN4.out]; exact HO.out)]; rfl, hm⟩
  · go_enter Tryz.func161, Tryz.ntmps161
    go_wp2
    go_ret2
    have h4' := openOf_none_short h4
    exact ⟨by rw [h4']; rfl, Mod.refl _ _⟩
end Go.Proofs.YthogefmngddnbaaGreatDoor
/- Numbers in bytes: plain. -/
namespace Go.Proofs.YthogefmngddnbaaGreatDoor

/-- a number's bytes -/
def putF : Nat → Nat → List UInt8
  | 0, n => [UInt8.ofNat n]
  | f + 1, n => if n < 128 then [UInt8.ofNat n] else UInt8.ofNat (n % 128 + 128) :: putF f (n / 128)
def putN (n : Nat) : List UInt8 := putF 9 n
theorem putF_small (f n : Nat) (h : n < 128) : putF f n = [UInt8.ofNat n] := by cases f <;> simp [putF, h]
theorem putF_big (f n : Nat) (h : ¬ n < 128) : putF (f + 1) n = UInt8.ofNat (n % 128 + 128) :: putF f (n / 128) := by simp [putF, h]
theorem putF_ne (f n : Nat) : putF f n ≠ [] := by cases f <;> simp [putF]; split <;> simp
theorem putF_length (f : Nat) : ∀ n, (putF f n).length ≤ f + 1 := by
  induction f with
  | zero => intro n; simp [putF]
  | succ f ih => intro n; simp only [putF]; split <;> simp; exact ih _
/-- the number at a beginning -/
def getF : Nat → List UInt8 → Nat → Nat → Option (Nat × Nat)
  | 0, _, _, _ => none
  | _ + 1, [], _, _ => none
  | f + 1, b :: l, k, v =>
    if b.toNat < 128 then (if (0 < k ∧ b.toNat = 0) ∨ (k = 9 ∧ 1 < b.toNat) then none else some (v + b.toNat % 128 * 128 ^ k, k + 1))
    else getF f l (k + 1) (v + b.toNat % 128 * 128 ^ k)
def getN (l : List UInt8) : Option (Nat × Nat) := getF 10 l 0 0
theorem or_step (v b k : Nat) (hk : k ≤ 9) (hv : v < 128 ^ k) : (v % 18446744073709551616 ||| b * 2 ^ (7 * k) % 18446744073709551616) = (v + b * 128 ^ k) % 18446744073709551616 := by
  have h1 : 128 ^ k = 2 ^ (7 * k) := by rw [Nat.pow_mul]
  rw [h1] at hv ⊢
  have h2 := Nat.two_pow_add_eq_or_of_lt hv b
  have h3 := Nat.or_mod_two_pow (a := v) (b := b * 2 ^ (7 * k)) (n := 64)
  rw [show (2 : Nat) ^ 64 = 18446744073709551616 from rfl] at h3
  rw [← h3, Nat.or_comm, Nat.mul_comm b, ← h2, Nat.add_comm]
end Go.Proofs.YthogefmngddnbaaGreatDoor
/- Numbers in bytes: the walk of vint.Put, Text. -/
namespace Go.Proofs.YthogefmngddnbaaGreatDoor
open Go.RowKit

theorem or128_all : ∀ x, x < 256 → x ||| 128 = x % 128 + 128 := by decide +kernel
theorem or128 (m : Nat) : bits .or .u8 ((m : Int) % 256) 128 = ((UInt8.ofNat (m % 128 + 128)).toNat : Int) := by
  have h : m % 256 < 256 := Nat.mod_lt _ (by decide)
  have := u8_or_nat (m % 256) 128 h (by decide)
  rw [or128_all _ h] at this
  rw [show ((m : Int) % 256) = ((m % 256 : Nat) : Int) from by simp]
  rw [show (128 : Int) = ((128 : Nat) : Int) from rfl, this]
  simp [UInt8.toNat_ofNat']
  omega
theorem u8_small {m : Nat} (h : m < 128) : ((m : Int) % 256) = ((UInt8.ofNat m).toNat : Int) := by
  simp [UInt8.toNat_ofNat']
theorem take_set_snoc {A : Array Value} {k : Nat} {l : List Value} {v : Value} (hk : k < A.size) (h : A.toList.take k = l) : (A.setIfInBounds k v).toList.take (k + 1) = l ++ [v] := by
  simp only [Array.toList_setIfInBounds]
  rw [List.take_succ_eq_append_getElem (by simpa using hk), List.take_set_of_le (Nat.le_refl _), h]
  simp

def VPutP (n : Nat) (w : World) (e : Ending) (w' : World) : Prop := e = .returned (.string ⟨(putN n).toArray⟩) ∧ Mod BSet.none w w'
def VRel (n : Nat) (w : World) (x i : Value) (wr : World) : Prop :=
  ∃ (k m : Nat) (A : Array Value) (pre : List UInt8), k ≤ 9 ∧ i = .int .i64 k ∧ x = .int .u64 m ∧ m * 128 ^ k ≤ n ∧ wr = w.alloc (.cells A 181) ∧ A.size = 10 ∧ pre.length = k ∧ putN n = pre ++ putF (9 - k) m ∧ A.toList.take k = byteVals pre
theorem under181 : Tryz.prog.underlying 181 = some (.array 10 5) := by kernel_rfl
theorem size5 : Tryz.prog.info? 5 = some (Tryz.prog.info? 5).get! := by kernel_rfl
/-- b[:k+1] of an array of ten -/
theorem slice_array (w : World) (b k : Nat) (hk : k < 10) : (Instr.sliceAt 181 (.pointer (some ⟨b, 0, none⟩)) none (some (.int .i64 ((k : Int) + 1))) none).run Tryz.prog w = .ok (.slice (some ⟨b, 0, none⟩) (k + 1) 10) w := by
  have hs := Tryz.sizeOf5
  unfold Instr.sliceAt
  have h1 : (0 : Int) ≤ (k : Int) + 1 ∧ (k : Int) + 1 ≤ 10 := by omega
  simp [run_underlying under181, Instr.sliceBounds, Instr.sliceBound, asIntOf, h1, hs, Result.andThen, Instr.sureAddr, Addr.add]
set_option maxRecDepth 100000 in
set_option maxHeartbeats 400000 in
theorem vput_any (n : Nat) (w : World) (hn : n < 18446744073709551616) : Calls Tryz.prog 102 #[.int .u64 n] w (VPutP n w) := by
  have HN := Lib.hid hn
  clear hn
  go_enter Tryz.func102, Tryz.ntmps102
  go_wp2
  go_loopw [0, 4] (fun x i wr => VRel n w x i wr) (fun x _ _ => (intOf x).toNat)
  case atStart => exact ⟨0, n, _, [], Nat.zero_le _, rfl, rfl, by simp, rfl, rfl, rfl, rfl, rfl⟩
  case round =>
    obtain ⟨k, m, A, pre, hk, rfl, rfl, hm, rfl, hA, hpl, hput, htk⟩ := hrel
    have HP := Lib.hid hput
    have HT := Lib.hid htk
    have HA := Lib.hid hA
    have HL := Lib.hid hpl
    have HM := Lib.hid hm
    have hk' : k < 10 := by omega
    obtain ⟨u, hu⟩ : ∃ u, A[k]? = some u := ⟨A[k]'(by omega), by simp⟩
    have hcell : (w.alloc (.cells A 181)).cell? ⟨w.heap.size, k, none⟩ = some u := by rw [cell_of_at at_new]; exact hu
    clear hput htk hA hpl hm hu
    have hmb : m < 18446744073709551616 := by
      have h1 := HM.out
      have h2 := HN.out
      have : m * 1 ≤ m * 128 ^ k := Nat.mul_le_mul_left _ (Nat.one_le_iff_ne_zero.2 (by have := Nat.pow_pos (n := k) (show 0 < 128 by decide); omega))
      omega
    by_cases hbig : m < 128
    · have hmv : (m : Int) = ((UInt8.ofNat m).toNat : Int) := by have := u8_small hbig; omega
      have HMV := Lib.hid hmv
      have hcv : (convert 32 9 (.slice (some ⟨w.heap.size, 0, none⟩) (k + 1) 10)).run Tryz.prog (w.alloc (.cells (A.setIfInBounds k (.int .u8 m)) 181)) = .ok (.string ⟨(putN n).toArray⟩) (w.alloc (.cells (A.setIfInBounds k (.int .u8 m)) 181)) := by
        have hp : putN n = pre ++ [UInt8.ofNat m] := by rw [HP.out, putF_small _ _ hbig]
        have hv : byteVals (putN n) = (A.setIfInBounds k (.int .u8 m)).toList.take (k + 1) := by
          rw [take_set_snoc (by rw [HA.out]; exact hk') HT.out, hp, hmv]; simp [byteVals]
        refine bytes_to_string (by rw [hp]; simp [HL.out]) (fun j u hu => ?_)
        rw [hv] at hu
        have hj := (List.getElem?_eq_some_iff.1 hu).1
        rw [List.getElem?_take_of_lt (by simp at hj; omega)] at hu
        rw [Addr.add_lit, cell_of_at at_new, ← Array.getElem?_toList, Nat.zero_add]
        exact hu
      have hsl : (Instr.sliceAt 181 (.pointer (some ⟨w.heap.size, 0, none⟩)) none (some (.int .i64 ((k : Int) + 1))) none).run Tryz.prog (w.alloc (.cells (A.setIfInBounds k (.int .u8 m)) 181)) = .ok (.slice (some ⟨w.heap.size, 0, none⟩) (k + 1) 10) (w.alloc (.cells (A.setIfInBounds k (.int .u8 m)) 181)) := slice_array _ _ k hk'
      clear hmv
      go_wp2
      go_ret
      exact ⟨rfl, (Mod.refl _ _).alloc _⟩
    · go_wp2
      refine ⟨⟨k + 1, m / 128, _, pre ++ [UInt8.ofNat (m % 128 + 128)], ?_, by go_num, by simp, ?_, rfl, by simp [HA.out], by simp [HL.out], ?_, ?_⟩, by simp [intOf]; omega⟩
      · have h1 := HM.out
        have h2 := HN.out
        by_cases h9 : k = 9
        · subst h9
          have : 128 * 128 ^ 9 ≤ m * 128 ^ 9 := Nat.mul_le_mul_right _ (by omega)
          omega
        · omega
      · have h1 := HM.out
        have h3 : m / 128 * 128 ≤ m := Nat.div_mul_le_self m 128
        have h4 : m / 128 * 128 ^ (k + 1) = m / 128 * 128 * 128 ^ k := by rw [Nat.pow_succ, Nat.mul_comm (128 ^ k) 128, Nat.mul_assoc]
        rw [h4]
        exact Nat.le_trans (Nat.mul_le_mul_right _ h3) h1
      · have hk8 : k ≤ 8 := by
          have h1 := HM.out
          have h2 := HN.out
          by_cases h9 : k = 9
          · subst h9
            have : 128 * 128 ^ 9 ≤ m * 128 ^ 9 := Nat.mul_le_mul_right _ (by omega)
            omega
          · omega
        rw [HP.out, show 9 - k = (9 - (k + 1)) + 1 from by omega, putF_big _ _ hbig]
        simp
      · rw [or128, take_set_snoc (by rw [HA.out]; exact hk') HT.out]; simp [byteVals]

theorem putN_length (n : Nat) : (putN n).length ≤ 10 := putF_length 9 n
theorem size_mk (l : List UInt8) : (⟨l.toArray⟩ : ByteArray).size = l.length := rfl
/-- a text with its length -/
def textOf (s : ByteArray) : ByteArray := ⟨(putN s.size).toArray⟩ ++ s
def VTextP (s : ByteArray) (w : World) (e : Ending) (w' : World) : Prop := e = .returned (.string (textOf s)) ∧ Mod BSet.none w w'
set_option maxRecDepth 100000 in
set_option maxHeartbeats 400000 in
theorem vtext_any (s : ByteArray) (w : World) (hs : s.size ≤ 1099511627776) : Calls Tryz.prog 141 #[.string s] w (VTextP s w) := by
  obtain ⟨t, ht⟩ : ∃ t : ByteArray, (⟨(putN s.size).toArray⟩ : ByteArray) = t := ⟨_, rfl⟩
  have HT := Lib.hid ht
  have htl : t.size ≤ 10 := by rw [← ht, size_mk]; exact putN_length _
  clear ht
  go_enter Tryz.func141, Tryz.ntmps141
  go_wp2_with fail
  refine (vput_any s.size _ (by omega)).mono ?_
  rintro e w1 ⟨rfl, hm⟩
  rw [HT.out]
  go_wp2
  go_ret
  exact ⟨by unfold textOf; rw [HT.out]; rfl, hm⟩

/-- frame.Put -/
def frameOf (s : ByteArray) : ByteArray := ⟨(putN s.size).toArray⟩ ++ sealOf s
theorem sealOf_size (s : ByteArray) : (sealOf s).size = s.size + 4 := by unfold sealOf; rw [ByteArray.size_append]; rfl
def FPutP (s : ByteArray) (w : World) (e : Ending) (w' : World) : Prop :=
  e = .returned (if s.size ≤ 70000 then .tuple #[.string (frameOf s), .int .i64 0] else .tuple #[.string ⟨#[]⟩, .int .i64 11]) ∧ Mod BSet.none w w'
theorem SumTab.mod {w w' : World} {F : BSet} (h : SumTab w) (hm : Mod F w w') (hF : ∀ k, F k → 9 ≤ k) : SumTab w' := fun i hi => hm.cell (h i hi) (fun h5 => absurd (hF 5 h5) (by decide))
set_option maxRecDepth 100000 in
set_option maxHeartbeats 400000 in
theorem fput_any (s : ByteArray) (w : World) (hs : s.size ≤ 1099511627776) (ht : SumTab w) (hsz : 9 ≤ w.heap.size) : Calls Tryz.prog 113 #[.string s] w (FPutP s w) := by
  have HTb := Lib.hid ht
  clear ht
  by_cases hbig : s.size ≤ 70000
  · obtain ⟨t, ht⟩ : ∃ t : ByteArray, (⟨(putN s.size).toArray⟩ : ByteArray) = t := ⟨_, rfl⟩
    have HT := Lib.hid ht
    have htl : t.size ≤ 10 := by rw [← ht, size_mk]; exact putN_length _
    have hse := sealOf_size s
    have hsl : (sealOf s).size ≤ 70004 := by omega
    clear ht hse
    go_enter Tryz.func113, Tryz.ntmps113
    go_wp2_with fail
    refine (vput_any s.size _ (by omega)).mono ?_
    rintro e w1 ⟨rfl, hm⟩
    rw [HT.out]
    go_wp2_with fail
    refine (sealed_any s _ hs (by exact HTb.out.mod hm (fun _ h => h.elim)) (by have := hm.size; omega)).mono ?_
    rintro e w2 ⟨rfl, hm2⟩
    go_wp2
    go_ret2
    refine ⟨?_, hm.trans hm2 (fun _ _ h => h)⟩
    rw [if_pos hbig]
    unfold frameOf; rw [HT.out]; rfl
  · go_enter Tryz.func113, Tryz.ntmps113
    go_wp2
    go_ret2
    refine ⟨?_, Mod.refl _ _⟩
    rw [if_neg (by omega)]; rfl
end Go.Proofs.YthogefmngddnbaaGreatDoor
/- Numbers in bytes: the walk of vint.Get. -/
namespace Go.Proofs.YthogefmngddnbaaGreatDoor
open Go.RowKit

theorem andNot128_all : ∀ x, x < 256 → x &&& (255 - 128) = x % 128 := by decide +kernel
theorem or_stepZ (V v b k : Nat) (hk : k ≤ 9) (hb : b < 256) (hv : v < 128 ^ k) (hV : V = v % 18446744073709551616) :
    bits BinOp.or IntKind.u64 (V : Int) (IntKind.u64.wrap (IntKind.u64.wrap (bits BinOp.andNot IntKind.u8 (b : Int) 128) * 2 ^ (7 * k))) = (((v + b % 128 * 128 ^ k) % 18446744073709551616 : Nat) : Int) := by
  have h1 := u8_andNot_nat b 128 hb (by decide)
  rw [andNot128_all b hb] at h1
  rw [show (128 : Int) = ((128 : Nat) : Int) from rfl, h1]
  have h2 : IntKind.u64.wrap ((b % 128 : Nat) : Int) = ((b % 128 : Nat) : Int) := by rw [IntKind.wrap_u64]; omega
  have h3 : IntKind.u64.wrap (((b % 128 : Nat) : Int) * 2 ^ (7 * k)) = ((b % 128 * 2 ^ (7 * k) % 18446744073709551616 : Nat) : Int) := by
    rw [IntKind.wrap_u64, show (((b % 128 : Nat) : Int) * 2 ^ (7 * k)) = ((b % 128 * 2 ^ (7 * k) : Nat) : Int) from by simp]
    omega
  rw [h2, h3, u64_or_nat V _ (by omega) (Nat.mod_lt _ (by decide)), hV, or_step v (b % 128) k hk hv]

def vgetOf (s : ByteArray) (at_ : Nat) : Nat × Nat × Nat := match getN (s.data.toList.drop at_) with | some (v, c) => (v, at_ + c, 0) | none => (0, 0, 10)
def VGetP (s : ByteArray) (at_ : Nat) (w : World) (e : Ending) (w' : World) : Prop :=
  e = .returned (.tuple #[.int .u64 ((vgetOf s at_).1 : Nat), .int .i64 ((vgetOf s at_).2.1 : Nat), .int .i64 ((vgetOf s at_).2.2 : Nat)]) ∧ w = w'
def GRel (s : ByteArray) (a : Nat) (x i : Value) : Prop :=
  ∃ k v V : Nat, k ≤ 10 ∧ i = .int .i64 k ∧ x = .int .u64 (V : Int) ∧ V = v % 18446744073709551616 ∧ a + k ≤ s.size ∧ v < 128 ^ k ∧ getF (10 - k) ((s.data.toList.drop a).drop k) k v = getN (s.data.toList.drop a)
theorem vget_none {s : ByteArray} {a : Nat} (h : getN (s.data.toList.drop a) = none) : vgetOf s a = (0, 0, 10) := by unfold vgetOf; rw [h]
theorem vget_some {s : ByteArray} {a v c : Nat} (h : getN (s.data.toList.drop a) = some (v, c)) : vgetOf s a = (v, a + c, 0) := by unfold vgetOf; rw [h]
theorem drop_at {s : ByteArray} {a k : Nat} (h : a + k < s.size) : (s.data.toList.drop a).drop k = s[a + k] :: (s.data.toList.drop a).drop (k + 1) := by
  rw [List.drop_drop, List.drop_drop]
  have h' : a + k < s.data.toList.length := by simpa using h
  rw [List.drop_eq_getElem_cons h']
  rfl
theorem ret3 {k1 k2 k3 : IntKind} {a b c a' b' c' : Int} (h1 : a = a') (h2 : b = b') (h3 : c = c') : Ending.returned (.tuple #[.int k1 a, .int k2 b, .int k3 c]) = .returned (.tuple #[.int k1 a', .int k2 b', .int k3 c']) := by rw [h1, h2, h3]
theorem val_lt {v k b : Nat} (hv : v < 128 ^ k) (hk : k ≤ 9) (hb : b < 128) (h9 : k = 9 → b ≤ 1) : v + b % 128 * 128 ^ k < 18446744073709551616 := by
  rw [Nat.mod_eq_of_lt hb]
  by_cases h : k = 9
  · subst h
    have h1 : b * 128 ^ 9 ≤ 1 * 128 ^ 9 := Nat.mul_le_mul_right _ (h9 rfl)
    have e : (128 : Nat) ^ 9 = 9223372036854775808 := by decide
    rw [e] at *
    omega
  · have h1 : b * 128 ^ k ≤ 127 * 128 ^ k := Nat.mul_le_mul_right _ (by omega)
    have h2 : (128 : Nat) ^ k ≤ 128 ^ 8 := Nat.pow_le_pow_right (by decide) (by omega)
    have e : (128 : Nat) ^ 8 = 72057594037927936 := by decide
    rw [e] at h2
    omega
set_option maxRecDepth 100000 in
set_option maxHeartbeats 800000 in
theorem vget_any (s : ByteArray) (a : Nat) (w : World) (hs : s.size ≤ 1099511627776) (ha : a < s.size) : Calls Tryz.prog 241 #[.string s, .int .i64 a] w (VGetP s a w) := by
  have ha0 : decide ((a : Int) < 0) = false := by simp
  have ha1 : decide ((s.size : Int) ≤ a) = false := by simp; omega
  have ha2 : decide (s.size ≤ a) = false := by simp; omega
  go_enter Tryz.func241, Tryz.ntmps241
  go_wp2
  go_step3
  go_wp2
  go_step3
  go_wp2
  go_loop [7, 8, 9] (fun x i _ => GRel s a x i) (fun _ i _ => 10 - (intOf i).toNat)
  case atStart => exact ⟨0, 0, 0, by decide, rfl, rfl, rfl, by omega, by decide, rfl⟩
  case round =>
    obtain ⟨k, v, V, hk, rfl, rfl, hVv, hak, hv, hget⟩ := hrel
    have HVV := Lib.hid hVv
    have HV := Lib.hid hv
    have HG := Lib.hid hget
    clear hv hget hVv
    by_cases h10 : k = 10
    · subst h10
      go_wp2
      try rw [Exit.noGoto_ret]
      go_ret3
      have hn := vget_none (s := s) (a := a) (by rw [← HG.out]; rfl)
      rw [VGetP, hn]
      exact ⟨rfl, rfl⟩
    · have hk10 : ((k : Int) == 10) = false := by simp; omega
      by_cases hend : a + k < s.size
      · have hk9 : k ≤ 9 := by omega
        have hdrop := Lib.hid (drop_at hend)
        have hgu := HG.out
        rw [hdrop.out, show 10 - k = (9 - k) + 1 from by omega] at hgu
        have HGU := Lib.hid hgu
        have hbl : s[a + k].toNat < 256 := s[a + k].toNat_lt
        have hstep := Lib.hid (or_stepZ V v s[a + k].toNat k hk9 hbl HV.out HVV.out)
        have hendZ : decide ((s.size : Int) ≤ (a : Int) + (k : Int)) = false := by simp; omega
        clear hgu
        by_cases hb : (s[a + k].toNat : Int) < 128
        · have hx : s[a + k].toNat < 128 := by omega
          have hgn := HGU.out
          rw [getF, if_pos hx] at hgn
          by_cases hbad : (0 < k ∧ s[a + k].toNat = 0) ∨ (k = 9 ∧ 1 < s[a + k].toNat)
          · rw [if_pos hbad] at hgn
            have HR := Lib.hid (vget_none hgn.symm)
            have HBad := Lib.hid hbad
            clear hgn hx hbad
            go_wp2
            all_goals first
              | (try rw [Exit.noGoto_ret]
                 go_ret3
                 rw [VGetP, HR.out]
                 exact ⟨rfl, rfl⟩)
              | (exfalso
                 have h1 := HBad.out
                 clear HBad HR
                 simp only [beq_iff_eq, beq_eq_false_iff_ne, ne_eq] at *
                 omega)
          · rw [if_neg hbad] at hgn
            have HR := Lib.hid (vget_some hgn.symm)
            have hval : v + s[a + k].toNat % 128 * 128 ^ k < 18446744073709551616 := val_lt HV.out hk9 (by omega) (fun h9 => by omega)
            have HVAL := Lib.hid hval
            have HBad := Lib.hid hbad
            clear hgn hx hval hbad
            go_wp2
            all_goals first
              | (try rw [Exit.noGoto_ret]
                 go_ret3
                 rw [VGetP, HR.out]
                 exact ⟨ret3 (hstep.out.trans (by rw [Nat.mod_eq_of_lt HVAL.out])) (by first | (show (a : Int) + ((k : Int) + 1) = ((a + (k + 1) : Nat) : Int); omega) | (show (a : Int) + 10 = ((a + (k + 1) : Nat) : Int); omega)) rfl, rfl⟩)
              | (exfalso
                 have h1 := HBad.out
                 clear HBad HR
                 simp only [beq_iff_eq, beq_eq_false_iff_ne, ne_eq] at *
                 omega)
        · have hx : ¬ s[a + k].toNat < 128 := by omega
          have hgn := HGU.out
          rw [getF, if_neg hx] at hgn
          have HGN := Lib.hid hgn
          clear hgn hx
          go_wp2
          go_round
          case rel =>
            refine ⟨k + 1, v + s[a + k].toNat % 128 * 128 ^ k, (v + s[a + k].toNat % 128 * 128 ^ k) % 18446744073709551616, by omega, by go_num, by rw [hstep.out], rfl, by omega, ?_, ?_⟩
            · rw [Nat.pow_succ]
              have h1 := HV.out
              have h2 : s[a + k].toNat % 128 * 128 ^ k ≤ 127 * 128 ^ k := Nat.mul_le_mul_right _ (by omega)
              omega
            · rw [show 10 - (k + 1) = 9 - k from by omega]; exact HGN.out
          case measure => simp [intOf]; omega
      · have hendZ : decide ((s.size : Int) ≤ (a : Int) + (k : Int)) = true := by simp; omega
        go_wp2
        try rw [Exit.noGoto_ret]
        go_ret3
        have hnil : (s.data.toList.drop a).drop k = [] := by rw [List.drop_drop, List.drop_eq_nil_iff]; simp; omega
        have hn := vget_none (s := s) (a := a) (by rw [← HG.out, hnil, show 10 - k = (9 - k) + 1 from by omega]; rfl)
        rw [VGetP, hn]
        exact ⟨rfl, rfl⟩
end Go.Proofs.YthogefmngddnbaaGreatDoor
/- Frames: the walks of frame.early, Get. -/
namespace Go.Proofs.YthogefmngddnbaaGreatDoor
open Go.RowKit

def highs (l : List UInt8) : Bool := l.all (fun b => decide (128 ≤ b.toNat))
def earlyOf (s : ByteArray) : Bool := highs s.data.toList && decide (s.size ≤ 9)
theorem early_no (s : ByteArray) (j : Nat) (h : j < s.size) (hb : s[j].toNat < 128 ∨ j = 9) : earlyOf s = false := by
  unfold earlyOf
  rcases hb with hb | rfl
  · have : highs s.data.toList = false := by
      unfold highs
      rw [List.all_eq_false]
      exact ⟨s[j], List.getElem_mem (l := s.data.toList) (n := j) (by simpa using h), by simp; omega⟩
    simp [this]
  · have : ¬ s.size ≤ 9 := by omega
    simp [this]
set_option maxRecDepth 100000 in
set_option maxHeartbeats 400000 in
theorem early_any (s : ByteArray) (w : World) (hs : s.size ≤ 1099511627776) : Calls Tryz.prog 255 #[.string s] w fun e w' => e = .returned (.bool (earlyOf s)) ∧ w = w' := by
  go_enter Tryz.func255, Tryz.ntmps255
  go_wp2
  go_loop [3, 6] (fun _ i => ∃ j : Nat, j ≤ s.size ∧ j ≤ 9 ∧ i = .int .i64 j ∧ highs (s.data.toList.take j) = true) (fun _ i => s.size - (intOf i).toNat)
  case atStart => exact ⟨0, Nat.zero_le _, by decide, rfl, rfl⟩
  case round =>
    obtain ⟨j, hj, hj9, rfl, hh⟩ := hrel
    have HH := Lib.hid hh
    clear hh
    by_cases hlt : j < s.size
    · have hts := Lib.hid (take_snoc s j hlt)
      have hno := Lib.hid (early_no s j hlt)
      by_cases hb : (s[j].toNat : Int) < 128
      · go_wp2
        all_goals
          go_ret
          exact ⟨ret_bool (hno.out (.inl (by omega))).symm, rfl⟩
      · by_cases h9 : j = 9
        · subst h9
          go_wp2
          all_goals
            go_ret
            exact ⟨ret_bool (hno.out (.inr trivial)).symm, rfl⟩
        · have hj9' : ((j : Int) == 9) = false := by simp; omega
          go_wp2
          go_round
          case rel =>
            refine ⟨j + 1, by omega, by omega, by go_num, ?_⟩
            rw [hts.out]
            have := HH.out
            unfold highs at this ⊢
            rw [List.all_append, this]
            simp; omega
          case measure => simp [intOf]; omega
    · have hfull : s.data.toList.take j = s.data.toList := List.take_of_length_le (by simp; omega)
      have hE : earlyOf s = true := by unfold earlyOf; rw [← hfull, HH.out]; simp; omega
      have HE := Lib.hid hE
      clear hfull hE
      go_wp2
      go_ret
      exact ⟨ret_bool HE.out.symm, rfl⟩

/-- frame.Get from a place of the text's on -/
def fgetOf (s : ByteArray) (a : Nat) : ByteArray × Nat × Nat :=
  if a = s.size then (⟨#[]⟩, a, 1)
  else if earlyOf (s.extract a s.size) = true then (⟨#[]⟩, a, 2)
  else match getN (s.data.toList.drop a) with
    | none => (⟨#[]⟩, a, 3)
    | some (n, c) =>
      if 70000 < n then (⟨#[]⟩, a, 3)
      else if s.size < a + c + n + 4 then (⟨#[]⟩, a, 2)
      else match openOf (s.extract (a + c) (a + c + n + 4)) with
        | none => (⟨#[]⟩, a, 3)
        | some b => (b, a + c + n + 4, 0)
def FGetP (s : ByteArray) (a : Nat) (w : World) (e : Ending) (w' : World) : Prop :=
  e = .returned (.tuple #[.string (fgetOf s a).1, .int .i64 ((fgetOf s a).2.1 : Nat), .int .i64 ((fgetOf s a).2.2 : Nat)]) ∧ Mod BSet.none w w'
theorem getF_count (f : Nat) : ∀ (l : List UInt8) (k v n c : Nat), getF f l k v = some (n, c) → k < c ∧ c ≤ k + l.length := by
  induction f with
  | zero => intro l k v n c h; cases h
  | succ f ih =>
    intro l k v n c h
    cases l with
    | nil => cases h
    | cons b l =>
      simp only [getF] at h
      split at h
      · split at h
        · cases h
        · cases h; simp
      · have := ih l (k + 1) _ n c h
        simp only [List.length_cons]; omega
theorem getN_count {l : List UInt8} {n c : Nat} (h : getN l = some (n, c)) : 0 < c ∧ c ≤ l.length := by have := getF_count 10 l 0 0 n c h; omega

theorem size_drop (s : ByteArray) (a : Nat) : (s.data.toList.drop a).length = s.size - a := by simp
set_option maxRecDepth 100000 in
set_option maxHeartbeats 1000000 in
theorem fget_any (s : ByteArray) (a : Nat) (w : World) (hs : s.size ≤ 1099511627776) (ha : a ≤ s.size) (ht : SumTab w) (hsz : 9 ≤ w.heap.size) : Calls Tryz.prog 230 #[.string s, .int .i64 a] w (FGetP s a w) := by
  have HT := Lib.hid ht
  clear ht
  have ha0 : decide ((a : Int) < 0) = false := by simp
  have ha1 : decide ((s.size : Int) < (a : Int)) = false := by simp; omega
  have ha1' : decide (s.size < a) = false := by simp; omega
  by_cases heq : a = s.size
  · have hr : fgetOf s a = (⟨#[]⟩, a, 1) := by unfold fgetOf; rw [if_pos heq]
    have HR := Lib.hid hr
    have he : ((a : Int) == (s.size : Int)) = true := by simp; omega
    have he' : (a == s.size) = true := by simp [heq]
    clear hr heq
    go_enter Tryz.func230, Tryz.ntmps230
    go_wp2
    go_ret3
    rw [FGetP, HR.out]
    exact ⟨rfl, Mod.refl _ _⟩
  · have he : ((a : Int) == (s.size : Int)) = false := by simp; omega
    have he' : (a == s.size) = false := by simp [heq]
    have hlt : a < s.size := by omega
    have hexs : (s.extract a s.size).size ≤ 1099511627776 := by rw [ByteArray.size_extract]; omega
    by_cases hea : earlyOf (s.extract a s.size) = true
    · have hr : fgetOf s a = (⟨#[]⟩, a, 2) := by unfold fgetOf; rw [if_neg heq, if_pos hea]
      have HR := Lib.hid hr
      have HEa := Lib.hid hea
      clear hr heq hea
      go_enter Tryz.func230, Tryz.ntmps230
      go_wp2_with fail
      refine (early_any _ _ (by exact hexs)).mono ?_
      rintro e w1 ⟨rfl, rfl⟩
      rw [HEa.out]
      go_wp2
      go_ret3
      rw [FGetP, HR.out]
      exact ⟨rfl, Mod.refl _ _⟩
    · have heaf : earlyOf (s.extract a s.size) = false := by simpa using hea
      have HEa := Lib.hid heaf
      cases hg : getN (s.data.toList.drop a) with
      | none =>
        have hr : fgetOf s a = (⟨#[]⟩, a, 3) := by unfold fgetOf; rw [if_neg heq, if_neg hea, hg]
        have HR := Lib.hid hr
        have HG := Lib.hid (vget_none hg)
        clear hr heq hea hg heaf
        go_enter Tryz.func230, Tryz.ntmps230
        go_wp2_with fail
        refine (early_any _ _ (by exact hexs)).mono ?_
        rintro e w1 ⟨rfl, rfl⟩
        rw [HEa.out]
        go_wp2_with fail
        refine (vget_any s a _ hs hlt).mono ?_
        rintro e w1 ⟨rfl, rfl⟩
        rw [HG.out]
        go_wp2
        go_ret3
        rw [FGetP, HR.out]
        exact ⟨rfl, Mod.refl _ _⟩
      | some r =>
        obtain ⟨n, c⟩ := r
        have hc := getN_count hg
        rw [size_drop] at hc
        have hcl : a + c ≤ s.size := by omega
        have HG := Lib.hid (vget_some hg)
        by_cases hbig : 70000 < n
        · have hr : fgetOf s a = (⟨#[]⟩, a, 3) := by unfold fgetOf; rw [if_neg heq, if_neg hea, hg]; simp [hbig]
          have HR := Lib.hid hr
          clear hr heq hea hg heaf hc
          go_enter Tryz.func230, Tryz.ntmps230
          go_wp2_with fail
          refine (early_any _ _ (by exact hexs)).mono ?_
          rintro e w1 ⟨rfl, rfl⟩
          rw [HEa.out]
          go_wp2_with fail
          refine (vget_any s a _ hs hlt).mono ?_
          rintro e w1 ⟨rfl, rfl⟩
          rw [HG.out]
          go_wp2
          go_ret3
          rw [FGetP, HR.out]
          exact ⟨rfl, Mod.refl _ _⟩
        · by_cases hshort : s.size < a + c + n + 4
          · have hr : fgetOf s a = (⟨#[]⟩, a, 2) := by unfold fgetOf; rw [if_neg heq, if_neg hea, hg]; simp [hbig, hshort]
            have HR := Lib.hid hr
            have hn : n ≤ 70000 := by omega
            clear hr heq hea hg heaf hc hbig
            go_enter Tryz.func230, Tryz.ntmps230
            go_wp2_with fail
            refine (early_any _ _ (by exact hexs)).mono ?_
            rintro e w1 ⟨rfl, rfl⟩
            rw [HEa.out]
            go_wp2_with fail
            refine (vget_any s a _ hs hlt).mono ?_
            rintro e w1 ⟨rfl, rfl⟩
            rw [HG.out]
            go_wp2
            go_ret3
            rw [FGetP, HR.out]
            exact ⟨rfl, Mod.refl _ _⟩
          · have hn : n ≤ 70000 := by omega
            have hxs : (s.extract (a + c) (a + c + n + 4)).size ≤ 1099511627776 := by rw [ByteArray.size_extract]; omega
            cases ho : openOf (s.extract (a + c) (a + c + n + 4)) with
            | none =>
              have hr : fgetOf s a = (⟨#[]⟩, a, 3) := by unfold fgetOf; rw [if_neg heq, if_neg hea, hg]; simp [hbig, hshort, ho]
              have HR := Lib.hid hr
              have HO := Lib.hid ho
              clear hr heq hea hg heaf hc hbig ho
              go_enter Tryz.func230, Tryz.ntmps230
              go_wp2_with fail
              refine (early_any _ _ (by exact hexs)).mono ?_
              rintro e w1 ⟨rfl, rfl⟩
              rw [HEa.out]
              go_wp2_with fail
              refine (vget_any s a _ hs hlt).mono ?_
              rintro e w1 ⟨rfl, rfl⟩
              rw [HG.out]
              go_wp2_with fail
              refine (open_any _ _ (by exact hxs) (by exact HT.out) (by exact hsz)).mono ?_
              rintro e w1 ⟨rfl, hm⟩
              rw [HO.out]
              go_wp2
              go_ret3
              rw [FGetP, HR.out]
              exact ⟨rfl, hm⟩
            | some b =>
              have hr : fgetOf s a = (b, a + c + n + 4, 0) := by unfold fgetOf; rw [if_neg heq, if_neg hea, hg]; simp [hbig, hshort, ho]
              have HR := Lib.hid hr
              have HO := Lib.hid ho
              clear hr heq hea hg heaf hc hbig ho
              go_enter Tryz.func230, Tryz.ntmps230
              go_wp2_with fail
              refine (early_any _ _ (by exact hexs)).mono ?_
              rintro e w1 ⟨rfl, rfl⟩
              rw [HEa.out]
              go_wp2_with fail
              refine (vget_any s a _ hs hlt).mono ?_
              rintro e w1 ⟨rfl, rfl⟩
              rw [HG.out]
              go_wp2_with fail
              refine (open_any _ _ (by exact hxs) (by exact HT.out) (by exact hsz)).mono ?_
              rintro e w1 ⟨rfl, hm⟩
              rw [HO.out]
              go_wp2
              go_ret3
              rw [FGetP, HR.out]
              exact ⟨rfl, hm⟩
end Go.Proofs.YthogefmngddnbaaGreatDoor
/- The reader of numbers: its walks. -/
namespace Go.Proofs.YthogefmngddnbaaGreatDoor
open Go.RowKit

structure Rd where
  s : ByteArray
  pos : Nat
  bad : Bool
/-- vint.Get, at whatever place -/
def vgetX (s : ByteArray) (a : Nat) : Nat × Nat × Nat := if a < s.size then vgetOf s a else (0, 0, 10)
namespace Rd
def ok (r : Rd) (b : Bool) : Rd := { r with bad := r.bad || !b }
def num (r : Rd) : Rd × Nat :=
  if r.bad then (r, 0) else if (vgetX r.s r.pos).2.2 = 0 then ({ r with pos := (vgetX r.s r.pos).2.1 }, (vgetX r.s r.pos).1) else ({ r with bad := true }, 0)
def small (r : Rd) (most : Nat) : Rd × Nat :=
  if r.num.1.bad || decide (most < r.num.2) then ({ r.num.1 with bad := true }, 0) else (r.num.1, r.num.2)
def left (r : Rd) : Nat := if r.bad then 0 else r.s.size - r.pos
def text (r : Rd) : Rd × ByteArray :=
  if r.num.1.bad || decide (r.num.1.left < r.num.2) then ({ r.num.1 with bad := true }, ⟨#[]⟩)
  else ({ r.num.1 with pos := r.num.1.pos + r.num.2 }, r.num.1.s.extract r.num.1.pos (r.num.1.pos + r.num.2))
def fin (r : Rd) : Int := if r.bad || decide (r.pos < r.s.size) then 10 else 0
structure Ok (r : Rd) : Prop where
  size : r.s.size ≤ 1099511627776
  pos : r.pos ≤ r.s.size
end Rd
def RdAt (h : Array Obj) (b : Nat) (r : Rd) : Prop := h[b]? = some (.cells #[.string r.s, .int .i64 r.pos, .bool r.bad] 210 (0, 0))

theorem vget_past (s : ByteArray) (a : Nat) (w : World) (hs : s.size ≤ 1099511627776) (ha : s.size ≤ a) (ha2 : a ≤ 1099511627776) : Calls Tryz.prog 241 #[.string s, .int .i64 a] w fun e w' => e = .returned (.tuple #[.int .u64 0, .int .i64 0, .int .i64 10]) ∧ w = w' := by
  have ha0 : decide ((a : Int) < 0) = false := by simp
  have ha1 : decide ((s.size : Int) ≤ (a : Int)) = true := by simp; omega
  have ha2 : decide (s.size ≤ a) = true := by simp; omega
  go_enter Tryz.func241, Tryz.ntmps241
  go_wp2
  go_step3
  go_wp2
  try rw [Exit.noGoto_ret]
  go_ret3
  exact ⟨rfl, rfl⟩
theorem vgetX_any (s : ByteArray) (a : Nat) (w : World) (hs : s.size ≤ 1099511627776) (ha : a ≤ 1099511627776) : Calls Tryz.prog 241 #[.string s, .int .i64 a] w fun e w' =>
    e = .returned (.tuple #[.int .u64 ((vgetX s a).1 : Nat), .int .i64 ((vgetX s a).2.1 : Nat), .int .i64 ((vgetX s a).2.2 : Nat)]) ∧ w = w' := by
  unfold vgetX
  by_cases h : a < s.size
  · rw [if_pos h]; exact vget_any s a w hs h
  · rw [if_neg h]; exact vget_past s a w hs (by omega) ha

def RdU (b : Nat) (r' : Rd) (v : Value) (w : World) (e : Ending) (w' : World) : Prop := e = .returned v ∧ RdAt w'.heap b r' ∧ Mod (BSet.one b) w w'
theorem RdAt.cells {w : World} {b : Nat} {r : Rd} (h : RdAt w.heap b r) : w.cell? ⟨b, 0, none⟩ = some (.string r.s) ∧ w.cell? ⟨b, 1, none⟩ = some (.int .i64 r.pos) ∧ w.cell? ⟨b, 2, none⟩ = some (.bool r.bad) ∧
    w.frozen? ⟨b, 1, none⟩ = false ∧ w.frozen? ⟨b, 2, none⟩ = false := ⟨cell_of_at h 0, cell_of_at h 1, cell_of_at h 2, free_of_at h 1, free_of_at h 2⟩

set_option maxHeartbeats 400000 in
theorem rdok_any (b : Nat) (r : Rd) (is : Bool) (w : World) (h : RdAt w.heap b r) : Calls Tryz.prog 202 #[.pointer (some ⟨b, 0, none⟩), .bool is] w (RdU b (r.ok is) (.bool (!(r.ok is).bad)) w) := by
  obtain ⟨c0, c1, c2, e1, e2⟩ := h.cells
  have H := Lib.hid h
  clear h
  have fin : ∀ x : Bool, RdAt (w.setCell ⟨b, 2, none⟩ (.bool x)).heap b { r with bad := x } := fun x => by unfold RdAt; rw [at_setCell_same H.out]; simp
  have F := Lib.hid fin
  clear fin
  cases hb : r.bad <;> cases is
  all_goals
    rw [hb] at c2
    have HB := Lib.hid hb
    clear hb
    go_enter Tryz.func202, Tryz.ntmps202
    go_wp2
    go_ret
    refine ⟨?_, ?_, mod_one _ _ _ _⟩
    · unfold Rd.ok; rw [HB.out]; rfl
    · have := F.out (r.bad || !true); have := F.out (r.bad || !false); unfold Rd.ok; rw [HB.out] at *; assumption

theorem vgetX_e (s : ByteArray) (a : Nat) : ((vgetX s a).2.2 = 0 ∨ (vgetX s a).2.2 = 10) ∧ ((vgetX s a).2.2 = 0 → a < (vgetX s a).2.1 ∧ (vgetX s a).2.1 ≤ s.size) := by
  unfold vgetX
  split
  · unfold vgetOf
    split
    · next v c h =>
      have := getN_count h
      rw [size_drop] at this
      exact ⟨.inl rfl, fun _ => by simp only; omega⟩
    · exact ⟨.inr rfl, fun h => by cases h⟩
  · exact ⟨.inr rfl, fun h => by cases h⟩
theorem Rd.Ok.num {r : Rd} (h : r.Ok) : r.num.1.Ok ∧ r.num.1.s = r.s := by
  unfold Rd.num
  split
  · exact ⟨h, rfl⟩
  · split
    · next h0 => exact ⟨⟨h.size, ((vgetX_e r.s r.pos).2 h0).2⟩, rfl⟩
    · exact ⟨⟨h.size, h.pos⟩, rfl⟩
set_option maxRecDepth 100000 in
set_option maxHeartbeats 800000 in
theorem num_any (b : Nat) (r : Rd) (w : World) (h : RdAt w.heap b r) (ho : r.Ok) : Calls Tryz.prog 201 #[.pointer (some ⟨b, 0, none⟩)] w (RdU b r.num.1 (.int .u64 (r.num.2 : Nat)) w) := by
  have H := Lib.hid h
  have hmf : ∀ fn first cap w, (Instr.makeFunc fn first cap).run Tryz.prog w = .ok (.func fn first cap) w := fun _ _ _ _ => rfl
  have h202 : ∀ args w, (callFunc 202 args).run Tryz.prog w = .ok (.enter 202 args) w := fun _ _ => by kernel_rfl
  have hp := ho.pos
  have hs := ho.size
  clear h ho
  cases hb : r.bad with
  | true =>
    have hn : r.num = (r, 0) := by unfold Rd.num; rw [hb]; rfl
    have HN := Lib.hid hn
    have hok : r.ok true = r := by unfold Rd.ok; cases r; simp
    have HK := Lib.hid hok
    have HB := Lib.hid hb
    clear hn hok hb
    go_enter Tryz.func201, Tryz.ntmps201
    go_wp2_with fail
    refine (rdok_any b r true _ (by exact H.out)).mono ?_
    rintro e w1 ⟨rfl, h1, hm⟩
    rw [HK.out, HB.out]
    have H1 := Lib.hid (HK.out ▸ h1)
    clear h1
    go_wp2
    go_ret
    exact ⟨by rw [HN.out]; rfl, by rw [HN.out]; exact H1.out, hm⟩
  | false =>
    have hok : r.ok true = r := by unfold Rd.ok; cases r; simp
    have HK := Lib.hid hok
    have HB := Lib.hid hb
    have hvx := vgetX_e r.s r.pos
    obtain ⟨V, N, E, hV⟩ : ∃ V N E, vgetX r.s r.pos = (V, N, E) := ⟨_, _, _, rfl⟩
    have HV := Lib.hid hV
    rw [hV] at hvx
    rcases hvx.1 with hE | hE
    · simp only at hE
      subst hE
      have hn : r.num = ({ r with pos := N }, V) := by unfold Rd.num; rw [hb, hV]; rfl
      have HN := Lib.hid hn
      have hN := hvx.2 rfl
      clear hn hok hb hV hvx
      go_enter Tryz.func201, Tryz.ntmps201
      go_wp2_with fail
      refine (rdok_any b r true _ (by exact H.out)).mono ?_
      rintro e w1 ⟨rfl, h1, hm⟩
      rw [HK.out, HB.out]
      have H1 := Lib.hid (HK.out ▸ h1)
      obtain ⟨c0, c1, c2, e1, e2⟩ := H1.out.cells
      clear h1
      go_wp2_with fail
      go_quiet ((go_at_call 241; exact Calls.quiet_of_same ((vgetX_any r.s r.pos _ hs (by omega)).mono fun e w' ⟨a, b⟩ => ⟨a, b.symm⟩)))
      rw [HV.out]
      go_wp2_with fail
      refine (rdok_any b r true _ (by exact H1.out)).mono ?_
      rintro e w2 ⟨rfl, h2, hm2⟩
      rw [HK.out, HB.out]
      have H2 := Lib.hid (HK.out ▸ h2)
      have hm2' : Mod (BSet.one b) w w2 := (hm.drewN nq).trans hm2 (fun _ _ h => h)
      obtain ⟨d0, d1, d2, g1, g2⟩ := H2.out.cells
      clear h2 c0 c1 c2 e1 e2
      go_wp2
      go_ret
      refine ⟨by rw [HN.out]; rfl, ?_, hm2'.trans (mod_one _ _ _ _) (fun _ _ h => h)⟩
      rw [HN.out]
      unfold RdAt
      rw [at_setCell_same H2.out]
      simp [HB.out]
    · simp only at hE
      subst hE
      have hn : r.num = ({ r with bad := true }, 0) := by unfold Rd.num; rw [hb, hV]; rfl
      have HN := Lib.hid hn
      have hok2 : r.ok false = { r with bad := true } := by unfold Rd.ok; simp
      have HK2 := Lib.hid hok2
      clear hn hok hb hV hvx hok2
      go_enter Tryz.func201, Tryz.ntmps201
      go_wp2_with fail
      refine (rdok_any b r true _ (by exact H.out)).mono ?_
      rintro e w1 ⟨rfl, h1, hm⟩
      rw [HK.out, HB.out]
      have H1 := Lib.hid (HK.out ▸ h1)
      obtain ⟨c0, c1, c2, e1, e2⟩ := H1.out.cells
      clear h1
      go_wp2_with fail
      go_quiet ((go_at_call 241; exact Calls.quiet_of_same ((vgetX_any r.s r.pos _ hs (by omega)).mono fun e w' ⟨a, b⟩ => ⟨a, b.symm⟩)))
      rw [HV.out]
      go_wp2_with fail
      refine (rdok_any b r false _ (by exact H1.out)).mono ?_
      rintro e w2 ⟨rfl, h2, hm2⟩
      rw [HK2.out]
      have H2 := Lib.hid (HK2.out ▸ h2)
      have hm2' : Mod (BSet.one b) w w2 := (hm.drewN nq).trans hm2 (fun _ _ h => h)
      clear h2
      go_wp2
      go_ret
      exact ⟨by rw [HN.out]; rfl, by rw [HN.out]; exact H2.out, hm2'⟩

theorem Rd.ok_eq (r : Rd) (x : Bool) (h : (r.bad || !x) = false) : r.ok x = r ∧ (!(r.ok x).bad) = true := by
  have hb : r.bad = false := by cases hr : r.bad <;> simp_all
  unfold Rd.ok
  rw [h]
  cases r
  simp at hb
  subst hb
  exact ⟨rfl, rfl⟩
theorem Rd.ok_bad (r : Rd) (x : Bool) (h : (r.bad || !x) = true) : r.ok x = { r with bad := true } ∧ (!(r.ok x).bad) = false := by
  unfold Rd.ok; rw [h]; exact ⟨rfl, rfl⟩

set_option maxRecDepth 100000 in
set_option maxHeartbeats 800000 in
theorem small_any (b most : Nat) (r : Rd) (w : World) (h : RdAt w.heap b r) (ho : r.Ok) (hmost : most ≤ 4611686018427387904) :
    Calls Tryz.prog 159 #[.pointer (some ⟨b, 0, none⟩), .int .i64 most] w (RdU b (r.small most).1 (.int .i64 ((r.small most).2 : Nat)) w) := by
  have H := Lib.hid h
  have HO := Lib.hid ho
  clear h ho
  have hm0 : decide ((most : Int) ≥ 0) = true := by simp
  by_cases hc : (r.num.1.bad || decide (most < r.num.2)) = true
  · have hs : r.small most = ({ r.num.1 with bad := true }, 0) := by unfold Rd.small; rw [if_pos hc]
    have hk := Rd.ok_bad r.num.1 (decide (r.num.2 ≤ most)) (by rw [← hc]; congr 1; simp [← Nat.not_lt])
    have HS := Lib.hid hs
    have HK := Lib.hid hk
    clear hs hk hc
    go_enter Tryz.func159, Tryz.ntmps159
    go_wp2_with fail
    refine (num_any b r _ (by exact H.out) HO.out).mono ?_
    rintro e w1 ⟨rfl, h1, hm⟩
    have H1 := Lib.hid h1
    clear h1
    go_wp2_with fail
    refine (rdok_any b r.num.1 _ _ (by exact H1.out)).mono ?_
    rintro e w2 ⟨rfl, h2, hm2⟩
    rw [HK.out.2]
    have H2 := Lib.hid (HK.out.1 ▸ h2)
    have hm2' := hm.trans hm2 (fun _ _ h => h)
    clear h2
    go_wp2
    go_ret
    exact ⟨by rw [HS.out]; rfl, by rw [HS.out]; exact H2.out, hm2'⟩
  · have hc' : (r.num.1.bad || decide (most < r.num.2)) = false := by simpa using hc
    have hs : r.small most = (r.num.1, r.num.2) := by unfold Rd.small; rw [if_neg hc]
    have hle : r.num.2 ≤ most := by simp at hc'; omega
    have hk := Rd.ok_eq r.num.1 (decide (r.num.2 ≤ most)) (by rw [← hc']; congr 1; simp [← Nat.not_lt])
    have HS := Lib.hid hs
    have HK := Lib.hid hk
    obtain ⟨n, hn⟩ : ∃ n, r.num.2 = n := ⟨_, rfl⟩
    have HN := Lib.hid hn
    have hle' : n ≤ 4611686018427387904 := by omega
    clear hs hk hc hc' hle hn
    go_enter Tryz.func159, Tryz.ntmps159
    go_wp2_with fail
    refine (num_any b r _ (by exact H.out) HO.out).mono ?_
    rintro e w1 ⟨rfl, h1, hm⟩
    have H1 := Lib.hid h1
    clear h1
    go_wp2_with fail
    refine (rdok_any b r.num.1 _ _ (by exact H1.out)).mono ?_
    rintro e w2 ⟨rfl, h2, hm2⟩
    rw [HK.out.2, HN.out]
    have H2 := Lib.hid (HK.out.1 ▸ h2)
    have hm2' := hm.trans hm2 (fun _ _ h => h)
    clear h2
    go_wp2
    go_ret
    exact ⟨by rw [HS.out, HN.out]; rfl, by rw [HS.out]; exact H2.out, hm2'⟩

set_option maxHeartbeats 400000 in
theorem left_any (b : Nat) (r : Rd) (w : World) (h : RdAt w.heap b r) (ho : r.Ok) : Calls Tryz.prog 163 #[.pointer (some ⟨b, 0, none⟩)] w fun e w' => e = .returned (.int .i64 (r.left : Nat)) ∧ ∃ n, w' = w.drewN n := by
  obtain ⟨c0, c1, c2, e1, e2⟩ := h.cells
  have hp := ho.pos
  have hs := ho.size
  clear h ho e1 e2
  cases hb : r.bad with
  | true =>
    rw [hb] at c2
    have hl : r.left = 0 := by unfold Rd.left; rw [hb]; rfl
    have HL := Lib.hid hl
    clear hb hl
    go_enter Tryz.func163, Tryz.ntmps163
    go_wp2
    go_ret
    exact ⟨ret_int (by rw [HL.out]; rfl), 0, rfl⟩
  | false =>
    rw [hb] at c2
    have hl : (r.left : Int) = (r.s.size : Int) - r.pos := by unfold Rd.left; rw [hb]; simp; omega
    have HL := Lib.hid hl
    clear hb hl
    go_enter Tryz.func163, Tryz.ntmps163
    go_wp2
    go_quiet (fail)
    go_wp2
    go_ret
    exact ⟨ret_int (by rw [HL.out]), _, rfl⟩

set_option maxHeartbeats 400000 in
theorem rdend_any (b : Nat) (r : Rd) (w : World) (h : RdAt w.heap b r) (ho : r.Ok) : Calls Tryz.prog 160 #[.pointer (some ⟨b, 0, none⟩)] w fun e w' => e = .returned (.int .i64 r.fin) ∧ ∃ n, w' = w.drewN n := by
  obtain ⟨c0, c1, c2, e1, e2⟩ := h.cells
  have hp := ho.pos
  have hs := ho.size
  clear h ho e1 e2
  cases hb : r.bad with
  | true =>
    rw [hb] at c2
    have hl : r.fin = 10 := by unfold Rd.fin; rw [hb]; rfl
    have HL := Lib.hid hl
    clear hb hl
    go_enter Tryz.func160, Tryz.ntmps160
    go_wp2
    go_quiet (fail)
    go_wp2
    go_ret
    exact ⟨ret_int (by rw [HL.out]), _, rfl⟩
  | false =>
    rw [hb] at c2
    by_cases hlt : r.pos < r.s.size
    · have hl : r.fin = 10 := by unfold Rd.fin; rw [hb]; simp [hlt]
      have HL := Lib.hid hl
      clear hb hl
      go_enter Tryz.func160, Tryz.ntmps160
      go_wp2
      go_quiet (fail)
      go_wp2
      go_ret
      exact ⟨ret_int (by rw [HL.out]), _, rfl⟩
    · have hl : r.fin = 0 := by unfold Rd.fin; rw [hb]; simp; omega
      have HL := Lib.hid hl
      have hd : decide (r.pos < r.s.size) = false := by simpa using hlt
      have hd' : decide ((r.pos : Int) < (r.s.size : Int)) = false := by simp; omega
      clear hb hl
      go_enter Tryz.func160, Tryz.ntmps160
      go_wp2
      go_quiet (fail)
      go_wp2
      go_ret
      exact ⟨ret_int (by rw [HL.out]), _, rfl⟩
end Go.Proofs.YthogefmngddnbaaGreatDoor
/- The reader of texts: its walk; vint.Read. -/
namespace Go.Proofs.YthogefmngddnbaaGreatDoor
open Go.RowKit

theorem Rd.left_le {r : Rd} (h : r.Ok) : r.left ≤ 1099511627776 := by unfold Rd.left; have := h.size; split <;> omega
theorem RdAt.drewN {w : World} {b n : Nat} {r : Rd} (h : RdAt w.heap b r) : RdAt (w.drewN n).heap b r := h
set_option maxRecDepth 100000 in
set_option maxHeartbeats 800000 in
theorem text_any (b : Nat) (r : Rd) (w : World) (h : RdAt w.heap b r) (ho : r.Ok) : Calls Tryz.prog 162 #[.pointer (some ⟨b, 0, none⟩)] w (RdU b r.text.1 (.string r.text.2) w) := by
  have H := Lib.hid h
  have HO := Lib.hid ho
  have hO1 := ho.num
  have hll := Rd.left_le hO1.1
  have HO1 := Lib.hid hO1.1
  have hp1 := hO1.1.pos
  have hs1 := hO1.1.size
  clear h ho hO1
  by_cases hc : (r.num.1.bad || decide (r.num.1.left < r.num.2)) = true
  · have hs : r.text = ({ r.num.1 with bad := true }, ⟨#[]⟩) := by unfold Rd.text; rw [if_pos hc]
    have hk := Rd.ok_bad r.num.1 (decide (r.num.2 ≤ r.num.1.left)) (by rw [← hc]; congr 1; simp [← Nat.not_lt])
    have HS := Lib.hid hs
    have HK := Lib.hid hk
    clear hs hk hc hp1 hs1
    go_enter Tryz.func162, Tryz.ntmps162
    go_wp2_with fail
    refine (num_any b r _ (by exact H.out) HO.out).mono ?_
    rintro e w1 ⟨rfl, h1, hm⟩
    have H1 := Lib.hid h1
    clear h1
    go_wp2_with fail
    refine (left_any b r.num.1 _ (by exact H1.out) HO1.out).mono ?_
    rintro e w2 ⟨rfl, nd, rfl⟩
    go_wp2_with fail
    refine (rdok_any b r.num.1 _ _ (by exact H1.out)).mono ?_
    rintro e w2 ⟨rfl, h2, hm2⟩
    rw [HK.out.2]
    have H2 := Lib.hid (HK.out.1 ▸ h2)
    have hm2' := (hm.drewN nd).trans hm2 (fun _ _ h => h)
    clear h2
    go_wp2
    go_ret
    exact ⟨by rw [HS.out]; rfl, by rw [HS.out]; exact H2.out, hm2'⟩
  · have hc' : (r.num.1.bad || decide (r.num.1.left < r.num.2)) = false := by simpa using hc
    have hs : r.text = ({ r.num.1 with pos := r.num.1.pos + r.num.2 }, r.num.1.s.extract r.num.1.pos (r.num.1.pos + r.num.2)) := by unfold Rd.text; rw [if_neg hc]
    have hbad : r.num.1.bad = false := by cases hb : r.num.1.bad <;> simp_all
    have hle : r.num.1.pos + r.num.2 ≤ r.num.1.s.size := by
      have h1 : r.num.2 ≤ r.num.1.left := by simp at hc'; omega
      have h2 : r.num.1.left = r.num.1.s.size - r.num.1.pos := by unfold Rd.left; rw [hbad]; rfl
      omega
    have hk := Rd.ok_eq r.num.1 (decide (r.num.2 ≤ r.num.1.left)) (by rw [← hc']; congr 1; simp [← Nat.not_lt])
    have HS := Lib.hid hs
    have HK := Lib.hid hk
    obtain ⟨n, hn⟩ : ∃ n, r.num.2 = n := ⟨_, rfl⟩
    obtain ⟨p, hp⟩ : ∃ p, r.num.1.pos = p := ⟨_, rfl⟩
    obtain ⟨t, ht⟩ : ∃ t, r.num.1.s = t := ⟨_, rfl⟩
    have HN := Lib.hid hn
    have HP := Lib.hid hp
    have HT := Lib.hid ht
    have hle' : p + n ≤ t.size := by rw [← hn, ← hp, ← ht]; exact hle
    have htl : t.size ≤ 1099511627776 := by rw [← ht]; exact hs1
    clear hs hk hc hc' hle hn hp ht hp1 hs1 hbad
    go_enter Tryz.func162, Tryz.ntmps162
    go_wp2_with fail
    refine (num_any b r _ (by exact H.out) HO.out).mono ?_
    rintro e w1 ⟨rfl, h1, hm⟩
    have H1 := Lib.hid h1
    clear h1
    go_wp2_with fail
    refine (left_any b r.num.1 _ (by exact H1.out) HO1.out).mono ?_
    rintro e w2 ⟨rfl, nd, rfl⟩
    go_wp2_with fail
    refine (rdok_any b r.num.1 _ _ (by exact H1.out)).mono ?_
    rintro e w2 ⟨rfl, h2, hm2⟩
    rw [HK.out.2, HN.out]
    have H2 := Lib.hid (HK.out.1 ▸ h2)
    have hm2' := (hm.drewN nd).trans hm2 (fun _ _ h => h)
    obtain ⟨c0, c1, c2, e1, e2⟩ := H2.out.cells
    rw [HT.out] at c0
    rw [HP.out] at c1
    clear h2 c2 e2
    go_wp2_with fail
    go_quiet (fail)
    go_wp2
    go_ret
    refine ⟨by rw [HS.out, HN.out, HP.out, HT.out]; rfl, ?_, (hm2'.drewN _).trans (mod_one _ _ _ _) (fun _ _ h => h)⟩
    rw [HS.out]
    unfold RdAt
    rw [at_setCell_same (w := w2.drewN _) H2.out]
    simp [HP.out, HN.out]
theorem Rd.Ok.text {r : Rd} (h : r.Ok) : r.text.1.Ok ∧ r.text.1.s = r.s ∧ r.text.2.size ≤ r.s.size := by
  have hn := h.num
  unfold Rd.text
  split
  · exact ⟨⟨hn.1.size, hn.1.pos⟩, hn.2, Nat.zero_le _⟩
  · next hc =>
    have hc' : (r.num.1.bad || decide (r.num.1.left < r.num.2)) = false := by simpa using hc
    have hbad : r.num.1.bad = false := by cases hb : r.num.1.bad <;> simp_all
    have h1 : r.num.2 ≤ r.num.1.left := by simp at hc'; omega
    have h2 : r.num.1.left = r.num.1.s.size - r.num.1.pos := by unfold Rd.left; rw [hbad]; rfl
    have h3 := hn.1.pos
    refine ⟨⟨hn.1.size, by simp only; omega⟩, hn.2, ?_⟩
    rw [ByteArray.size_extract, hn.2]; omega
theorem Rd.Ok.small {r : Rd} (h : r.Ok) (most : Nat) : (r.small most).1.Ok ∧ (r.small most).1.s = r.s ∧ (r.small most).2 ≤ most := by
  have hn := h.num
  unfold Rd.small
  split
  · exact ⟨⟨hn.1.size, hn.1.pos⟩, hn.2, Nat.zero_le _⟩
  · next hc => exact ⟨hn.1, hn.2, by simp at hc; omega⟩

def Rd.new (s : ByteArray) : Rd := ⟨s, 0, false⟩
theorem Rd.Ok.new (s : ByteArray) (h : s.size ≤ 1099511627776) : (Rd.new s).Ok := ⟨h, Nat.zero_le _⟩
def RdNewP (s : ByteArray) (w : World) (e : Ending) (w' : World) : Prop := e = .returned (.pointer (some ⟨w.heap.size, 0, none⟩)) ∧ RdAt w'.heap w.heap.size (Rd.new s) ∧ Mod BSet.none w w'
theorem read_new (s : ByteArray) (w : World) : Calls Tryz.prog 158 #[.string s] w (RdNewP s w) := by
  go_enter Tryz.func158, Tryz.ntmps158
  go_wp2
  go_ret
  exact ⟨rfl, at_new, (Mod.refl _ _).alloc _⟩
end Go.Proofs.YthogefmngddnbaaGreatDoor
/- Frames: the walk of frame.Scan. -/
namespace Go.Proofs.YthogefmngddnbaaGreatDoor
open Go.RowKit

/-- the bodies from a place of the text's on; where they end, and why -/
def scanF (s : ByteArray) : Nat → Nat → List ByteArray × Nat × Nat
  | 0, a => ([], a, 1)
  | f + 1, a => if (fgetOf s a).2.2 = 0 then ((fgetOf s a).1 :: (scanF s f (fgetOf s a).2.1).1, (scanF s f (fgetOf s a).2.1).2) else ([], a, (fgetOf s a).2.2)
def scanOf (s : ByteArray) : List ByteArray × Nat × Nat := scanF s (s.size + 1) 0
theorem openOf_size {s b : ByteArray} (h : openOf s = some b) : b.size + 4 = s.size := by
  unfold openOf at h
  split at h
  · next hc => cases h; rw [ByteArray.size_extract]; omega
  · cases h
theorem fgetOf_whole {s : ByteArray} {a : Nat} (ha : a ≤ s.size) (h : (fgetOf s a).2.2 = 0) : a < (fgetOf s a).2.1 ∧ (fgetOf s a).2.1 ≤ s.size ∧ (fgetOf s a).1.size ≤ 70000 := by
  revert h
  unfold fgetOf
  split
  · intro h; cases h
  · split
    · intro h; cases h
    · cases hg : getN (s.data.toList.drop a) with
      | none => intro h; cases h
      | some r =>
        obtain ⟨n, c⟩ := r
        simp only
        split
        · intro h; cases h
        · split
          · intro h; cases h
          · cases ho : openOf (s.extract (a + c) (a + c + n + 4)) with
            | none => intro h; cases h
            | some b =>
              intro _
              refine ⟨by simp only; omega, by simp only; omega, ?_⟩
              simp only
              have := openOf_size ho
              rw [ByteArray.size_extract] at this
              omega
theorem fgetOf_what (s : ByteArray) (a : Nat) : (fgetOf s a).2.2 ≤ 3 := by
  unfold fgetOf
  repeat' split
  all_goals (simp only; omega)

def ScanP (s : ByteArray) (w : World) (e : Ending) (w' : World) : Prop :=
  ∃ v, e = .returned (.tuple #[v, .int .i64 ((scanOf s).2.1 : Nat), .int .i64 ((scanOf s).2.2 : Nat)]) ∧ Owns w'.heap (grow BSet.none w w') 9 1 v (scanOf s).1.length (strs (scanOf s).1) ∧ Mod BSet.none w w'
theorem under22 : Tryz.prog.underlying 22 = some (.slice 9) := by kernel_rfl
theorem info9 : (Tryz.prog.info? 9).map (fun i => (i.zero, i.size, i.bytes)) = some (some (.string ⟨#[]⟩), 1, 16) := by kernel_rfl
theorem owns_nil (h : Array Obj) (F : BSet) (e : TypeId) : Owns h F e 1 (.slice none 0 0) 0 [] := ⟨rfl, .inl ⟨rfl, rfl⟩⟩
set_option maxRecDepth 100000 in
set_option maxHeartbeats 1000000 in
theorem scan_any (s : ByteArray) (w : World) (hs : s.size ≤ 1099511627776) (ht : SumTab w) (hsz : 9 ≤ w.heap.size) : Calls Tryz.prog 183 #[.string s] w (ScanP s w) := by
  have HT := Lib.hid ht
  obtain ⟨i0, hi, hz0, hz1, hz2⟩ := info_parts info9
  clear ht
  go_enter Tryz.func183, Tryz.ntmps183
  go_wp2
  go_step3
  go_wp2
  go_step3
  go_wp2
  go_loopw [5, 6, 7] (fun v i q wr => ∃ (acc : List ByteArray) (a f : Nat), a ≤ s.size ∧ s.size - a < f ∧ acc.length ≤ a ∧ i = .int .i64 a ∧ q = .int .i64 0 ∧ scanOf s = (acc ++ (scanF s f a).1, (scanF s f a).2) ∧ Owns wr.heap (grow BSet.none w wr) 9 1 v acc.length (strs acc) ∧ Mod BSet.none w wr) (fun _ i _ _ => s.size - (intOf i).toNat)
  case atStart => exact ⟨[], 0, s.size + 1, Nat.zero_le _, by omega, Nat.le_refl _, rfl, rfl, rfl, owns_nil _ _ _, Mod.refl _ _⟩
  case round =>
    obtain ⟨acc, a, f, ha, hf, hacc, rfl, rfl, hsc, hown, hmod⟩ := hrel
    obtain ⟨wo, rfl⟩ : ∃ wo : World, wo = wr := ⟨_, rfl⟩
    obtain ⟨f, rfl⟩ : ∃ g, f = g + 1 := ⟨f - 1, by omega⟩
    have HO := Lib.hid hown
    have HM := Lib.hid hmod
    have HS := Lib.hid hsc
    obtain ⟨b, hb⟩ : ∃ b, (fgetOf s a).1 = b := ⟨_, rfl⟩
    obtain ⟨n, hn⟩ : ∃ n, (fgetOf s a).2.1 = n := ⟨_, rfl⟩
    obtain ⟨q, hq⟩ : ∃ q, (fgetOf s a).2.2 = q := ⟨_, rfl⟩
    have HB := Lib.hid hb
    have HN := Lib.hid hn
    have HQ := Lib.hid hq
    have hq3 := fgetOf_what s a
    rw [hq] at hq3
    have hwhole := fgetOf_whole ha
    rw [hq, hn] at hwhole
    have hwo := hmod.size
    clear hown hmod hsc hb hn hq
    by_cases h0 : q = 0
    · subst h0
      obtain ⟨w1, w2, _⟩ := hwhole rfl
      clear hwhole
      go_wp2_with fail
      refine (fget_any s a _ hs ha (by exact HT.out.mod HM.out (fun _ h => h.elim)) (by omega)).mono ?_
      rintro e wa ⟨rfl, hma⟩
      rw [HB.out, HN.out, HQ.out]
      have Hma := Lib.hid hma
      have HOa := Lib.hid (HO.out.stay (Stay.of_mod0 hma 0) (by decide))
      clear hma
      go_wp2_with (at_builtin; refine wpList_append_F _ (grow BSet.none w wo) rfl _ _ 22 rfl 9 i0 (.string ⟨#[]⟩) 1 16 under22 hi hz0 hz1 hz2 rfl (by decide) _ acc.length (strs acc) rfl (HOa.out.stay (t := 0) (stay_alloc _ _ _) (by decide)) ⟨wa.heap.size, 0, none⟩ 1 1 [.string b] rfl rfl ?c1 ?c2 ?c3 ?c4 ?_)
      case c1 => exact cell_one_new _ _ _
      case c2 => intro u hu; simp at hu; subst hu; rfl
      case c3 => unfold maxLen; omega
      case c4 => omega
      intro v' w3 hown3 hgrow st3
      have G := Lib.hid hgrow
      have O3 := Lib.hid hown3
      clear hgrow hown3 st3
      go_wp2
      go_roundw
      case rel =>
        have hsz1 := Hma.out.size
        have hsz3 := G.out.size
        simp at hsz3
        refine ⟨acc ++ [b], n, f, w2, by omega, by simp; omega, rfl, rfl, ?_, ?_, ?_⟩
        · rw [HS.out, scanF, if_pos HQ.out, HB.out, HN.out]; simp
        · have := O3.out
          rw [show strs (acc ++ [b]) = strs acc ++ [.string b] from by simp [strs], List.length_append, List.length_singleton]
          refine this.weaken (fun k hk => ?_)
          unfold grow BSet.none at hk ⊢
          simp at hk ⊢
          omega
        · exact ((HM.out.trans Hma.out (fun _ _ h => h)).alloc _).trans G.out (fun i hi h => by unfold grow BSet.none at h; simp at h; omega)
      case measure => simp [intOf]; omega
    · have h0' : ((q : Int) == 0) = false := by simp; omega
      go_wp2_with fail
      refine (fget_any s a _ hs ha (by exact HT.out.mod HM.out (fun _ h => h.elim)) (by omega)).mono ?_
      rintro e wa ⟨rfl, hma⟩
      rw [HB.out, HN.out, HQ.out]
      have Hma := Lib.hid hma
      clear hma
      go_wp2
      try rw [Exit.noGoto_normal]
      go_wp2
      go_ret3
      have hr : scanOf s = (acc, a, q) := by rw [HS.out, scanF, if_neg (by rw [HQ.out]; exact h0), HQ.out]; simp
      refine ⟨u5, by rw [hr]; rfl, ?_, HM.out.trans Hma.out (fun _ _ h => h)⟩
      rw [hr]
      refine (HO.out.stay (Stay.of_mod0 Hma.out 0) (by decide)).weaken (fun k hk => ?_)
      have := Hma.out.size
      unfold grow BSet.none at hk ⊢
      simp at hk ⊢
      omega
end Go.Proofs.YthogefmngddnbaaGreatDoor
