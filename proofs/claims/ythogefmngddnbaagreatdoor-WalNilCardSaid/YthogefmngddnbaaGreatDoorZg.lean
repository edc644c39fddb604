/- Wal.begin: the walk. -/
import Derived.Test.YthogefmngddnbaaGreatDoorZe
import Derived.Test.YthogefmngddnbaaGreatDoorZf
import Derived.Laws.AppendOwnNone
set_option linter.unusedVariables false
set_option linter.unusedSimpArgs false
namespace Go.Proofs.YthogefmngddnbaaGreatDoor
open Go.RowKit

/-- a log and its folder lie side by side -/
structure Apart (F G : BSet) (w : World) : Prop where
  dis : ∀ k, F k → ¬ G k
  f : ∀ k, F k → k < w.heap.size
def BegP (b fb : Nat) (F G : BSet) (f : Fs) (l : Wl) (first : Nat) (kept : Bool) (state : ByteArray) (w : World) (e : Ending) (w' : World) : Prop :=
  ∃ nid, nid ∉ f.ids ∧ e = .returned (.int .i64 (beginW f l nid first kept state).2.2) ∧ FsRep w'.heap fb (beginW f l nid first kept state).1 (grow G w w') ∧
    WlAt w'.heap b (some ⟨fb, 0, none⟩) (beginW f l nid first kept state).2.1 F ∧ Mod (fun k => k = b ∨ G k) w w'
theorem topOf_le (l : List ByteArray) : topOf l ≤ 99999999 := by
  unfold topOf
  split
  · exact Nat.zero_le _
  · next s _ =>
    cases h : numOf s with
    | none => exact Nat.zero_le _
    | some n => exact (numOf_some h).2.1
theorem segI_size (v : Int) : (segI v).size ≤ maxLen := by
  unfold segI
  split
  · next h => exact seg_size (by omega)
  · decide
/-- where the rounds of begin stand -/
def BegRel (b fb : Nat) (F G : BSet) (f : Fs) (l : Wl) (first : Nat) (kept : Bool) (state name : ByteArray) (wa : World) (j : Nat) (wr : World) : Prop :=
  ∃ fi, FsRep wr.heap fb fi (grow G wa wr) ∧ WlAt wr.heap b (some ⟨fb, 0, none⟩) l F ∧ Mod (fun k => k = b ∨ G k) wa wr ∧ fi.since.length ≤ f.since.length + j ∧ (j = 0 → fi = f) ∧
    (0 < j → ∃ nid, nid ∉ f.ids ∧ stepsW name ((stepList name (headOf first kept state) nid).drop j) fi l = beginW f l nid first kept state)
theorem happens_since (f : Fs) (op : FOp) : (f.happens op).1.since = f.since ++ [op] := rfl
theorem create_since (f : Fs) (nid : Nat) (name : ByteArray) : (f.create nid name).1.since.length ≤ f.since.length + 1 := by
  unfold Fs.create
  split
  · exact Nat.le_succ _
  · split
    · exact Nat.le_succ _
    · split
      · exact Nat.le_succ _
      · rw [happens_since]; simp
theorem append_since (f : Fs) (name s : ByteArray) : (f.append name s).1.since.length ≤ f.since.length := by
  have h := (Fs.step_fields f).2.2.2.2.1
  unfold Fs.append
  split
  · exact Nat.le_refl _
  · split
    · exact Nat.le_refl _
    · show f.step.1.since.length ≤ _; rw [h]; exact Nat.le_refl _
theorem sync_since (f : Fs) (name : ByteArray) : (f.sync name).1.since.length ≤ f.since.length := by
  have h := (Fs.step_fields f).2.2.2.2.1
  unfold Fs.sync
  split
  · exact Nat.le_refl _
  · split
    · show f.step.1.since.length ≤ _; rw [h]; exact Nat.le_refl _
    · rw [h]; exact Nat.le_refl _
theorem syncDir_since (f : Fs) : f.syncDir.1.since.length ≤ f.since.length := by
  have h := (Fs.step_fields f).2.2.2.2.1
  unfold Fs.syncDir
  split
  · split
    · exact Nat.zero_le _
    · rw [h]; exact Nat.le_refl _
  · exact Nat.le_refl _
theorem cell_al {w : World} {p : Addr} {v : Value} (h : w.cell? p = some v) (o : Obj) : (w.alloc o).cell? p = some v := ((Mod.refl BSet.none w).alloc o).cell h (fun h => h)
/-- the cells that begin's steps read -/
structure BegCells (cf cn c1 c2 c3 : Nat) (fb : Nat) (name : ByteArray) (first : Nat) (kept : Bool) (state : ByteArray) (w : World) : Prop where
  f : w.cell? ⟨cf, 0, none⟩ = some (.pointer (some ⟨fb, 0, none⟩))
  n : w.cell? ⟨cn, 0, none⟩ = some (.string name)
  a : w.cell? ⟨c1, 0, none⟩ = some (.int .i64 first)
  b : w.cell? ⟨c2, 0, none⟩ = some (.bool kept)
  c : w.cell? ⟨c3, 0, none⟩ = some (.string state)
def BegStep (fb : Nat) (G : BSet) (f : Fs) (l : Wl) (first : Nat) (kept : Bool) (state name : ByteArray) (wa : World) (j : Nat) (w : World) (e : Ending) (w' : World) : Prop :=
  ∃ r : Fs × Int, e = .returned (.int .i64 r.2) ∧ FsRep w'.heap fb r.1 (grow G wa w') ∧ Mod (grow G wa w) w w' ∧ r.1.since.length ≤ f.since.length + (j + 1) ∧
    ∃ nid, nid ∉ f.ids ∧ (r.2 = 0 → stepsW name ((stepList name (headOf first kept state) nid).drop (j + 1)) r.1 l = beginW f l nid first kept state) ∧ (r.2 ≠ 0 → beginW f l nid first kept state = ((r.1.delete name).1, l.seen r.2, r.2))
theorem beginW_name {f : Fs} {l : Wl} {nid first : Nat} {kept : Bool} {state name : ByteArray} (hN : segI ((topOf f.segs : Nat) + 1 : Int) = name) (hne : ¬ name = ⟨#[]⟩) : beginW f l nid first kept state = stepsW name (stepList name (headOf first kept state) nid) f l := by
  unfold beginW; rw [hN, if_neg hne]
theorem step_key {name : ByteArray} {s : Fs → Fs × Int} {ss : List (Fs → Fs × Int)} {fi : Fs} {l : Wl} {X : Fs × Wl × Int} (h : stepsW name (s :: ss) fi l = X) :
    ((s fi).2 = 0 → stepsW name ss (s fi).1 l = X) ∧ ((s fi).2 ≠ 0 → X = (((s fi).1.delete name).1, l.seen (s fi).2, (s fi).2)) := by
  refine ⟨fun h0 => ?_, fun h0 => ?_⟩
  · rw [← h, stepsW_ok (f' := (s fi).1) (by rw [← h0])]
  · rw [← h, stepsW_bad (f' := (s fi).1) (e := (s fi).2) rfl h0]
theorem bstep_any (j : Nat) (hj : j < 3) (cf cn c1 c2 c3 b fb : Nat) (F G : BSet) (f : Fs) (l : Wl) (first : Nat) (kept : Bool) (state name : ByteArray) (wa w : World) (hN : segI ((topOf f.segs : Nat) + 1 : Int) = name) (hne : ¬ name = ⟨#[]⟩)
    (hrel : BegRel b fb F G f l first kept state name wa j w) (hc : BegCells cf cn c1 c2 c3 fb name first kept state w) (hlt : ∀ k, k = cf ∨ k = cn ∨ k = c1 ∨ k = c2 ∨ k = c3 → k < wa.heap.size ∧ ¬ G k) (hg : Globs w)
    (hlen : f.since.length ≤ 536870912) (hfi : first < 9223372036854775808) (hst : state.size ≤ 60000) :
    ∃ k caps, (#[Value.func (.func 119) #[] #[.pointer (some ⟨cf, 0, none⟩), .pointer (some ⟨cn, 0, none⟩)], Value.func (.func 121) #[] #[.pointer (some ⟨cf, 0, none⟩), .pointer (some ⟨cn, 0, none⟩), .pointer (some ⟨c1, 0, none⟩), .pointer (some ⟨c2, 0, none⟩), .pointer (some ⟨c3, 0, none⟩)],
        Value.func (.func 123) #[] #[.pointer (some ⟨cf, 0, none⟩), .pointer (some ⟨cn, 0, none⟩)]] : Array Value)[j]? = some (.func (.func k) #[] caps) ∧ Enters k ∧ Calls Tryz.prog k caps w (BegStep fb G f l first kept state name wa j w) := by
  obtain ⟨fi, hf, hl, hm, hs, h0, h1⟩ := hrel
  have hG : ∀ k, k = cf ∨ k = cn ∨ k = c1 ∨ k = c2 ∨ k = c3 → ¬ grow G wa w k := fun k hk h => by
    have := hlt k hk
    rcases h with h | h
    · exact this.2 h
    · omega
  have hms := hm.size
  have hbw := fun nid => (beginW_name (l := l) (nid := nid) (first := first) (kept := kept) (state := state) hN hne).symm
  have hnsz : name.size ≤ maxLen := hN ▸ segI_size _
  have hh : (headOf first kept state).size ≤ 1152921504606846976 := by
    unfold headOf
    split
    · decide
    · rw [frameOf_size]
      have := bodyOf_size first kept state
      have := putN_length (bodyOf first kept state).size
      omega
  have hcase : j = 0 ∨ j = 1 ∨ j = 2 := by omega
  rcases hcase with rfl | rfl | rfl
  · obtain rfl := h0 rfl
    refine ⟨119, _, rfl, fun _ _ => by kernel_rfl, (begin1_any cf cn fb fi (grow G wa w) name w hc.f hc.n hf hnsz (by omega)).mono ?_⟩
    rintro e w' ⟨nid, hn, rfl, h3, h4⟩
    have key := step_key (hbw nid)
    rw [grow_trans hms h4.size] at h3
    exact ⟨_, rfl, h3, h4, create_since _ _ _, nid, hn, key.1, key.2⟩
  · obtain ⟨nid, hn, hst1⟩ := h1 (by decide)
    refine ⟨121, _, rfl, fun _ _ => by kernel_rfl, (begin2_any cf cn c1 c2 c3 fb fi (grow G wa w) name first kept state w hc.f hc.n hc.a hc.b hc.c hf hnsz hg hfi hst hh (hG _ (by simp)) (hG _ (by simp)) (hG _ (by simp)) (hG _ (by simp)) (hG _ (by simp))).mono ?_⟩
    rintro e w' ⟨rfl, h3, h4⟩
    have key := step_key hst1
    rw [grow_trans hms h4.size] at h3
    exact ⟨_, rfl, h3, h4, Nat.le_trans (append_since _ _ _) (by omega), nid, hn, key.1, key.2⟩
  · obtain ⟨nid, hn, hst1⟩ := h1 (by decide)
    refine ⟨123, _, rfl, fun _ _ => by kernel_rfl, (begin3_any cf cn fb fi (grow G wa w) name w hc.f hc.n hf hnsz).mono ?_⟩
    rintro e w' ⟨rfl, h3, h4⟩
    have key := step_key hst1
    rw [grow_trans hms h4.size] at h3
    exact ⟨_, rfl, h3, h4, Nat.le_trans (sync_since _ _) (by omega), nid, hn, key.1, key.2⟩
theorem bstep4_any (b fb : Nat) (F G : BSet) (f : Fs) (l : Wl) (first : Nat) (kept : Bool) (state name : ByteArray) (wa w : World)
    (hrel : BegRel b fb F G f l first kept state name wa 3 w) (hlen : f.since.length ≤ 536870912) :
    Calls Tryz.prog 79 #[.pointer (some ⟨fb, 0, none⟩)] w (BegStep fb G f l first kept state name wa 3 w) := by
  obtain ⟨fi, hf, hl, hm, hs, h0, h1⟩ := hrel
  obtain ⟨nid, hn, hst1⟩ := h1 (by decide)
  refine (syncDir_any fb fi (grow G wa w) w hf).mono ?_
  rintro e w' ⟨rfl, h3, h4⟩
  have key := step_key hst1
  rw [grow_trans hm.size h4.size] at h3
  exact ⟨_, rfl, h3, h4, Nat.le_trans (syncDir_since _) (by omega), nid, hn, key.1, key.2⟩
set_option maxRecDepth 100000 in
set_option maxHeartbeats 4000000 in
theorem begin_any (b fb : Nat) (F G : BSet) (f : Fs) (l : Wl) (first : Nat) (kept : Bool) (state : ByteArray) (w : World) (hf : FsRep w.heap fb f G) (hl : WlAt w.heap b (some ⟨fb, 0, none⟩) l F) (hd : ∀ k, F k → ¬ G k) (hg : Globs w)
    (h9 : ∀ k, F k ∨ G k → 9 ≤ k) (hlen : f.since.length ≤ 536870912) (hfi : first < 9223372036854775808) (hst : state.size ≤ 60000) :
    Calls Tryz.prog 69 #[.pointer (some ⟨b, 0, none⟩), .int .i64 first, .bool kept, .string state] w (BegP b fb F G f l first kept state w) := by
  have hmf : ∀ fn first cap w, (Instr.makeFunc fn first cap).run Tryz.prog w = .ok (.func fn first cap) w := fun _ _ _ _ => rfl
  have hE119 : ∀ args w, (callFunc 119 args).run Tryz.prog w = .ok (.enter 119 args) w := fun _ _ => by kernel_rfl
  have hE121 : ∀ args w, (callFunc 121 args).run Tryz.prog w = .ok (.enter 121 args) w := fun _ _ => by kernel_rfl
  have hE123 : ∀ args w, (callFunc 123 args).run Tryz.prog w = .ok (.enter 123 args) w := fun _ _ => by kernel_rfl
  have hE79 : ∀ args w, (callFunc 79 args).run Tryz.prog w = .ok (.enter 79 args) w := fun _ _ => by kernel_rfl
  have htop := topOf_le f.segs
  have HF := Lib.hid hf
  have HL := Lib.hid hl
  have HD := Lib.hid hd
  have HG := Lib.hid hg
  have H9 := Lib.hid h9
  obtain ⟨rv, hb, _⟩ := hl.ex
  have c0 := (wcells hb).c0
  have hbw : b < w.heap.size := lt_of_at hb
  have hwr : IntKind.i64.wrap (((topOf f.segs : Nat) : Int) + 1) = ((topOf f.segs : Nat) : Int) + 1 := IntWalk.i64_in _ (by omega)
  have c0' := cell_al (cell_al (cell_al c0 (.cells #[.int .i64 first] 3)) (.cells #[.bool kept] 4)) (.cells #[.string state] 9)
  have m0 : Mod BSet.none w (((w.alloc (.cells #[.int .i64 first] 3)).alloc (.cells #[.bool kept] 4)).alloc (.cells #[.string state] 9)) := (((Mod.refl _ _).alloc _).alloc _).alloc _
  have M0 := Lib.hid m0
  clear hf hl hd hg h9 hb m0
  go_enter Tryz.func69, Tryz.ntmps69
  go_wp2_with fail
  refine (wnames_any fb f G _ (by exact HF.out.mod0 M0.out) (by exact HG.out.mod0 M0.out)).mono ?_
  rintro e w1 ⟨v, rfl, _, _, hm1⟩
  have M1 := Lib.hid (M0.out.trans hm1 (fun _ _ h => h))
  have s1 : w.heap.size + 3 ≤ w1.heap.size := by have := hm1.size; simp at this; omega
  have e1 : w1.cell? ⟨w.heap.size, 0, none⟩ = some (.int .i64 first) := hm1.cell (cell_al (cell_al (cell_of_at at_new 0) _) _) (fun h => h)
  have e2 : w1.cell? ⟨w.heap.size + 1, 0, none⟩ = some (.bool kept) := hm1.cell (cell_al (cell_of_at (at_newk (by simp)) 0) _) (fun h => h)
  have e3 : w1.cell? ⟨w.heap.size + 1 + 1, 0, none⟩ = some (.string state) := hm1.cell (cell_of_at (at_newk (by simp)) 0) (fun h => h)
  clear hm1 c0'
  go_wp2_with fail
  refine (segment_any ((topOf f.segs : Nat) + 1 : Int) _ (by omega) (by omega) (by exact HG.out.mod0 M1.out)).mono ?_
  rintro e w2 ⟨rfl, hm2⟩
  have M2 := Lib.hid (M1.out.trans hm2 (fun _ _ h => h))
  have s2 : w.heap.size + 3 ≤ w2.heap.size := by have := hm2.size; omega
  have e1' := hm2.cell e1 (fun h => h)
  have e2' := hm2.cell e2 (fun h => h)
  have e3' := hm2.cell e3 (fun h => h)
  have d0 := M2.out.cell c0 (fun h => h)
  clear hm2 e1 e2 e3
  generalize hname : segI ((topOf f.segs : Nat) + 1 : Int) = name
  have HN := Lib.hid hname
  have hnsz : name.size ≤ maxLen := hname ▸ segI_size _
  have HNS := Lib.hid hnsz
  clear hname hnsz
  by_cases hne : name = ⟨#[]⟩
  · have HR : Hid (∀ nid, beginW f l nid first kept state = (f, l, 11)) := Lib.hid (fun nid => by unfold beginW; rw [HN.out, if_pos hne])
    subst hne
    go_wp2_with fail
    go_ret
    have mw : Mod BSet.none w (w2.alloc (.cells #[.string ⟨#[]⟩] 9)) := M2.out.alloc _
    refine ⟨w.heap.size, fun h => absurd (HF.out.ids_lt h) (Nat.lt_irrefl _), by rw [HR.out]; rfl, ?_, ?_, mw.none_any⟩
    · rw [HR.out]; exact HF.out.grow mw
    · rw [HR.out]; exact HL.out.keep mw (fun _ _ h => h)
  · have hnb : (name.toList == []) = false := by
      have h1 := toList_beq name ⟨#[]⟩
      have h2 : (⟨#[]⟩ : ByteArray).toList = [] := by rw [ByteArray.toList_eq]
      rw [h2] at h1
      rw [h1]; exact decide_eq_false hne
    have HNE := Lib.hid hne
    clear hne
    have d0' := cell_al d0 (.cells #[.string name] 9)
    go_wp2_with fail
    generalize hwa : ((w2.alloc (Obj.cells #[Value.string name] 9)).alloc (Obj.cells #[Value.pointer (some ⟨fb, 0, none⟩)] 24)).alloc
      (Obj.cells #[Value.func (Fn.func 119) #[] #[Value.pointer (some ⟨w2.heap.size + 1, 0, none⟩), Value.pointer (some ⟨w2.heap.size, 0, none⟩)],
        Value.func (Fn.func 121) #[] #[Value.pointer (some ⟨w2.heap.size + 1, 0, none⟩), Value.pointer (some ⟨w2.heap.size, 0, none⟩), Value.pointer (some ⟨w.heap.size, 0, none⟩), Value.pointer (some ⟨w.heap.size + 1, 0, none⟩), Value.pointer (some ⟨w.heap.size + 1 + 1, 0, none⟩)],
        Value.func (Fn.func 123) #[] #[Value.pointer (some ⟨w2.heap.size + 1, 0, none⟩), Value.pointer (some ⟨w2.heap.size, 0, none⟩)],
        Value.func (Fn.func 79) #[Value.pointer (some ⟨fb, 0, none⟩)] #[]] 33) = wa
    have MA : Hid (Mod BSet.none w wa) := Lib.hid (by rw [← hwa]; exact ((M2.out.alloc _).alloc _).alloc _)
    have sa : w2.heap.size + 3 = wa.heap.size := by rw [← hwa]; simp
    have CA : Hid (BegCells (w2.heap.size + 1) w2.heap.size w.heap.size (w.heap.size + 1) (w.heap.size + 1 + 1) fb name first kept state wa) := Lib.hid (by
      rw [← hwa]
      exact ⟨cell_al (cell_of_at (at_newk (by simp)) 0) _, cell_al (cell_al (cell_of_at at_new 0) _) _, cell_al (cell_al (cell_al e1' _) _) _, cell_al (cell_al (cell_al e2' _) _) _, cell_al (cell_al (cell_al e3' _) _) _⟩)
    have SA : Hid (∀ i, wa.cell? ⟨w2.heap.size + 1 + 1, i, none⟩ = (#[Value.func (Fn.func 119) #[] #[Value.pointer (some ⟨w2.heap.size + 1, 0, none⟩), Value.pointer (some ⟨w2.heap.size, 0, none⟩)],
        Value.func (Fn.func 121) #[] #[Value.pointer (some ⟨w2.heap.size + 1, 0, none⟩), Value.pointer (some ⟨w2.heap.size, 0, none⟩), Value.pointer (some ⟨w.heap.size, 0, none⟩), Value.pointer (some ⟨w.heap.size + 1, 0, none⟩), Value.pointer (some ⟨w.heap.size + 1 + 1, 0, none⟩)],
        Value.func (Fn.func 123) #[] #[Value.pointer (some ⟨w2.heap.size + 1, 0, none⟩), Value.pointer (some ⟨w2.heap.size, 0, none⟩)],
        Value.func (Fn.func 79) #[Value.pointer (some ⟨fb, 0, none⟩)] #[]] : Array Value)[i]?) := Lib.hid (fun i => by rw [← hwa]; exact cell_of_at (at_newk (by simp)) i)
    have LTG : Hid (∀ k, G k → k < w.heap.size) := Lib.hid HF.out.lt
    have ZERO : Hid (BegRel b fb F G f l first kept state name wa 0 wa) := Lib.hid ⟨f, by rw [grow_self]; exact HF.out.mod0 MA.out, HL.out.keep MA.out (fun _ _ h => h), Mod.refl _ _, Nat.le_refl _, fun _ => rfl, fun h => absurd h (by decide)⟩
    clear hwa e1' e2' e3' d0 d0' c0
    go_loopw [14, 15, 40] (fun _ _ i wr => ∃ j : Nat, j ≤ 4 ∧ i = .int .i64 j ∧ BegRel b fb F G f l first kept state name wa j wr) (fun _ _ i _ => 4 - (intOf i).toNat)
    case atStart => exact ⟨0, by omega, rfl, ZERO.out⟩
    case round =>
      obtain ⟨j, hj, rfl, hrel⟩ := hrel
      obtain ⟨wo, rfl⟩ : ∃ wo : World, wo = wr := ⟨_, rfl⟩
      have REL := Lib.hid hrel
      obtain ⟨fi, hfr, hlr, hmr, _, _, _⟩ := hrel
      have HMR := Lib.hid hmr
      have HLR := Lib.hid hlr
      have hszr : wa.heap.size ≤ wo.heap.size := hmr.size
      have keepc : Hid (∀ p v, wa.cell? p = some v → w.heap.size ≤ p.block → wo.cell? p = some v) := Lib.hid (fun p v hc hp => HMR.out.cell hc (fun h => by
        rcases h with h | h
        · omega
        · have := LTG.out _ h; omega))
      have CR : Hid (BegCells (w2.heap.size + 1) w2.heap.size w.heap.size (w.heap.size + 1) (w.heap.size + 1 + 1) fb name first kept state wo) := Lib.hid
        ⟨keepc.out _ _ CA.out.f (by show _ ≤ w2.heap.size + 1; omega), keepc.out _ _ CA.out.n (by show _ ≤ w2.heap.size; omega), keepc.out _ _ CA.out.a (Nat.le_refl _), keepc.out _ _ CA.out.b (by show _ ≤ w.heap.size + 1; omega), keepc.out _ _ CA.out.c (by show _ ≤ w.heap.size + 1 + 1; omega)⟩
      have GR : Hid (Globs wo) := Lib.hid ((HG.out.mod0 MA.out).mod HMR.out (fun k hk => by
        rcases hk with rfl | hk
        · exact H9.out _ (.inl HL.out.own)
        · exact H9.out _ (.inr hk)))
      have LTC : Hid (∀ k, k = w2.heap.size + 1 ∨ k = w2.heap.size ∨ k = w.heap.size ∨ k = w.heap.size + 1 ∨ k = w.heap.size + 1 + 1 → k < wa.heap.size ∧ ¬ G k) := Lib.hid (fun k hk => ⟨by omega, fun h => by have := LTG.out k h; omega⟩)
      clear hfr hlr hmr
      have NB : Hid (∀ k, grow G wa wo k → k ≠ b) := Lib.hid (fun k hk e => by
        subst e
        rcases hk with hk | hk
        · exact HD.out _ HL.out.own hk
        · omega)
      have FD : Hid (∀ k, F k → ¬ grow G wa wo k) := Lib.hid (fun k hk h => by
        rcases h with h | h
        · exact HD.out _ hk h
        · have := HL.out.lt k hk; omega)
      have hcase : j < 4 ∨ j = 4 := by omega
      rcases hcase with hj4 | rfl
      · by_cases hj3 : j < 3
        case' pos =>
          obtain ⟨k, caps, hcell0, hE, hcalls⟩ := bstep_any j hj3 (w2.heap.size + 1) w2.heap.size w.heap.size (w.heap.size + 1) (w.heap.size + 1 + 1) b fb F G f l first kept state name wa wo HN.out HNE.out REL.out CR.out LTC.out GR.out hlen hfi hst
          have hcell : wo.cell? ⟨w2.heap.size + 1 + 1, j, none⟩ = some (.func (.func k) #[] caps) := keepc.out _ _ (by
            rw [SA.out]
            have hc3 : j = 0 ∨ j = 1 ∨ j = 2 := by omega
            rcases hc3 with rfl | rfl | rfl <;> exact hcell0) (by show _ ≤ w2.heap.size + 1 + 1; omega)
          have hE' : ∀ args w, (callFunc k args).run Tryz.prog w = .ok (.enter k args) w := hE
          have HC := Lib.hid hcalls
          clear hcalls hcell0 hE
        case' neg =>
          obtain rfl : j = 3 := by omega
          have hcell : wo.cell? ⟨w2.heap.size + 1 + 1, 3, none⟩ = some (.func (.func 79) #[.pointer (some ⟨fb, 0, none⟩)] #[]) := keepc.out _ _ (by
            rw [SA.out]; rfl) (by show _ ≤ w2.heap.size + 1 + 1; omega)
          have HC := Lib.hid (bstep4_any b fb F G f l first kept state name wa wo REL.out hlen)
        all_goals
          go_wp2_with fail
          refine HC.out.mono ?_
          rintro e w3 ⟨⟨rf, x⟩, rfl, hf3, hm3, hs3, nid, hn, hk1, hk2⟩
          simp only at hf3 hs3 hk1 hk2
          have K1 := Lib.hid hk1
          have K2 := Lib.hid hk2
          have F3 := Lib.hid hf3
          have M3 := Lib.hid hm3
          have S3 := Lib.hid hs3
          have hz3 := hm3.size
          have NID := Lib.hid hn
          clear hk1 hk2 hf3 hm3 hs3 hn
          go_wp2_with fail
          refine (seen_any b (some ⟨fb, 0, none⟩) l F x w3 (by exact HLR.out.keep M3.out FD.out)).mono ?_
          rintro e w4 ⟨rfl, hl4, hm4⟩
          have L4 := Lib.hid hl4
          have M4 := Lib.hid hm4
          have hz4 := hm4.size
          have NB3 : Hid (∀ k, grow G wa w3 k → k ≠ b) := Lib.hid (fun k hk e => by
            subst e
            rcases hk with hk | hk
            · exact HD.out _ HL.out.own hk
            · omega)
          have F4 : Hid (FsRep w4.heap fb rf (grow G wa w4)) := Lib.hid ((F3.out.mod M4.out (fun k hk h => NB3.out k hk h)).weaken (fun k hk => by
            rcases hk with hk | hk
            · exact .inl hk
            · exact .inr ⟨hk.1, by omega⟩) (fun k hk => by
            rcases hk with hk | hk
            · have := LTG.out k hk; omega
            · exact hk.2))
          have MR : Hid (Mod (fun k => k = b ∨ G k) wa w4) := Lib.hid ((HMR.out.trans M3.out (fun k hk h => by
            rcases h with h | h
            · exact .inr h
            · omega)).trans M4.out (fun k _ h => .inl h))
          clear hl4 hm4
          by_cases hx : x = 0
          · subst hx
            go_wp2
            go_roundw
            case rel =>
              refine ⟨_, by omega, by go_num, rf, F4.out, ?_, MR.out, by have := S3.out; omega, fun h => (by omega), fun _ => ⟨nid, NID.out, K1.out (by first | rfl | trivial)⟩⟩
              have := L4.out
              rw [seen_zero] at this
              exact this
            case measure => simp [intOf] <;> omega
          · have hxb : (x != 0) = true := by simpa using hx
            have HX := Lib.hid hx
            have cc : Hid (∀ p v, wa.cell? p = some v → w.heap.size ≤ p.block → w4.cell? p = some v) := Lib.hid (fun p v hc hp => MR.out.cell hc (fun h => by
              rcases h with h | h
              · omega
              · have := LTG.out _ h; omega))
            have q1 := cc.out _ _ CA.out.f (by show _ ≤ w2.heap.size + 1; omega)
            have q2 := cc.out _ _ CA.out.n (by show _ ≤ w2.heap.size; omega)
            clear hx
            go_wp2_with fail
            refine (delete_any fb rf (grow G wa w4) name w4 F4.out HNS.out (by have := S3.out; omega)).mono ?_
            rintro e w5 ⟨rfl, hf5, hm5⟩
            have F5 := Lib.hid hf5
            have M5 := Lib.hid hm5
            have hz5 := hm5.size
            clear hf5 hm5
            go_wp2
            go_ret
            refine ⟨nid, NID.out, by rw [K2.out HX.out]; rfl, ?_, ?_, ?_⟩
            · rw [K2.out HX.out]
              have := F5.out
              rw [grow_trans (by omega) M5.out.size] at this
              refine this.weaken (fun k hk => ?_) (fun k hk => ?_)
              · rcases hk with hk | hk
                · exact .inl hk
                · exact .inr ⟨by omega, hk.2⟩
              · rcases hk with hk | hk
                · have := LTG.out k hk; omega
                · exact hk.2
            · rw [K2.out HX.out]
              exact L4.out.keep M5.out (fun k hk h => by
                rcases h with h | h
                · exact HD.out _ hk h
                · have := HL.out.lt k hk; omega)
            · exact ((MA.out.none_any (F := fun k => k = b ∨ G k)).trans MR.out (fun k _ h => h)).trans M5.out (fun k hk h => by
                rcases h with h | h
                · exact .inr h
                · omega)
      · have q2 := CR.out.n
        obtain ⟨rv4, hb4, hrv4⟩ := HLR.out.ex
        have c5 := (wcells hb4).c5
        have e5 : wo.frozen? ⟨b, 5, none⟩ = false := free_of_at hb4 5
        have HB4 := Lib.hid hb4
        have HRV4 := Lib.hid hrv4
        clear hb4 hrv4
        go_wp2
        go_ret
        obtain ⟨fi, hfr, hlr, hmr, _, _, hex⟩ := REL.out
        obtain ⟨nid, hn, hstep⟩ := hex (by decide)
        have hbeg : beginW f l nid first kept state = (fi, { l with now := name }, 0) := hstep.symm
        have hsz5 : (wo.setCell ⟨b, 5, none⟩ (.string name)).heap.size = wo.heap.size := by simp [World.setCell]
        refine ⟨nid, hn, by rw [hbeg]; rfl, ?_, ?_, ?_⟩
        · rw [hbeg]
          refine (hfr.mod (mod_one wo b 5 (.string name)) (fun k hk h => NB.out k hk h)).weaken (fun k hk => ?_) (fun k hk => ?_)
          · rcases hk with hk | hk
            · exact .inl hk
            · exact .inr ⟨by omega, by omega⟩
          · rcases hk with hk | hk
            · have := LTG.out k hk; omega
            · exact hk.2
        · rw [hbeg]
          exact hlr.set (l' := { l with now := name }) (rv := rv4) HRV4.out (mod_one _ _ _ _) (by rw [at_setCell_same HB4.out]; rfl)
        · exact ((MA.out.none_any (F := fun k => k = b ∨ G k)).trans hmr (fun k _ h => h)).trans (mod_one wo b 5 (.string name)) (fun k _ h => .inl h)
end Go.Proofs.YthogefmngddnbaaGreatDoor
/- Wal.drop: the walk. -/
namespace Go.Proofs.YthogefmngddnbaaGreatDoor
open Go.RowKit

/-- which numbers go: a function value, in whatever world that has turned but these blocks -/
def GoneP (U : BSet) (k : FuncId) (caps : Array Value) (gone : Nat → Bool) (w : World) : Prop :=
  ∀ n, n ≤ 99999999 → ∀ w', Mod U w w' → Calls Tryz.prog k (#[.int .i64 (n : Nat)] ++ caps) w' fun e w'' => e = .returned (.bool (gone n)) ∧ w' = w''
def DropP (b fb : Nat) (F G : BSet) (f : Fs) (l : Wl) (gone : Nat → Bool) (w : World) (e : Ending) (w' : World) : Prop :=
  e = .returned (.int .i64 (dropW gone f.segs f l).2.2) ∧ FsRep w'.heap fb (dropW gone f.segs f l).1 (grow G w w') ∧
    WlAt w'.heap b (some ⟨fb, 0, none⟩) (dropW gone f.segs f l).2.1 F ∧ Mod (fun k => k = b ∨ G k) w w'
def DropRel (b fb : Nat) (F G : BSet) (f : Fs) (l : Wl) (gone : Nat → Bool) (wa : World) (j : Nat) (wr : World) : Prop :=
  ∃ fi, FsRep wr.heap fb fi (grow G wa wr) ∧ WlAt wr.heap b (some ⟨fb, 0, none⟩) l F ∧ Mod (fun k => k = b ∨ G k) wa wr ∧ fi.since.length ≤ f.since.length + j ∧ dropW gone (f.segs.drop j) fi l = dropW gone f.segs f l
theorem delete_since (f : Fs) (name : ByteArray) : (f.delete name).1.since.length ≤ f.since.length + 1 := by
  unfold Fs.delete
  split
  · exact Nat.le_succ _
  · rw [happens_since]; simp
theorem segs_le (f : Fs) (hw : f.Wf) : f.segs.length ≤ 64 := by
  unfold Fs.segs
  refine Nat.le_trans (List.length_filter_le _ _) ?_
  rw [names_length]; exact hw.nowMany
theorem segs_mem {f : Fs} {s : ByteArray} (h : s ∈ f.segs) : s = segName (numD s) ∧ 1 ≤ numD s ∧ numD s ≤ 99999999 ∧ s.size = 10 := by
  have := isSeg_num (List.mem_filter.1 h).2
  refine ⟨this.2.2.1, this.1, this.2.1, ?_⟩
  rw [this.2.2.1]; exact segName_size this.2.1
set_option maxRecDepth 100000 in
set_option maxHeartbeats 4000000 in
theorem drop_any (b fb : Nat) (F G : BSet) (f : Fs) (l : Wl) (gone : Nat → Bool) (k : FuncId) (caps : Array Value) (w : World) (hf : FsRep w.heap fb f G) (hl : WlAt w.heap b (some ⟨fb, 0, none⟩) l F) (hd : ∀ k, F k → ¬ G k) (hg : Globs w)
    (h9 : ∀ k, F k ∨ G k → 9 ≤ k) (hlen : f.since.length ≤ 536870912) (hk : Enters k) (hp : GoneP (fun k => k = b ∨ G k) k caps gone w) :
    Calls Tryz.prog 77 #[.pointer (some ⟨b, 0, none⟩), .func (.func k) #[] caps] w (DropP b fb F G f l gone w) := by
  have hE : ∀ args w, (callFunc k args).run Tryz.prog w = .ok (.enter k args) w := hk
  have HF := Lib.hid hf
  have HL := Lib.hid hl
  have HD := Lib.hid hd
  have HG := Lib.hid hg
  have H9 := Lib.hid h9
  have HP := Lib.hid hp
  obtain ⟨rv, hb, _⟩ := hl.ex
  have c0 := (wcells hb).c0
  have hbw : b < w.heap.size := lt_of_at hb
  have hsl := segs_le f hf.wf
  clear hf hl hd hg h9 hb hp hk
  go_enter Tryz.func77, Tryz.ntmps77
  go_wp2_with fail
  refine (wnames_any fb f G _ (by exact HF.out) (by exact HG.out)).mono ?_
  rintro e wa ⟨v, rfl, hv, hin, hm1⟩
  obtain ⟨va, vc, rfl, hvl, hvx⟩ := hv
  rw [strs_length] at hvl hvx hin ⊢
  have MA := Lib.hid hm1
  have sa := hm1.size
  have VX := Lib.hid hvx
  have VI := Lib.hid hin
  have LTG : Hid (∀ k, G k → k < w.heap.size) := Lib.hid HF.out.lt
  have ZERO : Hid (DropRel b fb F G f l gone wa 0 wa) := Lib.hid ⟨f, by rw [grow_self]; exact HF.out.mod0 MA.out, HL.out.keep MA.out (fun _ _ h => h), Mod.refl _ _, Nat.le_refl _, rfl⟩
  clear hm1 hvx hin
  go_wp2_with fail
  go_loopw [8, 9, 10, 11, 22] (fun _ _ _ _ i wr => ∃ j : Nat, j ≤ f.segs.length ∧ i = .int .i64 j ∧ DropRel b fb F G f l gone wa j wr) (fun _ _ _ _ i _ => f.segs.length - (intOf i).toNat)
  case atStart => exact ⟨0, by omega, rfl, ZERO.out⟩
  case round =>
    obtain ⟨j, hj, rfl, hrel⟩ := hrel
    obtain ⟨wo, rfl⟩ : ∃ wo : World, wo = wr := ⟨_, rfl⟩
    have REL := Lib.hid hrel
    obtain ⟨fi, hfr, hlr, hmr, hsr, hdr⟩ := hrel
    have HFR := Lib.hid hfr
    have HMR := Lib.hid hmr
    have HLR := Lib.hid hlr
    have HDR := Lib.hid hdr
    have hszr : wa.heap.size ≤ wo.heap.size := hmr.size
    have GR : Hid (Globs wo) := Lib.hid ((HG.out.mod0 MA.out).mod HMR.out (fun k hk => by
      rcases hk with rfl | hk
      · exact H9.out _ (.inl HL.out.own)
      · exact H9.out _ (.inr hk)))
    have FD : Hid (∀ k, F k → ¬ grow G wa wo k) := Lib.hid (fun k hk h => by
      rcases h with h | h
      · exact HD.out _ hk h
      · have := HL.out.lt k hk; omega)
    clear hfr hlr hmr hdr
    by_cases hlt : j < f.segs.length
    · obtain ⟨s, hs⟩ : ∃ s, f.segs[j] = s := ⟨_, rfl⟩
      obtain ⟨hs1, hs2, hs3, hs4⟩ := segs_mem (hs ▸ List.getElem_mem hlt : s ∈ f.segs)
      obtain ⟨vb, vo, cs, vt, vfr, rfl, hvb, hvc⟩ := VX.out (by intro h; have := congrArg List.length h; simp at this; rw [this] at hlt; simp at hlt)
      have hvw : w.heap.size ≤ vb := by
        rcases (VI.out (by omega) : grow BSet.none w wa vb) with h | h
        · exact h.elim
        · exact h.1
      have hcell : wo.cell? ⟨vb, vo + j, none⟩ = some (.string s) := by
        rw [cell_of_at (HMR.out.at hvb (fun h => by
          rcases h with h | h
          · omega
          · have := LTG.out _ h; omega)), hvc j hlt]
        simp [strs, hlt, hs]
      have hdropj : f.segs.drop j = s :: f.segs.drop (j + 1) := by rw [List.drop_eq_getElem_cons hlt, hs]
      have HSS := Lib.hid hs1
      have HDJ := Lib.hid hdropj
      clear hs hs1 hdropj hvb hvc
      have hsz40 : s.size ≤ 1099511627776 := by omega
      go_wp2_with fail
      refine (number_any s _ hsz40 GR.out).mono ?_
      rintro e w2 ⟨rfl, hm2⟩
      rw [show (numOf s).getD 0 = numD s from rfl]
      have M2 := Lib.hid hm2
      have hz2 := hm2.size
      have hbM : Hid (Mod (fun k => k = b ∨ G k) w w2) := Lib.hid (((MA.out.none_any (F := fun k => k = b ∨ G k)).trans HMR.out (fun k _ h => h)).trans M2.out (fun _ _ h => h.elim))
      clear hm2
      go_wp2_with fail
      refine (HP.out (numD s) hs3 _ hbM.out).mono ?_
      rintro e w3 ⟨rfl, rfl⟩
      have F2 : Hid (FsRep w2.heap fb fi (grow G wa wo)) := Lib.hid (HFR.out.mod0 M2.out)
      have L2 : Hid (WlAt w2.heap b (some ⟨fb, 0, none⟩) l F) := Lib.hid (HLR.out.keep M2.out (fun _ _ h => h))
      cases hgn : gone (numD s) with
      | false =>
        have HGN := Lib.hid hgn
        clear hgn
        go_wp2
        go_roundw
        case rel =>
          refine ⟨j + 1, by omega, by go_num, fi, ?_, L2.out, HMR.out.trans M2.out (fun _ _ h => h.elim), by omega, ?_⟩
          · refine F2.out.weaken (fun k hk => ?_) (fun k hk => ?_)
            · rcases hk with hk | hk
              · exact .inl hk
              · exact .inr ⟨hk.1, by omega⟩
            · rcases hk with hk | hk
              · have := LTG.out k hk; omega
              · exact hk.2
          · rw [← HDR.out, HDJ.out]
            conv => rhs; unfold dropW
            rw [HGN.out]
            rfl
        case measure => simp [intOf] <;> omega
      | true =>
        have HGN := Lib.hid hgn
        obtain ⟨rv2, hb2, _⟩ := L2.out.ex
        have c02 := (wcells hb2).c0
        clear hgn hb2
        go_wp2_with fail
        refine (delete_any fb fi (grow G wa wo) s w2 F2.out (by unfold maxLen; omega) (by omega)).mono ?_
        rintro e w3 ⟨rfl, hf3, hm3⟩
        have F3 := Lib.hid hf3
        have M3 := Lib.hid hm3
        have hz3 := hm3.size
        clear hf3 hm3
        go_wp2_with fail
        refine (seen_any b (some ⟨fb, 0, none⟩) l F (fi.delete s).2 w3 (by exact L2.out.keep M3.out FD.out)).mono ?_
        rintro e w4 ⟨rfl, hl4, hm4⟩
        have L4 := Lib.hid hl4
        have M4 := Lib.hid hm4
        have hz4 := hm4.size
        clear hl4 hm4
        have MR4 : Hid (Mod (fun k => k = b ∨ G k) wa w4) := Lib.hid (((HMR.out.trans M2.out (fun _ _ h => h.elim)).trans M3.out (fun k hk h => by
            rcases h with h | h
            · exact .inr h
            · omega)).trans M4.out (fun k _ h => .inl h))
        have F4 : Hid (FsRep w4.heap fb (fi.delete s).1 (grow G wa w4)) := Lib.hid ((F3.out.mod M4.out (fun k hk h => by
            have h' : k = b := h
            subst h'
            rcases hk with (hk | hk) | hk
            · exact HD.out _ HL.out.own hk
            · omega
            · omega)).weaken (fun k hk => by
            rcases hk with (hk | hk) | hk
            · exact .inl hk
            · exact .inr ⟨hk.1, by omega⟩
            · exact .inr ⟨by omega, by omega⟩) (fun k hk => by
            rcases hk with hk | hk
            · have := LTG.out k hk; omega
            · exact hk.2))
        have DEQ : Hid (dropW gone (f.segs.drop j) fi l = if (fi.delete s).2 = 0 then dropW gone (f.segs.drop (j + 1)) (fi.delete s).1 (l.seen 0) else ((fi.delete s).1, l.seen (fi.delete s).2, (fi.delete s).2)) := Lib.hid (by
          rw [HDJ.out]
          conv => lhs; unfold dropW
          rw [HGN.out, if_pos rfl])
        have SN : Hid ((fi.delete s).1.since.length ≤ f.since.length + (j + 1)) := Lib.hid (by have := delete_since fi s; omega)
        obtain ⟨⟨rf, x⟩, hr⟩ : ∃ r, fi.delete s = r := ⟨_, rfl⟩
        rw [hr] at F4 L4 DEQ SN
        rw [hr]
        have HRR := Lib.hid hr
        clear hr F3
        by_cases hx : x = 0
        · subst hx
          go_wp2
          go_roundw
          case rel =>
            refine ⟨j + 1, by omega, by go_num, rf, F4.out, ?_, MR4.out, SN.out, ?_⟩
            · have := L4.out
              rw [seen_zero] at this
              exact this
            · rw [← HDR.out, DEQ.out]; simp only [if_true, seen_zero]
          case measure => simp [intOf] <;> omega
        · have hxb : (x != 0) = true := by simpa using hx
          have HX := Lib.hid hx
          clear hx
          go_wp2
          go_ret
          have hall : dropW gone f.segs f l = (rf, l.seen x, x) := by rw [← HDR.out, DEQ.out, if_neg HX.out]
          refine ⟨by rw [hall]; rfl, ?_, by rw [hall]; exact L4.out, (MA.out.none_any (F := fun k => k = b ∨ G k)).trans MR4.out (fun k _ h => h)⟩
          rw [hall]
          refine F4.out.weaken (fun k hk => ?_) (fun k hk => ?_)
          · rcases hk with hk | hk
            · exact .inl hk
            · exact .inr ⟨by omega, hk.2⟩
          · rcases hk with hk | hk
            · have := LTG.out k hk; omega
            · exact hk.2
    · go_wp2
      go_ret
      have hall : dropW gone f.segs f l = (fi, l, 0) := by rw [← HDR.out, List.drop_eq_nil_of_le (by omega)]; rfl
      refine ⟨by rw [hall]; rfl, ?_, by rw [hall]; exact HLR.out, (MA.out.none_any (F := fun k => k = b ∨ G k)).trans HMR.out (fun k _ h => h)⟩
      rw [hall]
      refine HFR.out.weaken (fun k hk => ?_) (fun k hk => ?_)
      · rcases hk with hk | hk
        · exact .inl hk
        · exact .inr ⟨by omega, hk.2⟩
      · rcases hk with hk | hk
        · have := LTG.out k hk; omega
        · exact hk.2
theorem gone82 (U : BSet) (bx from_ : Nat) (w : World) (h : w.cell? ⟨bx, 0, none⟩ = some (.int .i64 (from_ : Nat))) (hU : ¬ U bx) : GoneP U 82 #[.pointer (some ⟨bx, 0, none⟩)] (fun n => decide (n < from_)) w := by
  intro n hn w' hm
  have h' := hm.cell h hU
  go_enter Tryz.func82, Tryz.ntmps82
  go_wp2
  go_ret
  exact ⟨ret_bool (decide_eq_decide.2 (by omega)), rfl⟩
theorem gone78 (U : BSet) (bx now_ : Nat) (w : World) (h : w.cell? ⟨bx, 0, none⟩ = some (.int .i64 (now_ : Nat))) (hU : ¬ U bx) : GoneP U 78 #[.pointer (some ⟨bx, 0, none⟩)] (fun n => n != now_) w := by
  intro n hn w' hm
  have h' := hm.cell h hU
  go_enter Tryz.func78, Tryz.ntmps78
  go_wp2
  go_ret
  refine ⟨ret_bool ?_, rfl⟩
  rw [Bool.eq_iff_iff]
  simp
  omega
end Go.Proofs.YthogefmngddnbaaGreatDoor
/- Wal.Append: the walk. -/
namespace Go.Proofs.YthogefmngddnbaaGreatDoor
open Go.RowKit

/-- a log with its folder, and the blocks that are theirs -/
structure WRep (w : World) (b fb : Nat) (f : Fs) (l : Wl) (F G : BSet) : Prop where
  fs : FsRep w.heap fb f G
  wl : WlAt w.heap b (some ⟨fb, 0, none⟩) l F
  dis : ∀ k, F k → ¬ G k
  ge : ∀ k, F k ∨ G k → 9 ≤ k
/-- what a method of a log leaves -/
def WalP (b fb : Nat) (F G : BSet) (f : Fs) (l : Wl) (v : Value) (w : World) (e : Ending) (w' : World) : Prop :=
  e = .returned v ∧ (∃ F' G', WRep w' b fb f l F' G' ∧ ∀ k, F' k ∨ G' k → (F k ∨ G k) ∨ (w.heap.size ≤ k ∧ k < w'.heap.size)) ∧ Mod (fun k => F k ∨ G k) w w'
theorem WRep.globs {w w' : World} {b fb : Nat} {f : Fs} {l : Wl} {F G : BSet} (h : WRep w b fb f l F G) (hg : Globs w) (hm : Mod (fun k => F k ∨ G k) w w') : Globs w' := hg.mod hm h.ge
theorem ready_zero {fp : Option Addr} {l : Wl} {xs : List ByteArray} (h : Wl.ready fp l xs = 0) : (fp.isNone || l.broken) = false ∧ xs.any tooLong = false := by
  unfold Wl.ready at h
  cases h1 : (fp.isNone || l.broken) with
  | true => rw [h1] at h; simp at h
  | false =>
    cases h2 : xs.any tooLong with
    | true => rw [h1, h2] at h; simp at h
    | false => exact ⟨rfl, rfl⟩
theorem ready_some (a c : Addr) (l : Wl) (xs : List ByteArray) : Wl.ready (some a) l xs = Wl.ready (some c) l xs := rfl
set_option maxRecDepth 100000 in
set_option maxHeartbeats 4000000 in
theorem wappend_any (b fb : Nat) (F G : BSet) (f : Fs) (l : Wl) (v : Value) (xs : List ByteArray) (w : World) (hr : WRep w b fb f l F G) (hg : Globs w) (hv : SlAt w.heap v (strs xs)) (hvd : SlIn (fun k => ¬ (F k ∨ G k)) v)
    (hs : ∀ s, s ∈ xs → s.size ≤ 1099511627776) (hfl : (framesL xs).length ≤ 1099511627776) (hn : l.now.size ≤ maxLen) (hrl : l.recs.length + xs.length ≤ 1099511627776) (hx0 : 0 < xs.length) :
    Calls Tryz.prog 19 #[.pointer (some ⟨b, 0, none⟩), v] w (WalP b fb F G (appendW f l xs).1 (appendW f l xs).2.1 (.int .i64 (appendW f l xs).2.2) w) := by
  have HR := Lib.hid hr
  have HG := Lib.hid hg
  have HV := Lib.hid hv
  have HVD := Lib.hid hvd
  have HS := Lib.hid hs
  have HFL := Lib.hid hfl
  have HN := Lib.hid hn
  obtain ⟨va, vc, rfl, hvl, _⟩ := hv
  rw [strs_length] at hvl HV HVD ⊢
  obtain ⟨i0, hi, hz0, hz1, hz2⟩ := info_parts info9
  clear hr hg hvd hs hfl hn
  obtain ⟨y, hy⟩ : ∃ y, Wl.ready (some ⟨fb, 0, none⟩) l xs = y := ⟨_, rfl⟩
  have HY := Lib.hid hy
  by_cases hy0 : y = 0
  · subst hy0
    obtain ⟨hb1, hb2⟩ := ready_zero hy
    have HA : Hid (appendW f l xs = ((f.append l.now (framesOf xs)).1, if (f.append l.now (framesOf xs)).2 = 0 then { l with recs := l.recs ++ xs } else l.seen (f.append l.now (framesOf xs)).2, (f.append l.now (framesOf xs)).2)) := Lib.hid (by
      unfold appendW; rw [ready_some default ⟨fb, 0, none⟩, HY.out, if_neg (by simp)])
    have HB2 := Lib.hid hb2
    clear hy hb1 hb2
    go_enter Tryz.func19, Tryz.ntmps19
    go_wp2_with fail
    refine (wready_any b (some ⟨fb, 0, none⟩) l F _ xs _ HR.out.wl HV.out HS.out).mono ?_
    rintro e w1 ⟨rfl, hm1⟩
    rw [HY.out]
    have M1 := Lib.hid hm1
    clear hm1
    go_wp2_with fail
    refine (all_any _ xs _ (HV.out.mod0 M1.out) HS.out HFL.out (HG.out.mod0 M1.out).sum (HG.out.mod0 M1.out).size).mono ?_
    rintro e w2 ⟨rfl, hm2⟩
    have hall : xs.all (fun s => decide (s.size ≤ 70000)) = true := by
      rw [List.all_eq_true]; intro s hs; exact decide_eq_true (not_long HB2.out hs)
    rw [hall, if_pos rfl]
    have M2 := Lib.hid (M1.out.trans hm2 (fun _ _ h => h))
    obtain ⟨rv, hb, hrv⟩ := (HR.out.wl.keep M2.out (fun _ _ h => h)).ex
    have c0 := (wcells hb).c0
    have c5 := (wcells hb).c5
    have HB := Lib.hid hb
    have HRV := Lib.hid hrv
    generalize hs' : framesOf xs = s
    have HSS := Lib.hid hs'
    have hssz : s.size ≤ 1152921504606846976 := by rw [← hs']; exact Nat.le_trans HFL.out (by decide)
    have HSZ := Lib.hid hssz
    clear hm2 hall hb hrv hs' hssz
    go_wp2
    first | (go_region_held3 (fun w' => w'.cell? ⟨b, 0, none⟩ = some (.pointer (some ⟨fb, 0, none⟩)) ∧ w'.cell? ⟨b, 5, none⟩ = some (.string l.now))
      (first | exact ⟨y0, y5⟩ | exact ⟨x0, x5⟩ | exact ⟨c0, c5⟩)
      (first | (go_at_call 67; refine (append_any fb f G l.now s _ (by exact HR.out.fs.mod0 (M2.out.drew)) HN.out HSZ.out).mono ?_; rintro e w3 ⟨rfl, hf3, hm3⟩; have F3 := Lib.hid hf3; have M3 := Lib.hid hm3; have x0 := hm3.cell c0 (fun h => HR.out.dis _ HR.out.wl.own h); have x5 := hm3.cell c5 (fun h => HR.out.dis _ HR.out.wl.own h); clear hf3 hm3) | (go_at_call 66; refine (seen_any b (some ⟨fb, 0, none⟩) l F _ w3 (by exact (HR.out.wl.keep M2.out.drew (fun _ _ h => h)).keep M3.out HR.out.dis)).mono ?_; rintro e w4 ⟨rfl, hl4, hm4⟩; have L4 := Lib.hid hl4; have M4 := Lib.hid hm4; obtain ⟨rv4, hb4, _⟩ := hl4.ex; have y0 := (wcells hb4).c0; have y5 := (wcells hb4).c5; clear hb4 hm4))) | fail
    obtain ⟨⟨rf, x⟩, hrr⟩ : ∃ r, f.append l.now s = r := ⟨_, rfl⟩
    rw [hrr] at F3 L4
    rw [hrr]
    have HRR := Lib.hid hrr
    have hs2 := M2.out.size
    have hz3 := M3.out.size
    have hz4 := M4.out.size
    have hz3' : w2.heap.size ≤ w3.heap.size := hz3
    have MW : Hid (Mod (fun k => F k ∨ G k) w w4) := Lib.hid (((M2.out.drew.none_any (F := fun k => F k ∨ G k)).trans M3.out (fun k _ h => .inr h)).trans M4.out (fun k _ h => by rw [show k = b from h]; exact .inl HR.out.wl.own))
    have F4 : Hid (FsRep w4.heap fb rf (grow G w2 w3)) := Lib.hid (F3.out.mod M4.out (fun k hk h => by
      have h' : k = b := h
      subst h'
      rcases hk with hk | hk
      · exact HR.out.dis _ HR.out.wl.own hk
      · have := HR.out.wl.lt _ HR.out.wl.own
        have h1 : w2.drew.heap.size = w2.heap.size := rfl
        omega))
    have LTF : Hid (∀ k, F k → k < w.heap.size) := Lib.hid HR.out.wl.lt
    have LTG : Hid (∀ k, G k → k < w.heap.size) := Lib.hid HR.out.fs.lt
    clear hrr x0 x5 y0 y5 hl4
    by_cases hx : x = 0
    · subst hx
      obtain ⟨rv5, hb5, hrv5⟩ := L4.out.ex
      rw [seen_zero] at hb5 hrv5
      have d2 := (wcells hb5).c2
      have HB5 := Lib.hid hb5
      have HRV5 := Lib.hid hrv5
      have hv4 := HV.out.mod MW.out (fun b' o n c e hn h => by
        have := HVD.out
        rw [e] at this
        exact this hn h)
      obtain ⟨va', vc', he, _, hvx⟩ := hv4
      simp only [Value.slice.injEq] at he
      obtain ⟨rfl, -, rfl⟩ := he
      rw [strs_length] at hvx
      obtain ⟨vb, vo, cs, vt, vfr, rfl, hvb, hvc⟩ := hvx (by intro h; have := congrArg List.length h; simp at this; rw [this] at hx0; simp at hx0)
      have HVB := Lib.hid hvb
      have HVC := Lib.hid hvc
      have hlen1 : l.recs.length ≤ 1099511627776 := by omega
      clear hb5 hrv5 hvx hvb hvc
      go_wp2_with (at_builtin; refine wpList_append_F _ F rfl _ _ 22 rfl 9 i0 (.string ⟨#[]⟩) 1 16 under22 hi hz0 hz1 hz2 rfl (by decide) _ l.recs.length (strs l.recs) rfl HRV5.out ⟨vb, vo, none⟩ xs.length _ (strs xs) rfl (by simp) ?c1 ?c2 ?c3 ?c4 ?_)
      case c1 =>
        intro j u hu
        have hj : j < xs.length := by have := (List.getElem?_eq_some_iff.1 hu).1; simpa using this
        rw [cell_of_at HVB.out, HVC.out j hj]; exact hu
      case c2 => intro u hu; simp [strs] at hu; obtain ⟨_, _, rfl⟩ := hu; rfl
      case c3 => unfold maxLen; omega
      case c4 => omega
      intro v' w5 hown5 hgrow5 st5
      obtain ⟨g5, cap5, rfl⟩ : ∃ g cap, v' = .slice (some ⟨g, 0, none⟩) (l.recs.length + xs.length) cap := by
        obtain ⟨m, hm⟩ : ∃ m, xs.length = m + 1 := ⟨xs.length - 1, by omega⟩
        rw [hm, ← Nat.add_assoc] at hown5
        obtain ⟨g, cap, h⟩ := hown5.form
        exact ⟨g, cap, by rw [hm, h]; rfl⟩
      have HB6 := Lib.hid (st5 _ _ HB5.out (show 45 ≠ 9 by decide))
      have d2' := (wcells HB6.out).c2
      have e2 : w5.frozen? ⟨b, 2, none⟩ = false := free_of_at HB6.out 2
      have G5 := Lib.hid hgrow5
      have O5 := Lib.hid hown5
      have S5 := Lib.hid st5
      clear hgrow5 hown5 st5 d2
      go_wp2
      go_ret
      have hall : appendW f l xs = (rf, { l with recs := l.recs ++ xs }, 0) := by rw [HA.out, HSS.out, HRR.out]; simp only [if_true]
      rw [hall]
      have hz5 := G5.out.size
      have hsz6 : (w5.setCell ⟨b, 2, none⟩ (.slice (some ⟨g5, 0, none⟩) (l.recs.length + xs.length) cap5)).heap.size = w5.heap.size := by simp [World.setCell]
      have hd' : ∀ k, grow G w2 w3 k → ¬ F k := fun k hk h => by
        rcases hk with hk | hk
        · exact HR.out.dis k h hk
        · have := LTF.out k h; omega
      refine ⟨rfl, ⟨grow F w4 w5, grow G w2 w3, ⟨(F4.out.mod G5.out hd').mod (mod_one w5 b 2 _) (fun k hk h => by
        have h' : k = b := h
        subst h'
        exact hd' _ hk HR.out.wl.own), ⟨.inl HR.out.wl.own, fun k hk => ?_, .slice (some ⟨g5, 0, none⟩) (l.recs.length + xs.length) cap5, ?_, ?_⟩, fun k hk h => ?_, fun k hk => ?_⟩, fun k hk => ?_⟩, (MW.out.trans G5.out (fun k _ h => .inl h)).trans (mod_one w5 b 2 _) (fun k _ h => by rw [show k = b from h]; exact .inl HR.out.wl.own)⟩
      · rcases hk with hk | hk
        · have := LTF.out k hk; omega
        · omega
      · rw [at_setCell_same HB6.out]; rfl
      · have := O5.out.stay (stay_set (i := 2) (u := .slice (some ⟨g5, 0, none⟩) (l.recs.length + xs.length) cap5) HB6.out) (show 9 ≠ 45 by decide)
        show Owns _ (grow F w4 w5) 9 1 _ (l.recs ++ xs).length (strs (l.recs ++ xs))
        rw [List.length_append, show strs (l.recs ++ xs) = strs l.recs ++ strs xs from by simp [strs]]
        exact this
      · rcases hk with hk | hk
        · exact hd' k h hk
        · rcases h with h | h
          · have := LTG.out k h; omega
          · omega
      · have := HG.out.size
        rcases hk with (hk | hk) | (hk | hk)
        · exact HR.out.ge k (.inl hk)
        · omega
        · exact HR.out.ge k (.inr hk)
        · omega
      · rcases hk with (hk | hk) | (hk | hk)
        · exact .inl (.inl hk)
        · exact .inr ⟨by omega, by omega⟩
        · exact .inl (.inr hk)
        · exact .inr ⟨by omega, by omega⟩
    · have hxb : (x == 0) = false := by simpa using hx
      have HX := Lib.hid hx
      clear hx
      go_wp2
      go_ret
      have hall : appendW f l xs = (rf, l.seen x, x) := by rw [HA.out, HSS.out, HRR.out]; simp only; rw [if_neg HX.out]
      rw [hall]
      refine ⟨rfl, ⟨F, grow G w2 w3, ⟨F4.out.weaken (fun _ h => h) (fun k hk => ?_), L4.out, fun k hk h => ?_, fun k hk => ?_⟩, fun k hk => ?_⟩, MW.out⟩
      · rcases hk with hk | hk
        · have := LTG.out k hk; omega
        · omega
      · rcases h with h | h
        · exact HR.out.dis k hk h
        · have := LTF.out k hk; omega
      · rcases hk with hk | hk | hk
        · exact HR.out.ge k (.inl hk)
        · exact HR.out.ge k (.inr hk)
        · have := HG.out.size; omega
      · rcases hk with hk | hk | hk
        · exact .inl (.inl hk)
        · exact .inl (.inr hk)
        · exact .inr ⟨by omega, by omega⟩
  · have hyb : (y != 0) = true := by simpa using hy0
    have HA : Hid (appendW f l xs = (f, l, y)) := Lib.hid (by
      unfold appendW; rw [ready_some default ⟨fb, 0, none⟩, HY.out, if_pos hy0])
    clear hy hy0
    go_enter Tryz.func19, Tryz.ntmps19
    go_wp2_with fail
    refine (wready_any b (some ⟨fb, 0, none⟩) l F _ xs _ HR.out.wl HV.out HS.out).mono ?_
    rintro e w1 ⟨rfl, hm1⟩
    rw [HY.out]
    have M1 := Lib.hid hm1
    clear hm1
    go_wp2
    go_ret
    rw [HA.out]
    exact ⟨rfl, ⟨F, G, ⟨HR.out.fs.mod0 M1.out, HR.out.wl.keep M1.out (fun _ _ h => h), HR.out.dis, HR.out.ge⟩, fun k h => .inl h⟩, M1.out.none_any⟩
set_option maxRecDepth 100000 in
set_option maxHeartbeats 4000000 in
theorem wappend_nil (b fb : Nat) (F G : BSet) (f : Fs) (l : Wl) (xs : List ByteArray) (w : World) (hr : WRep w b fb f l F G) (hg : Globs w) 
    (hs : ∀ s, s ∈ xs → s.size ≤ 1099511627776) (hfl : (framesL xs).length ≤ 1099511627776) (hn : l.now.size ≤ maxLen) (hrl : l.recs.length + xs.length ≤ 1099511627776) (hx0 : xs = []) :
    Calls Tryz.prog 19 #[.pointer (some ⟨b, 0, none⟩), .slice none 0 0] w (WalP b fb F G (appendW f l xs).1 (appendW f l xs).2.1 (.int .i64 (appendW f l xs).2.2) w) := by
  have HR := Lib.hid hr
  have HG := Lib.hid hg
  have HV : Hid (SlAt w.heap (.slice none 0 0) (strs xs)) := Lib.hid (by rw [hx0]; exact slAt_nil _ _)
  have HX0 := Lib.hid hx0
  clear hx0
  have HS := Lib.hid hs
  have HFL := Lib.hid hfl
  have HN := Lib.hid hn
  obtain ⟨i0, hi, hz0, hz1, hz2⟩ := info_parts info9
  clear hr hg hs hfl hn
  obtain ⟨y, hy⟩ : ∃ y, Wl.ready (some ⟨fb, 0, none⟩) l xs = y := ⟨_, rfl⟩
  have HY := Lib.hid hy
  by_cases hy0 : y = 0
  · subst hy0
    obtain ⟨hb1, hb2⟩ := ready_zero hy
    have HA : Hid (appendW f l xs = ((f.append l.now (framesOf xs)).1, if (f.append l.now (framesOf xs)).2 = 0 then { l with recs := l.recs ++ xs } else l.seen (f.append l.now (framesOf xs)).2, (f.append l.now (framesOf xs)).2)) := Lib.hid (by
      unfold appendW; rw [ready_some default ⟨fb, 0, none⟩, HY.out, if_neg (by simp)])
    have HB2 := Lib.hid hb2
    clear hy hb1 hb2
    go_enter Tryz.func19, Tryz.ntmps19
    go_wp2_with fail
    refine (wready_any b (some ⟨fb, 0, none⟩) l F _ xs _ HR.out.wl HV.out HS.out).mono ?_
    rintro e w1 ⟨rfl, hm1⟩
    rw [HY.out]
    have M1 := Lib.hid hm1
    clear hm1
    go_wp2_with fail
    refine (all_any _ xs _ (HV.out.mod0 M1.out) HS.out HFL.out (HG.out.mod0 M1.out).sum (HG.out.mod0 M1.out).size).mono ?_
    rintro e w2 ⟨rfl, hm2⟩
    have hall : xs.all (fun s => decide (s.size ≤ 70000)) = true := by
      rw [List.all_eq_true]; intro s hs; exact decide_eq_true (not_long HB2.out hs)
    rw [hall, if_pos rfl]
    have M2 := Lib.hid (M1.out.trans hm2 (fun _ _ h => h))
    obtain ⟨rv, hb, hrv⟩ := (HR.out.wl.keep M2.out (fun _ _ h => h)).ex
    have c0 := (wcells hb).c0
    have c5 := (wcells hb).c5
    have HB := Lib.hid hb
    have HRV := Lib.hid hrv
    generalize hs' : framesOf xs = s
    have HSS := Lib.hid hs'
    have hssz : s.size ≤ 1152921504606846976 := by rw [← hs']; exact Nat.le_trans HFL.out (by decide)
    have HSZ := Lib.hid hssz
    clear hm2 hall hb hrv hs' hssz
    go_wp2
    first | (go_region_held3 (fun w' => w'.cell? ⟨b, 0, none⟩ = some (.pointer (some ⟨fb, 0, none⟩)) ∧ w'.cell? ⟨b, 5, none⟩ = some (.string l.now))
      (first | exact ⟨y0, y5⟩ | exact ⟨x0, x5⟩ | exact ⟨c0, c5⟩)
      (first | (go_at_call 67; refine (append_any fb f G l.now s _ (by exact HR.out.fs.mod0 (M2.out.drew)) HN.out HSZ.out).mono ?_; rintro e w3 ⟨rfl, hf3, hm3⟩; have F3 := Lib.hid hf3; have M3 := Lib.hid hm3; have x0 := hm3.cell c0 (fun h => HR.out.dis _ HR.out.wl.own h); have x5 := hm3.cell c5 (fun h => HR.out.dis _ HR.out.wl.own h); clear hf3 hm3) | (go_at_call 66; refine (seen_any b (some ⟨fb, 0, none⟩) l F _ w3 (by exact (HR.out.wl.keep M2.out.drew (fun _ _ h => h)).keep M3.out HR.out.dis)).mono ?_; rintro e w4 ⟨rfl, hl4, hm4⟩; have L4 := Lib.hid hl4; have M4 := Lib.hid hm4; obtain ⟨rv4, hb4, _⟩ := hl4.ex; have y0 := (wcells hb4).c0; have y5 := (wcells hb4).c5; clear hb4 hm4))) | fail
    obtain ⟨⟨rf, x⟩, hrr⟩ : ∃ r, f.append l.now s = r := ⟨_, rfl⟩
    rw [hrr] at F3 L4
    rw [hrr]
    have HRR := Lib.hid hrr
    have hs2 := M2.out.size
    have hz3 := M3.out.size
    have hz4 := M4.out.size
    have hz3' : w2.heap.size ≤ w3.heap.size := hz3
    have MW : Hid (Mod (fun k => F k ∨ G k) w w4) := Lib.hid (((M2.out.drew.none_any (F := fun k => F k ∨ G k)).trans M3.out (fun k _ h => .inr h)).trans M4.out (fun k _ h => by rw [show k = b from h]; exact .inl HR.out.wl.own))
    have F4 : Hid (FsRep w4.heap fb rf (grow G w2 w3)) := Lib.hid (F3.out.mod M4.out (fun k hk h => by
      have h' : k = b := h
      subst h'
      rcases hk with hk | hk
      · exact HR.out.dis _ HR.out.wl.own hk
      · have := HR.out.wl.lt _ HR.out.wl.own
        have h1 : w2.drew.heap.size = w2.heap.size := rfl
        omega))
    have LTF : Hid (∀ k, F k → k < w.heap.size) := Lib.hid HR.out.wl.lt
    have LTG : Hid (∀ k, G k → k < w.heap.size) := Lib.hid HR.out.fs.lt
    clear hrr x0 x5 y0 y5 hl4
    by_cases hx : x = 0
    · subst hx
      obtain ⟨rv5, hb5, hrv5⟩ := L4.out.ex
      rw [seen_zero] at hb5 hrv5
      obtain ⟨ra, rc, rfl, -⟩ := hrv5.slice
      have d2 := (wcells hb5).c2
      have HB5 := Lib.hid hb5
      have HRV5 := Lib.hid hrv5
      have hlen1 : l.recs.length ≤ 1099511627776 := by omega
      have e2 : w4.frozen? ⟨b, 2, none⟩ = false := free_of_at HB5.out 2
      clear hb5 hrv5
      go_wp2_with (at_builtin; refine wpList_append_own_none rfl _ _ 22 rfl 0 9 i0 1 under22 hi _ l.recs.length (strs l.recs) rfl HRV5.out.row rfl ?_)
      go_wp2
      go_ret
      have hall : appendW f l xs = (rf, { l with recs := l.recs ++ xs }, 0) := by rw [HA.out, HSS.out, HRR.out]; simp only [if_true]
      rw [hall]
      have hsz6 : (w4.setCell ⟨b, 2, none⟩ (.slice ra l.recs.length rc)).heap.size = w4.heap.size := by simp [World.setCell]
      have hd' : ∀ k, grow G w2 w3 k → ¬ F k := fun k hk h => by
        rcases hk with hk | hk
        · exact HR.out.dis k h hk
        · have := LTF.out k h; omega
      refine ⟨rfl, ⟨F, grow G w2 w3, ⟨F4.out.mod (mod_one w4 b 2 _) (fun k hk h => by
        have h' : k = b := h
        subst h'
        exact hd' _ hk HR.out.wl.own), ⟨HR.out.wl.own, fun k hk => ?_, (.slice ra l.recs.length rc), ?_, ?_⟩, fun k hk h => hd' k h hk, fun k hk => ?_⟩, fun k hk => ?_⟩, MW.out.trans (mod_one w4 b 2 _) (fun k _ h => by rw [show k = b from h]; exact .inl HR.out.wl.own)⟩
      · have := LTF.out k hk; omega
      · rw [at_setCell_same HB5.out]
        show _ = some (Obj.cells (wlCells (some ⟨fb, 0, none⟩) { l with recs := l.recs ++ xs } (.slice ra l.recs.length rc)) 45 (0, 0))
        rfl
      · have := HRV5.out.stay (stay_set (i := 2) (u := (.slice ra l.recs.length rc)) HB5.out) (show 9 ≠ 45 by decide)
        show Owns _ F 9 1 _ (l.recs ++ xs).length (strs (l.recs ++ xs))
        rw [HX0.out, List.append_nil]
        exact this
      · have := HG.out.size
        rcases hk with hk | hk | hk
        · exact HR.out.ge k (.inl hk)
        · exact HR.out.ge k (.inr hk)
        · omega
      · rcases hk with hk | hk | hk
        · exact .inl (.inl hk)
        · exact .inl (.inr hk)
        · exact .inr ⟨by omega, by omega⟩
    · have hxb : (x == 0) = false := by simpa using hx
      have HX := Lib.hid hx
      clear hx
      go_wp2
      go_ret
      have hall : appendW f l xs = (rf, l.seen x, x) := by rw [HA.out, HSS.out, HRR.out]; simp only; rw [if_neg HX.out]
      rw [hall]
      refine ⟨rfl, ⟨F, grow G w2 w3, ⟨F4.out.weaken (fun _ h => h) (fun k hk => ?_), L4.out, fun k hk h => ?_, fun k hk => ?_⟩, fun k hk => ?_⟩, MW.out⟩
      · rcases hk with hk | hk
        · have := LTG.out k hk; omega
        · omega
      · rcases h with h | h
        · exact HR.out.dis k hk h
        · have := LTF.out k hk; omega
      · rcases hk with hk | hk | hk
        · exact HR.out.ge k (.inl hk)
        · exact HR.out.ge k (.inr hk)
        · have := HG.out.size; omega
      · rcases hk with hk | hk | hk
        · exact .inl (.inl hk)
        · exact .inl (.inr hk)
        · exact .inr ⟨by omega, by omega⟩
  · have hyb : (y != 0) = true := by simpa using hy0
    have HA : Hid (appendW f l xs = (f, l, y)) := Lib.hid (by
      unfold appendW; rw [ready_some default ⟨fb, 0, none⟩, HY.out, if_pos hy0])
    clear hy hy0
    go_enter Tryz.func19, Tryz.ntmps19
    go_wp2_with fail
    refine (wready_any b (some ⟨fb, 0, none⟩) l F _ xs _ HR.out.wl HV.out HS.out).mono ?_
    rintro e w1 ⟨rfl, hm1⟩
    rw [HY.out]
    have M1 := Lib.hid hm1
    clear hm1
    go_wp2
    go_ret
    rw [HA.out]
    exact ⟨rfl, ⟨F, G, ⟨HR.out.fs.mod0 M1.out, HR.out.wl.keep M1.out (fun _ _ h => h), HR.out.dis, HR.out.ge⟩, fun k h => .inl h⟩, M1.out.none_any⟩
end Go.Proofs.YthogefmngddnbaaGreatDoor
/- Wal.Sync: the walk. -/
namespace Go.Proofs.YthogefmngddnbaaGreatDoor
open Go.RowKit

structure WGo (F G : BSet) (w w' : World) (F' G' : BSet) : Prop where
  sub : ∀ k, F' k ∨ G' k → (F k ∨ G k) ∨ (w.heap.size ≤ k ∧ k < w'.heap.size)
  mod : Mod (fun k => F k ∨ G k) w w'
theorem WGo.trans {F G F' G' F'' G'' : BSet} {a b c : World} (h : WGo F G a b F' G') (k : WGo F' G' b c F'' G'') : WGo F G a c F'' G'' := by
  have h1 := h.mod.size
  have h2 := k.mod.size
  refine ⟨fun i hi => ?_, h.mod.trans k.mod (fun i hi hk => ?_)⟩
  · rcases k.sub i hi with hi | hi
    · rcases h.sub i hi with hi | hi
      · exact .inl hi
      · exact .inr ⟨hi.1, by omega⟩
    · exact .inr ⟨by omega, hi.2⟩
  · rcases h.sub i hk with hk | hk
    · exact hk
    · omega
theorem WGo.refl {F G : BSet} {w w' : World} (m : Mod BSet.none w w') : WGo F G w w' F G := ⟨fun _ h => .inl h, m.none_any⟩
theorem WRep.keep {w w' : World} {b fb : Nat} {f : Fs} {l : Wl} {F G : BSet} (h : WRep w b fb f l F G) (m : Mod BSet.none w w') : WRep w' b fb f l F G :=
  ⟨h.fs.mod0 m, h.wl.keep m (fun _ _ h => h), h.dis, h.ge⟩
theorem WalP.mk {b fb : Nat} {F G F' G' : BSet} {f : Fs} {l : Wl} {v : Value} {w w' : World} {e : Ending} (he : e = .returned v) (hr : WRep w' b fb f l F' G') (hg : WGo F G w w' F' G') : WalP b fb F G f l v w e w' :=
  ⟨he, ⟨F', G', hr, hg.sub⟩, hg.mod⟩
/-- a method of the folder was called -/
theorem WRep.fsCall {w w1 w' : World} {b fb : Nat} {f f' : Fs} {l : Wl} {F G : BSet} (h : WRep w b fb f l F G) (m : Mod BSet.none w w1) (h9 : 9 ≤ w.heap.size) (hf : FsRep w'.heap fb f' (grow G w1 w')) (hm : Mod G w1 w') :
    WRep w' b fb f' l F (grow G w1 w') ∧ WGo F G w w' F (grow G w1 w') := by
  have h1 := m.size
  have h2 := hm.size
  refine ⟨⟨hf, (h.wl.keep m (fun _ _ h => h)).keep hm h.dis, fun k hk hg => ?_, fun k hk => ?_⟩, ⟨fun k hk => ?_, m.none_any.trans hm (fun k _ h => .inr h)⟩⟩
  · rcases hg with hg | hg
    · exact h.dis k hk hg
    · have := h.wl.lt k hk; omega
  · rcases hk with hk | hk | hk
    · exact h.ge k (.inl hk)
    · exact h.ge k (.inr hk)
    · omega
  · rcases hk with hk | hk | hk
    · exact .inl (.inl hk)
    · exact .inl (.inr hk)
    · exact .inr ⟨by omega, hk.2⟩
/-- the log's own block turned -/
theorem WRep.wlCall {w w' : World} {b fb : Nat} {f : Fs} {l l' : Wl} {F G : BSet} (h : WRep w b fb f l F G) (hl : WlAt w'.heap b (some ⟨fb, 0, none⟩) l' F) (hm : Mod (BSet.one b) w w') : WRep w' b fb f l' F G ∧ WGo F G w w' F G := by
  refine ⟨⟨h.fs.mod hm (fun k hk e => ?_), hl, h.dis, h.ge⟩, ⟨fun _ h => .inl h, hm.mono (fun k _ e => ?_)⟩⟩
  · rw [show k = b from e] at hk; exact h.dis b h.wl.own hk
  · rw [show k = b from e]; exact .inl h.wl.own
theorem begP_rep {w w' : World} {b fb : Nat} {f : Fs} {l : Wl} {F G : BSet} {first : Nat} {kept : Bool} {state : ByteArray} {e : Ending} (h : WRep w b fb f l F G) (h9 : 9 ≤ w.heap.size) (hb : BegP b fb F G f l first kept state w e w') :
    ∃ nid, nid ∉ f.ids ∧ e = .returned (.int .i64 (beginW f l nid first kept state).2.2) ∧ WRep w' b fb (beginW f l nid first kept state).1 (beginW f l nid first kept state).2.1 F (grow G w w') ∧ WGo F G w w' F (grow G w w') := by
  obtain ⟨nid, hn, he, hf, hl, hm⟩ := hb
  refine ⟨nid, hn, he, ⟨hf, hl, fun k hk hg => ?_, fun k hk => ?_⟩, ⟨fun k hk => ?_, hm.mono (fun k _ e => ?_)⟩⟩
  · rcases hg with hg | hg
    · exact h.dis k hk hg
    · have := h.wl.lt k hk; omega
  · rcases hk with hk | hk | hk
    · exact h.ge k (.inl hk)
    · exact h.ge k (.inr hk)
    · omega
  · rcases hk with hk | hk | hk
    · exact .inl (.inl hk)
    · exact .inl (.inr hk)
    · exact .inr hk
  · rcases e with e | e
    · rw [e]; exact .inl h.wl.own
    · exact .inr e
theorem dropP_rep {w w' : World} {b fb : Nat} {f : Fs} {l : Wl} {F G : BSet} {gone : Nat → Bool} {e : Ending} (h : WRep w b fb f l F G) (h9 : 9 ≤ w.heap.size) (hb : DropP b fb F G f l gone w e w') :
    e = .returned (.int .i64 (dropW gone f.segs f l).2.2) ∧ WRep w' b fb (dropW gone f.segs f l).1 (dropW gone f.segs f l).2.1 F (grow G w w') ∧ WGo F G w w' F (grow G w w') := by
  obtain ⟨he, hf, hl, hm⟩ := hb
  refine ⟨he, ⟨hf, hl, fun k hk hg => ?_, fun k hk => ?_⟩, ⟨fun k hk => ?_, hm.mono (fun k _ e => ?_)⟩⟩
  · rcases hg with hg | hg
    · exact h.dis k hk hg
    · have := h.wl.lt k hk; omega
  · rcases hk with hk | hk | hk
    · exact h.ge k (.inl hk)
    · exact h.ge k (.inr hk)
    · omega
  · rcases hk with hk | hk | hk
    · exact .inl (.inl hk)
    · exact .inl (.inr hk)
    · exact .inr hk
  · rcases e with e | e
    · rw [e]; exact .inl h.wl.own
    · exact .inr e
/-- .. with the number of a new file -/
def WalNP (b fb : Nat) (F G : BSet) (f : Fs) (op : Nat → Fs × Wl × Int) (w : World) (e : Ending) (w' : World) : Prop :=
  ∃ nid, nid ∉ f.ids ∧ WalP b fb F G (op nid).1 (op nid).2.1 (.int .i64 (op nid).2.2) w e w'
theorem sync_ids (f : Fs) (name : ByteArray) : (f.sync name).1.ids = f.ids := by
  have h := Fs.step_ids f
  unfold Fs.sync
  split
  · rfl
  · split
    · exact h
    · exact h
theorem wl_fresh {w : World} {b fb : Nat} {f : Fs} {l : Wl} {F G : BSet} (h : WRep w b fb f l F G) : w.heap.size ∉ f.ids := fun hm => absurd (h.fs.ids_lt hm) (Nat.lt_irrefl _)
set_option maxRecDepth 100000 in
set_option maxHeartbeats 4000000 in
theorem wsync_any (b fb : Nat) (F G : BSet) (f : Fs) (l : Wl) (w : World) (hr : WRep w b fb f l F G) (hg : Globs w) (hn : l.now.size ≤ maxLen) (ho : l.Ok) (hlen : f.since.length ≤ 536870912) :
    Calls Tryz.prog 20 #[.pointer (some ⟨b, 0, none⟩)] w (WalNP b fb F G f (syncW f l) w) := by
  have HR := Lib.hid hr
  have HG := Lib.hid hg
  have HN := Lib.hid hn
  have HO := Lib.hid ho
  have hsz9 := hg.size
  clear hr hg hn ho
  obtain ⟨y, hy⟩ : ∃ y, Wl.ready (some ⟨fb, 0, none⟩) l [] = y := ⟨_, rfl⟩
  have HY := Lib.hid hy
  cases hbr : l.broken with
  | true =>
    have hy13 : y = 13 := by rw [← hy]; unfold Wl.ready; rw [hbr]; rfl
    have HS : Hid (∀ nid, syncW f l nid = (f, l, 13)) := Lib.hid (fun nid => by unfold syncW; rw [if_pos hbr])
    subst hy13
    clear hy hbr
    go_enter Tryz.func20, Tryz.ntmps20
    go_wp2_with fail
    refine (wready_any b (some ⟨fb, 0, none⟩) l F _ [] _ HR.out.wl (slAt_nil _ _) (fun s h => by cases h)).mono ?_
    rintro e w1 ⟨rfl, hm1⟩
    rw [HY.out]
    have M1 := Lib.hid hm1
    clear hm1
    go_wp2
    go_ret
    refine ⟨w.heap.size, wl_fresh HR.out, ?_⟩
    rw [HS.out]
    exact .mk rfl (HR.out.keep M1.out) (.refl M1.out)
  | false =>
    have hy0 : y = 0 := by rw [← hy]; unfold Wl.ready; rw [hbr]; rfl
    have HBR := Lib.hid hbr
    subst hy0
    clear hy hbr
    go_enter Tryz.func20, Tryz.ntmps20
    go_wp2_with fail
    refine (wready_any b (some ⟨fb, 0, none⟩) l F _ [] _ HR.out.wl (slAt_nil _ _) (fun s h => by cases h)).mono ?_
    rintro e w1 ⟨rfl, hm1⟩
    rw [HY.out]
    have M1 := Lib.hid hm1
    obtain ⟨rv, hb, hrv⟩ := (HR.out.wl.keep hm1 (fun _ _ h => h)).ex
    have c0 := (wcells hb).c0
    have c5 := (wcells hb).c5
    clear hm1 hb hrv
    go_wp2
    first | (go_region_held3 (fun w' => w'.cell? ⟨b, 0, none⟩ = some (.pointer (some ⟨fb, 0, none⟩)) ∧ w'.cell? ⟨b, 5, none⟩ = some (.string l.now))
      (first | exact ⟨y0, y5⟩ | exact ⟨x0, x5⟩ | exact ⟨c0, c5⟩)
      (first | (go_at_call 68; refine (sync_any fb f G l.now _ (by exact HR.out.fs.mod0 (M1.out.drew)) HN.out).mono ?_; rintro e w3 ⟨rfl, hf3, hm3⟩; have R3 := Lib.hid (HR.out.fsCall M1.out.drew hsz9 hf3 hm3); have x0 := hm3.cell c0 (fun h => HR.out.dis _ HR.out.wl.own h); have x5 := hm3.cell c5 (fun h => HR.out.dis _ HR.out.wl.own h); clear hf3 hm3) | (go_at_call 66; refine (seen_any b (some ⟨fb, 0, none⟩) l F _ w3 (by exact R3.out.1.wl)).mono ?_; rintro e w4 ⟨rfl, hl4, hm4⟩; have R4 := Lib.hid (R3.out.1.wlCall hl4 hm4); obtain ⟨rv4, hb4, _⟩ := hl4.ex; have y0 := (wcells hb4).c0; have y5 := (wcells hb4).c5; clear hb4 hm4))) | fail
    obtain ⟨⟨rf, x⟩, hrr⟩ : ∃ r, f.sync l.now = r := ⟨_, rfl⟩
    rw [hrr] at R3 R4
    rw [hrr]
    have HRR := Lib.hid hrr
    clear hrr x0 x5 y0 y5 hl4
    by_cases hx : x = 0
    · subst hx
      have R4' : Hid (WRep w4 b fb rf l F (grow G w1.drew w3)) := Lib.hid (by have := R4.out.1; rw [seen_zero] at this; exact this)
      have GO4 := Lib.hid (R3.out.2.trans R4.out.2)
      have hsz4 : 9 ≤ w4.heap.size := by have := GO4.out.mod.size; omega
      have GL4 : Hid (Globs w4) := Lib.hid (HG.out.mod GO4.out.mod HR.out.ge)
      clear R4 R3
      go_wp2_with fail
      refine (wlast_any b ⟨fb, 0, none⟩ l F w4 R4'.out.wl HO.out).mono ?_
      rintro e w4' ⟨rfl, n4, rfl⟩
      obtain ⟨rv5, hb5, hrv5⟩ := R4'.out.wl.ex
      have hb5' : (w4.drewN n4).heap[b]? = some (.cells (wlCells (some ⟨fb, 0, none⟩) l rv5) 45 (0, 0)) := hb5
      have d4 := (wcells hb5').c4
      have e4 : (w4.drewN n4).frozen? ⟨b, 4, none⟩ = false := free_of_at hb5' 4
      have HB5 := Lib.hid hb5'
      have R5 : Hid (WRep ((w4.drewN n4).setCell ⟨b, 4, none⟩ (.int .i64 l.last)) b fb rf { l with firm := l.last } F (grow G w1.drew w3) ∧ WGo F (grow G w1.drew w3) w4 ((w4.drewN n4).setCell ⟨b, 4, none⟩ (.int .i64 l.last)) F (grow G w1.drew w3)) := Lib.hid (by
        have hm5 : Mod (BSet.one b) w4 ((w4.drewN n4).setCell ⟨b, 4, none⟩ (.int .i64 l.last)) := ((Mod.refl (BSet.one b) w4).drewN n4).setCell (.inl (show BSet.one b b from rfl)) _
        refine R4'.out.wlCall (l' := { l with firm := l.last }) (R4'.out.wl.set (l' := { l with firm := l.last }) (rv := rv5) hrv5 hm5 ?_) hm5
        rw [at_setCell_same hb5']; rfl)
      clear hb5 hrv5 hb5'
      go_wp2_with fail
      generalize hw5 : (w4.drewN n4).setCell ⟨b, 4, none⟩ (.int .i64 l.last) = w5
      rw [hw5] at R5
      obtain ⟨rv6, hb6, hrv6⟩ := R5.out.1.wl.ex
      have f0 := (wcells hb6).c0
      have f5 := (wcells hb6).c5
      have hsz5 : 9 ≤ w5.heap.size := by have := R5.out.2.mod.size; omega
      have HRD : Hid ((rf.read l.now).1.size ≤ 1099511627776) := Lib.hid (by
        unfold Fs.read Fs.get
        split
        · next hh =>
          split at hh
          · exact Nat.zero_le _
          · split at hh
            · cases hh
            · exact Nat.zero_le _
        · next hh =>
          split at hh
          · cases hh
          · split at hh
            · next hm =>
              cases hh
              exact (R5.out.1.fs.wf.size _ (Fs.mget_ids hm)).1
            · cases hh)
      clear hw5 hb6 hrv6 d4 e4 HB5
      go_wp2
      first | (go_region_held3 (fun w' => w'.cell? ⟨b, 0, none⟩ = some (.pointer (some ⟨fb, 0, none⟩)) ∧ w'.cell? ⟨b, 5, none⟩ = some (.string l.now))
        (first | exact ⟨x0, x5⟩ | exact ⟨f0, f5⟩)
        (first | (go_at_call 26; refine (read_any fb rf (grow G w1.drew w3) l.now _ (by exact R5.out.1.fs.mod0 (Mod.refl BSet.none w5).drew) HN.out).mono ?_; rintro e w6 ⟨rfl, hm6⟩; have M6 := Lib.hid hm6; have x0 := hm6.cell f0 (fun h => h); have x5 := hm6.cell f5 (fun h => h); clear hm6))) | fail
      have R6 := Lib.hid (R5.out.1.keep ((Mod.refl BSet.none w5).drew.trans M6.out (fun _ _ h => h)))
      have GO6 : Hid (WGo F G w w6 F (grow G w1.drew w3)) := Lib.hid ((GO4.out.trans R5.out.2).trans (.refl ((Mod.refl BSet.none w5).drew.trans M6.out (fun _ _ h => h))))
      obtain ⟨⟨sb, se⟩, hrd⟩ : ∃ r, rf.read l.now = r := ⟨_, rfl⟩
      rw [hrd] at HRD
      rw [hrd]
      have HRE := Lib.hid hrd
      have hsb : sb.size ≤ 1099511627776 := HRD.out
      clear hrd x0 x5 f0 f5
      by_cases hsz : sb.size ≤ 4000
      · have HS : Hid (∀ nid, syncW f l nid = (rf, { l with firm := l.last }, 0)) := Lib.hid (fun nid => by
          unfold syncW; rw [if_neg (by rw [HBR.out]; decide), HRR.out]; simp only [ne_eq, not_true, if_false]; rw [HRE.out, if_pos hsz])
        go_wp2
        go_ret
        refine ⟨w.heap.size, wl_fresh HR.out, ?_⟩
        rw [HS.out]
        exact .mk rfl R6.out GO6.out
      · have HS : Hid (∀ nid, syncW f l nid = beginW rf { l with firm := l.last } nid (l.last + 1) false ⟨#[]⟩) := Lib.hid (fun nid => by
          unfold syncW; rw [if_neg (by rw [HBR.out]; decide), HRR.out]; simp only [ne_eq, not_true, if_false]; rw [HRE.out, if_neg hsz])
        have OK5 : Hid (({ l with firm := l.last } : Wl).Ok) := Lib.hid (by
          have h := HO.out
          have h1 := h.one; have h2 := h.first; have h3 := h.recs
          exact ⟨h1, h2, h3, by show l.last ≤ _; unfold Wl.last; omega⟩)
        have hll : l.last ≤ 4503599627370496 := by
          have h := HO.out
          have h1 := h.one; have h2 := h.first; have h3 := h.recs
          unfold Wl.last; omega
        have GL6 : Hid (Globs w6) := Lib.hid (HG.out.mod GO6.out.mod HR.out.ge)
        have hsz6 : 9 ≤ w6.heap.size := by have := GO6.out.mod.size; omega
        have LEN : Hid (rf.since.length ≤ 536870912) := Lib.hid (by have := sync_since f l.now; rw [HRR.out] at this; exact Nat.le_trans this hlen)
        go_wp2_with fail
        refine (wlast_any b ⟨fb, 0, none⟩ { l with firm := l.last } F w6 R6.out.wl OK5.out).mono ?_
        rintro e w7 ⟨rfl, n7, rfl⟩
        rw [show ({ l with firm := l.last } : Wl).last = l.last from rfl]
        have hwr : IntKind.i64.wrap (((l.last : Nat) : Int) + 1) = ((l.last + 1 : Nat) : Int) := by rw [IntWalk.i64_in _ (by omega)]; simp
        have R7 := Lib.hid (R6.out.keep ((Mod.refl BSet.none w6).drewN n7))
        have GL7 : Hid (Globs (w6.drewN n7)) := Lib.hid (GL6.out.mod0 ((Mod.refl BSet.none w6).drewN n7))
        go_wp2_with fail
        refine (begin_any b fb F (grow G w1.drew w3) rf { l with firm := l.last } (l.last + 1) false ⟨#[]⟩ (w6.drewN n7) R7.out.fs R7.out.wl R7.out.dis GL7.out R7.out.ge LEN.out (by omega) (by decide)).mono ?_
        rintro e w8 hbeg
        obtain ⟨nid, hn, rfl, hr8, hg8⟩ := begP_rep R7.out hsz6 hbeg
        have N8 := Lib.hid hn
        have R8 := Lib.hid hr8
        have G8 := Lib.hid hg8
        clear hbeg hn hr8 hg8
        go_wp2
        go_ret
        refine ⟨nid, ?_, ?_⟩
        · have := N8.out
          have hi := sync_ids f l.now
          rw [HRR.out] at hi
          rw [hi] at this
          exact this
        · rw [HS.out]
          exact .mk rfl R8.out ((GO6.out.trans (.refl ((Mod.refl BSet.none w6).drewN n7))).trans G8.out)
    · have hxb : (x != 0) = true := by simpa using hx
      have HS : Hid (∀ nid, syncW f l nid = (rf, l.seen x, x)) := Lib.hid (fun nid => by unfold syncW; rw [if_neg (by rw [HBR.out]; decide), HRR.out]; simp only; rw [if_pos hx])
      clear hx
      go_wp2
      go_ret
      refine ⟨w.heap.size, wl_fresh HR.out, ?_⟩
      rw [HS.out]
      exact .mk rfl R4.out.1 (R3.out.2.trans R4.out.2)
end Go.Proofs.YthogefmngddnbaaGreatDoor
/- Wal.Checkpoint: the walk. -/
namespace Go.Proofs.YthogefmngddnbaaGreatDoor
open Go.RowKit

theorem stepsW_l (name : ByteArray) : ∀ (ss : List (Fs → Fs × Int)) (f : Fs) (l : Wl), (stepsW name ss f l).2.1.state = l.state ∧ (stepsW name ss f l).2.1.recs = l.recs ∧ (stepsW name ss f l).2.1.first = l.first ∧ (stepsW name ss f l).2.1.firm = l.firm ∧
    ((stepsW name ss f l).2.1.now = l.now ∨ (stepsW name ss f l).2.1.now = name) := by
  intro ss
  induction ss with
  | nil => intro f l; exact ⟨rfl, rfl, rfl, rfl, .inr rfl⟩
  | cons s ss ih =>
    intro f l
    unfold stepsW
    split
    · exact ih _ _
    · exact ⟨rfl, rfl, rfl, rfl, .inl rfl⟩
theorem stepsW_since (name : ByteArray) : ∀ (ss : List (Fs → Fs × Int)) (f : Fs) (l : Wl), (∀ s, s ∈ ss → ∀ f : Fs, (s f).1.since.length ≤ f.since.length + 1) → (stepsW name ss f l).1.since.length ≤ f.since.length + ss.length + 1 := by
  intro ss
  induction ss with
  | nil => intro f l _; simp [stepsW]
  | cons s ss ih =>
    intro f l h
    have h0 := h s List.mem_cons_self f
    unfold stepsW
    split
    · have := ih (s f).1 (l.seen 0) (fun t ht => h t (List.mem_cons_of_mem _ ht))
      simp only [List.length_cons]; omega
    · have := delete_since (s f).1 name
      simp only [List.length_cons]; omega
theorem segI_20 (v : Int) : (segI v).size ≤ 20 := by
  unfold segI
  split
  · next h => rw [segName_size (by omega)]; decide
  · decide
theorem beginW_l (f : Fs) (l : Wl) (nid first : Nat) (kept : Bool) (state : ByteArray) : (beginW f l nid first kept state).2.1.state = l.state ∧ (beginW f l nid first kept state).2.1.recs = l.recs ∧ (beginW f l nid first kept state).2.1.first = l.first ∧ (beginW f l nid first kept state).2.1.firm = l.firm ∧
    (l.now.size ≤ 20 → (beginW f l nid first kept state).2.1.now.size ≤ 20) := by
  unfold beginW
  split
  · exact ⟨rfl, rfl, rfl, rfl, fun h => h⟩
  · obtain ⟨h1, h2, h3, h4, h5⟩ := stepsW_l (segI ((topOf f.segs : Nat) + 1 : Int)) (stepList (segI ((topOf f.segs : Nat) + 1 : Int)) (headOf first kept state) nid) f l
    refine ⟨h1, h2, h3, h4, fun h => ?_⟩
    rcases h5 with h5 | h5
    · rw [h5]; exact h
    · rw [h5]; exact segI_20 _
theorem beginW_since (f : Fs) (l : Wl) (nid first : Nat) (kept : Bool) (state : ByteArray) : (beginW f l nid first kept state).1.since.length ≤ f.since.length + 5 := by
  unfold beginW
  split
  · exact Nat.le_add_right _ _
  · refine stepsW_since _ _ f l (fun s hs g => ?_)
    simp only [stepList, List.mem_cons, List.not_mem_nil, or_false] at hs
    rcases hs with rfl | rfl | rfl | rfl
    · exact create_since _ _ _
    · exact Nat.le_succ_of_le (append_since _ _ _)
    · exact Nat.le_succ_of_le (sync_since _ _)
    · exact Nat.le_succ_of_le (syncDir_since _)
theorem dropW_l (gone : Nat → Bool) : ∀ (ss : List ByteArray) (f : Fs) (l : Wl), ∃ x, (dropW gone ss f l).2.1 = l.seen x ∨ (dropW gone ss f l).2.1 = l := by
  intro ss
  induction ss with
  | nil => intro f l; exact ⟨0, .inr rfl⟩
  | cons s ss ih =>
    intro f l
    unfold dropW
    split
    · split
      · obtain ⟨x, h⟩ := ih (f.delete s).1 (l.seen 0)
        rw [seen_zero] at h ⊢
        exact ⟨x, h⟩
      · exact ⟨_, .inl rfl⟩
    · exact ih f l
theorem last_ok {l : Wl} (h : l.Ok) : l.last ≤ 4503599627370496 ∧ l.last + 1 ≤ 4503599627370496 := by
  have h1 := h.one; have h2 := h.first; have h3 := h.recs
  unfold Wl.last; omega
set_option maxRecDepth 100000 in
set_option maxHeartbeats 8000000 in
theorem wchk_any (b fb : Nat) (F G : BSet) (f : Fs) (l : Wl) (state : ByteArray) (w : World) (hr : WRep w b fb f l F G) (hg : Globs w) (hn : l.now.size ≤ 20) (ho : l.Ok) (hlen : f.since.length ≤ 500000000) (hst : state.size ≤ 60000) (hlim : l.last < 1125899906842624) :
    Calls Tryz.prog 27 #[.pointer (some ⟨b, 0, none⟩), .string state] w (WalNP b fb F G f (fun nid => chkW f l nid state) w) := by
  have hmf : ∀ fn first cap w, (Instr.makeFunc fn first cap).run Tryz.prog w = .ok (.func fn first cap) w := fun _ _ _ _ => rfl
  have HR := Lib.hid hr
  have HG := Lib.hid hg
  have HN := Lib.hid hn
  have HO := Lib.hid ho
  have hsz9 := hg.size
  have hlong : tooLong state = false := by unfold tooLong; rw [decide_eq_false]; omega
  have HLONG := Lib.hid hlong
  have HST : Hid (∀ s, s ∈ [state] → s.size ≤ 1099511627776) := Lib.hid (fun s hs => by simp at hs; subst hs; omega)
  have M0 : Hid (Mod BSet.none w (w.alloc (.cells #[.string state] 9))) := Lib.hid ((Mod.refl _ _).alloc _)
  have SL0 : Hid (SlAt (w.alloc (.cells #[.string state] 9)).heap (.slice (some ⟨w.heap.size, 0, none⟩) 1 1) (strs [state])) := Lib.hid (slAt_one (by exact at_new) 1)
  clear hr hg hn ho hlong
  obtain ⟨y, hy⟩ : ∃ y, Wl.ready (some ⟨fb, 0, none⟩) l [state] = y := ⟨_, rfl⟩
  have HY := Lib.hid hy
  cases hbr : l.broken with
  | true =>
    have hy13 : y = 13 := by rw [← hy]; unfold Wl.ready; rw [hbr]; rfl
    have HS : Hid (∀ nid, chkW f l nid state = (f, l, 13)) := Lib.hid (fun nid => by unfold chkW; rw [if_pos hbr])
    subst hy13
    clear hy hbr
    go_enter Tryz.func27, Tryz.ntmps27
    go_wp2_with fail
    refine (wready_any b (some ⟨fb, 0, none⟩) l F _ [state] _ (HR.out.wl.keep M0.out (fun _ _ h => h)) SL0.out HST.out).mono ?_
    rintro e w1 ⟨rfl, hm1⟩
    rw [HY.out]
    have M1 := Lib.hid (M0.out.trans hm1 (fun _ _ h => h))
    clear hm1
    go_wp2
    go_ret
    refine ⟨w.heap.size, wl_fresh HR.out, ?_⟩
    simp only [HS.out]
    exact .mk rfl (HR.out.keep M1.out) (.refl M1.out)
  | false =>
    have hy0 : y = 0 := by rw [← hy]; unfold Wl.ready; rw [hbr]; simp [HLONG.out]
    have HBR := Lib.hid hbr
    subst hy0
    clear hy hbr
    go_enter Tryz.func27, Tryz.ntmps27
    go_wp2_with fail
    refine (wready_any b (some ⟨fb, 0, none⟩) l F _ [state] _ (HR.out.wl.keep M0.out (fun _ _ h => h)) SL0.out HST.out).mono ?_
    rintro e w1 ⟨rfl, hm1⟩
    rw [HY.out]
    have M1 := Lib.hid (M0.out.trans hm1 (fun _ _ h => h))
    obtain ⟨rv, hb, hrv⟩ := (HR.out.wl.keep M1.out (fun _ _ h => h)).ex
    have c0 := (wcells hb).c0
    have c5 := (wcells hb).c5
    clear hm1 hb hrv
    go_wp2
    first | (go_region_held3 (fun w' => w'.cell? ⟨b, 0, none⟩ = some (.pointer (some ⟨fb, 0, none⟩)) ∧ w'.cell? ⟨b, 5, none⟩ = some (.string l.now))
      (first | exact ⟨y0, y5⟩ | exact ⟨x0, x5⟩ | exact ⟨c0, c5⟩)
      (first | (go_at_call 68; refine (sync_any fb f G l.now _ (by exact HR.out.fs.mod0 (M1.out.drew)) (Nat.le_trans HN.out (by decide))).mono ?_; rintro e w3 ⟨rfl, hf3, hm3⟩; have R3 := Lib.hid (HR.out.fsCall M1.out.drew hsz9 hf3 hm3); have x0 := hm3.cell c0 (fun h => HR.out.dis _ HR.out.wl.own h); have x5 := hm3.cell c5 (fun h => HR.out.dis _ HR.out.wl.own h); clear hf3 hm3) | (go_at_call 66; refine (seen_any b (some ⟨fb, 0, none⟩) l F _ w3 (by exact R3.out.1.wl)).mono ?_; rintro e w4 ⟨rfl, hl4, hm4⟩; have R4 := Lib.hid (R3.out.1.wlCall hl4 hm4); obtain ⟨rv4, hb4, _⟩ := hl4.ex; have y0 := (wcells hb4).c0; have y5 := (wcells hb4).c5; clear hb4 hm4))) | fail
    obtain ⟨⟨rf, x⟩, hrr⟩ : ∃ r, f.sync l.now = r := ⟨_, rfl⟩
    rw [hrr] at R3 R4
    rw [hrr]
    have HRR := Lib.hid hrr
    clear hrr x0 x5 y0 y5 hl4
    by_cases hx : x = 0
    · subst hx
      have HS : Hid (∀ nid, chkW f l nid state = (let r2 := beginW rf { l with firm := l.last } nid (l.last + 1) true state
          if r2.2.2 ≠ 0 then r2 else
          let l2 : Wl := { r2.2.1 with state := state, first := r2.2.1.last + 1, recs := [], firm := r2.2.1.last }
          let r3 := dropW (fun n => n != numD l2.now) r2.1.segs r2.1 l2
          if r3.2.2 ≠ 0 then r3 else (r3.1.syncDir.1, r3.2.1.seen r3.1.syncDir.2, r3.1.syncDir.2))) := Lib.hid (fun nid => by
        unfold chkW; rw [if_neg (by rw [HBR.out]; decide), if_neg (by rw [HLONG.out]; decide), HRR.out]; simp only [ne_eq, not_true, if_false])
      have R4' : Hid (WRep w4 b fb rf l F (grow G w1.drew w3)) := Lib.hid (by have := R4.out.1; rw [seen_zero] at this; exact this)
      have GO4 := Lib.hid (R3.out.2.trans R4.out.2)
      have hsz4 : 9 ≤ w4.heap.size := by have := GO4.out.mod.size; omega
      clear R4 R3
      go_wp2_with fail
      refine (wlast_any b ⟨fb, 0, none⟩ l F w4 R4'.out.wl HO.out).mono ?_
      rintro e w4' ⟨rfl, n4, rfl⟩
      obtain ⟨rv5, hb5, hrv5⟩ := R4'.out.wl.ex
      have hb5' : (w4.drewN n4).heap[b]? = some (.cells (wlCells (some ⟨fb, 0, none⟩) l rv5) 45 (0, 0)) := hb5
      have d4 := (wcells hb5').c4
      have e4 : (w4.drewN n4).frozen? ⟨b, 4, none⟩ = false := free_of_at hb5' 4
      have R5 : Hid (WRep ((w4.drewN n4).setCell ⟨b, 4, none⟩ (.int .i64 l.last)) b fb rf { l with firm := l.last } F (grow G w1.drew w3) ∧ WGo F (grow G w1.drew w3) w4 ((w4.drewN n4).setCell ⟨b, 4, none⟩ (.int .i64 l.last)) F (grow G w1.drew w3)) := Lib.hid (by
        have hm5 : Mod (BSet.one b) w4 ((w4.drewN n4).setCell ⟨b, 4, none⟩ (.int .i64 l.last)) := ((Mod.refl (BSet.one b) w4).drewN n4).setCell (.inl (show BSet.one b b from rfl)) _
        refine R4'.out.wlCall (l' := { l with firm := l.last }) (R4'.out.wl.set (l' := { l with firm := l.last }) (rv := rv5) hrv5 hm5 ?_) hm5
        rw [at_setCell_same hb5']; rfl)
      clear hb5 hrv5 hb5'
      have OK5 : Hid (({ l with firm := l.last } : Wl).Ok) := Lib.hid ⟨HO.out.one, HO.out.first, HO.out.recs, (last_ok HO.out).1⟩
      have LEN : Hid (rf.since.length ≤ 500000000) := Lib.hid (by have := sync_since f l.now; rw [HRR.out] at this; exact Nat.le_trans this hlen)
      have hll : l.last ≤ 1125899906842624 := by omega
      go_wp2_with fail
      generalize hw5 : (w4.drewN n4).setCell ⟨b, 4, none⟩ (.int .i64 l.last) = w5
      rw [hw5] at R5
      have hsz5 : 9 ≤ w5.heap.size := by have := R5.out.2.mod.size; omega
      clear hw5 d4 e4
      refine (wlast_any b ⟨fb, 0, none⟩ { l with firm := l.last } F w5 R5.out.1.wl OK5.out).mono ?_
      rintro e w7 ⟨rfl, n7, rfl⟩
      rw [show ({ l with firm := l.last } : Wl).last = l.last from rfl]
      have hwr : IntKind.i64.wrap (((l.last : Nat) : Int) + 1) = ((l.last + 1 : Nat) : Int) := by rw [IntWalk.i64_in _ (by omega)]; simp
      have R7 := Lib.hid (R5.out.1.keep ((Mod.refl BSet.none w5).drewN n7))
      have GO7 := Lib.hid ((GO4.out.trans R5.out.2).trans (.refl ((Mod.refl BSet.none w5).drewN n7)))
      have GL7 : Hid (Globs (w5.drewN n7)) := Lib.hid (HG.out.mod GO7.out.mod HR.out.ge)
      go_wp2_with fail
      refine (begin_any b fb F (grow G w1.drew w3) rf { l with firm := l.last } (l.last + 1) true state (w5.drewN n7) R7.out.fs R7.out.wl R7.out.dis GL7.out R7.out.ge (Nat.le_trans LEN.out (by decide)) (by omega) hst).mono ?_
      rintro e w8 hbeg
      obtain ⟨nid, hn, rfl, hr8, hg8⟩ := begP_rep R7.out hsz5 hbeg
      have N8 : Hid (nid ∉ f.ids) := Lib.hid (by
        have hi := sync_ids f l.now
        rw [HRR.out] at hi
        rw [← hi]; exact hn)
      have R8 := Lib.hid hr8
      have G8 := Lib.hid (GO7.out.trans hg8)
      obtain ⟨bl1, bl2, bl3, bl4, bl5⟩ := beginW_l rf { l with firm := l.last } nid (l.last + 1) true state
      have bs := beginW_since rf { l with firm := l.last } nid (l.last + 1) true state
      obtain ⟨⟨rf2, l8, x8⟩, hbw⟩ : ∃ r, beginW rf { l with firm := l.last } nid (l.last + 1) true state = r := ⟨_, rfl⟩
      rw [hbw] at R8 bl1 bl2 bl3 bl4 bl5 bs
      rw [hbw]
      have HS2 : Hid (chkW f l nid state = if x8 ≠ 0 then (rf2, l8, x8) else
          let l2 : Wl := { l8 with state := state, first := l8.last + 1, recs := [], firm := l8.last }
          let r3 := dropW (fun n => n != numD l2.now) rf2.segs rf2 l2
          if r3.2.2 ≠ 0 then r3 else (r3.1.syncDir.1, r3.2.1.seen r3.1.syncDir.2, r3.1.syncDir.2)) := Lib.hid (by rw [HS.out, hbw])
      have hlast8 : l8.last = l.last := by simp only at bl2 bl3; unfold Wl.last; rw [bl2, bl3]
      have HLAST8 := Lib.hid hlast8
      have hnow8 : l8.now.size ≤ 20 := bl5 HN.out
      have HNOW8 := Lib.hid hnow8
      have OK8 : Hid l8.Ok := Lib.hid (by
        have h := HO.out
        simp only at bl2 bl3 bl4
        exact ⟨by rw [bl3]; exact h.one, by rw [bl3]; exact h.first, by rw [bl2]; exact h.recs, by rw [bl4]; exact (last_ok h).1⟩)
      have LEN8 : Hid (rf2.since.length ≤ 500000005) := Lib.hid (by have := LEN.out; simp only at bs; omega)
      clear hbeg hn hr8 hg8 bl1 bl2 bl3 bl4 bl5 bs hbw hlast8 hnow8
      by_cases hx8 : x8 = 0
      · subst hx8
        have HS3 : Hid (chkW f l nid state = (let r3 := dropW (fun n => n != numD l8.now) rf2.segs rf2 { l8 with state := state, first := l.last + 1, recs := [], firm := l.last }
            if r3.2.2 ≠ 0 then r3 else (r3.1.syncDir.1, r3.2.1.seen r3.1.syncDir.2, r3.1.syncDir.2))) := Lib.hid (by rw [HS2.out]; simp only [ne_eq, not_true, if_false]; rw [HLAST8.out])
        go_wp2_with fail
        refine (wlast_any b ⟨fb, 0, none⟩ l8 F w8 R8.out.wl OK8.out).mono ?_
        rintro e w9 ⟨rfl, n9, rfl⟩
        rw [HLAST8.out]
        obtain ⟨rv9, hb9, hrv9⟩ := R8.out.wl.ex
        have hb9' : (w8.drewN n9).heap[b]? = some (.cells (wlCells (some ⟨fb, 0, none⟩) l8 rv9) 45 (0, 0)) := hb9
        have d1 := (wcells hb9').c1
        have d2 := (wcells hb9').c2
        have d3 := (wcells hb9').c3
        have e1 : (w8.drewN n9).frozen? ⟨b, 1, none⟩ = false := free_of_at hb9' 1
        have e2 : (w8.drewN n9).frozen? ⟨b, 2, none⟩ = false := free_of_at hb9' 2
        have e3 : (w8.drewN n9).frozen? ⟨b, 3, none⟩ = false := free_of_at hb9' 3
        have OK9 : Hid (({ l8 with state := state, first := l.last + 1, recs := [] } : Wl).Ok) := Lib.hid ⟨by show 1 ≤ l.last + 1; omega, by show l.last + 1 ≤ _; omega, Nat.zero_le _, OK8.out.firm⟩
        have R9 : Hid (WRep ((((w8.drewN n9).setCell ⟨b, 1, none⟩ (.string state)).setCell ⟨b, 3, none⟩ (.int .i64 (((l.last : Nat) : Int) + 1))).setCell ⟨b, 2, none⟩ (.slice none 0 0)) b fb rf2 { l8 with state := state, first := l.last + 1, recs := [] } F (grow (grow G w1.drew w3) (w5.drewN n7) w8) ∧
            WGo F (grow (grow G w1.drew w3) (w5.drewN n7) w8) w8 ((((w8.drewN n9).setCell ⟨b, 1, none⟩ (.string state)).setCell ⟨b, 3, none⟩ (.int .i64 (((l.last : Nat) : Int) + 1))).setCell ⟨b, 2, none⟩ (.slice none 0 0)) F (grow (grow G w1.drew w3) (w5.drewN n7) w8)) := Lib.hid (by
          have hm9 : Mod (BSet.one b) w8 ((((w8.drewN n9).setCell ⟨b, 1, none⟩ (.string state)).setCell ⟨b, 3, none⟩ (.int .i64 (((l.last : Nat) : Int) + 1))).setCell ⟨b, 2, none⟩ (.slice none 0 0)) :=
            ((((Mod.refl (BSet.one b) w8).drewN n9).setCell (.inl (show BSet.one b b from rfl)) _).setCell (.inl (show BSet.one b b from rfl)) _).setCell (.inl (show BSet.one b b from rfl)) _
          refine R8.out.wlCall (l' := { l8 with state := state, first := l.last + 1, recs := [] }) (R8.out.wl.set (l' := { l8 with state := state, first := l.last + 1, recs := [] }) (rv := .slice none 0 0) (owns_nil _ _ _) hm9 ?_) hm9
          rw [at_setCell_same (at_setCell_same (at_setCell_same hb9'))]; rfl)
        have hwr1 : IntKind.i64.wrap (((l.last : Nat) : Int) + 1) = ((l.last + 1 : Nat) : Int) := by rw [IntWalk.i64_in _ (by omega)]; simp
        clear hb9 hrv9 hb9'
        go_wp2_with fail
        generalize hw9 : (((w8.drewN n9).setCell ⟨b, 1, none⟩ (.string state)).setCell ⟨b, 3, none⟩ (.int .i64 (((l.last : Nat) : Int) + 1))).setCell ⟨b, 2, none⟩ (.slice none 0 0) = w10
        rw [hw9] at R9
        clear hw9 d1 d2 d3 e1 e2 e3
        have L10 : Hid (({ l8 with state := state, first := l.last + 1, recs := [] } : Wl).last = l.last) := Lib.hid (by unfold Wl.last; simp)
        refine (wlast_any b ⟨fb, 0, none⟩ { l8 with state := state, first := l.last + 1, recs := [] } F w10 R9.out.1.wl OK9.out).mono ?_
        rintro e w11 ⟨rfl, n11, rfl⟩
        rw [L10.out]
        obtain ⟨rv10, hb10, hrv10⟩ := R9.out.1.wl.ex
        have hb10' : (w10.drewN n11).heap[b]? = some (.cells (wlCells (some ⟨fb, 0, none⟩) { l8 with state := state, first := l.last + 1, recs := [] } rv10) 45 (0, 0)) := hb10
        have d4 := (wcells hb10').c4
        have e4 : (w10.drewN n11).frozen? ⟨b, 4, none⟩ = false := free_of_at hb10' 4
        have R12 : Hid (WRep ((w10.drewN n11).setCell ⟨b, 4, none⟩ (.int .i64 l.last)) b fb rf2 { l8 with state := state, first := l.last + 1, recs := [], firm := l.last } F (grow (grow G w1.drew w3) (w5.drewN n7) w8) ∧
            WGo F (grow (grow G w1.drew w3) (w5.drewN n7) w8) w10 ((w10.drewN n11).setCell ⟨b, 4, none⟩ (.int .i64 l.last)) F (grow (grow G w1.drew w3) (w5.drewN n7) w8)) := Lib.hid (by
          have hm : Mod (BSet.one b) w10 ((w10.drewN n11).setCell ⟨b, 4, none⟩ (.int .i64 l.last)) := ((Mod.refl (BSet.one b) w10).drewN n11).setCell (.inl (show BSet.one b b from rfl)) _
          refine R9.out.1.wlCall (l' := { l8 with state := state, first := l.last + 1, recs := [], firm := l.last }) (R9.out.1.wl.set (l' := { l8 with state := state, first := l.last + 1, recs := [], firm := l.last }) (rv := rv10) hrv10 hm ?_) hm
          rw [at_setCell_same hb10']; rfl)
        have e5 : ((w10.drewN n11).setCell ⟨b, 4, none⟩ (.int .i64 l.last)).cell? ⟨b, 5, none⟩ = some (.string l8.now) := by
          rw [cell_of_at (at_setCell_same hb10')]; rfl
        clear hb10 hrv10 hb10'
        go_wp2_with fail
        generalize hw12 : (w10.drewN n11).setCell ⟨b, 4, none⟩ (.int .i64 l.last) = w12
        rw [hw12] at R12
        have GO12 := Lib.hid ((G8.out.trans R9.out.2).trans R12.out.2)
        have GL12 : Hid (Globs w12) := Lib.hid (HG.out.mod GO12.out.mod HR.out.ge)
        have hsz12 : 9 ≤ w12.heap.size := by have := GO12.out.mod.size; omega
        clear hw12 e5 d4 e4
        refine (number_any l8.now w12 (Nat.le_trans HNOW8.out (by decide)) GL12.out).mono ?_
        rintro e w13 ⟨rfl, hm13⟩
        rw [show (numOf l8.now).getD 0 = numD l8.now from rfl]
        have M14 : Hid (Mod BSet.none w12 (w13.alloc (.cells #[.int .i64 (numD l8.now : Nat)] 3))) := Lib.hid (hm13.alloc _)
        have R14 := Lib.hid (R12.out.1.keep M14.out)
        have GO14 := Lib.hid (GO12.out.trans (.refl M14.out))
        have GL14 := Lib.hid (GL12.out.mod0 M14.out)
        have hsz13 : w12.heap.size ≤ w13.heap.size := hm13.size
        have GONE : Hid (GoneP (fun k => k = b ∨ (grow (grow G w1.drew w3) (w5.drewN n7) w8) k) 78 #[.pointer (some ⟨w13.heap.size, 0, none⟩)] (fun n => n != numD l8.now) (w13.alloc (.cells #[.int .i64 (numD l8.now : Nat)] 3))) := Lib.hid
          (gone78 _ _ _ _ (cell_of_at at_new 0) (fun h => by
            have hb12 := R12.out.1.wl.lt _ R12.out.1.wl.own
            rcases h with h | h
            · omega
            · have := R12.out.1.fs.lt _ h; omega))
        have h78 : Enters 78 := fun args w => by kernel_rfl
        have H78 := Lib.hid h78
        clear hm13 h78
        go_wp2_with fail
        refine (drop_any b fb F (grow (grow G w1.drew w3) (w5.drewN n7) w8) rf2 { l8 with state := state, first := l.last + 1, recs := [], firm := l.last } (fun n => n != numD l8.now) 78 _ _ R14.out.fs R14.out.wl R14.out.dis GL14.out R14.out.ge (Nat.le_trans LEN8.out (by decide)) H78.out GONE.out).mono ?_
        rintro e w15 hdp
        obtain ⟨rfl, hr15, hg15⟩ := dropP_rep R14.out (by simp; omega) hdp
        have R15 := Lib.hid hr15
        have G15 := Lib.hid (GO14.out.trans hg15)
        obtain ⟨⟨rf3, l15, x15⟩, hdw⟩ : ∃ r, dropW (fun n => n != numD l8.now) rf2.segs rf2 { l8 with state := state, first := l.last + 1, recs := [], firm := l.last } = r := ⟨_, rfl⟩
        rw [hdw] at R15
        rw [hdw]
        have HS4 : Hid (chkW f l nid state = if x15 ≠ 0 then (rf3, l15, x15) else (rf3.syncDir.1, l15.seen rf3.syncDir.2, rf3.syncDir.2)) := Lib.hid (by rw [HS3.out, hdw])
        have hsz15 : 9 ≤ w15.heap.size := by have := G15.out.mod.size; omega
        clear hdp hr15 hg15 hdw
        by_cases hx15 : x15 = 0
        · subst hx15
          obtain ⟨rv15, hb15, _⟩ := R15.out.wl.ex
          have c0' := (wcells hb15).c0
          clear hb15
          go_wp2_with fail
          refine (syncDir_any fb rf3 _ w15 R15.out.fs).mono ?_
          rintro e w16 ⟨rfl, hf16, hm16⟩
          obtain ⟨hr16, hg16⟩ := R15.out.fsCall (Mod.refl _ _) hsz15 hf16 hm16
          have R16 := Lib.hid hr16
          have G16 := Lib.hid (G15.out.trans hg16)
          clear hf16 hm16 hr16 hg16
          go_wp2_with fail
          refine (seen_any b (some ⟨fb, 0, none⟩) l15 F rf3.syncDir.2 w16 R16.out.wl).mono ?_
          rintro e w17 ⟨rfl, hl17, hm17⟩
          obtain ⟨hr17, hg17⟩ := R16.out.wlCall hl17 hm17
          have R17 := Lib.hid hr17
          have G17 := Lib.hid (G16.out.trans hg17)
          clear hl17 hm17 hr17 hg17
          go_wp2
          go_ret
          refine ⟨nid, N8.out, ?_⟩
          simp only [HS4.out, ne_eq, not_true, if_false]
          exact .mk rfl R17.out G17.out
        · have hxb : (x15 != 0) = true := by simpa using hx15
          have HX15 := Lib.hid hx15
          clear hx15
          go_wp2
          go_ret
          refine ⟨nid, N8.out, ?_⟩
          simp only [HS4.out]
          rw [if_pos HX15.out]
          exact .mk rfl R15.out G15.out
      · have hxb : (x8 != 0) = true := by simpa using hx8
        have HX8 := Lib.hid hx8
        clear hx8
        go_wp2
        go_ret
        refine ⟨nid, N8.out, ?_⟩
        simp only [HS2.out]
        rw [if_pos HX8.out]
        exact .mk rfl R8.out G8.out
    · have hxb : (x != 0) = true := by simpa using hx
      have HS : Hid (∀ nid, chkW f l nid state = (rf, l.seen x, x)) := Lib.hid (fun nid => by unfold chkW; rw [if_neg (by rw [HBR.out]; decide), if_neg (by rw [HLONG.out]; decide), HRR.out]; simp only; rw [if_pos hx])
      clear hx
      go_wp2
      go_ret
      refine ⟨w.heap.size, wl_fresh HR.out, ?_⟩
      simp only [HS.out]
      exact .mk rfl R4.out.1 (R3.out.2.trans R4.out.2)
end Go.Proofs.YthogefmngddnbaaGreatDoor
