/- Wal.load: the walk. -/
import Derived.Test.YthogefmngddnbaaGreatDoorZg
import Derived.Test.YthogefmngddnbaaGreatDoorZf
import Derived.Deep.RegionLaw
set_option linter.deprecated false
set_option linter.unusedVariables false
set_option linter.unusedSimpArgs false
namespace Go.Proofs.YthogefmngddnbaaGreatDoor
open Go.RowKit

theorem under165 : Tryz.prog.underlying 165 = some (.slice 167) := by kernel_rfl
def zero167 : Value := .agg #[.int .i64 0, .int .i64 0, .bool false, .string ⟨#[]⟩, .slice none 0 0]
theorem info167 : (Tryz.prog.info? 167).map (fun i => (i.zero, i.size, i.bytes)) = some (some zero167, 5, 64) := by kernel_rfl
/-- a segment's cells, one behind the other -/
def segRow (L : List Seg) (vs : List Value) : List Value := ((L.zip vs).map fun p => (segCells p.1 p.2).toList).flatten
theorem segRow_snoc {L : List Seg} {vs : List Value} (h : vs.length = L.length) (g : Seg) (v : Value) : segRow (L ++ [g]) (vs ++ [v]) = segRow L vs ++ (segCells g v).toList := by
  unfold segRow
  rw [List.zip_append h.symm]
  simp
theorem segRow_length {L : List Seg} : ∀ {vs : List Value}, vs.length = L.length → (segRow L vs).length = L.length * 5 := by
  induction L with
  | nil => intro vs h; rfl
  | cons g L ih =>
    intro vs h
    cases vs with
    | nil => simp at h
    | cons v vs =>
      have := ih (by simpa using h)
      unfold segRow at this ⊢
      simp only [List.zip_cons_cons, List.map_cons, List.flatten_cons, List.length_append, this]
      simp [segCells]; omega
theorem segRow_at {L : List Seg} : ∀ {vs : List Value} {i : Nat} {g : Seg} {v : Value}, L[i]? = some g → vs[i]? = some v → ∀ k, k < 5 → (segRow L vs)[i * 5 + k]? = (segCells g v)[k]? := by
  induction L with
  | nil => intro vs i g v h; simp at h
  | cons g0 L ih =>
    intro vs i g v h1 h2 k hk
    cases vs with
    | nil => simp at h2
    | cons v0 vs =>
      unfold segRow
      simp only [List.zip_cons_cons, List.map_cons, List.flatten_cons]
      have h5 : (segCells g0 v0).toList.length = 5 := rfl
      cases i with
      | zero =>
        simp at h1 h2
        subst h1 h2
        rw [List.getElem?_append_left (by omega)]
        simp
      | succ i =>
        have := ih (by simpa using h1) (by simpa using h2) k hk
        unfold segRow at this
        rw [List.getElem?_append_right (by omega), h5, show (i + 1) * 5 + k - 5 = i * 5 + k by omega]
        exact this
/-- segments in memory: the rows of their records lie in A -/
structure SegsAt (h : Array Obj) (A : BSet) (L : List Seg) (vs : List Value) : Prop where
  len : vs.length = L.length
  at_ : ∀ (i : Nat) (g : Seg) (v : Value), L[i]? = some g → vs[i]? = some v → SlAt h v (strs g.recs) ∧ SlIn A v
theorem SegsAt.mod {w w' : World} {A U : BSet} {L : List Seg} {vs : List Value} (h : SegsAt w.heap A L vs) (m : Mod U w w') (hd : ∀ k, A k → ¬ U k) : SegsAt w'.heap A L vs :=
  ⟨h.len, fun i g v h1 h2 => ⟨(h.at_ i g v h1 h2).1.mod m (fun b o n c e hn => by
    have := (h.at_ i g v h1 h2).2
    rw [e] at this
    exact hd _ (this hn)), (h.at_ i g v h1 h2).2⟩⟩
theorem SlIn.mono {A B : BSet} {v : Value} (h : SlIn A v) (hs : ∀ k, A k → B k) : SlIn B v := by
  unfold SlIn at h ⊢
  split
  · exact fun hn => hs _ (h hn)
  · trivial
theorem SegsAt.snoc {h : Array Obj} {A B : BSet} {L : List Seg} {vs : List Value} (hx : SegsAt h A L vs) {g : Seg} {v : Value} (hs : ∀ k, A k → B k) (hv : SlAt h v (strs g.recs)) (hi : SlIn B v) : SegsAt h B (L ++ [g]) (vs ++ [v]) := by
  refine ⟨by simp [hx.len], fun i g' v' h1 h2 => ?_⟩
  by_cases hl : i < L.length
  · rw [List.getElem?_append_left hl] at h1
    rw [List.getElem?_append_left (by rw [hx.len]; exact hl)] at h2
    have := hx.at_ i g' v' h1 h2
    exact ⟨this.1, this.2.mono hs⟩
  · rw [List.getElem?_append_right (by omega)] at h1
    rw [List.getElem?_append_right (by rw [hx.len]; omega), hx.len] at h2
    have h0 : i - L.length = 0 := by
      have := (List.getElem?_eq_some_iff.1 h1).1
      simpa using this
    rw [h0] at h1 h2
    simp at h1 h2
    subst h1 h2
    exact ⟨hv, hi⟩
theorem Owns.cells5 {h : Array Obj} {F : BSet} {e : TypeId} {v : Value} {n : Nat} {xs : List Value} (hx : Owns h F e 5 v n xs) (hn : 0 < n) :
    ∃ g cap cur, v = .slice (some ⟨g, 0, none⟩) n cap ∧ F g ∧ h[g]? = some (.cells cur e (0, 0)) ∧ n ≤ cap ∧ cap ≤ maxLen ∧ ∀ i, i < n * 5 → cur[i]? = xs[i]? := by
  rcases hx.2 with ⟨_, h⟩ | ⟨g, cap, cur, rfl, hF, h4, h5, h6, h7, h8⟩
  · omega
  · refine ⟨g, cap, cur, rfl, hF, h4, h5, h6, fun i hi => ?_⟩
    rw [← h8, List.getElem?_take_of_lt hi]; simp
/-- append to a row of one's own, as one step of a region that draws -/
theorem step_append_F {ops : Array Oper} {o : Oper} {a : Act} {w : World} {K : Act → World → Prop} {Q : Exit → Act → World → Prop} {E : Prop} (F : BSet)
    (hg : o.guard = none) (s x : Operand) (t : TypeId) (hop : o.op = Op.call { callee := Callee.builtin Builtin.append, args := #[s, x], argTypes := #[t, t] })
    (e : TypeId) (i : TypeInfo) (z : Value) (size bytes : Nat) (ht : Tryz.prog.underlying t = some (.slice e)) (hi : Tryz.prog.info? e = some i) (hz : i.zero = some z)
    (hsize : i.size = size) (hby : i.bytes = bytes) (hzs : z.cells.size = size) (hsz : 0 < size)
    (v : Value) (n : Nat) (xs : List Value) (hs : a.eval s = v) (hown : Owns w.heap F e size v n xs)
    (ad : Addr) (m c : Nat) (news : List Value) (hx : a.eval x = .slice (some ad) m c) (hl : news.length = m * size) (hnews : ∀ j u, news[j]? = some u → w.cell? (ad.add j) = some u) (h1 : ∀ u ∈ news, u.oneCell' = true)
    (h63 : n + m ≤ maxLen) (hbytes : (n + m) * bytes ≤ 140737488355328)
    (h : ∀ v' w', Owns w'.heap (grow F w w') e size v' (n + m) (xs ++ news) → Mod F w w' → Stay e w.heap w'.heap → K (a.put o.dst v') w') :
    if Region.wanted o (yielded ops a.tmps) = true then Oper.wp Tryz.prog o a w K Q else E := by
  have hw : Region.wanted o (yielded ops a.tmps) = true := by simp [Region.wanted, hg]
  rw [if_pos hw]
  obtain ⟨v', w', hr, h2, h3, h4⟩ := append_owns w F t o.type e i z size bytes ht hi hz hsize hby hzs hsz v n xs hown ad m c news hl hnews h1 h63 hbytes
  unfold Oper.wp
  simp [execOp, hop, resolve, invoke, builtin, hs, hx, hr, Result.andThen]
  exact h v' w' h2 h3 h4
theorem run_append_nothing (w : World) (c : Nat) (F : BSet) (t ty e : TypeId) (i : TypeInfo) (size : Nat) (ht : Tryz.prog.underlying t = some (.slice e)) (hi : Tryz.prog.info? e = some i)
    (v : Value) (n : Nat) (xs : List Value) (hown : Owns w.heap F e size v n xs) :
    (Builtin.append_ #[t, t] ty #[v, .slice none 0 c]).run Tryz.prog w = .ok v w := by
  rcases hown.2 with ⟨rfl, rfl⟩ | ⟨g, cap, cur, rfl, _, _, hnc, _⟩
  · simp [Builtin.append_, run_underlying ht, sizeOf, typeInfo, hi, Builtin.lenOf, Builtin.firstCells]
  · simp [Builtin.append_, run_underlying ht, sizeOf, typeInfo, hi, Builtin.lenOf, Builtin.firstCells, hnc, storeCells]
theorem step_append_nothing {ops : Array Oper} {o : Oper} {a : Act} {w : World} {K : Act → World → Prop} {Q : Exit → Act → World → Prop} {E : Prop} (F : BSet)
    (hg : o.guard = none) (s x : Operand) (t : TypeId) (hop : o.op = Op.call { callee := Callee.builtin Builtin.append, args := #[s, x], argTypes := #[t, t] })
    (e : TypeId) (i : TypeInfo) (size : Nat) (ht : Tryz.prog.underlying t = some (.slice e)) (hi : Tryz.prog.info? e = some i)
    (v : Value) (n c : Nat) (xs : List Value) (hs : a.eval s = v) (hown : Owns w.heap F e size v n xs) (hx : a.eval x = .slice none 0 c) (h : K (a.put o.dst v) w) :
    if Region.wanted o (yielded ops a.tmps) = true then Oper.wp Tryz.prog o a w K Q else E := by
  have hw : Region.wanted o (yielded ops a.tmps) = true := by simp [Region.wanted, hg]
  rw [if_pos hw]
  have hr := run_append_nothing w c F t o.type e i size ht hi v n xs hown
  unfold Oper.wp
  simp [execOp, hop, resolve, invoke, builtin, hs, hx, hr, Result.andThen]
  exact h
/-- where the second loop of load stands -/
def LoadRel2 (b fb : Nat) (F : BSet) (l : Wl) (g0 : Seg) (gs : List Seg) (w8 : World) (q : Nat) (wr : World) : Prop :=
  ∃ F', WlAt wr.heap b (some ⟨fb, 0, none⟩) { l with state := g0.state, first := g0.first, recs := chainR g0.first [] (gs.take q) } F' ∧ (∀ k, F' k → F k ∨ (w8.heap.size ≤ k ∧ k < wr.heap.size)) ∧ (∀ k, F k → F' k) ∧ Mod F w8 wr
/-- where the first loop of load stands -/
def LoadRel1 (f : Fs) (w : World) (j : Nat) (v6 v7 : Value) (wr : World) : Prop :=
  ∃ (O A : BSet) (vs : List Value), (∀ k, O k → ¬ A k) ∧ (∀ k, O k ∨ A k → w.heap.size ≤ k ∧ k < wr.heap.size) ∧ Owns wr.heap O 167 5 v6 (segsIn f (f.segs.take j)).length (segRow (segsIn f (f.segs.take j)) vs) ∧
    SegsAt wr.heap A (segsIn f (f.segs.take j)) vs ∧ v7 = .int .i64 (begIdx (segsIn f (f.segs.take j))) ∧ Mod BSet.none w wr
def ldL (l : Wl) (ld : Option Ld) : Wl := match ld with | none => l | some x => { l with state := x.state, first := x.first, recs := x.recs }
def LoadP (b fb : Nat) (F : BSet) (l : Wl) (ld : Option Ld) (w : World) (e : Ending) (w' : World) : Prop :=
  e = .returned (.tuple #[.int .i64 (fromOf ld : Nat), .int .i64 0]) ∧ WlAt w'.heap b (some ⟨fb, 0, none⟩) (ldL l ld) (grow F w w') ∧ Mod F w w'
set_option maxRecDepth 100000 in
set_option maxHeartbeats 8000000 in
theorem load_any (b fb : Nat) (F G : BSet) (f : Fs) (l : Wl) (v : Value) (w : World) (hf : FsRep w.heap fb f G) (hl : WlAt w.heap b (some ⟨fb, 0, none⟩) l F) (hd : ∀ k, F k → ¬ G k) (hg : Globs w) (hon : f.on = true) (hu : f.used ≤ 1099511627776)
    (hr0 : l.recs = []) (ho : l.Ok) (hv : SlAt w.heap v (strs f.segs)) (hvd : SlIn (fun k => ¬ F k) v) :
    Calls Tryz.prog 81 #[.pointer (some ⟨b, 0, none⟩), v] w (LoadP b fb F l f.loaded w) := by
  have HF := Lib.hid hf
  have HL := Lib.hid hl
  have HD := Lib.hid hd
  have HG := Lib.hid hg
  have HON := Lib.hid hon
  have HU := Lib.hid hu
  have HR0 := Lib.hid hr0
  have HO := Lib.hid ho
  have HVD := Lib.hid hvd
  obtain ⟨i0, hi, hz0, hz1, hz2⟩ := info_parts info167
  obtain ⟨va, vc, rfl, hvl, hvx⟩ := hv
  rw [strs_length] at hvl hvx HVD ⊢
  have HVX := Lib.hid hvx
  have hsl := segs_le f hf.wf
  obtain ⟨rv, hb, _⟩ := hl.ex
  have c0 := (wcells hb).c0
  have hbw : b < w.heap.size := lt_of_at hb
  have hsz9 := hg.size
  clear hf hl hd hg hon hu hr0 ho hvd hvx hb
  go_enter Tryz.func81, Tryz.ntmps81
  go_wp2_with fail
  go_step3
  go_wp2_with fail
  go_loopw [6, 7, 9, 10, 11, 12, 13, 14, 15, 20] (fun v6 v7 _ _ _ _ _ _ _ i wr => ∃ j : Nat, j ≤ f.segs.length ∧ i = .int .i64 j ∧ LoadRel1 f w j v6 v7 wr) (fun _ _ _ _ _ _ _ _ _ i _ => f.segs.length - (intOf i).toNat)
  case atStart =>
    refine ⟨0, by omega, rfl, BSet.none, BSet.none, [], fun _ h => h.elim, fun k h => by rcases h with h | h <;> exact h.elim, ⟨rfl, .inl ⟨rfl, rfl⟩⟩, ⟨rfl, fun i g v h => by simp [segsIn] at h⟩, rfl, Mod.refl _ _⟩
  case round =>
    obtain ⟨j, hj, rfl, hrel⟩ := hrel
    obtain ⟨wo, rfl⟩ : ∃ wo : World, wo = wr := ⟨_, rfl⟩
    obtain ⟨O, A, vs, hoa, hlt, hown, hsegs, rfl, hm⟩ := hrel
    have HOA := Lib.hid hoa
    have HLT := Lib.hid hlt
    have HOWN := Lib.hid hown
    have HSEGS := Lib.hid hsegs
    have HM := Lib.hid hm
    have hwo := hm.size
    obtain ⟨L, hL⟩ : ∃ L, segsIn f (f.segs.take j) = L := ⟨_, rfl⟩
    have HLL := Lib.hid hL
    rw [hL] at HOWN HSEGS ⊢
    obtain ⟨oa, oc, ho6⟩ : ∃ a c, u6 = Value.slice a L.length c := by
      rcases HOWN.out.2 with ⟨h, h0⟩ | ⟨g, cap, cur, h, _⟩
      · exact ⟨none, 0, by rw [h, h0]⟩
      · exact ⟨_, cap, h⟩
    subst ho6
    have c0r := hm.cell c0 (fun h => h)
    have hbd := begIdx_bd _ L rfl
    have hLl : L.length ≤ 64 := by
      rw [← hL]
      unfold segsIn
      exact Nat.le_trans (List.length_filterMap_le _ _) (by rw [List.length_take]; omega)
    clear hoa hlt hown hsegs hm hL
    by_cases hjl : j < f.segs.length
    · obtain ⟨s, hs⟩ : ∃ s, f.segs[j] = s := ⟨_, rfl⟩
      have hmem : s ∈ f.segs := hs ▸ List.getElem_mem hjl
      obtain ⟨hs1, hs2, hs3, hs4⟩ := segs_mem hmem
      obtain ⟨vb, vo, cs, vt, vfr, rfl, hvb, hvc⟩ := HVX.out (by intro h; have := congrArg List.length h; simp at this; rw [this] at hjl; simp at hjl)
      have hcell : wo.cell? ⟨vb, vo + j, none⟩ = some (.string s) := by
        rw [cell_of_at (HM.out.at hvb (fun h => h)), hvc j hjl]
        simp [strs, hjl, hs]
      have htake : segsIn f (f.segs.take (j + 1)) = match segOf f s with | none => L | some g => L ++ [g] := by
        rw [List.take_succ_eq_append_getElem hjl, hs, segsIn_snoc, HLL.out]
        cases segOf f s <;> rfl
      have HT := Lib.hid htake
      have hread : f.read s = ((f.read s).1, 0) := by
        have hn : numD s ∈ numsOf f.now := by
          rw [fsegs_eq] at hmem
          obtain ⟨n, hn, e⟩ := List.mem_map.1 hmem
          have hnn := mem_numsOf.1 hn
          rw [← e, numD_segName hnn.1 hnn.2.1]; exact hn
        have := read_seg HON.out hn
        rw [← hs1] at this
        rw [this]
      obtain ⟨c, hc⟩ : ∃ c, (f.read s).1 = c := ⟨_, rfl⟩
      rw [hc] at hread
      have hcsz : c.size ≤ 1099511627776 := by
        have hid := get_cases f s
        rcases hid with ⟨id, h1, h2, h3⟩ | ⟨r, h1, h2⟩
        · rw [← hc]; unfold Fs.read; rw [h1]; exact (HF.out.wf.size _ (Fs.mget_ids h3)).1
        · rw [← hc]; unfold Fs.read; rw [h1]; exact Nat.zero_le _
      have HRD := Lib.hid hread
      have HC := Lib.hid hc
      have hsz40 : s.size ≤ 1099511627776 := by omega
      have hszm : s.size ≤ maxLen := by unfold maxLen; omega
      clear hs hs1 hvb hvc htake hread hc hmem
      go_wp2_with fail
      refine (read_any fb f G s _ (by exact HF.out.mod0 HM.out) hszm).mono ?_
      rintro e w2 ⟨rfl, hm2⟩
      rw [HRD.out]
      have M2 := Lib.hid (HM.out.trans hm2 (fun _ _ h => h))
      have hz2' := hm2.size
      have HM2 := Lib.hid hm2
      clear hm2
      go_wp2_with fail
      refine (number_any s w2 hsz40 (HG.out.mod0 M2.out)).mono ?_
      rintro e w3 ⟨rfl, hm3⟩
      rw [show (numOf s).getD 0 = numD s from rfl]
      have M3 := Lib.hid (M2.out.trans hm3 (fun _ _ h => h))
      have HM3 := Lib.hid (HM2.out.trans hm3 (fun _ _ h => h))
      have hz3' := hm3.size
      clear hm3
      go_wp2_with fail
      refine (segRead_any (numD s) c w3 hcsz (HG.out.mod0 M3.out)).mono ?_
      rintro e w4 ⟨v, rfl, hv4, hi4, hm4⟩
      obtain ⟨⟨g, ok⟩, hro⟩ : ∃ r, readOf (numD s) c = r := ⟨_, rfl⟩
      rw [hro] at hv4
      rw [hro]
      have HRO := Lib.hid hro
      have M4 := Lib.hid (M3.out.trans hm4 (fun _ _ h => h))
      have HM4 := Lib.hid (HM3.out.trans hm4 (fun _ _ h => h))
      have hz4' := hm4.size
      have V4 := Lib.hid hv4
      have I4 := Lib.hid hi4
      obtain ⟨ga, gc, rfl, hgl, _⟩ := hv4
      rw [strs_length] at hgl V4 I4 ⊢
      unfold segCells
      clear hro hm4 hi4
      have hcellmod : Hid (∀ W : World, Mod BSet.none w4 W → LoadRel1 f w j (.slice oa L.length oc) (.int .i64 (begIdx L)) W) := Lib.hid (fun W hW => by
        have hmm := HM4.out.trans hW (fun _ _ h => h)
        refine ⟨O, A, vs, HOA.out, fun k hk => ?_, ?_, ?_, by rw [HLL.out], M4.out.trans hW (fun _ _ h => h)⟩
        · have := HLT.out k hk; have := hmm.size; omega
        · rw [HLL.out]; exact HOWN.out.stay (Stay.of_mod0 hmm 0) (by decide)
        · rw [HLL.out]; exact HSEGS.out.mod hmm (fun _ _ h => h))
      cases ok with
      | false =>
        have HSO : Hid (segOf f s = none) := Lib.hid (by unfold segOf rd; rw [HC.out, HRO.out]; rfl)
        go_wp2
        go_roundw
        case rel =>
          obtain ⟨O', A', vs', q1, q2, q3, q4, q5, q6⟩ := hcellmod.out (w4.alloc (.cells #[.int .i64 g.number, .int .i64 g.first, .bool g.kept, .string g.state, .slice ga g.recs.length gc] 167)) ((Mod.refl _ _).alloc _)
          have ht := HT.out
          rw [HSO.out] at ht
          rw [HLL.out] at q3 q4
          refine ⟨j + 1, by omega, by go_num, O', A', vs', q1, q2, ?_, ?_, by rw [ht], q6⟩
          · rw [ht]; exact q3
          · rw [ht]; exact q4
        case measure => simp [intOf] <;> omega
      | true =>
        have HSO : Hid (segOf f s = some g) := Lib.hid (by unfold segOf rd; rw [HC.out, HRO.out]; rfl)
        have OW : Hid (Owns ((w4.alloc (.cells #[.int .i64 g.number, .int .i64 g.first, .bool g.kept, .string g.state, .slice ga g.recs.length gc] 167)).alloc (.cells #[.int .i64 g.number, .int .i64 g.first, .bool g.kept, .string g.state, .slice ga g.recs.length gc] 167)).heap O 167 5 (.slice oa L.length oc) L.length (segRow L vs)) := Lib.hid
          (HOWN.out.stay (Stay.of_mod0 ((HM4.out.alloc _).alloc _) 0) (by decide))
        have FIN : Hid (∀ (v' : Value) (W : World), Owns W.heap (grow O ((w4.alloc (.cells #[.int .i64 g.number, .int .i64 g.first, .bool g.kept, .string g.state, .slice ga g.recs.length gc] 167)).alloc (.cells #[.int .i64 g.number, .int .i64 g.first, .bool g.kept, .string g.state, .slice ga g.recs.length gc] 167)) W) 167 5 v' (L.length + 1) (segRow L vs ++ (segCells g (.slice ga g.recs.length gc)).toList) →
            Mod O ((w4.alloc (.cells #[.int .i64 g.number, .int .i64 g.first, .bool g.kept, .string g.state, .slice ga g.recs.length gc] 167)).alloc (.cells #[.int .i64 g.number, .int .i64 g.first, .bool g.kept, .string g.state, .slice ga g.recs.length gc] 167)) W →
            LoadRel1 f w (j + 1) v' (.int .i64 (begIdx (L ++ [g]))) W) := Lib.hid (fun v' W hown hmod => by
          have ht := HT.out
          rw [HSO.out] at ht
          have hz := hmod.size
          simp at hz
          refine ⟨grow O ((w4.alloc (.cells #[.int .i64 g.number, .int .i64 g.first, .bool g.kept, .string g.state, .slice ga g.recs.length gc] 167)).alloc (.cells #[.int .i64 g.number, .int .i64 g.first, .bool g.kept, .string g.state, .slice ga g.recs.length gc] 167)) W, fun k => A k ∨ (w3.heap.size ≤ k ∧ k < w4.heap.size), vs ++ [.slice ga g.recs.length gc], ?_, ?_, ?_, ?_, by rw [ht], ?_⟩
          rotate_left 2
          · rw [ht, segRow_snoc HSEGS.out.len, List.length_append, List.length_singleton]; exact hown
          · rw [ht]
            refine (SegsAt.mod (HSEGS.out.mod ((HM4.out.alloc (.cells #[.int .i64 g.number, .int .i64 g.first, .bool g.kept, .string g.state, .slice ga g.recs.length gc] 167)).alloc (.cells #[.int .i64 g.number, .int .i64 g.first, .bool g.kept, .string g.state, .slice ga g.recs.length gc] 167)) (fun _ _ h => h)) hmod (fun k hk h => HOA.out k h hk)).snoc (fun k hk => .inl hk) ?_ ?_
            · refine (V4.out.mod0 (((Mod.refl BSet.none w4).alloc (.cells #[.int .i64 g.number, .int .i64 g.first, .bool g.kept, .string g.state, .slice ga g.recs.length gc] 167)).alloc (.cells #[.int .i64 g.number, .int .i64 g.first, .bool g.kept, .string g.state, .slice ga g.recs.length gc] 167))).mod hmod (fun b' o n c e hn h => ?_)
              cases e
              rcases (I4.out hn : grow BSet.none w3 w4 b') with h' | h'
              · exact h'.elim
              · have h2 : w3.heap.size ≤ b' := h'.1
                have := (HLT.out b' (.inl h)).2; omega
            · refine I4.out.mono (fun k hk => ?_)
              rcases hk with hk | hk
              · exact hk.elim
              · exact .inr hk
          · exact ((M4.out.alloc _).alloc _).trans hmod (fun k hk h => by have := (HLT.out k (.inl h)).1; omega)
          · intro k hk ha
            rcases hk with hk | hk
            · rcases ha with ha | ha
              · exact HOA.out k hk ha
              · have := (HLT.out k (.inl hk)).2; omega
            · have h1 := hk.1
              simp at h1
              rcases ha with ha | ha
              · have := (HLT.out k (.inr ha)).2; omega
              · omega
          · intro k hk
            rcases hk with (hk | hk) | (hk | hk)
            · have := HLT.out k (.inl hk); omega
            · have h1 := hk.1
              simp at h1
              exact ⟨by omega, hk.2⟩
            · have := HLT.out k (.inr hk); omega
            · omega)
        have C1 : Hid (∀ (q : Nat) (u : Value), (segCells g (.slice ga g.recs.length gc)).toList[q]? = some u → ((w4.alloc (.cells #[.int .i64 g.number, .int .i64 g.first, .bool g.kept, .string g.state, .slice ga g.recs.length gc] 167)).alloc (.cells #[.int .i64 g.number, .int .i64 g.first, .bool g.kept, .string g.state, .slice ga g.recs.length gc] 167)).cell? ((⟨w4.heap.size + 1, 0, none⟩ : Addr).add q) = some u) := Lib.hid (fun q u hq => by
          have : ((⟨w4.heap.size + 1, 0, none⟩ : Addr).add q) = ⟨w4.heap.size + 1, q, none⟩ := by rw [Addr.add_lit, Nat.zero_add]
          rw [this, cell_of_at (at_newk (by simp))]
          rw [Array.getElem?_toList] at hq
          exact hq)
        have C2 : Hid (∀ u, u ∈ (segCells g (.slice ga g.recs.length gc)).toList → u.oneCell' = true) := Lib.hid (fun u hu => by
          simp only [segCells, List.mem_cons, List.not_mem_nil, or_false] at hu
          rcases hu with rfl | rfl | rfl | rfl | rfl <;> rfl)
        have C3 : L.length + 1 ≤ maxLen := by unfold maxLen; omega
        have C4 : (L.length + 1) * 64 ≤ 140737488355328 := by omega
        have HC3 := Lib.hid C3
        have HC4 := Lib.hid C4
        have BEG := Lib.hid (begIdx_snoc L g)
        clear hcellmod C3 C4
        cases hk : g.kept
        all_goals
          have HK := Lib.hid hk
          clear hk
          rw [HK.out] at OW FIN C1 BEG
          go_wp2_with (at_builtin; refine wpList_append_F _ O rfl _ _ 165 rfl 167 i0 zero167 5 64 under165 hi hz0 hz1 hz2 rfl (by decide) _ L.length (segRow L vs) rfl OW.out ⟨w4.heap.size + 1, 0, none⟩ 1 1 (segCells g (.slice ga g.recs.length gc)).toList rfl rfl C1.out C2.out HC3.out HC4.out ?_)
          intro v' w6 hown6 hgrow6 _
          have REL := Lib.hid (FIN.out v' w6 hown6 hgrow6)
          clear hown6 hgrow6
          go_wp2
          go_roundw
          case rel =>
            refine ⟨j + 1, by omega, by go_num, ?_⟩
            have := REL.out
            rw [BEG.out] at this
            exact this
          case measure => simp [intOf] <;> omega
    · have hjE : j = f.segs.length := by omega
      have hAll : segsIn f f.segs = L := by rw [← HLL.out, hjE, List.take_length]
      have hload : f.loaded = foldL L none := by rw [loaded_segs HON.out, hAll]
      have HLOAD := Lib.hid hload
      have hsum : (L.map (·.recs.length)).sum ≤ 1099511627776 := by rw [← hAll]; exact Nat.le_trans (recs_used HF.out.wf HON.out) HU.out
      have hfirst : ∀ g, g ∈ L → g.first ≤ 1099511627776 ∧ g.number ≤ 99999999 ∧ 1 ≤ g.first := fun g hg => by
        rw [← hAll] at hg
        unfold segsIn at hg
        obtain ⟨s, hs, hg⟩ := List.mem_filterMap.1 hg
        have := segOf_first hg
        have h2 := segs_mem hs
        omega
      have HSUM := Lib.hid hsum
      have HFIRST := Lib.hid hfirst
      clear hAll hload hsum hfirst hjE
      by_cases hneg : begIdx L < 0
      · have hnone : f.loaded = none := by rw [HLOAD.out]; exact begIdx_none _ L rfl hneg
        have HNONE := Lib.hid hnone
        clear hnone
        go_wp2
        rw [Exit.noGoto_ret]
        go_ret2
        rw [HNONE.out]
        exact ⟨rfl, by
          have := HL.out.keep HM.out (fun _ _ h => h)
          exact ⟨.inl this.own, fun k hk => by
            rcases hk with hk | hk
            · exact this.lt k hk
            · exact hk.2, by
            obtain ⟨rv1, q1, q2⟩ := this.ex
            exact ⟨rv1, q1, q2.weaken (fun _ h => .inl h)⟩⟩, HM.out.none_any⟩
      · obtain ⟨bI, hbI⟩ : ∃ bI : Nat, begIdx L = bI := ⟨(begIdx L).toNat, by omega⟩
        have HBI := Lib.hid hbI
        rw [hbI] at hbd ⊢
        have hbL : bI < L.length := by omega
        obtain ⟨g0, hg0⟩ : ∃ g0, L[bI]? = some g0 := ⟨_, List.getElem?_eq_getElem hbL⟩
        obtain ⟨v0, hv0⟩ : ∃ v0, vs[bI]? = some v0 := ⟨_, List.getElem?_eq_getElem (by rw [HSEGS.out.len]; exact hbL)⟩
        obtain ⟨og, oc', cur, he, hOg, hcur, hcap1, hcap2, hcells⟩ := HOWN.out.cells5 (by omega)
        simp only [Value.slice.injEq] at he
        obtain ⟨rfl, -, rfl⟩ := he
        have hat := segRow_at hg0 hv0
        have a3 : wo.cell? ⟨og, bI * 5 + 3, none⟩ = some (.string g0.state) := by rw [cell_of_at hcur, hcells _ (by omega), hat 3 (by omega)]; rfl
        have a1 : wo.cell? ⟨og, bI * 5 + 1, none⟩ = some (.int .i64 g0.first) := by rw [cell_of_at hcur, hcells _ (by omega), hat 1 (by omega)]; rfl
        have a0 : wo.cell? ⟨og, bI * 5, none⟩ = some (.int .i64 g0.number) := by rw [cell_of_at hcur, hcells _ (by omega)]; have := hat 0 (by omega); rw [Nat.add_zero] at this; rw [this]; rfl
        have A0 := Lib.hid a0
        have HLW := Lib.hid (HL.out.keep HM.out (fun _ _ h => h))
        obtain ⟨rv1, hb1, hrv1⟩ := HLW.out.ex
        have d1 := (wcells hb1).c1
        have d3 := (wcells hb1).c3
        have e1 : wo.frozen? ⟨b, 1, none⟩ = false := free_of_at hb1 1
        have e3 : wo.frozen? ⟨b, 3, none⟩ = false := free_of_at hb1 3
        have HB1 := Lib.hid hb1
        have HRV1 := Lib.hid hrv1
        have HG0 := Lib.hid hg0
        have HV0 := Lib.hid hv0
        have HCUR := Lib.hid hcur
        have HCELLS := Lib.hid hcells
        have hn0 := (HFIRST.out g0 (List.mem_of_getElem? hg0))
        have hne : og ≠ b := fun h => by have := (HLT.out og (.inl hOg)).1; omega
        clear hbI hg0 hv0 hcur hcells hat hb1 hrv1 a0 hneg
        go_wp2
        go_region
        generalize hw8 : ((wo.setCell ⟨b, 1, none⟩ (.string g0.state)).setCell ⟨b, 3, none⟩ (.int .i64 g0.first)).drew = w8
        have hm8 : Mod (BSet.one b) wo w8 := by rw [← hw8]; exact (((Mod.refl _ _).setCell (.inl (show BSet.one b b from rfl)) _).setCell (.inl (show BSet.one b b from rfl)) _).drew
        have M8 := Lib.hid hm8
        have hz8 := hm8.size
        have W8 : Hid (WlAt w8.heap b (some ⟨fb, 0, none⟩) { l with state := g0.state, first := g0.first, recs := [] } F) := Lib.hid (HLW.out.set (l' := { l with state := g0.state, first := g0.first, recs := [] }) (rv := rv1) (by
          have := HRV1.out
          rw [HR0.out] at this
          exact this) hm8 (by
          rw [← hw8]
          show ((wo.setCell ⟨b, 1, none⟩ (.string g0.state)).setCell ⟨b, 3, none⟩ (.int .i64 g0.first)).heap[b]? = _
          rw [at_setCell_same (at_setCell_same HB1.out)]; rfl))
        have CUR8 : Hid (w8.heap[og]? = some (.cells cur 167 (0, 0))) := Lib.hid (hm8.at HCUR.out hne)
        have a0 : w8.cell? ⟨og, bI * 5, none⟩ = some (.int .i64 g0.number) := hm8.cell A0.out hne
        have A08 := Lib.hid a0
        have SG8 := Lib.hid (HSEGS.out.mod hm8 (fun k hk e => by have := (HLT.out k (.inr hk)).1; have h' : k = b := e; omega))
        have HBL := Lib.hid hbL
        have hsl1 : bI ≤ oc := by omega
        have hsl2 : L.length ≤ oc := hcap1
        have hcc : ¬ oc = bI := by omega
        clear hw8 hm8 a3 a1 d1 d3 e1 e3 a0
        go_wp2_with fail
        go_step3
        go_wp2_with fail
        go_loopw [17, 80] (fun _ i wr => ∃ q : Nat, q ≤ L.length - bI ∧ i = .int .i64 q ∧ LoadRel2 b fb F l g0 (L.drop bI) w8 q wr) (fun _ i _ => L.length - bI - (intOf i).toNat)
        case atStart => exact ⟨0, by omega, rfl, F, W8.out, fun k h => .inl h, fun _ h => h, Mod.refl _ _⟩
        case round =>
          obtain ⟨q, hq, rfl, hrel⟩ := hrel
          obtain ⟨wo2, rfl⟩ : ∃ wo2 : World, wo2 = wr := ⟨_, rfl⟩
          obtain ⟨F', hwl, hF', hFF, hmq⟩ := hrel
          have WL := Lib.hid hwl
          have HF' := Lib.hid hF'
          have HFF := Lib.hid hFF
          have HMQ := Lib.hid hmq
          have hzq := hmq.size
          have hnF : Hid (∀ k, F k → k < w.heap.size) := Lib.hid HL.out.lt
          obtain ⟨R, hR⟩ : ∃ R, chainR g0.first [] ((L.drop bI).take q) = R := ⟨_, rfl⟩
          have HRR := Lib.hid hR
          rw [hR] at WL
          have hRl : R.length ≤ 1099511627776 := by
            rw [← hR]
            refine Nat.le_trans (chainR_le _ _ _) ?_
            simp only [List.length_nil, Nat.zero_add]
            refine Nat.le_trans (sub_sum (List.Sublist.map _ (List.take_sublist _ _))) (Nat.le_trans (sub_sum (List.Sublist.map _ (List.drop_sublist _ _))) HSUM.out)
          have OKR : Hid (({ l with state := g0.state, first := g0.first, recs := R } : Wl).Ok) := Lib.hid ⟨hn0.2.2, by show g0.first ≤ _; omega, by show R.length ≤ _; omega, HO.out.firm⟩
          have LAST : Hid (({ l with state := g0.state, first := g0.first, recs := R } : Wl).last + 1 = g0.first + R.length) := Lib.hid (by unfold Wl.last; simp only; omega)
          clear hwl hF' hFF hmq hR
          by_cases hqn : q < L.length - bI
          · obtain ⟨g, hg⟩ : ∃ g, L[bI + q]? = some g := ⟨_, List.getElem?_eq_getElem (by omega)⟩
            obtain ⟨gv, hgv⟩ : ∃ gv, vs[bI + q]? = some gv := ⟨_, List.getElem?_eq_getElem (by rw [SG8.out.len]; omega)⟩
            have hat := segRow_at hg hgv
            have hsl := SG8.out.at_ _ _ _ hg hgv
            have hcq : wo2.heap[og]? = some (.cells cur 167 (0, 0)) := HMQ.out.at CUR8.out (fun h => by have := hnF.out _ h; have := (HLT.out og (.inl hOg)).1; omega)
            have kc : ∀ k, k < 5 → wo2.cell? ⟨og, bI * 5 + q * 5 + k, none⟩ = (segCells g gv)[k]? := fun k hk => by
              rw [cell_of_at hcq, HCELLS.out _ (by omega), ← hat k hk]
              congr 1
              omega
            obtain ⟨⟨ga, gc, rfl, hgl, hgx⟩, hgi⟩ := hsl
            rw [strs_length] at hgl hgx hgi
            have k0 : wo2.cell? ⟨og, bI * 5 + q * 5, none⟩ = some (.int .i64 g.number) := by have := kc 0 (by omega); rw [Nat.add_zero] at this; rw [this, strs_length]; rfl
            have k1 : wo2.cell? ⟨og, bI * 5 + q * 5 + 1, none⟩ = some (.int .i64 g.first) := by rw [kc 1 (by omega), strs_length]; rfl
            have k2 : wo2.cell? ⟨og, bI * 5 + q * 5 + 2, none⟩ = some (.bool g.kept) := by rw [kc 2 (by omega), strs_length]; rfl
            have k3 : wo2.cell? ⟨og, bI * 5 + q * 5 + 3, none⟩ = some (.string g.state) := by rw [kc 3 (by omega), strs_length]; rfl
            have k4 : wo2.cell? ⟨og, bI * 5 + q * 5 + 4, none⟩ = some (.slice ga g.recs.length gc) := by rw [kc 4 (by omega), strs_length]; rfl
            have HGG := Lib.hid hg
            have HGX := Lib.hid hgx
            have HGI := Lib.hid hgi
            have hgb := HFIRST.out g (List.mem_of_getElem? hg)
            clear hg hgv hat hcq kc hgx hgi
            go_wp2_with fail
            generalize hwa : wo2.alloc (Obj.cells #[Value.int IntKind.i64 g.number, Value.int IntKind.i64 g.first, Value.bool g.kept, Value.string g.state, Value.slice ga g.recs.length gc] 167) = wa
            have MA : Hid (Mod BSet.none wo2 wa) := Lib.hid (by rw [← hwa]; exact (Mod.refl _ _).alloc _)
            have hza := MA.out.size
            have p1 : wa.cell? ⟨wo2.heap.size, 1, none⟩ = some (.int .i64 g.first) := by rw [← hwa]; exact cell_of_at at_new 1
            have p4 : wa.cell? ⟨wo2.heap.size, 4, none⟩ = some (.slice ga g.recs.length gc) := by rw [← hwa]; exact cell_of_at at_new 4
            have WLA := Lib.hid (WL.out.keep MA.out (fun _ _ h => h))
            obtain ⟨lR, hlR⟩ : ∃ lR, ({ l with state := g0.state, first := g0.first, recs := R } : Wl) = lR := ⟨_, rfl⟩
            have HLR := Lib.hid hlR
            rw [hlR] at WLA OKR LAST
            have hlr1 : lR.last + 1 = g0.first + R.length := LAST.out
            have hwr : IntKind.i64.wrap (((lR.last : Nat) : Int) + 1) = ((lR.last : Nat) : Int) + 1 := IntWalk.i64_in _ (by omega)
            have TK : Hid (chainR g0.first [] ((L.drop bI).take (q + 1)) = if g.first = g0.first + R.length then R ++ g.recs else R) := Lib.hid (by
              have hg : (L.drop bI)[q]? = some g := by rw [List.getElem?_drop]; exact HGG.out
              have : (L.drop bI).take (q + 1) = (L.drop bI).take q ++ [g] := by rw [List.take_add_one, hg]; rfl
              rw [this, chainR_snoc, HRR.out])
            clear hwa hlR hlr1 k0 k1 k2 k3 k4
            by_cases hfe : g.first = g0.first + R.length
            · have hne1 : (((g.first : Nat) : Int) != ((lR.last : Nat) : Int) + 1) = false := by
                rw [bne_eq_false_iff_eq]; have := LAST.out; omega
              have HFE := Lib.hid hfe
              clear hfe
              go_quiet ((go_at_call 32; exact Calls.quiet_of (wlast_any b ⟨fb, 0, none⟩ lR F' _ WLA.out OKR.out)))
              go_wp2_with fail
              obtain ⟨i9, h9, z9, s9, b9⟩ := info_parts info9
              obtain ⟨rvR, hbR, hoR⟩ := WLA.out.ex
              obtain ⟨ra, rc, rfl, -⟩ := hoR.slice
              have d2 := (wcells hbR).c2
              have e2 : wa.frozen? ⟨b, 2, none⟩ = false := free_of_at hbR 2
              have HBR := Lib.hid hbR
              have HOR := Lib.hid hoR
              have hlrl : lR.recs.length ≤ 1099511627776 := by rw [← HLR.out]; exact hRl
              clear hbR hoR
              cases ga with
              | none =>
                have hg0 : g.recs = [] := by
                  by_cases h : g.recs = []
                  · exact h
                  · obtain ⟨_, _, _, _, _, h', _⟩ := HGX.out (by simpa [strs] using h)
                    cases h'
                have hgz : g.recs.length = 0 := by rw [hg0]; rfl
                have HG00 := Lib.hid hg0
                rw [hgz] at p4
                have WN : Hid (∀ n, LoadRel2 b fb F l g0 (L.drop bI) w8 (q + 1) ((wa.drewN n).setCell ⟨b, 2, none⟩ (.slice ra lR.recs.length rc))) := Lib.hid (fun n => by
                  have hsz : ((wa.drewN n).setCell ⟨b, 2, none⟩ (.slice ra lR.recs.length rc)).heap.size = wa.heap.size := by simp [World.setCell]
                  refine ⟨F', ?_, fun k hk => ?_, HFF.out, ((HMQ.out.trans MA.out (fun _ _ h => h.elim)).drewN n).trans (mod_one (wa.drewN n) b 2 _) (fun k _ h => by rw [show k = b from h]; exact HL.out.own)⟩
                  · rw [TK.out, if_pos HFE.out, HG00.out, List.append_nil, HLR.out]
                    exact WLA.out.set (l' := lR) HOR.out (((Mod.refl (BSet.one b) wa).drewN n).setCell (.inl (show BSet.one b b from rfl)) _) (by rw [at_setCell_same (w := wa.drewN n) HBR.out]; rfl)
                  · rcases HF'.out k hk with h | h
                    · exact .inl h
                    · exact .inr ⟨h.1, by rw [hsz]; omega⟩)
                clear hg0 hgz
                go_region_law ((first | (refine step_append_nothing F' rfl _ _ 22 rfl 9 i9 1 under22 h9 (.slice ra lR.recs.length rc) lR.recs.length gc (strs lR.recs) (by simp [Act.eval, Act.put]) (by exact HOR.out) (by simp [Act.eval, Act.put]) ?_)))
                all_goals
                  go_wp2
                  go_roundw
                  case rel => exact ⟨q + 1, by omega, by go_num, WN.out _⟩
                  case measure => simp [intOf] <;> omega
              | some ad =>
                obtain ⟨vb, vo, cs, vt, vfr, hgs⟩ : ∃ (vb vo : Nat) (cs : Array Value) (vt : TypeId) (vfr : Nat × Nat), 0 < g.recs.length → ad = ⟨vb, vo, none⟩ ∧ w8.heap[vb]? = some (.cells cs vt vfr) ∧ ∀ i, i < g.recs.length → cs[vo + i]? = (strs g.recs)[i]? := by
                  by_cases h : 0 < g.recs.length
                  · obtain ⟨vb, vo, cs, vt, vfr, h1, h2, h3⟩ := HGX.out (by intro h'; have := congrArg List.length h'; simp at this; rw [this] at h; simp at h)
                    exact ⟨vb, vo, cs, vt, vfr, fun _ => ⟨by simpa using h1, h2, h3⟩⟩
                  · exact ⟨0, 0, #[], 0, (0, 0), fun h' => absurd h' h⟩
                have NEWS : Hid (∀ (jj : Nat) (u : Value), (strs g.recs)[jj]? = some u → wa.cell? (ad.add jj) = some u) := Lib.hid (fun jj u hu => by
                  have hj : jj < g.recs.length := by have := (List.getElem?_eq_some_iff.1 hu).1; simpa using this
                  obtain ⟨rfl, h2, h3⟩ := hgs (by omega)
                  have hA : A vb := HGI.out (by show 0 < g.recs.length; omega)
                  have hnf : ¬ F vb := fun h => by have := hnF.out _ h; have := (HLT.out vb (.inr hA)).1; omega
                  rw [Addr.add_lit, cell_of_at (MA.out.at (HMQ.out.at h2 hnf) (fun h => h)), h3 jj hj]
                  exact hu)
                have ONE : Hid (∀ u, u ∈ strs g.recs → u.oneCell' = true) := Lib.hid (fun u hu => by
                  simp [strs] at hu; obtain ⟨_, _, rfl⟩ := hu; rfl)
                have hgr : g.recs.length ≤ 1099511627776 := by
                  have h1 : g.recs.length ∈ L.map (·.recs.length) := List.mem_map.2 ⟨g, List.mem_of_getElem? HGG.out, rfl⟩
                  have h2 : ([g.recs.length] : List Nat).Sublist (L.map (·.recs.length)) := List.singleton_sublist.2 h1
                  have := sub_sum h2
                  simp only [List.sum_cons, List.sum_nil] at this
                  have := HSUM.out
                  omega
                have B1 : Hid (lR.recs.length + g.recs.length ≤ maxLen) := Lib.hid (by unfold maxLen; omega)
                have B2 : Hid ((lR.recs.length + g.recs.length) * 16 ≤ 140737488355328) := Lib.hid (by omega)
                have WN : Hid (∀ (v' : Value) (W : World), Owns W.heap (grow F' (wa.drewN nq).drew W) 9 1 v' (lR.recs.length + g.recs.length) (strs lR.recs ++ strs g.recs) → Mod F' (wa.drewN nq).drew W → Stay 9 (wa.drewN nq).drew.heap W.heap →
                    LoadRel2 b fb F l g0 (L.drop bI) w8 (q + 1) (W.setCell ⟨b, 2, none⟩ v')) := Lib.hid (fun v' W hown hmod hst => by
                  have hsz : (W.setCell ⟨b, 2, none⟩ v').heap.size = W.heap.size := by simp [World.setCell]
                  have hzW : wa.heap.size ≤ W.heap.size := hmod.size
                  have hbW : W.heap[b]? = some (.cells (wlCells (some ⟨fb, 0, none⟩) lR (.slice ra lR.recs.length rc)) 45 (0, 0)) := hst _ _ HBR.out (show 45 ≠ 9 by decide)
                  refine ⟨grow F' wa W, ⟨.inl (HFF.out _ HL.out.own), fun k hk => ?_, v', ?_, ?_⟩, fun k hk => ?_, fun k hk => .inl (HFF.out k hk), ?_⟩
                  · rcases hk with hk | hk
                    · have := WLA.out.lt k hk; omega
                    · omega
                  · rw [at_setCell_same hbW, TK.out, if_pos HFE.out, ← HLR.out]; rfl
                  · have := hown.stay (stay_set (i := 2) (u := v') hbW) (show 9 ≠ 45 by decide)
                    rw [TK.out, if_pos HFE.out]
                    show Owns _ (grow F' wa W) 9 1 v' (R ++ g.recs).length (strs (R ++ g.recs))
                    rw [List.length_append, show strs (R ++ g.recs) = strs R ++ strs g.recs from by simp [strs]]
                    have hl2 : lR.recs = R := by rw [← HLR.out]
                    rw [hl2] at this
                    exact this
                  · rcases hk with hk | hk
                    · rcases HF'.out k hk with h | h
                      · exact .inl h
                      · exact .inr ⟨h.1, by omega⟩
                    · exact .inr ⟨by omega, by omega⟩
                  · refine ((HMQ.out.trans MA.out (fun _ _ h => h.elim)).trans ((((Mod.refl F' wa).drewN nq).drew).trans hmod (fun _ _ h => h)) (fun k hk h => ?_)).trans (mod_one W b 2 _) (fun k _ h => by rw [show k = b from h]; exact HL.out.own)
                    rcases HF'.out k h with h | h
                    · exact h
                    · omega)
                go_region_law ((first | (refine step_append_F F' rfl _ _ 22 rfl 9 i9 (.string ⟨#[]⟩) 1 16 under22 h9 z9 s9 b9 rfl (by decide) (.slice ra lR.recs.length rc) lR.recs.length (strs lR.recs) (by simp [Act.eval, Act.put]) (by exact HOR.out) ad g.recs.length gc (strs g.recs) (by simp [Act.eval, Act.put]) (by simp) (by exact NEWS.out) ONE.out B1.out B2.out ?_; intro v' w6 hown6 hgrow6 st6; have W6 := Lib.hid (WN.out v' w6 hown6 hgrow6 st6); obtain ⟨a6, c6, rfl, -⟩ := hown6.slice; have hb6 := st6 _ _ HBR.out (show 45 ≠ 9 by decide); have d26 := (wcells hb6).c2; have e26 : w6.frozen? ⟨b, 2, none⟩ = false := free_of_at hb6 2; clear hb6 hown6 hgrow6 st6)))
                all_goals
                  go_wp2
                  go_roundw
                  case rel => exact ⟨q + 1, by omega, by go_num, W6.out⟩
                  case measure => simp [intOf] <;> omega
            · have hne1 : (((g.first : Nat) : Int) != ((lR.last : Nat) : Int) + 1) = true := by
                rw [bne_iff_ne]; have := LAST.out; omega
              have HFE := Lib.hid hfe
              clear hfe
              go_quiet ((go_at_call 32; exact Calls.quiet_of (wlast_any b ⟨fb, 0, none⟩ lR F' _ WLA.out OKR.out)))
              go_wp2
              go_roundw
              case rel =>
                refine ⟨q + 1, by omega, by go_num, F', ?_, fun k hk => ?_, HFF.out, (HMQ.out.trans MA.out (fun _ _ h => h.elim)).drewN _⟩
                · rw [TK.out, if_neg HFE.out, HLR.out]
                  exact WLA.out
                · rcases HF'.out k hk with h | h
                  · exact .inl h
                  · exact .inr ⟨h.1, Nat.lt_of_lt_of_le h.2 hza⟩
              case measure => simp [intOf] <;> omega
          · have hqE : q = L.length - bI := by omega
            have hld : f.loaded = some ⟨g0.number, g0.state, g0.first, R⟩ := by
              rw [HLOAD.out, fold_beg HBI.out HG0.out]
              congr 2
              rw [← HRR.out, hqE, List.take_of_length_le (by rw [List.length_drop]; exact Nat.le_refl _)]
            have HLD := Lib.hid hld
            have q0 : wo2.cell? ⟨og, bI * 5, none⟩ = some (.int .i64 g0.number) := HMQ.out.cell A08.out (fun h => by have h1 := hnF.out og h; have := (HLT.out og (.inl hOg)).1; omega)
            clear hld hqE
            go_wp2
            try rw [Exit.noGoto_normal]
            go_wp2
            try rw [Exit.noGoto_ret]
            go_ret2
            rw [HLD.out]
            refine ⟨rfl, ?_, ?_⟩
            · have := WL.out
              exact ⟨.inl HL.out.own, fun k hk => by
                rcases hk with hk | hk
                · have := hnF.out k hk; omega
                · exact hk.2, by
                obtain ⟨rvE, q1, q2⟩ := this.ex
                refine ⟨rvE, q1, q2.weaken (fun k hk => ?_)⟩
                rcases HF'.out k hk with h | h
                · exact .inl h
                · exact .inr ⟨by omega, h.2⟩⟩
            · exact (HM.out.none_any.trans (M8.out.mono (G := F) (fun k _ h => by rw [show k = b from h]; exact HL.out.own)) (fun _ _ h => h)).trans HMQ.out (fun _ _ h => h)
end Go.Proofs.YthogefmngddnbaaGreatDoor
/- wal.Open: the walk. -/
namespace Go.Proofs.YthogefmngddnbaaGreatDoor
open Go.RowKit

theorem loaded_bd {f : Fs} (hw : f.Wf) (hon : f.on = true) {ld : Ld} (h : f.loaded = some ld) : 1 ≤ ld.first ∧ ld.first ≤ 1099511627776 ∧ ld.recs.length ≤ f.used ∧ 1 ≤ ld.num ∧ ld.num ≤ 99999999 := by
  rw [loaded_segs hon] at h
  by_cases hneg : begIdx (segsIn f f.segs) < 0
  · rw [begIdx_none _ _ rfl hneg] at h; cases h
  · have hbd := begIdx_bd _ (segsIn f f.segs) rfl
    obtain ⟨b, hb⟩ : ∃ b : Nat, begIdx (segsIn f f.segs) = b := ⟨(begIdx (segsIn f f.segs)).toNat, by omega⟩
    have hl : b < (segsIn f f.segs).length := by omega
    have hg := List.getElem?_eq_getElem hl
    rw [fold_beg hb hg] at h
    cases h
    have hm := List.getElem_mem hl
    unfold segsIn at hm
    obtain ⟨s, hs, hso⟩ := List.mem_filterMap.1 hm
    have h1 := segOf_first hso
    have h2 := segs_mem hs
    have h3 := chainR_le ((segsIn f f.segs)[b]).first ((segsIn f f.segs).drop b) []
    have h4 := sub_sum (List.Sublist.map (fun g : Seg => g.recs.length) (List.drop_sublist b (segsIn f f.segs)))
    have h5 := recs_used hw hon
    simp only [List.length_nil, Nat.zero_add] at h3
    have hnum : ((segsIn f f.segs)[b]).number = numD s := h1.2.2.2
    refine ⟨h1.1, h1.2.1, by simp only; omega, ?_, ?_⟩
    · show 1 ≤ ((segsIn f f.segs)[b]).number; omega
    · show ((segsIn f f.segs)[b]).number ≤ _; omega
def WOpenP (fb : Nat) (G : BSet) (f : Fs) (w : World) (e : Ending) (w' : World) : Prop :=
  ∃ nid, nid ∉ f.ids ∧ Mod G w w' ∧
    (((openW f nid).2.2 = 0 ∧ ∃ b F' G', e = .returned (.tuple #[.pointer (some ⟨b, 0, none⟩), .int .i64 0]) ∧ WRep w' b fb (openW f nid).1 (openW f nid).2.1 F' G' ∧ (∀ k, F' k → w.heap.size ≤ k ∧ k < w'.heap.size) ∧ (∀ k, G' k → G k ∨ (w.heap.size ≤ k ∧ k < w'.heap.size))) ∨
     ((openW f nid).2.2 ≠ 0 ∧ e = .returned (.tuple #[.pointer none, .int .i64 (openW f nid).2.2]) ∧ FsRep w'.heap fb (openW f nid).1 (grow G w w')))
theorem wopen_nil (w : World) : Calls Tryz.prog 31 #[.pointer none] w fun e w' => e = .returned (.tuple #[.pointer none, .int .i64 1]) ∧ w' = w := by
  go_enter Tryz.func31, Tryz.ntmps31
  go_wp2
  go_ret2
  exact ⟨rfl, rfl⟩
theorem syncAll_take (f : Fs) (ss : List ByteArray) (j : Nat) (h : j < ss.length) : syncAll f (ss.take (j + 1)) = ((syncAll f (ss.take j)).sync ss[j]).1 := by
  have : ∀ (a : List ByteArray) (f : Fs) (s : ByteArray), syncAll f (a ++ [s]) = ((syncAll f a).sync s).1 := by
    intro a
    induction a with
    | nil => intro f s; rfl
    | cons x a ih => intro f s; exact ih _ _
  rw [List.take_succ_eq_append_getElem h, this]
set_option maxRecDepth 100000 in
set_option maxHeartbeats 8000000 in
theorem wopen_any (fb : Nat) (G : BSet) (f : Fs) (w : World) (hf : FsRep w.heap fb f G) (hg : Globs w) (h9 : ∀ k, G k → 9 ≤ k) (hon : f.on = true) (harm : f.armed = false) (hu : f.used ≤ 1099511627776) (hlen : f.since.length ≤ 500000000) :
    Calls Tryz.prog 31 #[.pointer (some ⟨fb, 0, none⟩)] w (WOpenP fb G f w) := by
  have hmf : ∀ fn first cap w, (Instr.makeFunc fn first cap).run Tryz.prog w = .ok (.func fn first cap) w := fun _ _ _ _ => rfl
  have HF := Lib.hid hf
  have HG := Lib.hid hg
  have H9 := Lib.hid h9
  have HON := Lib.hid hon
  have HARM := Lib.hid harm
  have HU := Lib.hid hu
  have hsz9 := hg.size
  have hsl := segs_le f hf.wf
  have hseg : ∀ s, s ∈ f.segs → okName s = true ∧ (mget f.now s).isSome = true := fun s hs => by
    rw [fsegs_eq] at hs
    obtain ⟨n, hn, rfl⟩ := List.mem_map.1 hs
    obtain ⟨m1, m2, m3⟩ := mem_numsOf.1 hn
    exact ⟨okName_seg m2, mget_isSome.2 m3⟩
  have HSEG := Lib.hid hseg
  have LTG : Hid (∀ k, G k → k < w.heap.size) := Lib.hid hf.lt
  clear hf hg h9 hon harm hu hseg
  go_enter Tryz.func31, Tryz.ntmps31
  go_wp2_with fail
  have W0 : Hid (WlAt (w.alloc (.cells #[.pointer (some ⟨fb, 0, none⟩), .string ⟨#[]⟩, .slice none 0 0, .int .i64 1, .int .i64 0, .string ⟨#[]⟩, .bool false] 45)).heap w.heap.size (some ⟨fb, 0, none⟩) (wlOf none) (BSet.one w.heap.size)) := Lib.hid
    ⟨rfl, fun k hk => by rw [show k = w.heap.size from hk]; simp, .slice none 0 0, at_new, owns_nil _ _ _⟩
  have M0 : Hid (Mod BSet.none w (w.alloc (.cells #[.pointer (some ⟨fb, 0, none⟩), .string ⟨#[]⟩, .slice none 0 0, .int .i64 1, .int .i64 0, .string ⟨#[]⟩, .bool false] 45))) := Lib.hid ((Mod.refl _ _).alloc _)
  refine (wnames_any fb f G _ (by exact HF.out.mod0 M0.out) (by exact HG.out.mod0 M0.out)).mono ?_
  rintro e w1 ⟨v, rfl, hv, hin, hm1⟩
  have hz1 := hm1.size
  simp at hz1
  have W1 := Lib.hid (W0.out.keep hm1 (fun _ _ h => h))
  have M1 := Lib.hid (M0.out.trans hm1 (fun _ _ h => h))
  have F1 := Lib.hid (HF.out.mod0 M1.out)
  obtain ⟨va, vc, rfl, hvl, hvx⟩ := hv
  rw [strs_length] at hvl hvx hin ⊢
  have VX := Lib.hid hvx
  have VI : Hid (SlIn (fun k => w.heap.size + 1 ≤ k ∧ k < w1.heap.size) (.slice va f.segs.length vc)) := Lib.hid (hin.mono (fun k hk => by
    rcases hk with hk | hk
    · exact hk.elim
    · simpa using hk))
  have SY : Hid (∀ j, j ≤ f.segs.length → SyAll f (syncAll f (f.segs.take j)) (f.segs.take j)) := Lib.hid (fun j _ => (syncAll_ok (f.segs.take j) f HF.out.wf HON.out HARM.out (fun s hs => HSEG.out s (List.mem_of_mem_take hs))).1)
  clear hm1 hvx hin
  go_wp2_with fail
  go_loopw [8, 9, 24] (fun _ _ i wr => ∃ j : Nat, j ≤ f.segs.length ∧ i = .int .i64 j ∧ FsRep wr.heap fb (syncAll f (f.segs.take j)) (grow G w1 wr) ∧ Mod G w1 wr) (fun _ _ i _ => f.segs.length - (intOf i).toNat)
  case atStart => exact ⟨0, by omega, rfl, by rw [grow_self]; exact F1.out, Mod.refl _ _⟩
  case round =>
    obtain ⟨j, hj, rfl, hfr, hmr⟩ := hrel
    obtain ⟨wo, rfl⟩ : ∃ wo : World, wo = wr := ⟨_, rfl⟩
    have FR := Lib.hid hfr
    have MR := Lib.hid hmr
    have hzr := hmr.size
    clear hfr hmr
    by_cases hlt : j < f.segs.length
    · obtain ⟨s, hs⟩ : ∃ s, f.segs[j] = s := ⟨_, rfl⟩
      have hmem : s ∈ f.segs := hs ▸ List.getElem_mem hlt
      obtain ⟨hs1, hs2, hs3, hs4⟩ := segs_mem hmem
      obtain ⟨vb, vo, cs, vt, vfr, rfl, hvb, hvc⟩ := VX.out (by intro h; have := congrArg List.length h; simp at this; rw [this] at hlt; simp at hlt)
      have hvw := VI.out (by omega : 0 < f.segs.length)
      have hcell : wo.cell? ⟨vb, vo + j, none⟩ = some (.string s) := by
        rw [cell_of_at (MR.out.at hvb (fun h => by have := LTG.out _ h; have h2 : w.heap.size + 1 ≤ vb := hvw.1; omega)), hvc j hlt]
        simp [strs, hlt, hs]
      have hzero : ((syncAll f (f.segs.take j)).sync s).2 = 0 := by
        have h1 := SY.out j hj
        exact (syncAll_ok [s] _ h1.wf h1.on h1.armed (fun t ht => by
          simp at ht; subst ht
          have := HSEG.out t hmem
          rw [h1.now]; exact this)).2 s (by simp)
      have HZ := Lib.hid hzero
      have HNX : Hid (syncAll f (f.segs.take (j + 1)) = ((syncAll f (f.segs.take j)).sync s).1) := Lib.hid (by rw [syncAll_take f f.segs j hlt, hs])
      have hszm : s.size ≤ maxLen := by unfold maxLen; omega
      clear hs hs1 hvb hvc hvw hzero hmem
      go_wp2_with fail
      refine (sync_any fb (syncAll f (f.segs.take j)) (grow G w1 wo) s _ FR.out hszm).mono ?_
      rintro e w2 ⟨rfl, hf2, hm2⟩
      rw [HZ.out]
      rw [← HNX.out, grow_trans hzr hm2.size] at hf2
      have F2 := Lib.hid hf2
      have M2 : Hid (Mod G w1 w2) := Lib.hid (MR.out.trans hm2 (fun k hk h => by
        rcases h with h | h
        · exact h
        · omega))
      clear hf2 hm2
      go_wp2
      go_roundw
      case rel => exact ⟨j + 1, by omega, by go_num, F2.out, M2.out⟩
      case measure => simp [intOf] <;> omega
    · have hjE : j = f.segs.length := by omega
      rw [hjE, List.take_length] at FR
      have SYA := SY.out f.segs.length (Nat.le_refl _)
      rw [List.take_length] at SYA
      obtain ⟨f1, hf1⟩ : ∃ f1, syncAll f f.segs = f1 := ⟨_, rfl⟩
      have HF1 := Lib.hid hf1
      rw [hf1] at FR SYA
      have SYL := Lib.hid SYA
      have hsegs : f1.segs = f.segs := by rw [fsegs_eq, fsegs_eq, SYL.out.now]
      have HSG := Lib.hid hsegs
      have hu1 : f1.used = f.used := by rw [used_eq, used_eq, SYL.out.now]; exact usedOf_congr (fun p _ => by rw [SYL.out.bytes])
      have HU1 : Hid (f1.used ≤ 1099511627776) := Lib.hid (by rw [hu1]; exact HU.out)
      have WR : Hid (WlAt wo.heap w.heap.size (some ⟨fb, 0, none⟩) (wlOf none) (BSet.one w.heap.size)) := Lib.hid (W1.out.keep MR.out (fun k hk h => by
        have h1 : k = w.heap.size := hk
        have := LTG.out k h; omega))
      have DIS : Hid (∀ k, BSet.one w.heap.size k → ¬ grow G w1 wo k) := Lib.hid (fun k hk h => by
        have h1 : k = w.heap.size := hk
        rcases h with h | h
        · have := LTG.out k h; omega
        · omega)
      have GL : Hid (Globs wo) := Lib.hid ((HG.out.mod0 M1.out).mod MR.out H9.out)
      have SLV : Hid (SlAt wo.heap (.slice va f.segs.length vc) (strs f1.segs)) := Lib.hid (by
        rw [HSG.out]
        have : SlAt w1.heap (.slice va f.segs.length vc) (strs f.segs) := ⟨va, vc, by rw [strs_length], by rw [strs_length]; exact hvl, fun h => by rw [strs_length]; exact VX.out h⟩
        exact this.mod MR.out (fun b' o n c e hn h => by
          cases e
          have h1 := (VI.out hn).1
          have h2 : w.heap.size + 1 ≤ b' := h1
          have := LTG.out _ h; omega))
      have SLI : Hid (SlIn (fun k => ¬ BSet.one w.heap.size k) (.slice va f.segs.length vc)) := Lib.hid (VI.out.mono (fun k hk h => by
        have h1 : k = w.heap.size := h
        omega))
      have OK0 : Hid (wlOf none).Ok := Lib.hid ⟨by decide, by decide, by decide, by decide⟩
      clear hjE SYA hf1 hsegs hu1
      go_wp2_with fail
      refine (load_any w.heap.size fb (BSet.one w.heap.size) (grow G w1 wo) f1 (wlOf none) _ wo FR.out WR.out DIS.out GL.out SYL.out.on HU1.out rfl OK0.out SLV.out SLI.out).mono ?_
      rintro e w3 ⟨rfl, hl3, hm3⟩
      obtain ⟨ld, hld⟩ : ∃ ld, f1.loaded = ld := ⟨_, rfl⟩
      rw [hld] at hl3
      rw [hld]
      have HLD := Lib.hid hld
      have hz3 := hm3.size
      have OK3 : Hid (ldL (wlOf none) ld).Ok := Lib.hid (by
        cases ld with
        | none => exact OK0.out
        | some x =>
          have := loaded_bd SYL.out.wf SYL.out.on hld
          have hu2 := HU1.out
          exact ⟨this.1, by show x.first ≤ _; omega, by show x.recs.length ≤ _; omega, Nat.zero_le _⟩)
      have hfrom : fromOf ld ≤ 99999999 := by
        cases ld with
        | none => exact Nat.zero_le _
        | some x => exact (loaded_bd SYL.out.wf SYL.out.on hld).2.2.2.2
      have hfrom0 : (fromOf ld = 0) ↔ ld = none := by
        cases ld with
        | none => simp [fromOf]
        | some x =>
          have := (loaded_bd SYL.out.wf SYL.out.on hld).2.2.2.1
          show x.num = 0 ↔ _
          simp; omega
      have F0N : Hid (∀ k, grow (BSet.one w.heap.size) wo w3 k → w.heap.size ≤ k ∧ ¬ grow G w1 wo k) := Lib.hid (fun k hk => by
        rcases hk with hk | hk
        · have h1 : k = w.heap.size := hk
          exact ⟨by omega, DIS.out k hk⟩
        · refine ⟨by omega, fun h => ?_⟩
          rcases h with h | h
          · have := LTG.out k h; omega
          · omega)
      have G0N : Hid (∀ k, grow G w1 wo k → G k ∨ w.heap.size ≤ k) := Lib.hid (fun k hk => by
        rcases hk with hk | hk
        · exact .inl hk
        · exact .inr (by omega))
      have MW3 : Hid (Mod G w w3) := Lib.hid (((M1.out.none_any (F := G)).trans MR.out (fun _ _ h => h)).trans hm3 (fun k hk h => by have h1 : k = w.heap.size := h; omega))
      have R3 : Hid (WRep w3 w.heap.size fb f1 (ldL (wlOf none) ld) (grow (BSet.one w.heap.size) wo w3) (grow G w1 wo)) := Lib.hid ⟨FR.out.mod hm3 (fun k hk h => DIS.out k h hk), hl3, fun k hk => (F0N.out k hk).2, fun k hk => by
        rcases hk with hk | hk
        · have := (F0N.out k hk).1; omega
        · rcases G0N.out k hk with h | h
          · exact H9.out k h
          · omega⟩
      -- the end, whatever is done from here on
      have FIN : Hid (∀ (w' : World) (l' : Wl) (f' : Fs) (G' : BSet), WRep w' w.heap.size fb f' l' (grow (BSet.one w.heap.size) wo w3) G' → WGo (grow (BSet.one w.heap.size) wo w3) (grow G w1 wo) w3 w' (grow (BSet.one w.heap.size) wo w3) G' →
          Mod G w w' ∧ (∀ k, grow (BSet.one w.heap.size) wo w3 k → w.heap.size ≤ k ∧ k < w'.heap.size) ∧ (∀ k, G' k → G k ∨ (w.heap.size ≤ k ∧ k < w'.heap.size))) := Lib.hid (fun w' l' f' G' hr hg => by
        refine ⟨MW3.out.trans hg.mod (fun k hk h => ?_), fun k hk => ⟨(F0N.out k hk).1, hr.wl.lt k hk⟩, fun k hk => ?_⟩
        · rcases h with h | h
          · have := (F0N.out k h).1; omega
          · rcases G0N.out k h with h | h
            · exact h
            · omega
        · have hlt := hr.fs.lt k hk
          rcases hg.sub k (.inr hk) with (h | h) | h
          · exact .inr ⟨(F0N.out k h).1, hlt⟩
          · rcases G0N.out k h with h | h
            · exact .inl h
            · exact .inr ⟨h, hlt⟩
          · exact .inr ⟨by have := MW3.out.size; omega, hlt⟩)
      clear hl3 hm3 hld
      go_wp2_with fail
      have M4 : Hid (Mod BSet.none w3 (w3.alloc (.cells #[.int .i64 (fromOf ld : Nat)] 3))) := Lib.hid ((Mod.refl _ _).alloc _)
      have R4 := Lib.hid (R3.out.keep M4.out)
      have t4 : (w3.alloc (.cells #[.int .i64 (fromOf ld : Nat)] 3)).cell? ⟨w3.heap.size, 0, none⟩ = some (.int .i64 (fromOf ld : Nat)) := cell_of_at at_new 0
      generalize hw4 : w3.alloc (.cells #[.int .i64 (fromOf ld : Nat)] 3) = w4
      rw [hw4] at M4 R4 t4
      have hz4 : w3.heap.size < w4.heap.size := by rw [← hw4]; simp
      clear hw4
      have LO := last_ok OK3.out
      have LASTE : Hid (ldL (wlOf none) ld = ldL (wlOf none) ld) := Lib.hid rfl
      obtain ⟨l3, hl3⟩ : ∃ l3, ldL (wlOf none) ld = l3 := ⟨_, rfl⟩
      rw [hl3] at R4 R3 OK3 LO
      have HL3 := Lib.hid hl3
      clear hl3
      refine (wlast_any w.heap.size ⟨fb, 0, none⟩ l3 _ w4 R4.out.wl OK3.out).mono ?_
      rintro e w5' ⟨rfl, n5, rfl⟩
      obtain ⟨rv5, hb5, hrv5⟩ := R4.out.wl.ex
      have hb5' : (w4.drewN n5).heap[w.heap.size]? = some (.cells (wlCells (some ⟨fb, 0, none⟩) l3 rv5) 45 (0, 0)) := hb5
      have d4 := (wcells hb5').c4
      have e4 : (w4.drewN n5).frozen? ⟨w.heap.size, 4, none⟩ = false := free_of_at hb5' 4
      have R5 : Hid (WRep ((w4.drewN n5).setCell ⟨w.heap.size, 4, none⟩ (.int .i64 l3.last)) w.heap.size fb f1 { l3 with firm := l3.last } (grow (BSet.one w.heap.size) wo w3) (grow G w1 wo) ∧ WGo (grow (BSet.one w.heap.size) wo w3) (grow G w1 wo) w4 ((w4.drewN n5).setCell ⟨w.heap.size, 4, none⟩ (.int .i64 l3.last)) (grow (BSet.one w.heap.size) wo w3) (grow G w1 wo)) := Lib.hid (by
        have hm5 : Mod (BSet.one w.heap.size) w4 ((w4.drewN n5).setCell ⟨w.heap.size, 4, none⟩ (.int .i64 l3.last)) := ((Mod.refl (BSet.one w.heap.size) w4).drewN n5).setCell (.inl (show BSet.one w.heap.size w.heap.size from rfl)) _
        refine R4.out.wlCall (l' := { l3 with firm := l3.last }) (R4.out.wl.set (l' := { l3 with firm := l3.last }) (rv := rv5) hrv5 hm5 ?_) hm5
        rw [at_setCell_same hb5']; rfl)
      have t5 : ((w4.drewN n5).setCell ⟨w.heap.size, 4, none⟩ (.int .i64 l3.last)).cell? ⟨w3.heap.size, 0, none⟩ = some (.int .i64 (fromOf ld : Nat)) := by
        have hmm : Mod (BSet.one w.heap.size) (w4.drewN n5) ((w4.drewN n5).setCell ⟨w.heap.size, 4, none⟩ (.int .i64 l3.last)) := mod_one _ _ _ _
        exact hmm.cell (w := w4.drewN n5) t4 (fun h => by
          have h1 : w3.heap.size = w.heap.size := h
          have := MW3.out.size
          omega)
      clear hb5 hrv5 hb5'
      go_wp2_with fail
      generalize hw5 : (w4.drewN n5).setCell ⟨w.heap.size, 4, none⟩ (.int .i64 l3.last) = w5
      rw [hw5] at R5 t5
      have OK5 : Hid (({ l3 with firm := l3.last } : Wl).Ok) := Lib.hid ⟨OK3.out.one, OK3.out.first, OK3.out.recs, LO.1⟩
      have L5 : Hid (wlOf ld = { l3 with firm := l3.last }) := Lib.hid (by rw [← HL3.out]; cases ld <;> rfl)
      obtain ⟨l5, hl5⟩ : ∃ l5, ({ l3 with firm := l3.last } : Wl) = l5 := ⟨_, rfl⟩
      rw [hl5] at R5 OK5 L5
      have LO5 := last_ok OK5.out
      clear hl5
      have GO5 := Lib.hid ((WGo.refl M4.out).trans R5.out.2)
      have GL5 : Hid (Globs w5) := Lib.hid ((HG.out.mod MW3.out H9.out).mod GO5.out.mod R3.out.ge)
      have hz5 : w4.heap.size ≤ w5.heap.size := R5.out.2.mod.size
      have hwr : IntKind.i64.wrap (((l5.last : Nat) : Int) + 1) = ((l5.last + 1 : Nat) : Int) := by rw [IntWalk.i64_in _ (by omega)]; simp
      have LEN1 : Hid (f1.since.length ≤ 500000000) := Lib.hid (by rw [SYL.out.since]; exact hlen)
      have TKEEP : Hid (∀ (a c : World), Mod (fun k => (grow (BSet.one w.heap.size) wo w3) k ∨ (grow G w1 wo) k) a c → a.cell? ⟨w3.heap.size, 0, none⟩ = some (.int .i64 (fromOf ld : Nat)) → c.cell? ⟨w3.heap.size, 0, none⟩ = some (.int .i64 (fromOf ld : Nat))) := Lib.hid (fun a c hm hc => hm.cell hc (fun h => by
        rcases h with h | h
        · have h1 : w3.heap.size < w3.heap.size := R3.out.wl.lt _ h
          omega
        · have h1 : w3.heap.size < w3.heap.size := R3.out.fs.lt _ h
          omega))
      obtain ⟨kb, hkb⟩ : ∃ kb : Bool, (((fromOf ld : Nat) : Int) == 0) = kb := ⟨_, rfl⟩
      have KB : Hid (kb = (fromOf ld == 0)) := Lib.hid (by
        rw [← hkb, Bool.eq_iff_iff]; simp)
      have hll : l5.last + 1 < 9223372036854775808 := by omega
      have hsz5 : 9 ≤ w5.heap.size := by omega
      clear hw5 d4 e4 t4
      go_wp2
      first | (go_region_held3 (fun w' => w'.cell? ⟨w3.heap.size, 0, none⟩ = some (.int .i64 (fromOf ld : Nat)))
        (first | exact t8 | exact t5)
        (first | (go_at_call 32; refine (wlast_any w.heap.size ⟨fb, 0, none⟩ l5 _ _ (by exact R5.out.1.wl) OK5.out).mono ?_; rintro e w6 ⟨rfl, n6, rfl⟩; have R6 := Lib.hid (R5.out.1.keep ((Mod.refl BSet.none w5).drewN (1 + n6)))) | (go_at_call 69; refine (begin_any w.heap.size fb _ _ f1 l5 (l5.last + 1) kb ⟨#[]⟩ _ (by exact R6.out.fs) (by exact R6.out.wl) R6.out.dis (by exact GL5.out.mod0 ((Mod.refl BSet.none w5).drewN (1 + n6))) R6.out.ge (Nat.le_trans LEN1.out (by decide)) hll (by decide)).mono ?_; rintro e w8 hbeg; obtain ⟨nid, hn, rfl, hr8, hg8⟩ := begP_rep R6.out hsz5 hbeg; have N8 := Lib.hid hn; have R8 := Lib.hid hr8; have G8 := Lib.hid hg8; have t8 : w8.cell? ⟨w3.heap.size, 0, none⟩ = some (.int .i64 (fromOf ld : Nat)) := TKEEP.out _ _ hg8.mod t5; clear hbeg hn hr8 hg8))) | fail
      have GO8 := Lib.hid ((GO5.out.trans (.refl ((Mod.refl BSet.none w5).drewN (1 + n6)))).trans G8.out)
      have NF : Hid (nid ∉ f.ids) := Lib.hid (by
        have := N8.out
        unfold Fs.ids at this ⊢
        rw [SYL.out.now, SYL.out.firm, SYL.out.since] at this
        exact this)
      have SINCE := beginW_since f1 l5 nid (l5.last + 1) kb ⟨#[]⟩
      have hsince : (beginW f1 l5 nid (l5.last + 1) kb ⟨#[]⟩).1.since.length ≤ 500000005 := Nat.le_trans SINCE (by have := LEN1.out; omega)
      have OPEN : Hid (openW f nid = if (beginW f1 l5 nid (l5.last + 1) kb ⟨#[]⟩).2.2 ≠ 0 then beginW f1 l5 nid (l5.last + 1) kb ⟨#[]⟩ else dropW (fun n => decide (n < fromOf ld)) (beginW f1 l5 nid (l5.last + 1) kb ⟨#[]⟩).1.segs (beginW f1 l5 nid (l5.last + 1) kb ⟨#[]⟩).1 (beginW f1 l5 nid (l5.last + 1) kb ⟨#[]⟩).2.1) := Lib.hid (by
        unfold openW
        simp only
        rw [HF1.out, HLD.out, L5.out, KB.out])
      obtain ⟨⟨rf, l8, x⟩, hbw⟩ : ∃ r, beginW f1 l5 nid (l5.last + 1) kb ⟨#[]⟩ = r := ⟨_, rfl⟩
      rw [hbw] at R8 OPEN hsince
      rw [hbw]
      have SN := Lib.hid hsince
      clear hbw hsince SINCE
      by_cases hx : x = 0
      · subst hx
        have hsz8 : 9 ≤ w8.heap.size := by have := GO8.out.mod.size; omega
        have GL8 : Hid (Globs w8) := Lib.hid ((HG.out.mod MW3.out H9.out).mod GO8.out.mod R3.out.ge)
        have GONE : Hid (GoneP (fun k => k = w.heap.size ∨ (grow (grow G w1 wo) (w5.drewN (1 + n6)) w8) k) 82 #[.pointer (some ⟨w3.heap.size, 0, none⟩)] (fun n => decide (n < fromOf ld)) w8) := Lib.hid (gone82 _ _ _ _ t8 (fun h => by
          have h3 := MW3.out.size
          have h4 : w.heap.size < w3.heap.size := R3.out.wl.lt _ R3.out.wl.own
          rcases h with h | (h | h)
          · omega
          · have h1 : w3.heap.size < w3.heap.size := R3.out.fs.lt _ h
            omega
          · have h5 : (w5.drewN (1 + n6)).heap.size = w5.heap.size := rfl
            omega))
        have h82 : Enters 82 := fun args w => by kernel_rfl
        have H82 := Lib.hid h82
        clear h82 t8 t5
        go_wp2_with fail
        refine (drop_any w.heap.size fb _ _ rf l8 (fun n => decide (n < fromOf ld)) 82 _ w8 R8.out.fs R8.out.wl R8.out.dis GL8.out R8.out.ge (Nat.le_trans SN.out (by decide)) H82.out GONE.out).mono ?_
        rintro e w9 hdp
        obtain ⟨rfl, hr9, hg9⟩ := dropP_rep R8.out hsz8 hdp
        have R9 := Lib.hid hr9
        have GO9 := Lib.hid (GO8.out.trans hg9)
        have OPEN2 : Hid (openW f nid = dropW (fun n => decide (n < fromOf ld)) rf.segs rf l8) := Lib.hid (by rw [OPEN.out]; simp)
        obtain ⟨⟨rf2, l9, x9⟩, hdw⟩ : ∃ r, dropW (fun n => decide (n < fromOf ld)) rf.segs rf l8 = r := ⟨_, rfl⟩
        rw [hdw] at R9 OPEN2
        rw [hdw]
        clear hdp hr9 hg9 hdw
        by_cases hx9 : x9 = 0
        · subst hx9
          go_wp2
          go_ret2
          obtain ⟨q1, q2, q3⟩ := FIN.out _ _ _ _ R9.out GO9.out
          refine ⟨nid, NF.out, q1, .inl ⟨by rw [OPEN2.out], w.heap.size, _, _, rfl, by rw [OPEN2.out]; exact R9.out, q2, q3⟩⟩
        · have hxb : (x9 != 0) = true := by simpa using hx9
          have HX9 := Lib.hid hx9
          clear hx9
          go_wp2
          go_ret2
          obtain ⟨q1, q2, q3⟩ := FIN.out _ _ _ _ R9.out GO9.out
          refine ⟨nid, NF.out, q1, .inr ⟨by rw [OPEN2.out]; exact HX9.out, by rw [OPEN2.out]; rfl, ?_⟩⟩
          rw [OPEN2.out]
          refine R9.out.fs.weaken (fun k hk => ?_) (fun k hk => ?_)
          · exact q3 k hk
          · rcases hk with hk | hk
            · have := LTG.out k hk; have := q1.size; omega
            · exact hk.2
      · have hxb : (x != 0) = true := by simpa using hx
        have HX := Lib.hid hx
        have OPEN2 : Hid (openW f nid = (rf, l8, x)) := Lib.hid (by rw [OPEN.out, if_pos hx])
        clear hx
        go_wp2
        go_ret2
        obtain ⟨q1, q2, q3⟩ := FIN.out _ _ _ _ R8.out GO8.out
        refine ⟨nid, NF.out, q1, .inr ⟨by rw [OPEN2.out]; exact HX.out, by rw [OPEN2.out]; rfl, ?_⟩⟩
        rw [OPEN2.out]
        refine R8.out.fs.weaken (fun k hk => ?_) (fun k hk => ?_)
        · exact q3 k hk
        · rcases hk with hk | hk
          · have := LTG.out k hk; have := q1.size; omega
          · exact hk.2
end Go.Proofs.YthogefmngddnbaaGreatDoor
