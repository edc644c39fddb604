/- wal.read: the walk. -/
import Derived.Test.YthogefmngddnbaaGreatDoorZb
import Derived.Laws.ResultCell
import Derived.Laws.Rows
import Derived.Deep.RegionHeld3
import Derived.Deep.DeepCutAuto
set_option linter.unusedVariables false
set_option linter.unusedSimpArgs false
namespace Go.Proofs.YthogefmngddnbaaGreatDoor
open Go.RowKit

theorem scanF_bound (s : ByteArray) : ∀ (f a : Nat), a ≤ s.size → (scanF s f a).1.length + a ≤ s.size ∧ ∀ b, b ∈ (scanF s f a).1 → b.size ≤ 70000 := by
  intro f
  induction f with
  | zero => intro a ha; exact ⟨by simp [scanF]; exact ha, by simp [scanF]⟩
  | succ f ih =>
    intro a ha
    rw [scanF]
    split
    · next h0 =>
      obtain ⟨h1, h2, h3⟩ := fgetOf_whole ha h0
      obtain ⟨i1, i2⟩ := ih _ h2
      refine ⟨by simp only [List.length_cons]; omega, ?_⟩
      intro b hb
      rcases List.mem_cons.1 hb with rfl | hb
      · exact h3
      · exact i2 b hb
    · exact ⟨by simp; exact ha, by simp⟩
theorem scanOf_bound (s : ByteArray) : (scanOf s).1.length ≤ s.size ∧ ∀ b, b ∈ (scanOf s).1 → b.size ≤ 70000 := by
  have := scanF_bound s (s.size + 1) 0 (Nat.zero_le _)
  exact ⟨this.1, this.2⟩
structure Seg where
  number : Nat
  first : Nat
  kept : Bool
  state : ByteArray
  recs : List ByteArray
/-- wal.read -/
def readOf (num : Nat) (s : ByteArray) : Seg × Bool :=
  match (scanOf s).1 with
  | [] => (⟨0, 0, false, ⟨#[]⟩, []⟩, false)
  | h :: t =>
    let a := (Rd.new h).small 1099511627776
    let b := a.1.small 1
    let c := b.1.text
    (⟨num, a.2, b.2 == 1, c.2, t⟩, (c.1.fin == 0) && (decide (1 ≤ a.2) && (b.2 == 1 || decide (c.2 = ⟨#[]⟩))))
def segCells (g : Seg) (v : Value) : Array Value := #[.int .i64 g.number, .int .i64 g.first, .bool g.kept, .string g.state, v]
theorem results_cell_row2 {P : Program} {fn : Func} {p u : Tmp} {ty : TypeId} (h : fn.results = #[.cell p ty, .tmp u]) (tmps : Array Value) (w : World) (g : Nat) (t : TypeId) (cs : Array Value) (fr : Nat × Nat) (d : TypeDesc)
    (hp : tmps.getD p undef = .pointer (some ⟨g, 0, none⟩)) (hg : w.heap[g]? = some (.cells cs t fr))
    (hu : P.underlying ty = some d) (hd : (match d with | .struct _ | .array _ _ => true | _ => false) = true) (hi : (P.info? ty).map (·.size) = some cs.size) :
    (results fn tmps).run P w = .ok (.tuple #[.agg cs, tmps.getD u undef]) w := by
  rw [results_cell_tmp h, hp]
  simp only [asAddr, Sem.run_pure, Result.andThen_ok, run_loadVar_row w g t ty cs fr d hg hu hd hi]
def SegReadP (num : Nat) (s : ByteArray) (w : World) (e : Ending) (w' : World) : Prop :=
  ∃ v, e = .returned (.tuple #[.agg (segCells (readOf num s).1 v), .bool (readOf num s).2]) ∧ SlAt w'.heap v (strs (readOf num s).1.recs) ∧ SlIn (grow BSet.none w w') v ∧ Mod BSet.none w w'
set_option maxRecDepth 100000 in
set_option maxHeartbeats 6000000 in
theorem segRead_any (num : Nat) (s : ByteArray) (w : World) (hs : s.size ≤ 1099511627776) (hg : Globs w) : Calls Tryz.prog 133 #[.int .i64 num, .string s] w (SegReadP num s w) := by
  have HG := Lib.hid hg
  have hsz := hg.size
  obtain ⟨L, hL⟩ : ∃ L, (scanOf s).1 = L := ⟨_, rfl⟩
  have HL := Lib.hid hL
  have hm0 := Lib.hid ((Mod.refl BSet.none w).alloc (.cells #[.int .i64 0, .int .i64 0, .bool false, .string ⟨#[]⟩, .slice none 0 0] 167))
  clear hg
  cases L with
  | nil =>
    go_enter Tryz.func133, Tryz.ntmps133
    go_wp2_with fail
    refine (scan_any s _ hs (HG.out.sum.mod hm0.out (fun _ h => h.elim)) (by simp; omega)).mono ?_
    rintro e w1 ⟨v, rfl, ho, hm⟩
    rw [HL.out] at ho
    obtain ⟨a, c, rfl⟩ : ∃ a c, v = .slice a 0 c := by
      rcases ho.2 with ⟨rfl, _⟩ | ⟨g, cap, cur, rfl, _⟩
      · exact ⟨_, _, rfl⟩
      · exact ⟨_, _, rfl⟩
    · have b0 : w1.heap[w.heap.size]? = _ := hm.at at_new (fun h => h)
      have f0 := free_of_at b0 0
      have f1 := free_of_at b0 1
      have f2 := free_of_at b0 2
      have f3 := free_of_at b0 3
      have f4 := free_of_at b0 4
      have c0 := cell_of_at b0 0
      have c1 := cell_of_at b0 1
      have c2 := cell_of_at b0 2
      have c3 := cell_of_at b0 3
      have c4 := cell_of_at b0 4
      have hlt := lt_of_at b0
      go_wp2
      have hfin : ((((((w1.setCell ⟨w.heap.size, 0, none⟩ (.int .i64 0)).setCell ⟨w.heap.size, 1, none⟩ (.int .i64 0)).setCell ⟨w.heap.size, 2, none⟩ (.bool false)).setCell ⟨w.heap.size, 3, none⟩ (.string ⟨#[]⟩)).setCell ⟨w.heap.size, 4, none⟩ (.slice none 0 0)).heap)[w.heap.size]? = some (.cells #[.int .i64 0, .int .i64 0, .bool false, .string ⟨#[]⟩, .slice none 0 0] 167 (0, 0)) := by
        rw [at_setCell_same (at_setCell_same (at_setCell_same (at_setCell_same (at_setCell_same b0))))]
        rfl
      refine bodyPost_ret (results_cell_row2 rfl _ _ _ _ _ _ _ rfl hfin Tryz.underlying167 rfl (by kernel_rfl)) rfl ?_
      have hr : readOf num s = (⟨0, 0, false, ⟨#[]⟩, []⟩, false) := by unfold readOf; rw [HL.out]
      have hmod : Mod BSet.none w w1 := hm0.out.trans hm (fun _ _ h => h)
      refine ⟨.slice none 0 0, by rw [hr]; rfl, by rw [hr]; exact ⟨none, 0, rfl, by simp [strs], fun h => (h rfl).elim⟩, trivial, ?_⟩
      exact ((((hmod.setCell (.inr (Nat.le_refl _)) _).setCell (.inr (Nat.le_refl _)) _).setCell (.inr (Nat.le_refl _)) _).setCell (.inr (Nat.le_refl _)) _).setCell (.inr (Nat.le_refl _)) _
  | cons h t =>
    have hlen : h.size ≤ 1099511627776 ∧ t.length ≤ 1099511627776 := by
      have hb := scanOf_bound s
      rw [hL] at hb
      exact ⟨Nat.le_trans (hb.2 h List.mem_cons_self) (by decide), by have := hb.1; simp at this; omega⟩
    obtain ⟨hh, htl⟩ := hlen
    have HR0 := Lib.hid (Rd.Ok.new h hh)
    have HR1 := Lib.hid (HR0.out.small 1099511627776).1
    have HR2 := Lib.hid (HR1.out.small 1).1
    have HR3 := Lib.hid HR2.out.text.1
    have hf1 := (HR0.out.small 1099511627776).2.2
    have hf2 := (HR1.out.small 1).2.2
    obtain ⟨A, hA⟩ : ∃ A, (Rd.new h).small 1099511627776 = A := ⟨_, rfl⟩
    rw [hA] at HR1 HR2 HR3 hf1 hf2
    obtain ⟨B, hB⟩ : ∃ B, A.1.small 1 = B := ⟨_, rfl⟩
    rw [hB] at HR2 HR3 hf2
    obtain ⟨C, hC⟩ : ∃ C, B.1.text = C := ⟨_, rfl⟩
    rw [hC] at HR3
    have hr : readOf num s = (⟨num, A.2, B.2 == 1, C.2, t⟩, (C.1.fin == 0) && (decide (1 ≤ A.2) && (B.2 == 1 || decide (C.2 = ⟨#[]⟩)))) := by unfold readOf; rw [HL.out]; simp only [hA, hB, hC]
    have HRD := Lib.hid hr
    have HA := Lib.hid hA
    have HB := Lib.hid hB
    have HC := Lib.hid hC
    obtain ⟨kb, hkb⟩ : ∃ kb, (B.2 == 1) = kb := ⟨_, rfl⟩
    have hkbZ : ((B.2 : Int) == 1) = kb := by
      rw [← hkb, Bool.eq_iff_iff]; simp; omega
    have HKB := Lib.hid hkb
    clear hA hB hC hr hL hkb
    go_enter Tryz.func133, Tryz.ntmps133
    go_wp2_with fail
    refine (scan_any s _ hs (HG.out.sum.mod hm0.out (fun _ h => h.elim)) (by simp; omega)).mono ?_
    rintro e w1 ⟨v, rfl, ho, hm⟩
    rw [HL.out] at ho
    obtain ⟨g, cap, rfl⟩ : ∃ g cap, v = .slice (some ⟨g, 0, none⟩) (t.length + 1) cap := ho.form
    have hc0 : w1.cell? ⟨g, 0, none⟩ = some (.string h) := by
      have := ho.row.cells (g := g) rfl 0 (.string h) rfl
      exact this
    have HO := Lib.hid ho
    have hmw := hm0.out.trans hm (fun _ _ h => h)
    have hsz1 := hm.size
    have HM := Lib.hid hmw
    have b0 := Lib.hid (hm.at at_new (fun h => h) : w1.heap[w.heap.size]? = _)
    clear ho hm hmw
    go_wp2_with fail
    refine (read_new h _).mono ?_
    rintro e w2 ⟨rfl, hrd, hm2⟩
    have RD := Lib.hid hrd
    have HM2 := Lib.hid hm2
    have hsz2 := hm2.size
    clear hrd hm2
    go_wp2_with fail
    refine (small_any w1.heap.size 1099511627776 (Rd.new h) _ (by exact RD.out) HR0.out (by omega)).mono ?_
    rw [HA.out]
    rintro e w3 ⟨rfl, hrd3, hm3⟩
    have RD3 := Lib.hid hrd3
    have HM3 := Lib.hid hm3
    have hsz3 := hm3.size
    clear hrd3 hm3
    go_wp2_with fail
    have hne13 : w3.heap.size ≠ w1.heap.size := by have := lt_of_at RD.out; omega
    refine (small_any w1.heap.size 1 A.1 _ (by exact at_alloc RD3.out) HR1.out (by omega)).mono ?_
    rw [HB.out]
    rintro e w4 ⟨rfl, hrd4, hm4⟩
    have RD4 := Lib.hid hrd4
    have HM4 := Lib.hid hm4
    have hsz4 := hm4.size
    have b4 := Lib.hid (hm4.at at_new (fun h => hne13 h) : w4.heap[w3.heap.size]? = _)
    have f4 := free_of_at b4.out 2
    have c42 : w4.cell? ⟨w3.heap.size, 2, none⟩ = some (.bool false) := cell_of_at b4.out 2
    have hlt4 := lt_of_at b4.out
    clear hrd4 hm4
    go_wp2_with fail
    refine (text_any w1.heap.size B.1 _ (by exact at_setCell RD4.out (fun h => hne13 h.symm)) HR2.out).mono ?_
    rw [HC.out]
    rintro e w5 ⟨rfl, hrd5, hm5⟩
    have RD5 := Lib.hid hrd5
    have HM5 := Lib.hid hm5
    have hsz5 := hm5.size
    have b5 := Lib.hid (hm5.at (at_setCell_same b4.out) (fun h => hne13 h) : w5.heap[w3.heap.size]? = _)
    have f53 := free_of_at b5.out 3
    have f54 := free_of_at b5.out 4
    have hlt5 := lt_of_at b5.out
    clear hrd5 hm5
    have c53 : w5.cell? ⟨w3.heap.size, 3, none⟩ = some (.string ⟨#[]⟩) := cell_of_at b5.out 3
    have c54 : w5.cell? ⟨w3.heap.size, 4, none⟩ = some (.slice none 0 0) := cell_of_at b5.out 4
    have hcap : t.length + 1 ≤ cap ∧ cap ≤ 9223372036854775807 := by
      rcases HO.out.2 with ⟨h, _⟩ | ⟨g', cap', cur, h, _, _, h1, h2, _⟩
      · cases h
      · cases h; simp only [List.length_cons] at h1; unfold maxLen at h2; omega
    have hvx : ∀ vr, (cap = 1 ∧ vr = .slice (some ⟨g, 0, none⟩) t.length 0 ∨ cap ≠ 1 ∧ vr = .slice (some ⟨g, 1, none⟩) t.length (cap - 1)) → SlAt w1.heap vr (strs t) ∧ SlIn (fun k => k = g) vr := by
      intro vr hv
      obtain ⟨cur, hg, hcs, htk⟩ : ∃ cur, w1.heap[g]? = some (.cells cur 9 (0, 0)) ∧ cur.size = cap ∧ cur.toList.take (t.length + 1) = strs (h :: t) := by
        rcases HO.out.2 with ⟨h1, _⟩ | ⟨g', cap', cur, h1, _, h2, _, _, h3, h4⟩
        · cases h1
        · cases h1
          simp only [List.length_cons, Nat.mul_one] at h3 h4
          exact ⟨cur, h2, h3, h4⟩
      rcases hv with ⟨h1, rfl⟩ | ⟨h1, rfl⟩
      · have ht0 : t = [] := List.length_eq_zero_iff.1 (by omega)
        subst ht0
        exact ⟨⟨_, 0, rfl, Nat.zero_le _, fun h => (h rfl).elim⟩, fun h => absurd h (by decide)⟩
      · refine ⟨⟨some ⟨g, 1, none⟩, cap - 1, by rw [strs_length], by rw [strs_length]; unfold maxLen; omega, fun _ => ⟨g, 1, cur, 9, (0, 0), rfl, hg, fun i hi => ?_⟩⟩, fun _ => rfl⟩
        rw [strs_length] at hi
        have h5 : (strs (h :: t))[i + 1]? = (strs t)[i]? := by simp [strs]
        rw [← h5, ← htk, List.getElem?_take, if_pos (by omega), Nat.add_comm]
        simp
    have fin6 : ∀ (w6 : World) (vr : Value), w6 = (w5.setCell ⟨w3.heap.size, 3, none⟩ (.string C.2)).setCell ⟨w3.heap.size, 4, none⟩ vr →
        w6.heap[w3.heap.size]? = some (.cells #[.int .i64 num, .int .i64 A.2, .bool kb, .string C.2, vr] 167 (0, 0)) ∧ RdAt w6.heap w1.heap.size C.1 ∧
        w6.heap[w.heap.size]? = some (.cells #[.int .i64 0, .int .i64 0, .bool false, .string ⟨#[]⟩, .slice none 0 0] 167 (0, 0)) ∧ Mod BSet.none w w6 ∧ (SlAt w1.heap vr (strs t) → SlAt w6.heap vr (strs t)) ∧ w1.heap.size ≤ w6.heap.size := by
      rintro w6 vr rfl
      have hne1 : w1.heap.size ≠ w3.heap.size := fun h => hne13 h.symm
      have hlt0 := lt_of_at b0.out
      have hne0 : w.heap.size ≠ w1.heap.size := by omega
      have hne03 : w.heap.size ≠ w3.heap.size := by omega
      have hmod4 : Mod BSet.none w1 w4 := by
        have h3 : Mod BSet.none w1 w3 := HM2.out.trans (HM3.out) (fun i hi h => by have : i = w1.heap.size := h; omega)
        exact (h3.alloc _).trans HM4.out (fun i hi h => by have : i = w1.heap.size := h; omega)
      have hmod6 : Mod BSet.none w1 ((w5.setCell ⟨w3.heap.size, 3, none⟩ (.string C.2)).setCell ⟨w3.heap.size, 4, none⟩ vr) := by
        have h5 : Mod BSet.none w1 w5 := (hmod4.setCell (.inr (show w1.heap.size ≤ w3.heap.size by omega)) _).trans HM5.out (fun i hi h => by have : i = w1.heap.size := h; omega)
        exact (h5.setCell (.inr (show w1.heap.size ≤ w3.heap.size by omega)) _).setCell (.inr (show w1.heap.size ≤ w3.heap.size by omega)) _
      refine ⟨?_, at_setCell (at_setCell RD5.out hne1) hne1, hmod6.at b0.out (fun h => h), HM.out.trans hmod6 (fun _ _ h => h), fun h => h.mod0 hmod6, hmod6.size⟩
      rw [at_setCell_same (at_setCell_same b5.out)]
      rfl
    have F6 := Lib.hid fin6
    have VX := Lib.hid hvx
    clear fin6 hvx
    go_upto_region 8 with fail
    go_cut [4, 9, 10] (fun s4 s9 s10 wx => s4 = .pointer (some ⟨w.heap.size, 0, none⟩) ∧ ∃ rb gb va cc, s9 = .pointer (some ⟨rb, 0, none⟩) ∧ s10 = .pointer (some ⟨gb, 0, none⟩) ∧
      wx.heap[gb]? = some (.cells #[.int .i64 num, .int .i64 A.2, .bool kb, .string C.2, .slice (some va) t.length cc] 167 (0, 0)) ∧ RdAt wx.heap rb C.1 ∧ wx.heap[w.heap.size]? = some (.cells #[.int .i64 0, .int .i64 0, .bool false, .string ⟨#[]⟩, .slice none 0 0] 167 (0, 0)) ∧
      Mod BSet.none w wx ∧ SlAt wx.heap (.slice (some va) t.length cc) (strs t) ∧ SlIn (fun k => w.heap.size < k ∧ k < wx.heap.size) (.slice (some va) t.length cc) ∧ gb ≠ w.heap.size ∧ w.heap.size ≤ gb)
    case first =>
      have hgb : w.heap.size < g ∧ g < w1.heap.size := by
        have := HO.out.lt (g := g) rfl
        unfold grow BSet.none at this
        simp at this; omega
      by_cases hc1 : cap = 1
      · have hv := VX.out _ (.inl ⟨hc1, rfl⟩)
        have ht0 := Lib.hid (show t.length = 0 by omega)
        go_wp2
        go_meet
        obtain ⟨b6, rd6, r6, m6, s6, sz6⟩ := F6.out _ _ rfl
        refine ⟨rfl, w1.heap.size, w3.heap.size, ⟨g, 0, none⟩, 0, rfl, rfl, b6, rd6, r6, m6, s6 hv.1, fun _ => ⟨hgb.1, Nat.lt_of_lt_of_le hgb.2 sz6⟩, ?_, ?_⟩
        all_goals (have h0 := lt_of_at b0.out; omega)
      · have hv := VX.out _ (.inr ⟨hc1, rfl⟩)
        go_wp2
        go_meet
        obtain ⟨b6, rd6, r6, m6, s6, sz6⟩ := F6.out _ _ rfl
        refine ⟨rfl, w1.heap.size, w3.heap.size, ⟨g, 1, none⟩, cap - 1, rfl, rfl, b6, rd6, r6, m6, s6 hv.1, fun _ => ⟨hgb.1, Nat.lt_of_lt_of_le hgb.2 sz6⟩, ?_, ?_⟩
        all_goals (have h0 := lt_of_at b0.out; omega)
    case rest =>
      obtain ⟨rfl, rb, gb, va, cc, rfl, rfl, hgb, hrd, hres, hmw, hsl, hsi, hne, hle⟩ := hcut
      clear VX F6 hcap c53 c54 f53 f54 hlt5 b5 hsz5 HM5 RD5 f4 c42 hlt4 b4 hsz4 HM4 RD4 hne13 hsz3 HM3 RD3 hsz2 HM2 RD hc0 HO HM b0 hsz1 HR0 HR1 HR2 hf1 hf2 HA HB HC HL hh htl hkbZ hs HG hsz hm0
      have c0 : wc.cell? ⟨gb, 0, none⟩ = some (.int .i64 num) := cell_of_at hgb 0
      have c1 : wc.cell? ⟨gb, 1, none⟩ = some (.int .i64 A.2) := cell_of_at hgb 1
      have c2 : wc.cell? ⟨gb, 2, none⟩ = some (.bool kb) := cell_of_at hgb 2
      have c3 : wc.cell? ⟨gb, 3, none⟩ = some (.string C.2) := cell_of_at hgb 3
      have c4 : wc.cell? ⟨gb, 4, none⟩ = some (.slice (some va) t.length cc) := cell_of_at hgb 4
      have d0 := free_of_at hres 0
      have d1 := free_of_at hres 1
      have d2 := free_of_at hres 2
      have d3 := free_of_at hres 3
      have d4 := free_of_at hres 4
      have e0 : wc.cell? ⟨w.heap.size, 0, none⟩ = some (.int .i64 0) := cell_of_at hres 0
      have e1 : wc.cell? ⟨w.heap.size, 1, none⟩ = some (.int .i64 0) := cell_of_at hres 1
      have e2 : wc.cell? ⟨w.heap.size, 2, none⟩ = some (.bool false) := cell_of_at hres 2
      have e3 : wc.cell? ⟨w.heap.size, 3, none⟩ = some (.string ⟨#[]⟩) := cell_of_at hres 3
      have e4 : wc.cell? ⟨w.heap.size, 4, none⟩ = some (.slice none 0 0) := cell_of_at hres 4
      have hl1 := lt_of_at hres
      have hl2 := lt_of_at hgb
      have HRES := Lib.hid hres
      have HRDx := Lib.hid hrd
      have HSL := Lib.hid hsl
      have HSI := Lib.hid hsi
      have HMW := Lib.hid hmw
      clear hgb hrd hres hmw hsl hsi
      have keepS : ∀ (w' : World) (u0 u1 u2 u3 u4 : Value), (w'.cell? ⟨gb, 0, none⟩ = some (.int .i64 num) ∧ w'.cell? ⟨gb, 1, none⟩ = some (.int .i64 A.2) ∧ w'.cell? ⟨gb, 2, none⟩ = some (.bool kb) ∧ w'.cell? ⟨gb, 3, none⟩ = some (.string C.2) ∧ w'.cell? ⟨gb, 4, none⟩ = some (.slice (some va) t.length cc)) →
          (((((w'.setCell ⟨w.heap.size, 0, none⟩ u0).setCell ⟨w.heap.size, 1, none⟩ u1).setCell ⟨w.heap.size, 2, none⟩ u2).setCell ⟨w.heap.size, 3, none⟩ u3).setCell ⟨w.heap.size, 4, none⟩ u4).cell? ⟨gb, 0, none⟩ = some (.int .i64 num) ∧ (((((w'.setCell ⟨w.heap.size, 0, none⟩ u0).setCell ⟨w.heap.size, 1, none⟩ u1).setCell ⟨w.heap.size, 2, none⟩ u2).setCell ⟨w.heap.size, 3, none⟩ u3).setCell ⟨w.heap.size, 4, none⟩ u4).cell? ⟨gb, 1, none⟩ = some (.int .i64 A.2) ∧ (((((w'.setCell ⟨w.heap.size, 0, none⟩ u0).setCell ⟨w.heap.size, 1, none⟩ u1).setCell ⟨w.heap.size, 2, none⟩ u2).setCell ⟨w.heap.size, 3, none⟩ u3).setCell ⟨w.heap.size, 4, none⟩ u4).cell? ⟨gb, 2, none⟩ = some (.bool kb) ∧ (((((w'.setCell ⟨w.heap.size, 0, none⟩ u0).setCell ⟨w.heap.size, 1, none⟩ u1).setCell ⟨w.heap.size, 2, none⟩ u2).setCell ⟨w.heap.size, 3, none⟩ u3).setCell ⟨w.heap.size, 4, none⟩ u4).cell? ⟨gb, 3, none⟩ = some (.string C.2) ∧ (((((w'.setCell ⟨w.heap.size, 0, none⟩ u0).setCell ⟨w.heap.size, 1, none⟩ u1).setCell ⟨w.heap.size, 2, none⟩ u2).setCell ⟨w.heap.size, 3, none⟩ u3).setCell ⟨w.heap.size, 4, none⟩ u4).cell? ⟨gb, 4, none⟩ = some (.slice (some va) t.length cc) := by
        intro w' u0 u1 u2 u3 u4 hS
        have ne : ∀ (i j : Nat) (u : Value) (wz : World), (wz.setCell ⟨w.heap.size, i, none⟩ u).cell? ⟨gb, j, none⟩ = wz.cell? ⟨gb, j, none⟩ := fun i j u wz => World.cell?_setCell_other wz ⟨w.heap.size, i, none⟩ ⟨gb, j, none⟩ u (fun h => hne (congrArg Addr.block h).symm)
        simp only [ne]
        exact hS
      have hfinal : ∀ (n : Nat) (b : Bool), (readOf num s).2 = b → ((((((wc.drewN n).setCell ⟨w.heap.size, 0, none⟩ (.int .i64 num)).setCell ⟨w.heap.size, 1, none⟩ (.int .i64 A.2)).setCell ⟨w.heap.size, 2, none⟩ (.bool kb)).setCell ⟨w.heap.size, 3, none⟩ (.string C.2)).setCell ⟨w.heap.size, 4, none⟩ (.slice (some va) t.length cc)).heap[w.heap.size]? = some (.cells #[.int .i64 num, .int .i64 A.2, .bool kb, .string C.2, .slice (some va) t.length cc] 167 (0, 0)) ∧
          SegReadP num s w (.returned (.tuple #[.agg #[.int .i64 num, .int .i64 A.2, .bool kb, .string C.2, .slice (some va) t.length cc], .bool b])) ((((((wc.drewN n).setCell ⟨w.heap.size, 0, none⟩ (.int .i64 num)).setCell ⟨w.heap.size, 1, none⟩ (.int .i64 A.2)).setCell ⟨w.heap.size, 2, none⟩ (.bool kb)).setCell ⟨w.heap.size, 3, none⟩ (.string C.2)).setCell ⟨w.heap.size, 4, none⟩ (.slice (some va) t.length cc)) := by
        intro n b hb
        have hm : Mod BSet.none w (wc.drewN n) := HMW.out.drewN n
        have hh : (wc.drewN n).heap[w.heap.size]? = _ := HRES.out
        have hx : ∀ u0 u1 u2 u3 u4, Mod (BSet.one w.heap.size) wc ((((((wc.drewN n).setCell ⟨w.heap.size, 0, none⟩ u0).setCell ⟨w.heap.size, 1, none⟩ u1).setCell ⟨w.heap.size, 2, none⟩ u2).setCell ⟨w.heap.size, 3, none⟩ u3).setCell ⟨w.heap.size, 4, none⟩ u4) := fun u0 u1 u2 u3 u4 =>
          (((((((Mod.refl (BSet.one w.heap.size) wc).drewN n).setCell (p := ⟨w.heap.size, 0, none⟩) (.inl (show BSet.one w.heap.size w.heap.size from rfl)) u0).setCell (p := ⟨w.heap.size, 1, none⟩) (.inl (show BSet.one w.heap.size w.heap.size from rfl)) u1).setCell (p := ⟨w.heap.size, 2, none⟩) (.inl (show BSet.one w.heap.size w.heap.size from rfl)) u2).setCell (p := ⟨w.heap.size, 3, none⟩) (.inl (show BSet.one w.heap.size w.heap.size from rfl)) u3).setCell (p := ⟨w.heap.size, 4, none⟩) (.inl (show BSet.one w.heap.size w.heap.size from rfl)) u4)
        refine ⟨?_, .slice (some va) t.length cc, ?_, ?_, ?_, ?_⟩
        · rw [at_setCell_same (at_setCell_same (at_setCell_same (at_setCell_same (at_setCell_same hh))))]
          rfl
        · rw [hb, HRD.out]
          unfold segCells
          simp only [HKB.out]
        · rw [HRD.out]
          refine HSL.out.mod (hx _ _ _ _ _) (fun b o n c h hn hF => ?_)
          cases h
          exact absurd (HSI.out hn).1 (by have : b = w.heap.size := hF; simp only; omega)
        · intro hn
          have h1 := HSI.out hn
          exact .inr ⟨Nat.le_of_lt h1.1, Nat.lt_of_lt_of_le h1.2 (hx _ _ _ _ _).size⟩
        · exact ((((hm.setCell (.inr (Nat.le_refl _)) _).setCell (.inr (Nat.le_refl _)) _).setCell (.inr (Nat.le_refl _)) _).setCell (.inr (Nat.le_refl _)) _).setCell (.inr (Nat.le_refl _)) _
      have FIN := Lib.hid hfinal
      have HRO := Lib.hid (show (readOf num s).2 = (C.1.fin == 0 && (decide (1 ≤ A.2) && (kb || decide (C.2 = ⟨#[]⟩)))) by rw [HRD.out, ← HKB.out])
      have hund : undef = Value.tuple #[] := rfl
      clear hfinal HRES HSL HSI HMW HRD HKB
      by_cases hfin : C.1.fin = 0
      · have hfin' : (C.1.fin == 0) = true := by simpa using hfin
        have hfin2 := Lib.hid hfin'
        clear hfin
        by_cases hA1 : 1 ≤ A.2
        · have hA2 : decide ((1 : Int) ≤ (A.2 : Int)) = true := by simp; omega
          have hA3 := Lib.hid (show decide (1 ≤ A.2) = true by simpa using hA1)
          cases kb with
          | true =>
            have hb := Lib.hid (show (readOf num s).2 = true by rw [HRO.out, hfin2.out, hA3.out]; rfl)
            clear HRO
            go_wp2
            refine wp_region_held_drew (S := (fun w' => w'.cell? ⟨gb, 0, none⟩ = some (.int .i64 num) ∧ w'.cell? ⟨gb, 1, none⟩ = some (.int .i64 A.2) ∧ w'.cell? ⟨gb, 2, none⟩ = some (.bool true) ∧ w'.cell? ⟨gb, 3, none⟩ = some (.string C.2) ∧ w'.cell? ⟨gb, 4, none⟩ = some (.slice (some va) t.length cc))) (by kernel_rfl) ?_ (fun hHeld => ?_)
            · (try dsimp only); (first | ((with_reducible refine keepS _ _ _ _ _ _ ?_); exact ⟨c0, c1, c2, c3, c4⟩) | exact ⟨c0, c1, c2, c3, c4⟩)
            refine wpAnyH_take (i := 0) (oi := ⟨_, _, _, _, _, _⟩) (v := ?_) rfl (by kernel_rfl) (by kernel_rfl) (by kernel_rfl) (fun _ _ _ h => h) (Or.inl ⟨by rfl, ?_⟩) (by assumption) ?_
            rotate_left
            · (intro w' hSw; (try dsimp only at hSw); go_simp) <;> with_reducible rfl
            try simp only [Act.put, List.setIfInBounds_toArray, List.set_cons_zero, List.set_cons_succ]
            refine wpAnyH_take (i := 1) (oi := ⟨_, _, _, _, _, _⟩) (v := ?_) rfl (by kernel_rfl) (by kernel_rfl) (by kernel_rfl) (fun _ _ _ h => h) (Or.inl ⟨by rfl, ?_⟩) (by assumption) ?_
            rotate_left
            · (intro w' hSw; (try dsimp only at hSw); go_simp) <;> with_reducible rfl
            try simp only [Act.put, List.setIfInBounds_toArray, List.set_cons_zero, List.set_cons_succ]
            refine wpAnyH_ready (rs := [2]) (by kernel_rfl) (by simp) ?_
            refine AllReadyH.cons (o := ⟨_, _, _, _, _, _⟩) rfl (fun K hK => ?_) AllReadyH.nil
            go_simp
            first | (go_at_call 160; refine (rdend_any rb C.1 _ (by exact HRDx.out) HR3.out).mono ?_; rintro e w7 ⟨rfl, nd, rfl⟩)
            refine hK.out _ _ ?_ (fun hHeld => ?_)
            · (try dsimp only); (first | ((with_reducible refine keepS _ _ _ _ _ _ ?_); exact ⟨c0, c1, c2, c3, c4⟩) | exact ⟨c0, c1, c2, c3, c4⟩)
            clear hK K
            try simp only [Act.put, List.setIfInBounds_toArray, List.set_cons_zero, List.set_cons_succ]
            refine wpAnyH_take (i := 3) (oi := ⟨_, _, _, _, _, _⟩) (v := ?_) rfl (by kernel_rfl) (by kernel_rfl) (by kernel_rfl) (fun _ _ _ h => h) (Or.inl ⟨by rfl, ?_⟩) (by assumption) ?_
            rotate_left
            · (intro w' hSw; (try dsimp only at hSw); go_simp) <;> with_reducible rfl
            try simp only [Act.put, List.setIfInBounds_toArray, List.set_cons_zero, List.set_cons_succ]
            refine wpAnyH_take (i := 4) (oi := ⟨_, _, _, _, _, _⟩) (v := ?_) rfl (by kernel_rfl) (by kernel_rfl) (by kernel_rfl) (fun _ _ _ h => h) (Or.inl ⟨by rfl, ?_⟩) (by assumption) ?_
            rotate_left
            · (intro w' hSw; (try dsimp only at hSw); go_simp) <;> with_reducible rfl
            try simp only [Act.put, List.setIfInBounds_toArray, List.set_cons_zero, List.set_cons_succ]
            refine wpAnyH_take (i := 5) (oi := ⟨_, _, _, _, _, _⟩) (v := ?_) rfl (by kernel_rfl) (by kernel_rfl) (by kernel_rfl) (fun _ _ _ h => h) (Or.inl ⟨by rfl, ?_⟩) (by assumption) ?_
            rotate_left
            · (intro w' hSw; (try dsimp only at hSw); go_simp) <;> with_reducible rfl
            try simp only [Act.put, List.setIfInBounds_toArray, List.set_cons_zero, List.set_cons_succ]
            refine wpAnyH_take (i := 6) (oi := ⟨_, _, _, _, _, _⟩) (v := ?_) rfl (by kernel_rfl) (by kernel_rfl) (by kernel_rfl) (fun _ _ _ h => h) (Or.inl ⟨by rfl, ?_⟩) (by assumption) ?_
            rotate_left
            · (intro w' hSw; (try dsimp only at hSw); go_simp) <;> with_reducible rfl
            try simp only [Act.put, List.setIfInBounds_toArray, List.set_cons_zero, List.set_cons_succ]
            refine wpAnyH_take (i := 7) (oi := ⟨_, _, _, _, _, _⟩) (v := ?_) rfl (by kernel_rfl) (by kernel_rfl) (by kernel_rfl) (fun _ _ _ h => h) (Or.inl ⟨by rfl, ?_⟩) (by assumption) ?_
            rotate_left
            · (intro w' hSw; (try dsimp only at hSw); go_simp) <;> with_reducible rfl
            try simp only [Act.put, List.setIfInBounds_toArray, List.set_cons_zero, List.set_cons_succ]
            refine wpAnyH_take (i := 8) (oi := ⟨_, _, _, _, _, _⟩) (v := ?_) rfl (by kernel_rfl) (by kernel_rfl) (by kernel_rfl) (fun _ _ _ h => h) (Or.inl ⟨by rfl, ?_⟩) (by assumption) ?_
            rotate_left
            · (intro w' hSw; (try dsimp only at hSw); go_simp) <;> with_reducible rfl
            try simp only [Act.put, List.setIfInBounds_toArray, List.set_cons_zero, List.set_cons_succ]
            refine wpAnyH_take (i := 9) (oi := ⟨_, _, _, _, _, _⟩) (v := ?_) rfl (by kernel_rfl) (by kernel_rfl) (by kernel_rfl) (fun _ _ _ h => h) (Or.inl ⟨by rfl, ?_⟩) (by assumption) ?_
            rotate_left
            · (intro w' hSw; (try dsimp only at hSw); go_simp) <;> with_reducible rfl
            try simp only [Act.put, List.setIfInBounds_toArray, List.set_cons_zero, List.set_cons_succ]
            refine wpAnyH_take (i := 10) (oi := ⟨_, _, _, _, _, _⟩) (v := ?_) rfl (by kernel_rfl) (by kernel_rfl) (by kernel_rfl) (fun _ _ _ h => h) (Or.inl ⟨by rfl, ?_⟩) (by assumption) ?_
            rotate_left
            · (intro w' hSw; (try dsimp only at hSw); go_simp) <;> with_reducible rfl
            try simp only [Act.put, List.setIfInBounds_toArray, List.set_cons_zero, List.set_cons_succ]
            refine wpAnyH_take (i := 11) (oi := ⟨_, _, _, _, _, _⟩) (v := ?_) rfl (by kernel_rfl) (by kernel_rfl) (by kernel_rfl) (fun _ _ _ h => h) (Or.inl ⟨by rfl, ?_⟩) (by assumption) ?_
            rotate_left
            · (intro w' hSw; (try dsimp only at hSw); go_simp) <;> with_reducible rfl
            try simp only [Act.put, List.setIfInBounds_toArray, List.set_cons_zero, List.set_cons_succ]
            refine wpAnyH_take (i := 12) (oi := ⟨_, _, _, _, _, _⟩) (v := ?_) rfl (by kernel_rfl) (by kernel_rfl) (by kernel_rfl) (fun _ _ _ h => h) (Or.inl ⟨by rfl, ?_⟩) (by assumption) ?_
            rotate_left
            · (intro w' hSw; (try dsimp only at hSw); go_simp) <;> with_reducible rfl
            try simp only [Act.put, List.setIfInBounds_toArray, List.set_cons_zero, List.set_cons_succ]
            refine wpAnyH_take (i := 13) (oi := ⟨_, _, _, _, _, _⟩) rfl (by kernel_rfl) (by kernel_rfl) (by kernel_rfl) (fun _ _ _ h => h) (Or.inr ⟨by rfl, rfl⟩) (by assumption) ?_
            try simp only [Act.put, List.setIfInBounds_toArray, List.set_cons_zero, List.set_cons_succ]
            refine wpAnyH_take (i := 14) (oi := ⟨_, _, _, _, _, _⟩) rfl (by kernel_rfl) (by kernel_rfl) (by kernel_rfl) (fun _ _ _ h => h) (Or.inr ⟨by rfl, rfl⟩) (by assumption) ?_
            try simp only [Act.put, List.setIfInBounds_toArray, List.set_cons_zero, List.set_cons_succ]
            refine wpAnyH_take (i := 15) (oi := ⟨_, _, _, _, _, _⟩) rfl (by kernel_rfl) (by kernel_rfl) (by kernel_rfl) (fun _ _ _ h => h) (Or.inr ⟨by rfl, rfl⟩) (by assumption) ?_
            try simp only [Act.put, List.setIfInBounds_toArray, List.set_cons_zero, List.set_cons_succ]
            refine wpAnyH_take (i := 16) (oi := ⟨_, _, _, _, _, _⟩) (v := ?_) rfl (by kernel_rfl) (by kernel_rfl) (by kernel_rfl) (fun _ _ _ h => h) (Or.inl ⟨by rfl, ?_⟩) (by assumption) ?_
            rotate_left
            · (intro w' hSw; (try dsimp only at hSw); go_simp) <;> with_reducible rfl
            try simp only [Act.put, List.setIfInBounds_toArray, List.set_cons_zero, List.set_cons_succ]
            refine wpAnyH_take (i := 17) (oi := ⟨_, _, _, _, _, _⟩) (v := ?_) rfl (by kernel_rfl) (by kernel_rfl) (by kernel_rfl) (fun _ _ _ h => h) (Or.inl ⟨by rfl, ?_⟩) (by assumption) ?_
            rotate_left
            · (intro w' hSw; (try dsimp only at hSw); go_simp) <;> with_reducible rfl
            try simp only [Act.put, List.setIfInBounds_toArray, List.set_cons_zero, List.set_cons_succ]
            refine wpAnyH_ready (rs := [18]) (by kernel_rfl) (by simp) ?_
            refine AllReadyH.cons (o := ⟨_, _, _, _, _, _⟩) rfl (fun K hK => ?_) AllReadyH.nil
            go_simp
            refine hK.out _ _ ?_ (fun hHeld => ?_)
            · (try dsimp only); (first | ((with_reducible refine keepS _ _ _ _ _ _ ?_); exact ⟨c0, c1, c2, c3, c4⟩) | exact ⟨c0, c1, c2, c3, c4⟩)
            clear hK K
            try simp only [Act.put, List.setIfInBounds_toArray, List.set_cons_zero, List.set_cons_succ]
            refine wpAnyH_take (i := 19) (oi := ⟨_, _, _, _, _, _⟩) (v := ?_) rfl (by kernel_rfl) (by kernel_rfl) (by kernel_rfl) (fun _ _ _ h => h) (Or.inl ⟨by rfl, ?_⟩) (by assumption) ?_
            rotate_left
            · (intro w' hSw; (try dsimp only at hSw); go_simp) <;> with_reducible rfl
            try simp only [Act.put, List.setIfInBounds_toArray, List.set_cons_zero, List.set_cons_succ]
            refine wpAnyH_done (by kernel_rfl) ?_ _
            go_wp2
            exact bodyPost_ret (results_cell_row2 (p := 4) (u := 5) (ty := 167) rfl _ _ _ _ _ _ _ rfl (FIN.out _ true hb.out).1 Tryz.underlying167 rfl (by kernel_rfl)) rfl (FIN.out _ true hb.out).2
          | false =>
            by_cases hC : C.2 = ⟨#[]⟩
            · have hC2 : C.2.toList.isEmpty = true := by rw [isEmpty_str]; exact decide_eq_true hC
              have hb := Lib.hid (show (readOf num s).2 = true by rw [HRO.out, hfin2.out, hA3.out, decide_eq_true hC]; rfl)
              clear HRO hC
              go_wp2
              first | (go_region_held3 (fun w' => w'.cell? ⟨gb, 0, none⟩ = some (.int .i64 num) ∧ w'.cell? ⟨gb, 1, none⟩ = some (.int .i64 A.2) ∧ w'.cell? ⟨gb, 2, none⟩ = some (.bool false) ∧ w'.cell? ⟨gb, 3, none⟩ = some (.string C.2) ∧ w'.cell? ⟨gb, 4, none⟩ = some (.slice (some va) t.length cc)) (first | ((with_reducible refine keepS _ _ _ _ _ _ ?_); exact ⟨c0, c1, c2, c3, c4⟩) | exact ⟨c0, c1, c2, c3, c4⟩) (first | (go_at_call 160; refine (rdend_any rb C.1 _ (by exact HRDx.out) HR3.out).mono ?_; rintro e w7 ⟨rfl, nd, rfl⟩))) | fail
              all_goals (
                go_wp2
                exact bodyPost_ret (results_cell_row2 (p := 4) (u := 5) (ty := 167) rfl _ _ _ _ _ _ _ rfl (FIN.out _ true hb.out).1 Tryz.underlying167 rfl (by kernel_rfl)) rfl (FIN.out _ true hb.out).2)
            · have hC2 : C.2.toList.isEmpty = false := by rw [isEmpty_str]; exact decide_eq_false hC
              have hb := Lib.hid (show (readOf num s).2 = false by rw [HRO.out, hfin2.out, hA3.out, decide_eq_false hC]; rfl)
              clear HRO hC
              go_wp2
              first | (go_region_held3 (fun w' => w'.cell? ⟨gb, 0, none⟩ = some (.int .i64 num) ∧ w'.cell? ⟨gb, 1, none⟩ = some (.int .i64 A.2) ∧ w'.cell? ⟨gb, 2, none⟩ = some (.bool false) ∧ w'.cell? ⟨gb, 3, none⟩ = some (.string C.2) ∧ w'.cell? ⟨gb, 4, none⟩ = some (.slice (some va) t.length cc)) (first | ((with_reducible refine keepS _ _ _ _ _ _ ?_); exact ⟨c0, c1, c2, c3, c4⟩) | exact ⟨c0, c1, c2, c3, c4⟩) (first | (go_at_call 160; refine (rdend_any rb C.1 _ (by exact HRDx.out) HR3.out).mono ?_; rintro e w7 ⟨rfl, nd, rfl⟩))) | fail
              all_goals (
                go_wp2
                exact bodyPost_ret (results_cell_row2 (p := 4) (u := 5) (ty := 167) rfl _ _ _ _ _ _ _ rfl (FIN.out _ false hb.out).1 Tryz.underlying167 rfl (by kernel_rfl)) rfl (FIN.out _ false hb.out).2)
        · have hA2 : decide ((1 : Int) ≤ (A.2 : Int)) = false := by simp; omega
          have hb := Lib.hid (show (readOf num s).2 = false by rw [HRO.out, hfin2.out, decide_eq_false hA1]; rfl)
          clear HRO hA1
          go_wp2
          refine wp_region_held_drew (S := (fun w' => w'.cell? ⟨gb, 0, none⟩ = some (.int .i64 num) ∧ w'.cell? ⟨gb, 1, none⟩ = some (.int .i64 A.2) ∧ w'.cell? ⟨gb, 2, none⟩ = some (.bool kb) ∧ w'.cell? ⟨gb, 3, none⟩ = some (.string C.2) ∧ w'.cell? ⟨gb, 4, none⟩ = some (.slice (some va) t.length cc))) (by kernel_rfl) ?_ (fun hHeld => ?_)
          · (try dsimp only); (first | ((with_reducible refine keepS _ _ _ _ _ _ ?_); exact ⟨c0, c1, c2, c3, c4⟩) | exact ⟨c0, c1, c2, c3, c4⟩)
          refine wpAnyH_take (i := 0) (oi := ⟨_, _, _, _, _, _⟩) (v := ?_) rfl (by kernel_rfl) (by kernel_rfl) (by kernel_rfl) (fun _ _ _ h => h) (Or.inl ⟨by rfl, ?_⟩) (by assumption) ?_
          rotate_left
          · (intro w' hSw; (try dsimp only at hSw); go_simp) <;> with_reducible rfl
          try simp only [Act.put, List.setIfInBounds_toArray, List.set_cons_zero, List.set_cons_succ]
          refine wpAnyH_take (i := 1) (oi := ⟨_, _, _, _, _, _⟩) (v := ?_) rfl (by kernel_rfl) (by kernel_rfl) (by kernel_rfl) (fun _ _ _ h => h) (Or.inl ⟨by rfl, ?_⟩) (by assumption) ?_
          rotate_left
          · (intro w' hSw; (try dsimp only at hSw); go_simp) <;> with_reducible rfl
          try simp only [Act.put, List.setIfInBounds_toArray, List.set_cons_zero, List.set_cons_succ]
          refine wpAnyH_ready (rs := [2]) (by kernel_rfl) (by simp) ?_
          refine AllReadyH.cons (o := ⟨_, _, _, _, _, _⟩) rfl (fun K hK => ?_) AllReadyH.nil
          go_simp
          first | (go_at_call 160; refine (rdend_any rb C.1 _ (by exact HRDx.out) HR3.out).mono ?_; rintro e w7 ⟨rfl, nd, rfl⟩)
          refine hK.out _ _ ?_ (fun hHeld => ?_)
          · (try dsimp only); (first | ((with_reducible refine keepS _ _ _ _ _ _ ?_); exact ⟨c0, c1, c2, c3, c4⟩) | exact ⟨c0, c1, c2, c3, c4⟩)
          clear hK K
          try simp only [Act.put, List.setIfInBounds_toArray, List.set_cons_zero, List.set_cons_succ]
          refine wpAnyH_take (i := 3) (oi := ⟨_, _, _, _, _, _⟩) (v := ?_) rfl (by kernel_rfl) (by kernel_rfl) (by kernel_rfl) (fun _ _ _ h => h) (Or.inl ⟨by rfl, ?_⟩) (by assumption) ?_
          rotate_left
          · (intro w' hSw; (try dsimp only at hSw); go_simp) <;> with_reducible rfl
          try simp only [Act.put, List.setIfInBounds_toArray, List.set_cons_zero, List.set_cons_succ]
          refine wpAnyH_take (i := 4) (oi := ⟨_, _, _, _, _, _⟩) (v := ?_) rfl (by kernel_rfl) (by kernel_rfl) (by kernel_rfl) (fun _ _ _ h => h) (Or.inl ⟨by rfl, ?_⟩) (by assumption) ?_
          rotate_left
          · (intro w' hSw; (try dsimp only at hSw); go_simp) <;> with_reducible rfl
          try simp only [Act.put, List.setIfInBounds_toArray, List.set_cons_zero, List.set_cons_succ]
          refine wpAnyH_take (i := 5) (oi := ⟨_, _, _, _, _, _⟩) (v := ?_) rfl (by kernel_rfl) (by kernel_rfl) (by kernel_rfl) (fun _ _ _ h => h) (Or.inl ⟨by rfl, ?_⟩) (by assumption) ?_
          rotate_left
          · (intro w' hSw; (try dsimp only at hSw); go_simp) <;> with_reducible rfl
          try simp only [Act.put, List.setIfInBounds_toArray, List.set_cons_zero, List.set_cons_succ]
          refine wpAnyH_take (i := 6) (oi := ⟨_, _, _, _, _, _⟩) (v := ?_) rfl (by kernel_rfl) (by kernel_rfl) (by kernel_rfl) (fun _ _ _ h => h) (Or.inl ⟨by rfl, ?_⟩) (by assumption) ?_
          rotate_left
          · (intro w' hSw; (try dsimp only at hSw); go_simp) <;> with_reducible rfl
          try simp only [Act.put, List.setIfInBounds_toArray, List.set_cons_zero, List.set_cons_succ]
          refine wpAnyH_take (i := 7) (oi := ⟨_, _, _, _, _, _⟩) (v := ?_) rfl (by kernel_rfl) (by kernel_rfl) (by kernel_rfl) (fun _ _ _ h => h) (Or.inl ⟨by rfl, ?_⟩) (by assumption) ?_
          rotate_left
          · (intro w' hSw; (try dsimp only at hSw); go_simp) <;> with_reducible rfl
          try simp only [Act.put, List.setIfInBounds_toArray, List.set_cons_zero, List.set_cons_succ]
          refine wpAnyH_take (i := 8) (oi := ⟨_, _, _, _, _, _⟩) (v := ?_) rfl (by kernel_rfl) (by kernel_rfl) (by kernel_rfl) (fun _ _ _ h => h) (Or.inl ⟨by rfl, ?_⟩) (by assumption) ?_
          rotate_left
          · (intro w' hSw; (try dsimp only at hSw); go_simp) <;> with_reducible rfl
          try simp only [Act.put, List.setIfInBounds_toArray, List.set_cons_zero, List.set_cons_succ]
          refine wpAnyH_take (i := 9) (oi := ⟨_, _, _, _, _, _⟩) (v := ?_) rfl (by kernel_rfl) (by kernel_rfl) (by kernel_rfl) (fun _ _ _ h => h) (Or.inl ⟨by rfl, ?_⟩) (by assumption) ?_
          rotate_left
          · (intro w' hSw; (try dsimp only at hSw); go_simp) <;> with_reducible rfl
          try simp only [Act.put, List.setIfInBounds_toArray, List.set_cons_zero, List.set_cons_succ]
          refine wpAnyH_take (i := 10) (oi := ⟨_, _, _, _, _, _⟩) rfl (by kernel_rfl) (by kernel_rfl) (by kernel_rfl) (fun _ _ _ h => h) (Or.inr ⟨by rfl, rfl⟩) (by assumption) ?_
          try simp only [Act.put, List.setIfInBounds_toArray, List.set_cons_zero, List.set_cons_succ]
          refine wpAnyH_take (i := 11) (oi := ⟨_, _, _, _, _, _⟩) rfl (by kernel_rfl) (by kernel_rfl) (by kernel_rfl) (fun _ _ _ h => h) (Or.inr ⟨by rfl, rfl⟩) (by assumption) ?_
          try simp only [Act.put, List.setIfInBounds_toArray, List.set_cons_zero, List.set_cons_succ]
          refine wpAnyH_take (i := 12) (oi := ⟨_, _, _, _, _, _⟩) rfl (by kernel_rfl) (by kernel_rfl) (by kernel_rfl) (fun _ _ _ h => h) (Or.inr ⟨by rfl, rfl⟩) (by assumption) ?_
          try simp only [Act.put, List.setIfInBounds_toArray, List.set_cons_zero, List.set_cons_succ]
          refine wpAnyH_take (i := 13) (oi := ⟨_, _, _, _, _, _⟩) rfl (by kernel_rfl) (by kernel_rfl) (by kernel_rfl) (fun _ _ _ h => h) (Or.inr ⟨by rfl, rfl⟩) (by assumption) ?_
          try simp only [Act.put, List.setIfInBounds_toArray, List.set_cons_zero, List.set_cons_succ]
          refine wpAnyH_take (i := 14) (oi := ⟨_, _, _, _, _, _⟩) rfl (by kernel_rfl) (by kernel_rfl) (by kernel_rfl) (fun _ _ _ h => h) (Or.inr ⟨by rfl, rfl⟩) (by assumption) ?_
          try simp only [Act.put, List.setIfInBounds_toArray, List.set_cons_zero, List.set_cons_succ]
          refine wpAnyH_take (i := 15) (oi := ⟨_, _, _, _, _, _⟩) rfl (by kernel_rfl) (by kernel_rfl) (by kernel_rfl) (fun _ _ _ h => h) (Or.inr ⟨by rfl, rfl⟩) (by assumption) ?_
          try simp only [Act.put, List.setIfInBounds_toArray, List.set_cons_zero, List.set_cons_succ]
          refine wpAnyH_take (i := 16) (oi := ⟨_, _, _, _, _, _⟩) rfl (by kernel_rfl) (by kernel_rfl) (by kernel_rfl) (fun _ _ _ h => h) (Or.inr ⟨by rfl, rfl⟩) (by assumption) ?_
          try simp only [Act.put, List.setIfInBounds_toArray, List.set_cons_zero, List.set_cons_succ]
          refine wpAnyH_take (i := 17) (oi := ⟨_, _, _, _, _, _⟩) (v := ?_) rfl (by kernel_rfl) (by kernel_rfl) (by kernel_rfl) (fun _ _ _ h => h) (Or.inl ⟨by rfl, ?_⟩) (by assumption) ?_
          rotate_left
          · (intro w' hSw; (try dsimp only at hSw); go_simp) <;> with_reducible rfl
          try simp only [Act.put, List.setIfInBounds_toArray, List.set_cons_zero, List.set_cons_succ]
          refine wpAnyH_ready (rs := [18]) (by kernel_rfl) (by simp) ?_
          refine AllReadyH.cons (o := ⟨_, _, _, _, _, _⟩) rfl (fun K hK => ?_) AllReadyH.nil
          go_simp
          refine hK.out _ _ ?_ (fun hHeld => ?_)
          · (try dsimp only); (first | ((with_reducible refine keepS _ _ _ _ _ _ ?_); exact ⟨c0, c1, c2, c3, c4⟩) | exact ⟨c0, c1, c2, c3, c4⟩)
          clear hK K
          try simp only [Act.put, List.setIfInBounds_toArray, List.set_cons_zero, List.set_cons_succ]
          refine wpAnyH_take (i := 19) (oi := ⟨_, _, _, _, _, _⟩) (v := ?_) rfl (by kernel_rfl) (by kernel_rfl) (by kernel_rfl) (fun _ _ _ h => h) (Or.inl ⟨by rfl, ?_⟩) (by assumption) ?_
          rotate_left
          · (intro w' hSw; (try dsimp only at hSw); go_simp) <;> with_reducible rfl
          try simp only [Act.put, List.setIfInBounds_toArray, List.set_cons_zero, List.set_cons_succ]
          refine wpAnyH_done (by kernel_rfl) ?_ _
          go_wp2
          exact bodyPost_ret (results_cell_row2 (p := 4) (u := 5) (ty := 167) rfl _ _ _ _ _ _ _ rfl (FIN.out _ false hb.out).1 Tryz.underlying167 rfl (by kernel_rfl)) rfl (FIN.out _ false hb.out).2
      · have hfin' : (C.1.fin == 0) = false := by simpa using hfin
        have hb := Lib.hid (show (readOf num s).2 = false by rw [HRO.out, hfin']; rfl)
        clear hfin HRO
        go_wp2
        refine wp_region_held_drew (S := (fun w' => w'.cell? ⟨gb, 0, none⟩ = some (.int .i64 num) ∧ w'.cell? ⟨gb, 1, none⟩ = some (.int .i64 A.2) ∧ w'.cell? ⟨gb, 2, none⟩ = some (.bool kb) ∧ w'.cell? ⟨gb, 3, none⟩ = some (.string C.2) ∧ w'.cell? ⟨gb, 4, none⟩ = some (.slice (some va) t.length cc))) (by kernel_rfl) ?_ (fun hHeld => ?_)
        · (try dsimp only); (first | ((with_reducible refine keepS _ _ _ _ _ _ ?_); exact ⟨c0, c1, c2, c3, c4⟩) | exact ⟨c0, c1, c2, c3, c4⟩)
        refine wpAnyH_take (i := 0) (oi := ⟨_, _, _, _, _, _⟩) (v := ?_) rfl (by kernel_rfl) (by kernel_rfl) (by kernel_rfl) (fun _ _ _ h => h) (Or.inl ⟨by rfl, ?_⟩) (by assumption) ?_
        rotate_left
        · (intro w' hSw; (try dsimp only at hSw); go_simp) <;> with_reducible rfl
        try simp only [Act.put, List.setIfInBounds_toArray, List.set_cons_zero, List.set_cons_succ]
        refine wpAnyH_take (i := 1) (oi := ⟨_, _, _, _, _, _⟩) (v := ?_) rfl (by kernel_rfl) (by kernel_rfl) (by kernel_rfl) (fun _ _ _ h => h) (Or.inl ⟨by rfl, ?_⟩) (by assumption) ?_
        rotate_left
        · (intro w' hSw; (try dsimp only at hSw); go_simp) <;> with_reducible rfl
        try simp only [Act.put, List.setIfInBounds_toArray, List.set_cons_zero, List.set_cons_succ]
        refine wpAnyH_ready (rs := [2]) (by kernel_rfl) (by simp) ?_
        refine AllReadyH.cons (o := ⟨_, _, _, _, _, _⟩) rfl (fun K hK => ?_) AllReadyH.nil
        go_simp
        first | (go_at_call 160; refine (rdend_any rb C.1 _ (by exact HRDx.out) HR3.out).mono ?_; rintro e w7 ⟨rfl, nd, rfl⟩)
        refine hK.out _ _ ?_ (fun hHeld => ?_)
        · (try dsimp only); (first | ((with_reducible refine keepS _ _ _ _ _ _ ?_); exact ⟨c0, c1, c2, c3, c4⟩) | exact ⟨c0, c1, c2, c3, c4⟩)
        clear hK K
        try simp only [Act.put, List.setIfInBounds_toArray, List.set_cons_zero, List.set_cons_succ]
        refine wpAnyH_take (i := 3) (oi := ⟨_, _, _, _, _, _⟩) (v := ?_) rfl (by kernel_rfl) (by kernel_rfl) (by kernel_rfl) (fun _ _ _ h => h) (Or.inl ⟨by rfl, ?_⟩) (by assumption) ?_
        rotate_left
        · (intro w' hSw; (try dsimp only at hSw); go_simp) <;> with_reducible rfl
        try simp only [Act.put, List.setIfInBounds_toArray, List.set_cons_zero, List.set_cons_succ]
        refine wpAnyH_take (i := 4) (oi := ⟨_, _, _, _, _, _⟩) (v := ?_) rfl (by kernel_rfl) (by kernel_rfl) (by kernel_rfl) (fun _ _ _ h => h) (Or.inl ⟨by rfl, ?_⟩) (by assumption) ?_
        rotate_left
        · (intro w' hSw; (try dsimp only at hSw); go_simp) <;> with_reducible rfl
        try simp only [Act.put, List.setIfInBounds_toArray, List.set_cons_zero, List.set_cons_succ]
        refine wpAnyH_take (i := 5) (oi := ⟨_, _, _, _, _, _⟩) rfl (by kernel_rfl) (by kernel_rfl) (by kernel_rfl) (fun _ _ _ h => h) (Or.inr ⟨by rfl, rfl⟩) (by assumption) ?_
        try simp only [Act.put, List.setIfInBounds_toArray, List.set_cons_zero, List.set_cons_succ]
        refine wpAnyH_take (i := 6) (oi := ⟨_, _, _, _, _, _⟩) rfl (by kernel_rfl) (by kernel_rfl) (by kernel_rfl) (fun _ _ _ h => h) (Or.inr ⟨by rfl, rfl⟩) (by assumption) ?_
        try simp only [Act.put, List.setIfInBounds_toArray, List.set_cons_zero, List.set_cons_succ]
        refine wpAnyH_take (i := 7) (oi := ⟨_, _, _, _, _, _⟩) rfl (by kernel_rfl) (by kernel_rfl) (by kernel_rfl) (fun _ _ _ h => h) (Or.inr ⟨by rfl, rfl⟩) (by assumption) ?_
        try simp only [Act.put, List.setIfInBounds_toArray, List.set_cons_zero, List.set_cons_succ]
        refine wpAnyH_take (i := 8) (oi := ⟨_, _, _, _, _, _⟩) (v := ?_) rfl (by kernel_rfl) (by kernel_rfl) (by kernel_rfl) (fun _ _ _ h => h) (Or.inl ⟨by rfl, ?_⟩) (by assumption) ?_
        rotate_left
        · (intro w' hSw; (try dsimp only at hSw); go_simp) <;> with_reducible rfl
        try simp only [Act.put, List.setIfInBounds_toArray, List.set_cons_zero, List.set_cons_succ]
        refine wpAnyH_take (i := 9) (oi := ⟨_, _, _, _, _, _⟩) (v := ?_) rfl (by kernel_rfl) (by kernel_rfl) (by kernel_rfl) (fun _ _ _ h => h) (Or.inl ⟨by rfl, ?_⟩) (by assumption) ?_
        rotate_left
        · (intro w' hSw; (try dsimp only at hSw); go_simp) <;> with_reducible rfl
        try simp only [Act.put, List.setIfInBounds_toArray, List.set_cons_zero, List.set_cons_succ]
        refine wpAnyH_take (i := 10) (oi := ⟨_, _, _, _, _, _⟩) rfl (by kernel_rfl) (by kernel_rfl) (by kernel_rfl) (fun _ _ _ h => h) (Or.inr ⟨by rfl, rfl⟩) (by assumption) ?_
        try simp only [Act.put, List.setIfInBounds_toArray, List.set_cons_zero, List.set_cons_succ]
        refine wpAnyH_take (i := 11) (oi := ⟨_, _, _, _, _, _⟩) rfl (by kernel_rfl) (by kernel_rfl) (by kernel_rfl) (fun _ _ _ h => h) (Or.inr ⟨by rfl, rfl⟩) (by assumption) ?_
        try simp only [Act.put, List.setIfInBounds_toArray, List.set_cons_zero, List.set_cons_succ]
        refine wpAnyH_take (i := 12) (oi := ⟨_, _, _, _, _, _⟩) rfl (by kernel_rfl) (by kernel_rfl) (by kernel_rfl) (fun _ _ _ h => h) (Or.inr ⟨by rfl, rfl⟩) (by assumption) ?_
        try simp only [Act.put, List.setIfInBounds_toArray, List.set_cons_zero, List.set_cons_succ]
        refine wpAnyH_take (i := 13) (oi := ⟨_, _, _, _, _, _⟩) rfl (by kernel_rfl) (by kernel_rfl) (by kernel_rfl) (fun _ _ _ h => h) (Or.inr ⟨by rfl, rfl⟩) (by assumption) ?_
        try simp only [Act.put, List.setIfInBounds_toArray, List.set_cons_zero, List.set_cons_succ]
        refine wpAnyH_take (i := 14) (oi := ⟨_, _, _, _, _, _⟩) rfl (by kernel_rfl) (by kernel_rfl) (by kernel_rfl) (fun _ _ _ h => h) (Or.inr ⟨by rfl, rfl⟩) (by assumption) ?_
        try simp only [Act.put, List.setIfInBounds_toArray, List.set_cons_zero, List.set_cons_succ]
        refine wpAnyH_take (i := 15) (oi := ⟨_, _, _, _, _, _⟩) rfl (by kernel_rfl) (by kernel_rfl) (by kernel_rfl) (fun _ _ _ h => h) (Or.inr ⟨by rfl, rfl⟩) (by assumption) ?_
        try simp only [Act.put, List.setIfInBounds_toArray, List.set_cons_zero, List.set_cons_succ]
        refine wpAnyH_take (i := 16) (oi := ⟨_, _, _, _, _, _⟩) rfl (by kernel_rfl) (by kernel_rfl) (by kernel_rfl) (fun _ _ _ h => h) (Or.inr ⟨by rfl, rfl⟩) (by assumption) ?_
        try simp only [Act.put, List.setIfInBounds_toArray, List.set_cons_zero, List.set_cons_succ]
        refine wpAnyH_take (i := 17) (oi := ⟨_, _, _, _, _, _⟩) (v := ?_) rfl (by kernel_rfl) (by kernel_rfl) (by kernel_rfl) (fun _ _ _ h => h) (Or.inl ⟨by rfl, ?_⟩) (by assumption) ?_
        rotate_left
        · (intro w' hSw; (try dsimp only at hSw); go_simp) <;> with_reducible rfl
        try simp only [Act.put, List.setIfInBounds_toArray, List.set_cons_zero, List.set_cons_succ]
        refine wpAnyH_ready (rs := [18]) (by kernel_rfl) (by simp) ?_
        refine AllReadyH.cons (o := ⟨_, _, _, _, _, _⟩) rfl (fun K hK => ?_) AllReadyH.nil
        go_simp
        refine hK.out _ _ ?_ (fun hHeld => ?_)
        · (try dsimp only); (first | ((with_reducible refine keepS _ _ _ _ _ _ ?_); exact ⟨c0, c1, c2, c3, c4⟩) | exact ⟨c0, c1, c2, c3, c4⟩)
        clear hK K
        try simp only [Act.put, List.setIfInBounds_toArray, List.set_cons_zero, List.set_cons_succ]
        refine wpAnyH_take (i := 19) (oi := ⟨_, _, _, _, _, _⟩) (v := ?_) rfl (by kernel_rfl) (by kernel_rfl) (by kernel_rfl) (fun _ _ _ h => h) (Or.inl ⟨by rfl, ?_⟩) (by assumption) ?_
        rotate_left
        · (intro w' hSw; (try dsimp only at hSw); go_simp) <;> with_reducible rfl
        try simp only [Act.put, List.setIfInBounds_toArray, List.set_cons_zero, List.set_cons_succ]
        refine wpAnyH_done (by kernel_rfl) ?_ _
        go_wp2
        exact bodyPost_ret (results_cell_row2 (p := 4) (u := 5) (ty := 167) rfl _ _ _ _ _ _ _ rfl (FIN.out _ false hb.out).1 Tryz.underlying167 rfl (by kernel_rfl)) rfl (FIN.out _ false hb.out).2
end Go.Proofs.YthogefmngddnbaaGreatDoor
