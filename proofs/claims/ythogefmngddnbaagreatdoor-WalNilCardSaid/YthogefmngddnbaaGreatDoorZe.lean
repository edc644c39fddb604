/- slices.DeleteFunc over texts; wal.names: the walks. -/
import Derived.Test.YthogefmngddnbaaGreatDoorZb
import Derived.Test.YthogefmngddnbaaGreatDoorZd
import Derived.Lib.SliceRun
import Derived.Test.YthogefmngddnbaaGreatDoorZc
set_option linter.unusedVariables false
set_option linter.unusedSimpArgs false
namespace Go.Proofs.YthogefmngddnbaaGreatDoor
open Go.RowKit

theorem setCells_at (b : Nat) (t : TypeId) (fr : Nat × Nat) : ∀ (vs : List Value) (o : Nat) (w : World) (cs : Array Value), w.heap[b]? = some (.cells cs t fr) →
    Mod (BSet.one b) w (w.setCells b o vs) ∧ ∃ cs', (w.setCells b o vs).heap[b]? = some (.cells cs' t fr) ∧ cs'.size = cs.size ∧ ∀ q, q < o → cs'[q]? = cs[q]? := by
  intro vs
  induction vs with
  | nil => intro o w cs h; exact ⟨Mod.refl _ _, cs, h, rfl, fun _ _ => rfl⟩
  | cons v vs ih =>
    intro o w cs h
    obtain ⟨h1, cs', h2, h3, h4⟩ := ih (o + 1) (w.setCell ⟨b, o, none⟩ v) _ (at_setCell_same h)
    refine ⟨(mod_one w b o v).trans h1 (fun _ _ h => h), cs', h2, by rw [h3]; simp, fun q hq => ?_⟩
    rw [h4 q (by omega), Array.getElem?_setIfInBounds, if_neg (by omega)]

/-- a predicate over texts, in whatever world that has turned but these blocks -/
def StrPredF (F : BSet) (k : FuncId) (caps : Array Value) (p : ByteArray → Bool) (xs : List ByteArray) (w : World) : Prop :=
  ∀ s, s ∈ xs → ∀ w', Mod F w w' → Calls Tryz.prog k (#[.string s] ++ caps) w' fun e w'' => e = .returned (.bool (p s)) ∧ Mod BSet.none w' w''
def DelP (g cap : Nat) (ys : List ByteArray) (w : World) (e : Ending) (w' : World) : Prop :=
  e = .returned (.slice (some ⟨g, 0, none⟩) ys.length cap) ∧ SlAt w'.heap (.slice (some ⟨g, 0, none⟩) ys.length cap) (strs ys) ∧ Mod (BSet.one g) w w'
set_option maxRecDepth 100000 in
set_option maxHeartbeats 2000000 in
theorem deleteFunc_some (k : FuncId) (caps : Array Value) (p : ByteArray → Bool) (g cap : Nat) (cur : Array Value) (xs : List ByteArray) (w : World) (hg : w.heap[g]? = some (.cells cur 9 (0, 0))) (hcur : cur.size = cap) (hcap : cap ≤ maxLen) (hl : xs.length ≤ cap)
    (hx : cur.toList.take xs.length = strs xs) (hk : Enters k) (hp : StrPredF (BSet.one g) k caps p xs w) :
    Calls Tryz.prog 131 #[.slice (some ⟨g, 0, none⟩) xs.length cap, .func (.func k) #[] caps] w (DelP g cap (xs.filter fun s => !p s) w) := by
  have hv : SlAt w.heap (.slice (some ⟨g, 0, none⟩) xs.length cap) (strs xs) := by
    refine ⟨some ⟨g, 0, none⟩, cap, by rw [strs_length], by rw [strs_length]; omega, fun _ => ⟨g, 0, cur, 9, (0, 0), rfl, hg, fun i hi => ?_⟩⟩
    rw [strs_length] at hi
    rw [← hx, List.getElem?_take, if_pos hi, Nat.zero_add]; simp
  have hp0 : StrPred k caps p xs w := fun s hs w' hm => hp s hs w' (hm.mono (fun _ _ h => h.elim))
  have HV := Lib.hid hv
  have HP0 := Lib.hid hp0
  have HP := Lib.hid hp
  have HG := Lib.hid hg
  have HX := Lib.hid hx
  unfold maxLen at hcap
  clear hv hp0 hp hx
  have hgl := lt_of_at hg
  clear hg
  cases hfi : xs.findIdx? p with
  | none =>
    have hall : (xs.filter fun s => !p s) = xs := by
      rw [List.findIdx?_eq_none_iff] at hfi
      exact List.filter_eq_self.2 (fun s hs => by simp [hfi s hs])
    have hix : idxOf p xs = -1 := by unfold idxOf; rw [hfi]
    rw [hall]
    have HI := Lib.hid hix
    clear hix hall hfi
    go_enter Tryz.func131, Tryz.ntmps131
    go_wp2_with fail
    refine (indexFunc_str k caps p _ xs _ HV.out hk HP0.out).mono ?_
    rintro e w1 ⟨rfl, hm⟩
    rw [HI.out]
    have HM := Lib.hid hm
    clear hm
    go_wp2
    go_ret
    exact ⟨rfl, HV.out.mod0 HM.out, HM.out.mono (fun _ _ h => h.elim)⟩
  | some i0 =>
    rw [List.findIdx?_eq_some_iff_getElem] at hfi
    obtain ⟨hi0, hpi, hbef⟩ := hfi
    have hix : idxOf p xs = (i0 : Int) := by
      unfold idxOf
      rw [(List.findIdx?_eq_some_iff_getElem).2 ⟨hi0, hpi, hbef⟩]
    have hk0 : (xs.take (i0 + 1)).filter (fun s => !p s) = xs.take i0 := by
      rw [List.take_succ_eq_append_getElem hi0, List.filter_append]
      have h1 : (xs.take i0).filter (fun s => !p s) = xs.take i0 := by
        refine List.filter_eq_self.2 (fun s hs => ?_)
        obtain ⟨q, hq, rfl⟩ := List.getElem_of_mem hs
        rw [List.length_take] at hq
        have := hbef q (by omega)
        simpa [List.getElem_take] using this
      rw [h1]; simp [hpi]
    have hcells : ∀ q, q < xs.length → cur[q]? = (strs xs)[q]? := by
      intro q hq
      rw [← HX.out, List.getElem?_take, if_pos hq]; simp
    have HI := Lib.hid hix
    have HK0 := Lib.hid hk0
    have HC := Lib.hid hcells
    have hxl : xs.length ≤ 9223372036854775807 := by omega
    clear hix hk0 hcells hpi hbef
    go_enter Tryz.func131, Tryz.ntmps131
    go_wp2_with fail
    refine (indexFunc_str k caps p _ xs _ HV.out hk HP0.out).mono ?_
    rintro e w1 ⟨rfl, hm⟩
    rw [HI.out]
    have HM := Lib.hid hm
    have hne1 : ((i0 : Int) == -1) = false := by simp
    clear hm
    go_wp2
    go_loopw [5, 6] (fun i j wr => ∃ (jj : Nat) (cur' : Array Value), i0 < jj ∧ jj ≤ xs.length ∧ j = .int .i64 jj ∧ i = .int .i64 ((xs.take jj).filter fun s => !p s).length ∧ ((xs.take jj).filter fun s => !p s).length < jj ∧
      wr.heap[g]? = some (.cells cur' 9 (0, 0)) ∧ cur'.size = cap ∧ (∀ q, q < ((xs.take jj).filter fun s => !p s).length → cur'[q]? = (strs ((xs.take jj).filter fun s => !p s))[q]?) ∧
      (∀ q, jj ≤ q → q < xs.length → cur'[q]? = (strs xs)[q]?) ∧ Mod (BSet.one g) w wr) (fun _ j _ => xs.length - (intOf j).toNat)
    case atStart =>
      refine ⟨i0 + 1, cur, by omega, by omega, by go_num, ?_, ?_, HM.out.at HG.out (fun h => h), hcur, ?_, fun q _ hq => HC.out q hq, HM.out.mono (fun _ _ h => h.elim)⟩
      · rw [HK0.out, List.length_take, Nat.min_eq_left (by omega)]
      · rw [HK0.out, List.length_take]; omega
      · rw [HK0.out]
        intro q hq
        rw [List.length_take] at hq
        rw [HC.out q (by omega)]
        simp [strs, List.getElem?_take, show q < i0 by omega]
    case round =>
      obtain ⟨j, cur', hj0, hjl, rfl, rfl, hlt, hg', hcs', hkept, hrest, hmod⟩ := hrel
      obtain ⟨wo, rfl⟩ : ∃ wo : World, wo = wr := ⟨_, rfl⟩
      obtain ⟨K, hK⟩ : ∃ K, (xs.take j).filter (fun s => !p s) = K := ⟨_, rfl⟩
      rw [hK] at hkept hlt ⊢
      have HKK := Lib.hid hK
      have HKE := Lib.hid hkept
      have HRE := Lib.hid hrest
      have HMO := Lib.hid hmod
      have HGG := Lib.hid hg'
      clear hkept hrest hmod hK
      by_cases hend : j < xs.length
      · have hcell : wo.cell? ⟨g, j, none⟩ = some (.string xs[j]) := by
          rw [cell_of_at HGG.out, HRE.out j (Nat.le_refl _) hend]; simp [strs, hend]
        have hstep := Lib.hid (show (xs.take (j + 1)).filter (fun s => !p s) = K ++ (if p xs[j] then [] else [xs[j]]) by
          rw [List.take_succ_eq_append_getElem hend, List.filter_append, HKK.out]; cases hpj : p xs[j] <;> simp [hpj])
        have hmem := List.getElem_mem hend
        obtain ⟨x, hxe⟩ : ∃ x, xs[j] = x := ⟨_, rfl⟩
        rw [hxe] at hcell hmem
        have HXE := Lib.hid hxe
        clear hxe hg'
        have hk2 := hk
        unfold Enters at hk2
        go_wp2_with fail
        refine (HP.out x hmem _ (by exact HMO.out)).mono ?_
        rintro e w2 ⟨rfl, hm2⟩
        have HM2 := Lib.hid hm2
        have HG2 := Lib.hid (hm2.at HGG.out (fun h => h))
        clear hm2
        have hfz : w2.frozen? ⟨g, K.length, none⟩ = false := free_of_at HG2.out K.length
        have hc2 : ∃ u, w2.cell? ⟨g, K.length, none⟩ = some u := by
          rw [cell_of_at HG2.out, Array.getElem?_eq_getElem (by omega)]; exact ⟨_, rfl⟩
        obtain ⟨u, hc2⟩ := hc2
        have hklt : K.length < xs.length := by omega
        cases hpx : p x with
        | true =>
          have hst2 := Lib.hid (show (xs.take (j + 1)).filter (fun s => !p s) = K by rw [hstep.out, HXE.out, hpx]; simp)
          clear hc2 hfz
          go_wp2
          go_roundw
          case rel =>
            exact ⟨j + 1, cur', by omega, by omega, by go_num, by rw [hst2.out], by rw [hst2.out]; omega, HG2.out, hcs', by rw [hst2.out]; exact HKE.out, fun q h1 h2 => HRE.out q (by omega) h2, HMO.out.trans (HM2.out.mono (fun _ _ h => h.elim)) (fun _ _ h => h)⟩
          case measure => simp [intOf]; omega
        | false =>
          have hst2 := Lib.hid (show (xs.take (j + 1)).filter (fun s => !p s) = K ++ [x] by rw [hstep.out, HXE.out, hpx]; simp)
          go_wp2
          go_roundw
          case rel =>
            refine ⟨j + 1, cur'.setIfInBounds K.length (.string x), by omega, by omega, by go_num, by rw [hst2.out, List.length_append]; go_num, by rw [hst2.out, List.length_append, List.length_singleton]; omega, at_setCell_same HG2.out, by simp [hcs'], ?_, ?_, ?_⟩
            · rw [hst2.out]
              intro q hq
              rw [List.length_append, List.length_singleton] at hq
              rw [Array.getElem?_setIfInBounds]
              by_cases hqk : q = K.length
              · subst hqk
                rw [if_pos rfl, if_pos (by omega)]
                simp [strs]
              · rw [if_neg (fun h => hqk h.symm), HKE.out q (by omega)]
                simp [strs, List.getElem?_append, show q < K.length by omega]
            · intro q h1 h2
              rw [Array.getElem?_setIfInBounds, if_neg (by omega)]
              exact HRE.out q (by omega) h2
            · exact (HMO.out.trans (HM2.out.mono (fun _ _ h => h.elim)) (fun _ _ h => h)).setCell (.inl (show BSet.one g g from rfl)) _
          case measure => simp [intOf]; omega
      · have hje : j = xs.length := by omega
        have hfin : (xs.filter fun s => !p s) = K := by rw [← HKK.out, List.take_of_length_le (by omega)]
        have HF := Lib.hid hfin
        have hklt : K.length < xs.length := by omega
        have hkcap : K.length < cap := by omega
        have hclr := fun ty => Lib.run_clear_slice (P := Tryz.prog) wo 22 9 ty (.string ⟨#[]⟩) under22 (fun _ => rfl) rfl rfl g K.length (xs.length - K.length) (cap - K.length) (by omega)
          (fun q hq => by rw [cell_of_at HGG.out, Array.getElem?_eq_getElem (by omega)]; rfl) (fun q _ => free_of_at HGG.out _)
        clear hg' hfin
        go_wp2
        go_ret
        obtain ⟨hm5, cs5, h5, hs5, hq5⟩ := setCells_at g 9 (0, 0) (List.replicate (xs.length - K.length) (.string ⟨#[]⟩)) K.length wo cur' HGG.out
        rw [HF.out]
        refine ⟨rfl, ⟨some ⟨g, 0, none⟩, cap, by rw [strs_length], by rw [strs_length]; unfold maxLen; omega, fun _ => ⟨g, 0, cs5, 9, (0, 0), rfl, h5, fun i hi => ?_⟩⟩, HMO.out.trans hm5 (fun _ _ h => h)⟩
        rw [strs_length] at hi
        rw [Nat.zero_add, hq5 i hi]
        exact HKE.out i hi
end Go.Proofs.YthogefmngddnbaaGreatDoor
/- wal.names: the walk. -/
namespace Go.Proofs.YthogefmngddnbaaGreatDoor
open Go.RowKit

def isSeg (s : ByteArray) : Bool := (numOf s).isSome
/-- the segments of a folder, in order; the greatest number -/
def Fs.segs (f : Fs) : List ByteArray := f.names.filter isSeg
def topOf (l : List ByteArray) : Nat := match l.getLast? with | none => 0 | some s => (numOf s).getD 0
theorem notSeg_any (s : ByteArray) (w : World) (hs : s.size ≤ 1099511627776) (hg : Globs w) : Calls Tryz.prog 132 #[.string s] w fun e w' => e = .returned (.bool (!isSeg s)) ∧ Mod BSet.none w w' := by
  go_enter Tryz.func132, Tryz.ntmps132
  go_wp2_with fail
  refine (number_any s _ hs hg).mono ?_
  rintro e w1 ⟨rfl, hm⟩
  go_wp2
  go_ret
  refine ⟨?_, hm⟩
  unfold isSeg
  cases numOf s <;> rfl
def DelAllP (F : BSet) (ys : List ByteArray) (w : World) (e : Ending) (w' : World) : Prop :=
  ∃ v, e = .returned v ∧ SlAt w'.heap v (strs ys) ∧ SlIn F v ∧ Mod F w w'
set_option maxRecDepth 100000 in
theorem deleteFunc_any (k : FuncId) (caps : Array Value) (p : ByteArray → Bool) (F : BSet) (v : Value) (n : Nat) (xs : List ByteArray) (w : World) (ho : Owns w.heap F 9 1 v n (strs xs)) (hk : Enters k) (hp : StrPredF F k caps p xs w) :
    Calls Tryz.prog 131 #[v, .func (.func k) #[] caps] w (DelAllP F (xs.filter fun s => !p s) w) := by
  have hn : n = xs.length := by have := ho.1; rw [strs_length] at this; omega
  subst hn
  rcases ho.2 with ⟨rfl, h0⟩ | ⟨g, cap, cur, rfl, hF, hg, h1, h2, h3, h4⟩
  · have hx : xs = [] := List.length_eq_zero_iff.1 h0
    subst hx
    have hv : SlAt w.heap (.slice none 0 0) (strs []) := ⟨none, 0, rfl, Nat.zero_le _, fun h => (h rfl).elim⟩
    have hp0 : StrPred k caps p [] w := fun s hs => by cases hs
    go_enter Tryz.func131, Tryz.ntmps131
    go_wp2_with fail
    refine (indexFunc_str k caps p _ [] _ hv hk hp0).mono ?_
    rintro e w1 ⟨rfl, hm⟩
    rw [show idxOf p [] = -1 from rfl]
    go_wp2
    go_ret
    exact ⟨_, rfl, hv.mod0 hm, trivial, hm.mono (fun _ _ h => h.elim)⟩
  · rw [Nat.mul_one] at h3 h4
    have hone : ∀ k, BSet.one g k → F k := fun k h => by rw [show k = g from h]; exact hF
    refine (deleteFunc_some k caps p g cap cur xs w hg h3 h2 h1 h4 hk (fun s hs w' hm => hp s hs w' (hm.mono (fun k _ h => hone k h)))).mono ?_
    rintro e w' ⟨rfl, hs, hm⟩
    exact ⟨_, rfl, hs, fun _ => hF, hm.mono (fun k _ h => hone k h)⟩
theorem mem_names {f : Fs} {s : ByteArray} (h : s ∈ f.names) : ∃ p, p ∈ f.now ∧ p.1 = s := by
  unfold Fs.names sortL at h
  obtain ⟨l, hl, rfl⟩ := List.mem_map.1 h
  rw [List.mem_mergeSort] at hl
  obtain ⟨p, hp, rfl⟩ := List.mem_map.1 hl
  exact ⟨p, hp, rfl⟩
theorem names_length (f : Fs) : f.names.length = f.now.length := by
  unfold Fs.names sortL
  rw [List.length_map, List.length_mergeSort, List.length_map]
def WNamesP (f : Fs) (w : World) (e : Ending) (w' : World) : Prop :=
  ∃ v, e = .returned (.tuple #[v, .int .i64 (topOf f.segs : Nat)]) ∧ SlAt w'.heap v (strs f.segs) ∧ SlIn (grow BSet.none w w') v ∧ Mod BSet.none w w'
set_option maxRecDepth 100000 in
set_option maxHeartbeats 1000000 in
theorem wnames_any (b : Nat) (f : Fs) (F : BSet) (w : World) (hr : FsRep w.heap b f F) (hg : Globs w) : Calls Tryz.prog 80 #[.pointer (some ⟨b, 0, none⟩)] w (WNamesP f w) := by
  have hsz : ∀ s, s ∈ f.names → s.size ≤ 20 := fun s hs => by
    obtain ⟨p, hp, rfl⟩ := mem_names hs
    exact okName_size (hr.wf.names p hp)
  have hmf : ∀ fn first cap w, (Instr.makeFunc fn first cap).run Tryz.prog w = .ok (.func fn first cap) w := fun _ _ _ _ => rfl
  have HS := Lib.hid hsz
  have HR := Lib.hid hr
  have HG := Lib.hid hg
  have hw9 := hg.size
  clear hsz hr hg
  go_enter Tryz.func80, Tryz.ntmps80
  go_wp2_with fail
  refine (names_any b f F _ (by exact HR.out)).mono ?_
  rintro e w1 ⟨v, rfl, ho, hm⟩
  have HO := Lib.hid ho
  have HM := Lib.hid hm
  have hsz1 := hm.size
  clear ho hm
  go_wp2_with fail
  have hent : Enters 132 := fun args w => by kernel_rfl
  have hpred : StrPredF (grow BSet.none w w1) 132 #[] (fun s => !isSeg s) f.names w1 := fun s hs w' hm =>
    notSeg_any s w' (Nat.le_trans (HS.out s hs) (by decide)) ((HG.out.mod0 HM.out).mod hm (fun k hk => by
      unfold grow BSet.none at hk; simp at hk; omega))
  refine (deleteFunc_any 132 #[] (fun s => !isSeg s) (grow BSet.none w w1) v _ f.names _ (by exact HO.out) hent hpred).mono ?_
  rintro e w2 ⟨v2, rfl, hs2, hi2, hm2⟩
  have hfil : (f.names.filter fun s => !(fun s => !isSeg s) s) = f.segs := by unfold Fs.segs; congr 1; funext s; simp
  rw [hfil] at hs2
  have hmw2 : Mod BSet.none w w2 := HM.out.trans hm2 (fun i hi h => by unfold grow BSet.none at h; simp at h; omega)
  have HM2 := Lib.hid hmw2
  have HS2 := Lib.hid hs2
  have hi2' : SlIn (grow BSet.none w w2) v2 := by
    have hsz2 := hm2.size
    unfold SlIn at hi2 ⊢
    split
    · next a n c =>
      intro hn
      have := hi2 hn
      unfold grow BSet.none at this ⊢
      simp at this ⊢; omega
    · trivial
  have HI2 := Lib.hid hi2'
  obtain ⟨segs, hsegs⟩ : ∃ segs, f.segs = segs := ⟨_, rfl⟩
  rw [hsegs] at hs2
  have HSG := Lib.hid hsegs
  have hmem : ∀ s, s ∈ segs → s.size ≤ 20 := fun s hs => by
    rw [← HSG.out] at hs
    exact HS.out s (List.mem_filter.1 hs).1
  obtain ⟨a, c, rfl, hl, hx⟩ := hs2
  rw [strs_length] at hl hx ⊢
  clear hm2 hmw2 hi2' hpred hfil hi2
  unfold maxLen at hl
  by_cases hc : segs = []
  · subst hc
    have HC := HSG
    clear hx hmem hsegs
    go_wp2
    go_ret2
    refine ⟨.slice none 0 0, ?_, ?_, trivial, HM2.out⟩
    · rw [HC.out]; rfl
    · rw [HC.out]; exact ⟨none, 0, rfl, Nat.zero_le _, fun h => (h rfl).elim⟩
  · have hne : strs segs ≠ [] := by intro h; apply hc; unfold strs at h; exact List.map_eq_nil_iff.1 h
    obtain ⟨g, o, cs, ty, fr, rfl, hg, hcs⟩ := hx hne
    obtain ⟨t, hlen⟩ : ∃ t, segs.length = t + 1 := ⟨segs.length - 1, by have := List.length_pos_iff.2 hc; omega⟩
    obtain ⟨s, hs⟩ : ∃ s, segs[t]? = some s := by rw [List.getElem?_eq_getElem (by omega)]; exact ⟨_, rfl⟩
    have hcell : w2.cell? ⟨g, o + t, none⟩ = some (.string s) := by
      rw [cell_of_at hg, hcs t (by rw [hlen]; omega)]
      simp [strs, hs]
    have hss := hmem s (List.mem_of_getElem? hs)
    have htop : topOf segs = (numOf s).getD 0 := by
      unfold topOf
      have : segs.getLast? = some s := by rw [List.getLast?_eq_getElem?, hlen]; exact hs
      rw [this]
    have hgl := lt_of_at hg
    have HT := Lib.hid htop
    have HLen := Lib.hid hlen
    rw [hlen] at hl
    rw [hlen]
    have hidx : ((t : Int) + 1 - 1) = (t : Int) := by omega
    clear hx hmem hsegs hc hne hcs hg hs htop hlen
    go_wp2_with fail
    refine (number_any s _ (by omega) (HG.out.mod0 HM2.out)).mono ?_
    rintro e w3 ⟨rfl, hm3⟩
    have HM3 := Lib.hid hm3
    clear hm3
    go_wp2
    go_ret2
    refine ⟨.slice (some ⟨g, o, none⟩) (t + 1) c, ?_, ?_, ?_, HM2.out.trans HM3.out (fun _ _ h => h)⟩
    · rw [HSG.out, HT.out]; rfl
    · have := HS2.out.mod0 HM3.out
      rw [strs_length] at this
      rw [HLen.out] at this
      exact this
    · intro hn
      have h1 := HI2.out (by rw [strs_length, HLen.out]; omega)
      have h2 := HM3.out.size
      unfold grow BSet.none at h1 ⊢
      simp at h1 ⊢; omega
end Go.Proofs.YthogefmngddnbaaGreatDoor
/- A Wal in memory; its small methods: the walks. -/
namespace Go.Proofs.YthogefmngddnbaaGreatDoor
open Go.RowKit

/-- a log -/
structure Wl where
  state : ByteArray
  recs : List ByteArray
  first : Nat
  firm : Nat
  now : ByteArray
  broken : Bool
def Wl.last (l : Wl) : Nat := l.first + l.recs.length - 1
structure Wl.Ok (l : Wl) : Prop where
  one : 1 ≤ l.first
  first : l.first ≤ 1125899906842624
  recs : l.recs.length ≤ 1125899906842624
  firm : l.firm ≤ 4503599627370496
def wlCells (fp : Option Addr) (l : Wl) (rv : Value) : Array Value := #[.pointer fp, .string l.state, rv, .int .i64 l.first, .int .i64 l.firm, .string l.now, .bool l.broken]
/-- a log at a block, with the blocks that are its own -/
structure WlAt (h : Array Obj) (b : Nat) (fp : Option Addr) (l : Wl) (F : BSet) : Prop where
  own : F b
  lt : ∀ k, F k → k < h.size
  ex : ∃ rv, h[b]? = some (.cells (wlCells fp l rv) 45 (0, 0)) ∧ Owns h F 9 1 rv l.recs.length (strs l.recs)
structure WCells (w : World) (b : Nat) (fp : Option Addr) (l : Wl) (rv : Value) : Prop where
  c0 : w.cell? ⟨b, 0, none⟩ = some (.pointer fp)
  c1 : w.cell? ⟨b, 1, none⟩ = some (.string l.state)
  c2 : w.cell? ⟨b, 2, none⟩ = some rv
  c3 : w.cell? ⟨b, 3, none⟩ = some (.int .i64 l.first)
  c4 : w.cell? ⟨b, 4, none⟩ = some (.int .i64 l.firm)
  c5 : w.cell? ⟨b, 5, none⟩ = some (.string l.now)
  c6 : w.cell? ⟨b, 6, none⟩ = some (.bool l.broken)
theorem wcells {w : World} {b : Nat} {fp : Option Addr} {l : Wl} {rv : Value} {fr : Nat × Nat} (h : w.heap[b]? = some (.cells (wlCells fp l rv) 45 fr)) : WCells w b fp l rv :=
  ⟨cell_of_at h 0, cell_of_at h 1, cell_of_at h 2, cell_of_at h 3, cell_of_at h 4, cell_of_at h 5, cell_of_at h 6⟩
theorem WlAt.keep {w w' : World} {b : Nat} {fp : Option Addr} {l : Wl} {F G : BSet} (h : WlAt w.heap b fp l F) (m : Mod G w w') (hd : ∀ k, F k → ¬ G k) : WlAt w'.heap b fp l F := by
  obtain ⟨ho, hl, rv, hb, hr⟩ := h
  exact ⟨ho, fun k hk => Nat.lt_of_lt_of_le (hl k hk) m.size, rv, m.at hb (hd b ho), hr.keep (fun k hk => m.block k (hl k hk) (hd k hk)) (fun _ h => h)⟩

theorem wfirst_any (b : Nat) (fp : Option Addr) (l : Wl) (F : BSet) (w : World) (h : WlAt w.heap b fp l F) : Calls Tryz.prog 30 #[.pointer (some ⟨b, 0, none⟩)] w fun e w' => e = .returned (.int .i64 l.first) ∧ w' = w := by
  obtain ⟨rv, hb, _⟩ := h.ex
  have c3 := (wcells hb).c3
  clear h hb
  go_enter Tryz.func30, Tryz.ntmps30
  go_wp2
  go_ret
  exact ⟨rfl, rfl⟩
theorem wfirm_any (b : Nat) (fp : Option Addr) (l : Wl) (F : BSet) (w : World) (h : WlAt w.heap b fp l F) : Calls Tryz.prog 24 #[.pointer (some ⟨b, 0, none⟩)] w fun e w' => e = .returned (.int .i64 l.firm) ∧ w' = w := by
  obtain ⟨rv, hb, _⟩ := h.ex
  have c4 := (wcells hb).c4
  clear h hb
  go_enter Tryz.func24, Tryz.ntmps24
  go_wp2
  go_ret
  exact ⟨rfl, rfl⟩
theorem wstate_any (b : Nat) (fp : Option Addr) (l : Wl) (F : BSet) (w : World) (h : WlAt w.heap b fp l F) : Calls Tryz.prog 29 #[.pointer (some ⟨b, 0, none⟩)] w fun e w' => e = .returned (.string l.state) ∧ w' = w := by
  obtain ⟨rv, hb, _⟩ := h.ex
  have c1 := (wcells hb).c1
  clear h hb
  go_enter Tryz.func29, Tryz.ntmps29
  go_wp2
  go_ret
  exact ⟨rfl, rfl⟩
theorem wnilInt (k : FuncId) (hk : k = 30 ∨ k = 24) (w : World) : Calls Tryz.prog k #[.pointer none] w fun e w' => e = .returned (.int .i64 0) ∧ w' = w := by
  rcases hk with rfl | rfl
  · go_enter Tryz.func30, Tryz.ntmps30
    go_wp2
    go_ret
    exact ⟨rfl, rfl⟩
  · go_enter Tryz.func24, Tryz.ntmps24
    go_wp2
    go_ret
    exact ⟨rfl, rfl⟩
set_option maxRecDepth 100000 in
theorem wlast_any (b : Nat) (fa : Addr) (l : Wl) (F : BSet) (w : World) (h : WlAt w.heap b (some fa) l F) (ho : l.Ok) : Calls Tryz.prog 32 #[.pointer (some ⟨b, 0, none⟩)] w fun e w' => e = .returned (.int .i64 l.last) ∧ ∃ n, w' = w.drewN n := by
  obtain ⟨rv, hb, hr⟩ := h.ex
  have c0 := (wcells hb).c0
  have c2 := (wcells hb).c2
  have c3 := (wcells hb).c3
  have h1 := ho.one
  have h2 := ho.first
  have h3 := ho.recs
  have hl : (l.last : Int) = (l.first : Int) + (l.recs.length : Int) - 1 := by unfold Wl.last; omega
  obtain ⟨a, c, rfl⟩ : ∃ a c, rv = .slice a l.recs.length c := by
    rcases hr.2 with ⟨rfl, h0⟩ | ⟨g, cap, cur, rfl, _⟩
    · exact ⟨none, 0, by rw [h0]⟩
    · exact ⟨_, _, rfl⟩
  have HL := Lib.hid hl
  have hwr : IntKind.i64.wrap ((l.first : Int) + (l.recs.length : Int)) = (l.first : Int) + (l.recs.length : Int) := IntWalk.i64_in _ (by omega)
  have hwr2 : IntKind.i64.wrap ((l.first : Int) + (l.recs.length : Int) - 1) = (l.first : Int) + (l.recs.length : Int) - 1 := IntWalk.i64_in _ (by omega)
  clear h hb hl hr ho
  go_enter Tryz.func32, Tryz.ntmps32
  go_wp2
  go_quiet (fail)
  go_wp2
  go_ret
  exact ⟨ret_int (by rw [HL.out]), _, rfl⟩
theorem wlast_nil (w : World) : Calls Tryz.prog 32 #[.pointer none] w fun e w' => e = .returned (.int .i64 0) ∧ w' = w := by
  go_enter Tryz.func32, Tryz.ntmps32
  go_wp2
  go_ret
  exact ⟨rfl, rfl⟩
theorem wlast_zero (b : Nat) (l : Wl) (F : BSet) (w : World) (h : WlAt w.heap b none l F) : Calls Tryz.prog 32 #[.pointer (some ⟨b, 0, none⟩)] w fun e w' => e = .returned (.int .i64 0) ∧ w' = w := by
  obtain ⟨rv, hb, _⟩ := h.ex
  have c0 := (wcells hb).c0
  clear h hb
  go_enter Tryz.func32, Tryz.ntmps32
  go_wp2
  go_ret
  exact ⟨rfl, rfl⟩
theorem wstate_nil (w : World) : Calls Tryz.prog 29 #[.pointer none] w fun e w' => e = .returned (.string ⟨#[]⟩) ∧ w' = w := by
  go_enter Tryz.func29, Tryz.ntmps29
  go_wp2
  go_ret
  exact ⟨rfl, rfl⟩
theorem wbroken_nil (w : World) : Calls Tryz.prog 33 #[.pointer none] w fun e w' => e = .returned (.bool true) ∧ w' = w := by
  go_enter Tryz.func33, Tryz.ntmps33
  go_wp2
  go_ret
  exact ⟨rfl, rfl⟩
theorem wbroken_any (b : Nat) (fp : Option Addr) (l : Wl) (F : BSet) (w : World) (h : WlAt w.heap b fp l F) : Calls Tryz.prog 33 #[.pointer (some ⟨b, 0, none⟩)] w fun e w' => e = .returned (.bool (fp.isNone || l.broken)) ∧ w' = w := by
  obtain ⟨rv, hb, _⟩ := h.ex
  have c0 := (wcells hb).c0
  have c6 := (wcells hb).c6
  clear h hb
  cases fp with
  | none =>
    go_enter Tryz.func33, Tryz.ntmps33
    go_wp2
    go_ret
    exact ⟨rfl, rfl⟩
  | some a =>
    cases hbr : l.broken
    all_goals
      rw [hbr] at c6
      go_enter Tryz.func33, Tryz.ntmps33
      go_wp2
      go_ret
      exact ⟨rfl, rfl⟩
theorem wseg_nil (w : World) : Calls Tryz.prog 28 #[.pointer none] w fun e w' => e = .returned (.int .i64 0) ∧ w' = w := by
  go_enter Tryz.func28, Tryz.ntmps28
  go_wp2
  go_ret
  exact ⟨rfl, rfl⟩
set_option maxRecDepth 100000 in
theorem wseg_any (b fb : Nat) (f : Fs) (G : BSet) (l : Wl) (F : BSet) (w : World) (h : WlAt w.heap b (some ⟨fb, 0, none⟩) l F) (hr : FsRep w.heap fb f G) (hg : Globs w) :
    Calls Tryz.prog 28 #[.pointer (some ⟨b, 0, none⟩)] w fun e w' => e = .returned (.int .i64 f.segs.length) ∧ Mod BSet.none w w' := by
  obtain ⟨rv, hb, _⟩ := h.ex
  have c0 := (wcells hb).c0
  clear h hb
  go_enter Tryz.func28, Tryz.ntmps28
  go_wp2_with fail
  refine (wnames_any fb f G _ hr hg).mono ?_
  rintro e w1 ⟨v, rfl, hs, _, hm⟩
  obtain ⟨a, c, rfl, _, _⟩ := hs
  rw [strs_length]
  go_wp2
  go_ret
  exact ⟨rfl, hm⟩
/-- a slice of texts of the call's own -/
def NewStrs (xs : List ByteArray) (w : World) (e : Ending) (w' : World) : Prop :=
  ∃ v, e = .returned v ∧ Owns w'.heap (grow BSet.none w w') 9 1 v xs.length (strs xs) ∧ Mod BSet.none w w'
theorem clone_strs (F : BSet) (v : Value) (xs : List ByteArray) (w : World) (h : Owns w.heap F 9 1 v xs.length (strs xs)) (hl : xs.length ≤ 1099511627776) : Calls Tryz.prog 74 #[v] w (NewStrs xs w) := by
  rcases h.2 with ⟨rfl, h0⟩ | ⟨g, cap, cur, rfl, hF, hg, h1, h2, h3, h4⟩
  · refine (Tryz.slices_Clone_string_nil 0 0 w).mono ?_
    rintro e w' ⟨rfl, rfl⟩
    have hx : xs = [] := List.length_eq_zero_iff.1 h0
    subst hx
    exact ⟨_, rfl, owns_nil _ _ _, Mod.refl _ _⟩
  · rw [Nat.mul_one] at h3 h4
    refine (Tryz.slices_Clone_string g 0 xs.length cap xs w (Nat.le_refl _) (by omega) (fun j hj => ?_)).mono ?_
    · rw [Nat.zero_add, cell_of_at hg]
      have : (strs xs)[j]? = cur[j]? := by rw [← h4, List.getElem?_take, if_pos hj]; simp
      rw [← this]; simp [strs, hj]
    · rintro e w' ⟨v', rfl, ho, _, hb⟩
      rw [List.take_of_length_le (Nat.le_refl _)] at ho
      exact ⟨v', rfl, Owns.of_row ho (fun k hk => .inr (ho.lt k hk)), Mod.of_below hb⟩
set_option maxRecDepth 100000 in
theorem wrecords_any (b : Nat) (fp : Option Addr) (l : Wl) (F : BSet) (w : World) (h : WlAt w.heap b fp l F) (hl : l.recs.length ≤ 1099511627776) : Calls Tryz.prog 23 #[.pointer (some ⟨b, 0, none⟩)] w (NewStrs l.recs w) := by
  obtain ⟨rv, hb, hr⟩ := h.ex
  have c2 := (wcells hb).c2
  clear h hb
  go_enter Tryz.func23, Tryz.ntmps23
  go_wp2_with fail
  refine (clone_strs F rv l.recs _ hr hl).mono ?_
  rintro e w1 ⟨v, rfl, ho, hm⟩
  go_wp2
  go_ret
  exact ⟨v, rfl, ho, hm⟩
theorem wrecords_nil (w : World) : Calls Tryz.prog 23 #[.pointer none] w fun e w' => e = .returned (.slice none 0 0) ∧ w' = w := by
  go_enter Tryz.func23, Tryz.ntmps23
  go_wp2
  go_ret
  exact ⟨rfl, rfl⟩
end Go.Proofs.YthogefmngddnbaaGreatDoor
/- Wal.seen, ready: the walks. -/
namespace Go.Proofs.YthogefmngddnbaaGreatDoor
open Go.RowKit

/-- a log whose block's cells were set anew; its row is as it was -/
theorem WlAt.set {w w' : World} {b : Nat} {fp fp' : Option Addr} {l l' : Wl} {F : BSet} {rv : Value} (h : WlAt w.heap b fp l F) (ho : Owns w.heap F 9 1 rv l'.recs.length (strs l'.recs)) (m : Mod (BSet.one b) w w')
    (hb : w'.heap[b]? = some (.cells (wlCells fp' l' rv) 45 (0, 0))) : WlAt w'.heap b fp' l' F := by
  obtain ⟨rv0, hb0, _⟩ := h.ex
  exact ⟨h.own, fun k hk => Nat.lt_of_lt_of_le (h.lt k hk) m.size, rv, hb, ho.stay (t := 45) (m.stay hb0 45 rfl) (by decide)⟩

def Wl.seen (l : Wl) (e : Int) : Wl := { l with broken := l.broken || e == 14 }
def WlU (b : Nat) (fp : Option Addr) (l' : Wl) (F : BSet) (v : Value) (w : World) (e : Ending) (w' : World) : Prop :=
  e = .returned v ∧ WlAt w'.heap b fp l' F ∧ Mod (BSet.one b) w w'
set_option maxRecDepth 100000 in
set_option maxHeartbeats 400000 in
theorem seen_any (b : Nat) (fp : Option Addr) (l : Wl) (F : BSet) (x : Int) (w : World) (h : WlAt w.heap b fp l F) :
    Calls Tryz.prog 66 #[.pointer (some ⟨b, 0, none⟩), .int .i64 x] w (WlU b fp (l.seen x) F (.int .i64 x) w) := by
  obtain ⟨rv, hb, hr⟩ := h.ex
  have c6 := (wcells hb).c6
  have e6 : w.frozen? ⟨b, 6, none⟩ = false := free_of_at hb 6
  have hlt := lt_of_at hb
  have H := Lib.hid h
  have HB := Lib.hid hb
  have HR := Lib.hid hr
  have fin : ∀ y : Bool, y = (l.seen x).broken → WlAt (w.setCell ⟨b, 6, none⟩ (.bool y)).heap b fp (l.seen x) F := fun y hy =>
    H.out.set (l' := l.seen x) HR.out (mod_one _ _ _ _) (by rw [at_setCell_same HB.out, hy]; rfl)
  have FIN := Lib.hid fin
  clear h hb hr fin
  cases hbr : l.broken with
  | true =>
    rw [hbr] at c6
    have HBr := Lib.hid hbr
    clear hbr
    go_enter Tryz.func66, Tryz.ntmps66
    go_wp2
    go_ret
    exact ⟨rfl, FIN.out _ (by unfold Wl.seen; simp only [HBr.out]; rfl), mod_one _ _ _ _⟩
  | false =>
    rw [hbr] at c6
    have HBr := Lib.hid hbr
    clear hbr
    go_enter Tryz.func66, Tryz.ntmps66
    go_wp2
    go_ret
    exact ⟨rfl, FIN.out _ (by unfold Wl.seen; simp only [HBr.out]; rfl), mod_one _ _ _ _⟩

def tooLong (s : ByteArray) : Bool := decide (60000 < s.size)
theorem tooLong_any (s : ByteArray) (w : World) (hs : s.size ≤ 1099511627776) : Calls Tryz.prog 112 #[.string s] w fun e w' => e = .returned (.bool (tooLong s)) ∧ w' = w := by
  go_enter Tryz.func112, Tryz.ntmps112
  go_wp2
  go_ret
  refine ⟨?_, rfl⟩
  unfold tooLong
  exact ret_bool (decide_eq_decide.2 (by omega))
def Wl.ready (fp : Option Addr) (l : Wl) (texts : List ByteArray) : Int := if fp.isNone || l.broken then 13 else if texts.any tooLong then 11 else 0
theorem ready_nil (v : Value) (w : World) : Calls Tryz.prog 64 #[.pointer none, v] w fun e w' => e = .returned (.int .i64 1) ∧ w' = w := by
  go_enter Tryz.func64, Tryz.ntmps64
  go_wp2
  go_ret
  exact ⟨rfl, rfl⟩
set_option maxRecDepth 100000 in
set_option maxHeartbeats 400000 in
theorem wready_any (b : Nat) (fp : Option Addr) (l : Wl) (F : BSet) (v : Value) (xs : List ByteArray) (w : World) (h : WlAt w.heap b fp l F) (hv : SlAt w.heap v (strs xs)) (hs : ∀ s, s ∈ xs → s.size ≤ 1099511627776) :
    Calls Tryz.prog 64 #[.pointer (some ⟨b, 0, none⟩), v] w fun e w' => e = .returned (.int .i64 (Wl.ready fp l xs)) ∧ Mod BSet.none w w' := by
  have hmf : ∀ fn first cap w, (Instr.makeFunc fn first cap).run Tryz.prog w = .ok (.func fn first cap) w := fun _ _ _ _ => rfl
  have H := Lib.hid h
  have HV := Lib.hid hv
  have HS := Lib.hid hs
  clear h hv hs
  cases hbr : (fp.isNone || l.broken) with
  | true =>
    have HR := Lib.hid (show Wl.ready fp l xs = 13 by unfold Wl.ready; rw [hbr]; rfl)
    have HBr := Lib.hid hbr
    clear hbr
    go_enter Tryz.func64, Tryz.ntmps64
    go_wp2_with fail
    refine (wbroken_any b fp l F _ (by exact H.out)).mono ?_
    rintro e w1 ⟨rfl, rfl⟩
    rw [HBr.out]
    go_wp2
    go_ret
    exact ⟨by rw [HR.out]; rfl, Mod.refl _ _⟩
  | false =>
    have HBr := Lib.hid hbr
    have hk : Enters 112 := fun args w => by kernel_rfl
    have hp : StrPred 112 #[] tooLong xs w := fun s hs w' _ => (tooLong_any s w' (HS.out s hs)).mono (by rintro e w'' ⟨rfl, rfl⟩; exact ⟨rfl, Mod.refl _ _⟩)
    have HP := Lib.hid hp
    clear hp
    cases hany : xs.any tooLong
    all_goals
      have HR := Lib.hid (show Wl.ready fp l xs = (if false = true then 13 else if xs.any tooLong = true then 11 else 0) by unfold Wl.ready; rw [hbr])
      have HA := Lib.hid hany
      clear hbr hany
      go_enter Tryz.func64, Tryz.ntmps64
      go_wp2_with fail
      refine (wbroken_any b fp l F _ (by exact H.out)).mono ?_
      rintro e w1 ⟨rfl, rfl⟩
      rw [HBr.out]
      go_wp2_with fail
      refine (containsFunc_str 112 #[] tooLong v xs _ (by exact HV.out) hk (by exact HP.out)).mono ?_
      rintro e w2 ⟨rfl, hm⟩
      rw [HA.out]
      go_wp2
      go_ret
      exact ⟨by rw [HR.out, HA.out]; rfl, hm⟩
end Go.Proofs.YthogefmngddnbaaGreatDoor
/- Wal.begin: its closures. -/
namespace Go.Proofs.YthogefmngddnbaaGreatDoor
open Go.RowKit

theorem FsP.after {b : Nat} {G : BSet} {r : Fs × Int} {w w1 w2 : World} {e : Ending} (h : FsP b G r w1 e w2) (m : Mod BSet.none w w1) : FsP b G r w e w2 := by
  obtain ⟨h1, h2, h3⟩ := h
  have s1 := m.size
  refine ⟨h1, h2.weaken (fun k hk => ?_) (fun k hk => ?_), m.none_any.trans h3 (fun _ _ h => h)⟩
  · rcases hk with hk | hk
    · exact .inl hk
    · exact .inr ⟨by omega, hk.2⟩
  · rcases hk with hk | hk
    · exact h2.lt k (.inl hk)
    · exact hk.2
theorem begin1_any (cf cn fb : Nat) (f : Fs) (G : BSet) (name : ByteArray) (w : World) (h1 : w.cell? ⟨cf, 0, none⟩ = some (.pointer (some ⟨fb, 0, none⟩))) (h2 : w.cell? ⟨cn, 0, none⟩ = some (.string name))
    (hr : FsRep w.heap fb f G) (hsz : name.size ≤ maxLen) (hlen : f.since.length ≤ 1073741824) : Calls Tryz.prog 119 #[.pointer (some ⟨cf, 0, none⟩), .pointer (some ⟨cn, 0, none⟩)] w (CreateP fb G f name w) := by
  go_enter Tryz.func119, Tryz.ntmps119
  go_wp2_with fail
  refine (create_any fb f G name _ hr hsz hlen).mono ?_
  rintro e w1 ⟨nid, hn, rfl, h3, h4⟩
  go_wp2
  go_ret
  exact ⟨nid, hn, rfl, h3, h4⟩
theorem begin3_any (cf cn fb : Nat) (f : Fs) (G : BSet) (name : ByteArray) (w : World) (h1 : w.cell? ⟨cf, 0, none⟩ = some (.pointer (some ⟨fb, 0, none⟩))) (h2 : w.cell? ⟨cn, 0, none⟩ = some (.string name))
    (hr : FsRep w.heap fb f G) (hsz : name.size ≤ maxLen) : Calls Tryz.prog 123 #[.pointer (some ⟨cf, 0, none⟩), .pointer (some ⟨cn, 0, none⟩)] w (FsP fb G (f.sync name) w) := by
  go_enter Tryz.func123, Tryz.ntmps123
  go_wp2_with fail
  refine (sync_any fb f G name _ hr hsz).mono ?_
  rintro e w1 ⟨rfl, h3, h4⟩
  go_wp2
  go_ret
  exact ⟨rfl, h3, h4⟩
set_option maxRecDepth 100000 in
set_option maxHeartbeats 1000000 in
theorem begin2_any (cf cn c1 c2 c3 fb : Nat) (f : Fs) (G : BSet) (name : ByteArray) (first : Nat) (kept : Bool) (state : ByteArray) (w : World) (h1 : w.cell? ⟨cf, 0, none⟩ = some (.pointer (some ⟨fb, 0, none⟩))) (h2 : w.cell? ⟨cn, 0, none⟩ = some (.string name))
    (h3 : w.cell? ⟨c1, 0, none⟩ = some (.int .i64 first)) (h4 : w.cell? ⟨c2, 0, none⟩ = some (.bool kept)) (h5 : w.cell? ⟨c3, 0, none⟩ = some (.string state))
    (hr : FsRep w.heap fb f G) (hsz : name.size ≤ maxLen) (hg : Globs w) (hf : first < 9223372036854775808) (hs : state.size ≤ 60000) (hh : (headOf first kept state).size ≤ 1152921504606846976) (n1 : ¬ G cf) (n2 : ¬ G cn) (n3 : ¬ G c1) (n4 : ¬ G c2) (n5 : ¬ G c3) :
    Calls Tryz.prog 121 #[.pointer (some ⟨cf, 0, none⟩), .pointer (some ⟨cn, 0, none⟩), .pointer (some ⟨c1, 0, none⟩), .pointer (some ⟨c2, 0, none⟩), .pointer (some ⟨c3, 0, none⟩)] w (FsP fb G (f.append name (headOf first kept state)) w) := by
  have HR := Lib.hid hr
  have HG := Lib.hid hg
  have HH := Lib.hid hh
  have b1 := World.block_lt_of_cell? w _ h1
  have b2 := World.block_lt_of_cell? w _ h2
  clear hr hg hh
  go_enter Tryz.func121, Tryz.ntmps121
  go_wp2
  first | (go_region_held3 (fun w' => w'.cell? ⟨cf, 0, none⟩ = some (.pointer (some ⟨fb, 0, none⟩)) ∧ w'.cell? ⟨cn, 0, none⟩ = some (.string name) ∧ w'.cell? ⟨c1, 0, none⟩ = some (.int .i64 first) ∧ w'.cell? ⟨c2, 0, none⟩ = some (.bool kept) ∧ w'.cell? ⟨c3, 0, none⟩ = some (.string state))
    (first | exact ⟨z1, z2, z3, z4, z5⟩ | exact ⟨y1, y2, y3, y4, y5⟩ | exact ⟨h1, h2, h3, h4, h5⟩)
    (first | (go_at_call 122; refine (head_any first kept state _ hf hs (by exact HG.out.mod0 (Mod.refl _ w).drew)).mono ?_; rintro e w1 ⟨rfl, hm⟩; have HM := Lib.hid ((Mod.refl BSet.none w).drew.trans hm (fun _ _ h => h)); have y1 := hm.cell h1 (fun h => h); have y2 := hm.cell h2 (fun h => h); have y3 := hm.cell h3 (fun h => h); have y4 := hm.cell h4 (fun h => h); have y5 := hm.cell h5 (fun h => h); clear hm) | (go_at_call 67; refine (append_any fb f G name (headOf first kept state) _ (by exact HR.out.mod0 HM.out) hsz HH.out).mono ?_; rintro e w2 ⟨rfl, hx, hm2⟩; have HX := Lib.hid hx; have HM2 := Lib.hid hm2; have z1 := hm2.cell y1 n1; have z2 := hm2.cell y2 n2; have z3 := hm2.cell y3 n3; have z4 := hm2.cell y4 n4; have z5 := hm2.cell y5 n5; clear hm2 hx))) | fail
  go_wp2
  go_ret
  exact FsP.after ⟨rfl, HX.out, HM2.out⟩ HM.out
end Go.Proofs.YthogefmngddnbaaGreatDoor
/- The folder's Crash: what the picks say. -/
namespace Go.Proofs.YthogefmngddnbaaGreatDoor
open Go.RowKit Go.MapKept Go.Shelf

def ints (l : List Int) : List Value := l.map (.int .i64)
@[simp] theorem ints_length (l : List Int) : (ints l).length = l.length := by simp [ints]
def absPick (p : Int) : Int := if p < 0 then -(p + 1) else p
def pickOf (picks : List Int) (n : Int) : Int × List Int := match picks with | [] => (0, []) | p :: ps => (absPick p % (n + 1), ps)
def IntsOk (l : List Int) : Prop := ∀ p, p ∈ l → -9223372036854775808 ≤ p ∧ p ≤ 9223372036854775807

theorem pick_neg (p n : Int) (hp : p < 0) (hn : 0 ≤ n) : -((p + 1).tmod (n + 1)) = absPick p % (n + 1) := by
  unfold absPick
  rw [if_pos hp, ← Int.neg_tmod, Int.tmod_eq_emod_of_nonneg (by omega)]
theorem pick_pos (p n : Int) (hp : ¬ p < 0) (hn : 0 ≤ n) : p.tmod (n + 1) = absPick p % (n + 1) := by
  unfold absPick
  rw [if_neg hp, Int.tmod_eq_emod_of_nonneg (by omega)]
/-- a slice of numbers, its row in a block of G -/
def PickSl (h : Array Obj) (G : BSet) (v : Value) (picks : List Int) : Prop :=
  ∃ a c, v = .slice a picks.length c ∧ picks.length ≤ c ∧ picks.length ≤ maxLen ∧ IntsOk picks ∧ (picks ≠ [] → ∃ b o cs t fr, a = some ⟨b, o, none⟩ ∧ G b ∧ h[b]? = some (.cells cs t fr) ∧ ∀ i, i < picks.length → cs[o + i]? = (ints picks)[i]?)
/-- .. in a variable of its own -/
def PicksAt (h : Array Obj) (G : BSet) (bx : Nat) (picks : List Int) : Prop := ¬ G bx ∧ ∃ v, h[bx]? = some (.cells #[v] 53 (0, 0)) ∧ PickSl h G v picks
theorem PickSl.keep {h h' : Array Obj} {G : BSet} {v : Value} {picks : List Int} (hx : PickSl h G v picks) (hk : ∀ k o, G k → h[k]? = some o → h'[k]? = some o) : PickSl h' G v picks := by
  obtain ⟨a, c, rfl, h1, h2, h3, h4⟩ := hx
  refine ⟨a, c, rfl, h1, h2, h3, fun hne => ?_⟩
  obtain ⟨b, o, cs, t, fr, rfl, hG, hb, hc⟩ := h4 hne
  exact ⟨b, o, cs, t, fr, rfl, hG, hk _ _ hG hb, hc⟩
theorem PicksAt.mod {w w' : World} {G F : BSet} {bx : Nat} {picks : List Int} (hx : PicksAt w.heap G bx picks) (m : Mod F w w') (hbx : ¬ F bx) (hG : ∀ k, G k → ¬ F k) : PicksAt w'.heap G bx picks := by
  obtain ⟨h0, v, h1, h2⟩ := hx
  exact ⟨h0, v, m.at h1 hbx, h2.keep (fun k o hk ho => m.at ho (hG k hk))⟩
theorem pickSl_tail {w : World} {G : BSet} {b bx o c : Nat} {u : Value} {cs : Array Value} {t : TypeId} {fr : Nat × Nat} {p : Int} {ps : List Int} (hb : w.heap[b]? = some (.cells cs t fr)) (hG : G b) (hbx : b ≠ bx) (hl : ps.length + 1 ≤ maxLen) (hcap : ps.length ≤ c) (hp : IntsOk (p :: ps))
    (hc : ∀ i, i < ps.length + 1 → cs[o + i]? = (ints (p :: ps))[i]?) : PickSl (w.setCell ⟨bx, 0, none⟩ u).heap G (.slice (some ⟨b, o + 1, none⟩) ps.length c) ps :=
  ⟨_, c, rfl, hcap, by omega, fun q hq => hp q (List.mem_cons_of_mem _ hq), fun _ => ⟨b, o + 1, cs, t, fr, rfl, hG, at_setCell hb hbx, fun i hi => by
    rw [show o + 1 + i = o + (i + 1) from by omega, hc (i + 1) (by omega)]
    simp [ints]⟩⟩
theorem pickSl_nil {h : Array Obj} {G : BSet} {a : Option Addr} {c : Nat} {ps : List Int} (h1 : ps.length = 0) : PickSl h G (.slice a ps.length c) ps := by
  obtain rfl := List.eq_nil_of_length_eq_zero h1
  exact ⟨_, c, rfl, Nat.zero_le _, Nat.zero_le _, fun _ h => (by cases h), fun h => absurd rfl h⟩
theorem next_nil (n : Int) : pickOf [] n = (0, []) := rfl
theorem next_cons (p : Int) (ps : List Int) (n : Int) : pickOf (p :: ps) n = (absPick p % (n + 1), ps) := rfl

def NextP (G : BSet) (bx : Nat) (picks : List Int) (n : Int) (w : World) (e : Ending) (w' : World) : Prop :=
  e = .returned (.int .i64 (pickOf picks n).1) ∧ PicksAt w'.heap G bx (pickOf picks n).2 ∧ Mod (BSet.one bx) w w'
set_option maxHeartbeats 1000000 in
theorem next_any (G : BSet) (bx : Nat) (picks : List Int) (n : Int) (w : World) (hx : PicksAt w.heap G bx picks) (h0 : 0 ≤ n) (h1 : n ≤ 4611686018427387904) :
    Calls Tryz.prog 70 #[.int .i64 n, .pointer (some ⟨bx, 0, none⟩)] w (NextP G bx picks n w) := by
  have HX := Lib.hid hx
  obtain ⟨hG, v, hb, a, c, rfl, hcap, hl, hok, hx⟩ := hx
  have c0 := cell_of_at hb 0
  have e0 : w.frozen? ⟨bx, 0, none⟩ = false := free_of_at hb 0
  simp at c0
  have hB := Lib.hid hb
  clear hb
  cases picks with
  | nil =>
    clear hx
    go_enter Tryz.func70, Tryz.ntmps70
    go_wp2
    go_ret
    exact ⟨rfl, HX.out, Mod.refl _ _⟩
  | cons p ps =>
    obtain ⟨b, o, cs, t, fr, rfl, hGb, hbb, hcs⟩ := hx (by simp)
    have hpp := hok p List.mem_cons_self
    have hq : w.cell? ⟨b, o, none⟩ = some (.int .i64 p) := by
      rw [cell_of_at hbb]; have := hcs 0 (by simp); simpa [ints] using this
    have hbx : b ≠ bx := fun h => hG (h ▸ hGb)
    have HC := Lib.hid hcs
    have HBB := Lib.hid hbb
    have HP := Lib.hid hok
    simp only [List.length_cons] at *
    have HL := Lib.hid hl
    have HK := Lib.hid hcap
    clear hx hcs hbb hok hG
    by_cases hneg : p < 0
    · go_enter Tryz.func70, Tryz.ntmps70
      go_wp2
      go_region
      go_wp2
      all_goals
        go_ret
        refine ⟨ret_int (pick_neg p n hneg h0), ⟨HX.out.1, _, at_setCell_same hB.out, ?_⟩, (mod_one _ _ _ _).drew⟩
        first
          | exact pickSl_tail HBB.out hGb hbx HL.out (by have := HK.out; omega) HP.out HC.out
          | exact pickSl_nil (by have := HK.out; omega)
    · go_enter Tryz.func70, Tryz.ntmps70
      go_wp2
      go_region
      go_wp2
      all_goals
        go_ret
        refine ⟨ret_int (by show p % (n + 1) = absPick p % (n + 1); unfold absPick; rw [if_neg (by omega)]), ⟨HX.out.1, _, at_setCell_same hB.out, ?_⟩, (mod_one _ _ _ _).drew⟩
        first
          | exact pickSl_tail HBB.out hGb hbx HL.out (by have := HK.out; omega) HP.out HC.out
          | exact pickSl_nil (by have := HK.out; omega)
end Go.Proofs.YthogefmngddnbaaGreatDoor
/- The folder's Crash, as a plain function, and what is kept. -/
namespace Go.Proofs.YthogefmngddnbaaGreatDoor
open Go.RowKit Go.MapKept Go.Shelf

structure CrSt where
  L : Nm
  cont : Nat → Fl
  ps : List Int
def CrSt.step (s : CrSt) (name : ByteArray) (nid : Nat) : CrSt :=
  match mget s.L name with
  | none => s
  | some id =>
    let r := pickOf s.ps (((s.cont id).bytes.size : Int) - (s.cont id).synced)
    { L := mput s.L name nid, cont := upd s.cont nid ⟨(s.cont id).bytes.extract 0 ((s.cont id).synced + r.1.toNat), (s.cont id).synced + r.1.toNat⟩, ps := r.2 }
def CrSt.fold (s : CrSt) : List ByteArray → List Nat → CrSt
  | name :: names, nid :: nids => (s.step name nid).fold names nids
  | _, _ => s
def namesOf (L : Nm) : List ByteArray := (sortL (L.map (·.1.data.toList))).map ofL
namespace Fs
def crMany (f : Fs) (picks : List Int) : Nat := (pickOf picks f.since.length).1.toNat
def crLeft (f : Fs) (picks : List Int) : Nm := hist f.firm (f.since.take (f.crMany picks))
def crStart (f : Fs) (picks : List Int) : CrSt := ⟨f.crLeft picks, f.cont, (pickOf picks f.since.length).2⟩
def crEnd (f : Fs) (picks : List Int) (nids : List Nat) : CrSt := (f.crStart picks).fold (namesOf (f.crLeft picks)) nids
def crash (f : Fs) (picks : List Int) (nids : List Nat) : Fs :=
  { f with cont := (f.crEnd picks nids).cont, now := (f.crEnd picks nids).L, firm := (f.crEnd picks nids).L, since := [], on := true, armed := false }
end Fs

theorem ofL_toL (s : ByteArray) : ofL s.data.toList = s := by rcases s with ⟨⟨l⟩⟩; rfl
theorem mem_namesOf {L : Nm} {n : ByteArray} : n ∈ namesOf L ↔ n ∈ L.map (·.1) := by
  unfold namesOf sortL
  simp only [List.mem_map, List.mem_mergeSort]
  constructor
  · rintro ⟨l, ⟨p, hp, rfl⟩, rfl⟩; exact ⟨p, hp, (ofL_toL _).symm⟩
  · rintro ⟨p, hp, rfl⟩; exact ⟨_, ⟨p, hp, rfl⟩, ofL_toL _⟩
theorem length_namesOf (L : Nm) : (namesOf L).length = L.length := by unfold namesOf sortL; simp

/-- what holds of the files while they are cut off -/
structure CrSt.Ok (s : CrSt) : Prop where
  nodup : (s.L.map (·.1)).Nodup
  names : ∀ p, p ∈ s.L → okName p.1 = true
  size : ∀ p, p ∈ s.L → (s.cont p.2).bytes.size ≤ 1099511627776 ∧ (s.cont p.2).synced ≤ (s.cont p.2).bytes.size
theorem pick_range (ps : List Int) (n : Int) (h0 : 0 ≤ n) (hp : IntsOk ps) : 0 ≤ (pickOf ps n).1 ∧ (pickOf ps n).1 ≤ n := by
  cases ps with
  | nil => exact ⟨Int.le_refl _, h0⟩
  | cons p ps =>
    rw [next_cons]
    have h1 := Int.emod_nonneg (absPick p) (show n + 1 ≠ 0 by omega)
    have h2 := Int.emod_lt_of_pos (absPick p) (show 0 < n + 1 by omega)
    exact ⟨h1, by show absPick p % (n + 1) ≤ n; omega⟩
theorem pick_ok {ps : List Int} (n : Int) (hp : IntsOk ps) : IntsOk (pickOf ps n).2 := by
  cases ps with
  | nil => exact hp
  | cons p ps => exact fun q hq => hp q (List.mem_cons_of_mem _ hq)
theorem size_extract0 (s : ByteArray) (n : Nat) (h : n ≤ s.size) : (s.extract 0 n).size = n := by
  simp [ByteArray.size_extract]; omega
theorem CrSt.Ok.step {s : CrSt} (h : s.Ok) (hp : IntsOk s.ps) {name : ByteArray} {nid : Nat} (hn : nid ∉ s.L.map (·.2)) : (s.step name nid).Ok ∧ (s.step name nid).L.map (·.1) = s.L.map (·.1) ∧ IntsOk (s.step name nid).ps := by
  unfold CrSt.step
  cases hg : mget s.L name with
  | none => exact ⟨h, rfl, hp⟩
  | some id =>
    have hm := mget_mem hg
    have hsz := h.size _ hm
    have hr := pick_range s.ps (((s.cont id).bytes.size : Int) - (s.cont id).synced) (by have := hsz.2; simp only at this; omega) hp
    have hk : (mput s.L name nid).map (·.1) = s.L.map (·.1) := by rw [keys_mput, if_pos (by rw [hg]; rfl)]
    refine ⟨⟨by show ((mput s.L name nid).map (·.1)).Nodup; rw [hk]; exact h.nodup, fun p hp => ?_, fun p hp => ?_⟩, hk, pick_ok _ hp⟩
    · have : p.1 ∈ (mput s.L name nid).map (·.1) := List.mem_map.2 ⟨p, hp, rfl⟩
      rw [hk] at this
      obtain ⟨q, hq, e⟩ := List.mem_map.1 this
      rw [← e]; exact h.names q hq
    · show (upd s.cont nid _ p.2).bytes.size ≤ _ ∧ (upd s.cont nid _ p.2).synced ≤ (upd s.cont nid _ p.2).bytes.size
      unfold upd
      split
      · simp only at hsz ⊢
        rw [size_extract0 _ _ (by omega)]
        omega
      · next hne =>
        rcases ids_mput hp with hp | hp
        · exact h.size p hp
        · rw [hp] at hne; exact absurd rfl hne

theorem CrSt.fold_snoc (names : List ByteArray) : ∀ (s : CrSt) (nids : List Nat) (n : ByteArray) (i : Nat), names.length = nids.length → s.fold (names ++ [n]) (nids ++ [i]) = (s.fold names nids).step n i := by
  induction names with
  | nil =>
    intro s nids n i h
    cases nids with
    | nil => rfl
    | cons a l => simp at h
  | cons a names ih =>
    intro s nids n i h
    cases nids with
    | nil => simp at h
    | cons b l => exact ih (s.step a b) l n i (by simpa using h)

theorem mput_ids {L : Nm} {k : ByteArray} {v : Nat} (h : (mget L k).isSome = true) : v ∈ (mput L k v).map (·.2) := by
  obtain ⟨id, hid⟩ := Option.isSome_iff_exists.1 h
  unfold mput
  rw [if_pos h]
  rw [List.map_map, List.mem_map]
  exact ⟨_, mget_mem hid, by simp⟩

/-- what the second loop of Crash holds on to: so many names are done -/
structure CrInv (f : Fs) (picks : List Int) (G : BSet) (bx m3 : Nat) (w4 : World) (i : Nat) (nids : List Nat) (wr : World) : Prop where
  len : nids.length = i
  nodup : nids.Nodup
  ge : ∀ x, x ∈ nids → w4.heap.size ≤ x ∧ x < wr.heap.size
  map : MapAt wr.heap m3 ((f.crStart picks).fold ((namesOf (f.crLeft picks)).take i) nids).L
  pk : PicksAt wr.heap G bx ((f.crStart picks).fold ((namesOf (f.crLeft picks)).take i) nids).ps
  ints : IntsOk ((f.crStart picks).fold ((namesOf (f.crLeft picks)).take i) nids).ps
  files : ∀ p, p ∈ ((f.crStart picks).fold ((namesOf (f.crLeft picks)).take i) nids).L → FileAt wr.heap p.2 (((f.crStart picks).fold ((namesOf (f.crLeft picks)).take i) nids).cont p.2) ∧ (p.2 ∈ f.ids ∨ p.2 ∈ nids)
  ok : ((f.crStart picks).fold ((namesOf (f.crLeft picks)).take i) nids).Ok
  keys : ((f.crStart picks).fold ((namesOf (f.crLeft picks)).take i) nids).L.map (·.1) = (f.crLeft picks).map (·.1)
  mod : Mod (fun k => k = m3 ∨ k = bx) w4 wr

/-- the file of the next name -/
theorem CrInv.next {f : Fs} {picks : List Int} {G : BSet} {bx m3 : Nat} {w4 wr : World} {i : Nat} {nids : List Nat} (h : CrInv f picks G bx m3 w4 i nids wr) {name : ByteArray} (hn : name ∈ namesOf (f.crLeft picks)) :
    ∃ id, mget ((f.crStart picks).fold ((namesOf (f.crLeft picks)).take i) nids).L name = some id ∧ FileAt wr.heap id (((f.crStart picks).fold ((namesOf (f.crLeft picks)).take i) nids).cont id) ∧
      (((f.crStart picks).fold ((namesOf (f.crLeft picks)).take i) nids).cont id).bytes.size ≤ 1099511627776 ∧ (((f.crStart picks).fold ((namesOf (f.crLeft picks)).take i) nids).cont id).synced ≤ (((f.crStart picks).fold ((namesOf (f.crLeft picks)).take i) nids).cont id).bytes.size := by
  have h1 : name ∈ ((f.crStart picks).fold ((namesOf (f.crLeft picks)).take i) nids).L.map (·.1) := by rw [h.keys]; exact mem_namesOf.1 hn
  obtain ⟨id, hid⟩ := Option.isSome_iff_exists.1 (mget_isSome.2 h1)
  have hm := mget_mem hid
  exact ⟨id, hid, (h.files _ hm).1, h.ok.size _ hm⟩

/-- one name more -/
theorem CrInv.push {f : Fs} {picks : List Int} {G : BSet} {bx m3 : Nat} {w4 wr wx wy : World} {i id : Nat} {nids : List Nat} (h : CrInv f picks G bx m3 w4 i nids wr) {name : ByteArray} (hi : i < (namesOf (f.crLeft picks)).length) (hname : (namesOf (f.crLeft picks))[i] = name)
    (hlt : ∀ x, x ∈ f.ids → x < w4.heap.size) (hmb : m3 < w4.heap.size ∧ bx < w4.heap.size ∧ m3 ≠ bx)
    (st : CrSt) (hst : (f.crStart picks).fold ((namesOf (f.crLeft picks)).take i) nids = st) (hid : mget st.L name = some id)
    (hpk : PicksAt wx.heap G bx (pickOf st.ps (((st.cont id).bytes.size : Int) - (st.cont id).synced)).2) (hmx : Mod (BSet.one bx) wr wx)
    (x : Fl) (hx : x = ⟨(st.cont id).bytes.extract 0 ((st.cont id).synced + (pickOf st.ps (((st.cont id).bytes.size : Int) - (st.cont id).synced)).1.toNat), (st.cont id).synced + (pickOf st.ps (((st.cont id).bytes.size : Int) - (st.cont id).synced)).1.toNat⟩)
    (hmy : Mod (BSet.one m3) (wx.alloc (.cells #[.string x.bytes, .int .i64 x.synced] 119)) wy) (hM : MapAt wy.heap m3 (mput st.L name wx.heap.size)) (hGn : ∀ k, G k → k < w4.heap.size ∧ k ≠ m3) :
    CrInv f picks G bx m3 w4 (i + 1) (nids ++ [wx.heap.size]) wy := by
  have hsz := h.mod.size
  have hszx := hmx.size
  have hszy := hmy.size
  have hszy' : wx.heap.size + 1 ≤ wy.heap.size := by simpa using hszy
  have htake : (namesOf (f.crLeft picks)).take (i + 1) = (namesOf (f.crLeft picks)).take i ++ [name] := by rw [List.take_succ_eq_append_getElem hi, hname]
  have hstep : (f.crStart picks).fold ((namesOf (f.crLeft picks)).take (i + 1)) (nids ++ [wx.heap.size]) = st.step name wx.heap.size := by
    rw [htake, CrSt.fold_snoc _ _ _ _ _ (by rw [List.length_take, h.len]; omega), hst]
  obtain ⟨h1, h2, h3, hmap, hpicks, hints, hfiles, hok, hkeys, hmod⟩ := h
  rw [hst] at hmap hpicks hints hfiles hok hkeys
  have hnew : wx.heap.size ∉ st.L.map (·.2) := by
    intro hc
    obtain ⟨p, hp, e⟩ := List.mem_map.1 hc
    have := lt_of_at (hfiles p hp).1
    omega
  have hS := hok.step (name := name) (nid := wx.heap.size) hints hnew
  have hL : (st.step name wx.heap.size).L = mput st.L name wx.heap.size := by unfold CrSt.step; rw [hid]
  have hP : (st.step name wx.heap.size).ps = (pickOf st.ps (((st.cont id).bytes.size : Int) - (st.cont id).synced)).2 := by unfold CrSt.step; rw [hid]
  have hC : (st.step name wx.heap.size).cont = upd st.cont wx.heap.size x := by unfold CrSt.step; rw [hid, hx]
  have modxy : Mod (BSet.one m3) wx wy := ((Mod.refl _ _).alloc _).trans hmy (fun _ _ h => h)
  refine ⟨by simp [h1], ?_, ?_, by rw [hstep, hL]; exact hM, ?_, by rw [hstep]; exact hS.2.2, ?_, by rw [hstep]; exact hS.1, by rw [hstep, hS.2.1]; exact hkeys, ?_⟩
  · rw [List.nodup_append]
    exact ⟨h2, by simp, fun a ha b hb => by simp at hb; subst hb; intro e; have := (h3 a ha).2; omega⟩
  · intro y hy
    rcases List.mem_append.1 hy with hy | hy
    · have := h3 y hy; omega
    · simp at hy; subst hy; omega
  · rw [hstep, hP]
    exact hpk.mod modxy (fun e => hmb.2.2 (show bx = m3 from e).symm) (fun k hk e => (hGn k hk).2 e)
  · rw [hstep, hL, hC]
    intro p hp
    rcases ids_mput hp with hp | rfl
    · obtain ⟨g1, g2⟩ := hfiles p hp
      have hne : p.2 ≠ wx.heap.size := fun e => hnew (List.mem_map.2 ⟨p, hp, e⟩)
      refine ⟨?_, ?_⟩
      · show FileAt wy.heap p.2 (upd st.cont wx.heap.size x p.2)
        unfold upd
        rw [if_neg hne]
        have hm3 : ∃ es clk, wx.heap[m3]? = some (.map es clk) := by
          obtain ⟨es, clk, h, _⟩ := hmap
          exact ⟨es, clk, hmx.at h (fun e => hmb.2.2 e)⟩
        obtain ⟨es, clk, hm3⟩ := hm3
        have hbx : p.2 ≠ bx := by
          intro e
          obtain ⟨_, v, hv, _⟩ := hpicks
          rw [← e, g1] at hv
          cases hv
        refine modxy.at (hmx.at g1 hbx) (fun e => ?_)
        rw [show p.2 = m3 from e] at g1
        rw [hmx.at g1 (fun e' => hmb.2.2 e')] at hm3
        cases hm3
      · rcases g2 with g2 | g2
        · exact .inl g2
        · exact .inr (List.mem_append_left _ g2)
    · refine ⟨?_, .inr (List.mem_append_right _ (by simp))⟩
      show FileAt wy.heap wx.heap.size (upd st.cont wx.heap.size x wx.heap.size)
      unfold upd
      rw [if_pos rfl]
      exact hmy.at at_new (fun e => by have h' : wx.heap.size = m3 := e; omega)
  · refine (hmod.trans hmx (fun k _ hk => .inr hk)).trans modxy (fun k _ hk => .inl hk)

theorem crash_ids {f : Fs} {picks : List Int} {nids : List Nat} {id : Nat} (h : id ∈ (f.crash picks nids).ids) : ∃ p, p ∈ (f.crEnd picks nids).L ∧ p.2 = id := by
  simp only [Fs.ids, Fs.crash, List.mem_append, List.mem_map, List.filterMap_nil, List.not_mem_nil, or_false] at h
  rcases h with ⟨p, hp, e⟩ | ⟨p, hp, e⟩ <;> exact ⟨p, hp, e⟩
theorem Fs.Wf.crash {f : Fs} (h : f.Wf) {picks : List Int} {nids : List Nat} (hok : (f.crEnd picks nids).Ok) (hk : (f.crEnd picks nids).L.map (·.1) = (f.crLeft picks).map (·.1)) : (f.crash picks nids).Wf where
  room0 := h.room0
  room1 := h.room1
  steps0 := h.steps0
  steps1 := h.steps1
  now := rfl
  many := fun i => by
    show (Fs.hist (f.crEnd picks nids).L ([].take i)).length ≤ 64
    have := congrArg List.length hk
    simp only [List.length_map] at this
    simp only [List.take_nil, hist_nil, this]
    exact h.many _
  firmNodup := hok.nodup
  firmNames := hok.names
  sinceNames := fun n id h => by cases h
  size := fun id hid => by
    obtain ⟨p, hp, rfl⟩ := crash_ids hid
    exact hok.size p hp
/-- the second loop's start -/
theorem CrInv.start {f : Fs} {picks : List Int} {G : BSet} {bx m3 : Nat} {w4 : World} (hw : f.Wf) (hM : MapAt w4.heap m3 (f.crLeft picks)) (hP : PicksAt w4.heap G bx (pickOf picks f.since.length).2) (hi : IntsOk picks)
    (hf : ∀ id, id ∈ f.ids → FileAt w4.heap id (f.cont id)) : CrInv f picks G bx m3 w4 0 [] w4 := by
  have hids : ∀ p, p ∈ f.crLeft picks → p.2 ∈ f.ids := by
    intro p hp
    simp only [Fs.ids, List.mem_append, List.mem_map, List.mem_filterMap]
    rcases mem_hist _ _ _ hp with hp | ⟨n, id, h1, rfl⟩
    · exact .inl (.inr ⟨p, hp, rfl⟩)
    · exact .inr ⟨_, List.mem_of_mem_take h1, rfl⟩
  refine ⟨rfl, List.nodup_nil, fun x hx => (by cases hx), hM, hP, pick_ok _ hi, fun p hp => ⟨hf _ (hids p hp), .inl (hids p hp)⟩, ⟨nodup_hist _ _ hw.firmNodup, fun p hp => ?_, fun p hp => hw.size _ (hids p hp)⟩, rfl, Mod.refl _ _⟩
  rcases mem_hist _ _ _ hp with hp | ⟨n, id, h1, rfl⟩
  · exact hw.firmNames p hp
  · exact hw.sinceNames n id (List.mem_of_mem_take h1)
end Go.Proofs.YthogefmngddnbaaGreatDoor
