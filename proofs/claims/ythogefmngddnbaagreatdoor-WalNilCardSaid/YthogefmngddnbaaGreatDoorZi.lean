/- A new folder opened; a crash, and opened again: plain. -/
import Derived.Test.YthogefmngddnbaaGreatDoorZf
import Derived.Test.YthogefmngddnbaaGreatDoorZh
import Derived.Test.YthogefmngddnbaaGreatDoorRows
import Derived.Test.YthogefmngddnbaaGreatDoorTie
import Derived.Test.YthogefmngddnbaaGreatDoorCards
import Derived.ProofKit
import Derived.LaidMore
import Derived.OpenShut
import Derived.Stop.Joined
import Derived.SevenTiedAt
set_option linter.deprecated false
set_option linter.unusedVariables false
set_option linter.unusedSimpArgs false
namespace Go.Proofs.YthogefmngddnbaaGreatDoor

theorem dropW_nothing (ss : List ByteArray) (f : Fs) (l : Wl) (gone : Nat → Bool) (h : ∀ n, gone n = false) : dropW gone ss f l = (f, l, 0) := by
  induction ss with
  | nil => rfl
  | cons s ss ih => unfold dropW; rw [h]; exact ih
theorem new_db (n : Int) : DB (Fs.new n) [] 1 0 (fun _ => 0) none where
  incr := List.Pairwise.nil
  rng := fun n h => by cases h
  one := Nat.le_refl _
  top := by decide
  names := fun L hL p hp => by rw [hL.nil rfl] at hp; cases hp
  there := fun L hL n h => by cases h
  inj := fun n h => by cases h
  next := fun L hL id hid => by rw [hL.nil rfl] at hid; cases hid
theorem new_bud (n : Int) : Bud (Fs.new n) 0 0 0 where
  uni := fun L hL => by rw [hL.nil rfl]; exact List.nodup_nil
  tot := fun L hL => by rw [hL.nil rfl]; exact Nat.le_refl _
  num := fun L hL n _ _ h => by rw [hL.nil rfl] at h; cases h
  len := Nat.le_refl _
def Gh.zero (nid : Nat) : Gh := { C0 := [], N := 1, B := 1, ids := fun _ => nid, first := 1, kept := true, state := ⟨#[]⟩, acc := [], rs := [], k := 0 }
def Wl.zero : Wl := { state := ⟨#[]⟩, recs := [], first := 1, firm := 0, now := segName 1, broken := false }
set_option maxRecDepth 20000 in
/-- a log of a new folder -/
theorem open_new {n : Int} {nid : Nat} (hn : 36 ≤ Fs.roomOf n) (hid : nid ∉ (Fs.new n).ids) :
    (openW (Fs.new n) nid).2 = (Wl.zero, 0) ∧ Live (openW (Fs.new n) nid).1 Wl.zero (Gh.zero nid) ∧ (openW (Fs.new n) nid).1.on = true ∧ (openW (Fs.new n) nid).1.armed = false ∧ (openW (Fs.new n) nid).1.room = Fs.roomOf n ∧
      Bud (openW (Fs.new n) nid).1 1 35 0 ∧ (openW (Fs.new n) nid).1.now = [(segName 1, nid)] ∧ (openW (Fs.new n) nid).1.since = [] ∧ (openW (Fs.new n) nid).1.firm = (openW (Fs.new n) nid).1.now ∧
      (openW (Fs.new n) nid).1.cont nid = ⟨headOf 1 true ⟨#[]⟩, (headOf 1 true ⟨#[]⟩).size⟩ := by
  have hw := Fs.Wf.new n
  have hh : HeadOk 1 true ⟨#[]⟩ := ⟨Nat.le_refl _, by decide, fun h => Bool.noConfusion h, Nat.zero_le _⟩
  have hhs := head_size hh
  have hz : (⟨#[]⟩ : ByteArray).size = 0 := rfl
  have hnums : numsOf (Fs.new n).now = [] := by
    show numsOf [] = []
    unfold numsOf namesOf sortL; simp
  have hsegs : (Fs.new n).segs = [] := by rw [fsegs_eq, hnums]; rfl
  have htop : topOf (Fs.new n).segs = 0 := by rw [hsegs]; rfl
  have hld : (Fs.new n).loaded = none := by unfold Fs.loaded; rw [hnums]; rfl
  have hop : ∀ f : Fs, f.segs = [] → f.loaded = none → openW f nid = (let r := beginW f { state := ⟨#[]⟩, recs := [], first := 1, firm := 0, now := ⟨#[]⟩, broken := false } nid 1 true ⟨#[]⟩
      if r.2.2 ≠ 0 then r else dropW (fun n => decide (n < 0)) r.1.segs r.1 r.2.1) := fun f h1 h2 => by
    unfold openW
    rw [h1]
    have h3 : syncAll f [] = f := rfl
    rw [h3]
    simp only
    rw [h2]
    have h4 : wlOf none = { state := ⟨#[]⟩, recs := [], first := 1, firm := 0, now := ⟨#[]⟩, broken := false } := rfl
    have h5 : (wlOf none).last + 1 = 1 := by decide
    have h6 : (fromOf none == 0) = true := by decide
    have h7 : fromOf none = 0 := by decide
    rw [h5, h6, h7, h4]
  rw [hop _ hsegs hld]
  simp only
  rcases begin_plain (l := { state := ⟨#[]⟩, recs := [], first := 1, firm := 0, now := ⟨#[]⟩, broken := false }) (nid := nid) hw hid (new_db n) htop rfl rfl hh (new_bud n) (Nat.le_refl _) with ⟨hr, hbg⟩ | ⟨hr, hbg⟩ | ⟨hr, hbg⟩
  · generalize beginW (Fs.new n) { state := ⟨#[]⟩, recs := [], first := 1, firm := 0, now := ⟨#[]⟩, broken := false } nid 1 true ⟨#[]⟩ = r at hr hbg
    obtain ⟨f2, rl, re⟩ := r
    simp only at hr hbg
    cases hr
    simp only [ne_eq, not_true, if_false]
    rw [dropW_nothing _ _ _ _ (fun n => decide_eq_false (Nat.not_lt_zero n))]
    have hlive := live_anew (nid := nid) hw (new_db n) (by rfl) hh (by decide) hbg Wl.zero rfl rfl rfl rfl rfl rfl
    exact ⟨rfl, hlive, hbg.on, hbg.armed, hbg.room, hbg.bud.mono (Nat.le_refl _) (by simp only [Nat.zero_add]; omega) (Nat.le_refl _), by rw [hbg.now]; rfl, hbg.since, hbg.firm, hbg.file⟩
  · exfalso
    rcases hbg.why with h | h
    · exact absurd h (by show ¬ 64 ≤ 0; decide)
    · have hu : (Fs.new n).used = 0 := rfl
      rw [hu] at h
      have hrm : (Fs.new n).room = Fs.roomOf n := rfl
      rw [hrm] at h
      simp only at h
      omega
  · exact absurd hbg.armed (by show ¬ false = true; decide)
/-- behind a crash the folder can be opened -/
theorem DI.ready {f f' : Fs} {g : Gh} {st : ByteArray} {fi : Nat} {nx : Option Hd} {c S d : Nat} (hw : f.Wf) (hw' : f'.Wf) (h : DI f g st fi nx) (hb : Bud f c S d) (hc : CrashOf f f') : ∃ ld, After g st fi nx ld ∧ Ready f' ld c S := by
  obtain ⟨ld, h1, h2⟩ := h.crash hw hw' hc
  exact ⟨ld, h2, ⟨hw', hc.on, hc.arm, hc.since, hc.firm, h.db.segNames hc, hc.bud hw hb, h1⟩⟩
/-- all was firm: all is found -/
theorem after_all {g : Gh} {st : ByteArray} {fi : Nat} {ld : Ld} (h : After g st fi none ld) (hk : g.k = g.rs.length) : ld.state = st ∧ ld.first = fi ∧ ld.recs = g.acc ++ g.rs := by
  rcases h with ⟨h1, h2, j, h3, h4, h5⟩ | ⟨_, _, h, _⟩
  · have : j = g.rs.length := by omega
    subst this
    rw [List.take_length] at h5
    exact ⟨h1, h2, h5⟩
  · cases h
/-- how many names -/
theorem count_names {L : Nm} {c : Nat} (hn : (L.map (·.1)).Nodup) (hs : SegNames L) (hc : ∀ n, 1 ≤ n → n ≤ 99999999 → segName n ∈ L.map (·.1) → n ≤ c) : L.length ≤ c := by
  have hinc := nums_incr L hn
  have hlen : (numsOf L).length = L.length := by
    unfold numsOf
    rw [List.length_map, List.filter_eq_self.2, length_namesOf]
    intro s hs'
    obtain ⟨p, hp, e⟩ := List.mem_map.1 (mem_namesOf.1 hs')
    obtain ⟨n, h1, h2, h3⟩ := hs p hp
    rw [← e, h1]; exact isSeg_segName h2 h3
  have key : ∀ (ns : List Nat) (a : Nat), ns.Pairwise (· < ·) → (∀ n, n ∈ ns → a < n ∧ n ≤ c) → ns.length + a ≤ c ∨ ns = [] := by
    intro ns
    induction ns with
    | nil => intro a _ _; exact .inr rfl
    | cons x ns ih =>
      intro a hp hm
      rw [List.pairwise_cons] at hp
      have hx := hm x List.mem_cons_self
      rcases ih x hp.2 (fun n hn => ⟨hp.1 n hn, (hm n (List.mem_cons_of_mem _ hn)).2⟩) with h | h
      · left; simp only [List.length_cons]; omega
      · subst h; left; simp only [List.length_cons, List.length_nil]; omega
  rcases key (numsOf L) 0 hinc (fun n hn => by
    obtain ⟨h1, h2, h3⟩ := mem_numsOf.1 hn
    exact ⟨by omega, hc n h1 h2 h3⟩) with h | h
  · omega
  · rw [h] at hlen; simp at hlen; omega
/-- .. and there is room: it is -/
theorem open_ok {f : Fs} {ld : Ld} {c S nid : Nat} (h : Ready f ld c S) (hc : c < 64) (h1 : 1 ≤ ld.first) (hlim : ld.first + ld.recs.length ≤ 1099511627776) (hn : nid ∉ f.ids) (hroom : (S : Int) + 35 ≤ f.room) :
    ∃ g, Live (openW f nid).1 (openW f nid).2.1 g ∧ (openW f nid).2.2 = 0 ∧ (openW f nid).2.1.state = ld.state ∧ (openW f nid).2.1.first = ld.first ∧ (openW f nid).2.1.recs = ld.recs ∧ (openW f nid).2.1.firm = (openW f nid).2.1.last ∧ (openW f nid).1.on = true ∧ (openW f nid).1.armed = false ∧
      (openW f nid).1.room = f.room ∧ Bud (openW f nid).1 (c + 1) (S + 35) 64 ∧ g.N ≤ c + 1 := by
  have hP : f.Poss f.now := Fs.Poss.now h.wf
  rcases open_plain h (by omega) h1 hlim hn with ⟨g, hl, a1, a2, a3, a4, a5, a6, a7, a8, a9, a10⟩ | ⟨_, hw, _⟩
  · exact ⟨g, hl, a10, a1, a2, a3, a4, a5, a6, a7, a8, a9⟩
  · exfalso
    rcases hw with hw | hw
    · have := count_names h.wf.nodup h.names (h.bud.num _ hP)
      omega
    · have := h.bud.tot _ hP
      rw [used_eq] at hw
      omega
/-- a check of a log: its state is right for the walks -/
theorem Live.wok {f : Fs} {l : Wl} {g : Gh} (h : Live f l g) (h1 : l.first + l.recs.length ≤ 1099511627776) : l.Ok ∧ l.now.size ≤ 20 ∧ l.now.size ≤ maxLen := by
  have hn := h.di.db.num (n := g.N) (by simp)
  have hs : l.now.size = 10 := by rw [h.now]; exact segName_size hn.2
  have hone := h.one
  have hf := h.firm
  have hr := h.recs
  have hk := h.di.kle
  have hl : l.recs.length = g.acc.length + g.rs.length := by rw [hr, List.length_append]
  refine ⟨⟨hone, by omega, by omega, by omega⟩, by omega, by rw [hs]; decide⟩
theorem used_le_bud {f : Fs} {c S d : Nat} (hw : f.Wf) (hb : Bud f c S d) : f.used ≤ S := hb.tot _ (Fs.Poss.now hw)
end Go.Proofs.YthogefmngddnbaaGreatDoor
/- The laws' log: open, awake: the walks. -/
namespace Go.Proofs.YthogefmngddnbaaGreatDoor
open Go.RowKit

/-- a log and its folder, made since a call began; nothing that was there has turned -/
structure Sys (w0 w : World) (b fb : Nat) (f : Fs) (l : Wl) (F G : BSet) : Prop where
  rep : WRep w b fb f l F G
  gl : Globs w
  new : ∀ k, F k ∨ G k → w0.heap.size ≤ k
  mod : Mod BSet.none w0 w
structure FSys (w0 w : World) (fb : Nat) (f : Fs) (G : BSet) : Prop where
  fs : FsRep w.heap fb f G
  gl : Globs w
  new : ∀ k, G k → w0.heap.size ≤ k
  ge : ∀ k, G k → 9 ≤ k
  mod : Mod BSet.none w0 w
theorem Sys.fsys {w0 w : World} {b fb : Nat} {f : Fs} {l : Wl} {F G : BSet} (h : Sys w0 w b fb f l F G) : FSys w0 w fb f G :=
  ⟨h.rep.fs, h.gl, fun k hk => h.new k (.inr hk), fun k hk => h.rep.ge k (.inr hk), h.mod⟩
theorem mod_new {U : BSet} {w0 w w' : World} (h : Mod BSet.none w0 w) (m : Mod U w w') (hn : ∀ k, U k → w0.heap.size ≤ k) : Mod BSet.none w0 w' := h.trans m (fun k hk hu => absurd (hn k hu) (by omega))
theorem Sys.keep {w0 w w' : World} {b fb : Nat} {f : Fs} {l : Wl} {F G : BSet} (h : Sys w0 w b fb f l F G) (m : Mod BSet.none w w') : Sys w0 w' b fb f l F G :=
  ⟨h.rep.keep m, h.gl.mod0 m, h.new, h.mod.trans m (fun _ _ h => h)⟩
theorem FSys.keep {w0 w w' : World} {fb : Nat} {f : Fs} {G : BSet} (h : FSys w0 w fb f G) (m : Mod BSet.none w w') : FSys w0 w' fb f G :=
  ⟨h.fs.mod0 m, h.gl.mod0 m, h.new, h.ge, h.mod.trans m (fun _ _ h => h)⟩
/-- what a method of the log left -/
def SysP (w0 : World) (b fb : Nat) (F G : BSet) (f : Fs) (l : Wl) (v : Value) (w : World) (e : Ending) (w' : World) : Prop :=
  e = .returned v ∧ ∃ F' G', Sys w0 w' b fb f l F' G' ∧ (∀ k, F' k ∨ G' k → (F k ∨ G k) ∨ w.heap.size ≤ k) ∧ Mod (fun k => F k ∨ G k) w w'
theorem WalP.sys {w0 w w' : World} {b fb : Nat} {f f' : Fs} {l l' : Wl} {F G : BSet} {v : Value} {e : Ending} (hs : Sys w0 w b fb f l F G) (h : WalP b fb F G f' l' v w e w') : SysP w0 b fb F G f' l' v w e w' := by
  obtain ⟨rfl, ⟨F', G', hr, hsub⟩, hm⟩ := h
  refine ⟨rfl, F', G', ⟨hr, hs.gl.mod hm hs.rep.ge, fun k hk => ?_, mod_new hs.mod hm hs.new⟩, fun k hk => ?_, hm⟩
  · rcases hsub k hk with h | h
    · exact hs.new k h
    · have := hs.mod.size; omega
  · rcases hsub k hk with h | h
    · exact .inl h
    · exact .inr h.1
/-- what open(f) gives -/
def OpenL (w0 : World) (fb : Nat) (G : BSet) (f : Fs) (w : World) (e : Ending) (w' : World) : Prop :=
  ∃ nid, nid ∉ f.ids ∧ Mod G w w' ∧
    (((openW f nid).2.2 = 0 ∧ ∃ b F' G', e = .returned (.pointer (some ⟨b, 0, none⟩)) ∧ Sys w0 w' b fb (openW f nid).1 (openW f nid).2.1 F' G' ∧ (∀ k, F' k ∨ G' k → G k ∨ w.heap.size ≤ k)) ∨
     ((openW f nid).2.2 ≠ 0 ∧ e = .returned (.pointer none) ∧ ∃ G', FSys w0 w' fb (openW f nid).1 G' ∧ (∀ k, G' k → G k ∨ w.heap.size ≤ k)))
/-- wal.Open, of a folder of the call's own -/
def OpenW (w0 : World) (fb : Nat) (G : BSet) (f : Fs) (w : World) (e : Ending) (w' : World) : Prop :=
  ∃ nid, nid ∉ f.ids ∧ Mod G w w' ∧
    (((openW f nid).2.2 = 0 ∧ ∃ b F' G', e = .returned (.tuple #[.pointer (some ⟨b, 0, none⟩), .int .i64 0]) ∧ Sys w0 w' b fb (openW f nid).1 (openW f nid).2.1 F' G' ∧ (∀ k, F' k ∨ G' k → G k ∨ w.heap.size ≤ k)) ∨
     ((openW f nid).2.2 ≠ 0 ∧ e = .returned (.tuple #[.pointer none, .int .i64 (openW f nid).2.2]) ∧ ∃ G', FSys w0 w' fb (openW f nid).1 G' ∧ (∀ k, G' k → G k ∨ w.heap.size ≤ k)))
theorem openw_any (w0 : World) (fb : Nat) (G : BSet) (f : Fs) (w : World) (h : FSys w0 w fb f G) (hon : f.on = true) (harm : f.armed = false) (hu : f.used ≤ 1099511627776) (hlen : f.since.length ≤ 500000000) :
    Calls Tryz.prog 31 #[.pointer (some ⟨fb, 0, none⟩)] w (OpenW w0 fb G f w) := by
  refine (wopen_any fb G f w h.fs h.gl h.ge hon harm hu hlen).mono ?_
  rintro e w' ⟨nid, hn, hm, hc⟩
  have hz := hm.size
  have hw := h.mod.size
  have h9 := h.gl.size
  refine ⟨nid, hn, hm, ?_⟩
  rcases hc with ⟨h0, b, F', G', rfl, hr, h1, h2⟩ | ⟨h0, rfl, hr⟩
  · refine .inl ⟨h0, b, F', G', rfl, ⟨hr, h.gl.mod hm h.ge, fun k hk => ?_, mod_new h.mod hm h.new⟩, fun k hk => ?_⟩
    · rcases hk with hk | hk
      · have := h1 k hk; omega
      · rcases h2 k hk with h' | h'
        · exact h.new k h'
        · omega
    · rcases hk with hk | hk
      · exact .inr (h1 k hk).1
      · rcases h2 k hk with h' | h'
        · exact .inl h'
        · exact .inr h'.1
  · refine .inr ⟨h0, rfl, grow G w w', ⟨hr, h.gl.mod hm h.ge, fun k hk => ?_, fun k hk => ?_, mod_new h.mod hm h.new⟩, fun k hk => ?_⟩
    · rcases hk with hk | hk
      · exact h.new k hk
      · omega
    · rcases hk with hk | hk
      · exact h.ge k hk
      · omega
    · rcases hk with hk | hk
      · exact .inl hk
      · exact .inr hk.1
theorem open_law (w0 : World) (fb : Nat) (G : BSet) (f : Fs) (w : World) (h : FSys w0 w fb f G) (hon : f.on = true) (harm : f.armed = false) (hu : f.used ≤ 1099511627776) (hlen : f.since.length ≤ 500000000) :
    Calls Tryz.prog 16 #[.pointer (some ⟨fb, 0, none⟩)] w (OpenL w0 fb G f w) := by
  have H := Lib.hid h
  have HON := Lib.hid hon
  have HA := Lib.hid harm
  clear h hon harm
  go_enter Tryz.func16, Tryz.ntmps16
  go_wp2_with fail
  refine (openw_any w0 fb G f _ H.out HON.out HA.out hu hlen).mono ?_
  rintro e w' ⟨nid, hn, hm, hc⟩
  have N := Lib.hid hn
  have M := Lib.hid hm
  clear hn hm
  rcases hc with ⟨h0, b, F', G', rfl, hr, h1⟩ | ⟨h0, rfl, hr⟩
  · have R := Lib.hid hr
    have H0 := Lib.hid h0
    have H1 := Lib.hid h1
    clear hr h0 h1
    go_wp2
    go_ret
    exact ⟨nid, N.out, M.out, .inl ⟨H0.out, b, F', G', rfl, R.out, H1.out⟩⟩
  · have R := Lib.hid hr
    have H0 := Lib.hid h0
    obtain ⟨x, hx⟩ : ∃ x, (openW f nid).2.2 = x := ⟨_, rfl⟩
    rw [hx] at h0 ⊢
    have hxb : (x != 0) = true := by simpa using h0
    clear hr h0 hx
    go_wp2
    go_ret
    exact ⟨nid, N.out, M.out, .inr ⟨H0.out, rfl, R.out⟩⟩
/-- the folder alone -/
theorem FSys.of_new {w w1 : World} {fb : Nat} {n : Int} (hg : Globs w) (hr : FsRep w1.heap fb (Fs.new n) (grow BSet.none w w1)) (hm : Mod BSet.none w w1) : FSys w w1 fb (Fs.new n) (grow BSet.none w w1) := by
  refine ⟨hr, hg.mod0 hm, fun k hk => ?_, fun k hk => ?_, hm⟩
  · rcases hk with hk | hk
    · exact hk.elim
    · exact hk.1
  · rcases hk with hk | hk
    · exact hk.elim
    · have := hg.size; omega
/-- the folder crashed -/
def CrashL (w0 : World) (fb : Nat) (G : BSet) (f : Fs) (picks : List Int) (w : World) (e : Ending) (w' : World) : Prop :=
  e = .returned (.tuple #[]) ∧ ∃ nids : List Nat, nids.length = (f.crLeft picks).length ∧ nids.Nodup ∧ (∀ i, i ∈ nids → i ∉ f.ids) ∧ FSys w0 w' fb (f.crash picks nids) (grow G w w') ∧ Mod G w w'
theorem crash_law (w0 : World) (fb : Nat) (G P : BSet) (f : Fs) (v : Value) (picks : List Int) (w : World) (h : FSys w0 w fb f G) (hv : PickSl w.heap P v picks) (hP : ∀ k, P k → k < w.heap.size ∧ ¬ G k) (hlen : f.since.length ≤ 1073741824) :
    Calls Tryz.prog 21 #[.pointer (some ⟨fb, 0, none⟩), v] w (CrashL w0 fb G f picks w) := by
  refine (crash_any fb f G P v picks w h.fs hv hP hlen).mono ?_
  rintro e w' ⟨rfl, nids, h1, h2, h3, h4, h5⟩
  have hw := h.mod.size
  have h9 := h.gl.size
  refine ⟨rfl, nids, h1, h2, h3, ⟨h4, h.gl.mod h5 h.ge, fun k hk => ?_, fun k hk => ?_, mod_new h.mod h5 h.new⟩, h5⟩
  · rcases hk with hk | hk
    · exact h.new k hk
    · omega
  · rcases hk with hk | hk
    · exact h.ge k hk
    · omega
theorem picks_nil (h : Array Obj) (G : BSet) : PickSl h G (.slice none 0 0) [] := pickSl_nil (a := none) (c := 0) (ps := []) rfl
end Go.Proofs.YthogefmngddnbaaGreatDoor
/- A log that has room and power: plain. -/
namespace Go.Proofs.YthogefmngddnbaaGreatDoor

theorem DB.segNow {f : Fs} {C : List Nat} {B T : Nat} {ids : Nat → Nat} {nx : Option Hd} (hw : f.Wf) (h : DB f C B T ids nx) : SegNames f.now := fun p hp => by
  obtain ⟨n, h1, h2, h3, _⟩ := h.names _ (Fs.Poss.now hw) p hp
  have := h.top
  exact ⟨n, h1, h2, by omega⟩
theorem Live.count {f : Fs} {l : Wl} {g : Gh} {c S d : Nat} (h : Live f l g) (hb : Bud f c S d) : f.now.length ≤ c :=
  count_names h.wf.nodup (h.di.db.segNow h.wf) (hb.num _ (Fs.Poss.now h.wf))
/-- a log with a budget: it has power, and is not armed -/
structure Good (f : Fs) (l : Wl) (g : Gh) (c S d : Nat) : Prop where
  live : Live f l g
  bud : Bud f c S d
  on : f.on = true
  arm : f.armed = false
theorem Good.used {f : Fs} {l : Wl} {g : Gh} {c S d : Nat} (h : Good f l g c S d) : f.used ≤ S := used_le_bud h.live.wf h.bud
theorem Good.why {f : Fs} {l : Wl} {g : Gh} {c S d k : Nat} (h : Good f l g c S d) (hc : c < 64) (hr : (S : Int) + k ≤ f.room) : ¬ (64 ≤ f.now.length ∨ f.room < (f.used : Int) + k) := by
  have h1 := h.live.count h.bud
  have h2 := h.used
  omega
theorem append_ok {f : Fs} {l : Wl} {g : Gh} {c S d : Nat} {xs : List ByteArray} (h : Good f l g c S d) (hx : xs.any tooLong = false) (hr : (S : Int) + (framesL xs).length ≤ f.room) :
    (appendW f l xs).2 = ({ l with recs := l.recs ++ xs }, 0) ∧ Good (appendW f l xs).1 { l with recs := l.recs ++ xs } { g with rs := g.rs ++ xs } c (S + (framesL xs).length) d ∧ (appendW f l xs).1.room = f.room := by
  rcases append_plain h.live h.bud (xs := xs) with ⟨_, h1⟩ | ⟨_, ⟨h1, h2, h3, h4, h5, h6⟩ | ⟨_, _, h1⟩ | ⟨_, h1, _⟩⟩
  · rw [hx] at h1; cases h1
  · exact ⟨h1, ⟨h2, h4, h3, h5.trans h.arm⟩, h6⟩
  · have := h.used; omega
  · rcases h1 with h1 | h1
    · rw [h.on] at h1; cases h1
    · rw [h.arm] at h1; cases h1
/-- what Sync leaves when nothing hinders it -/
structure Synced (f r : Fs) (l l' : Wl) (g' : Gh) (c S d : Nat) : Prop where
  good : Good r l' g' (c + 1) (S + 35) (d + 2)
  state : l'.state = l.state
  first : l'.first = l.first
  recs : l'.recs = l.recs
  firm : l'.firm = l.last
  room : r.room = f.room
theorem sync_ok {f : Fs} {l : Wl} {g : Gh} {c S d nid : Nat} (h : Good f l g c S d) (hc : c < 64) (hlim : l.first + l.recs.length ≤ 1099511627776) (hn : nid ∉ f.ids) (hr : (S : Int) + 35 ≤ f.room) :
    (syncW f l nid).2.2 = 0 ∧ ∃ g', Synced f (syncW f l nid).1 l (syncW f l nid).2.1 g' c S d := by
  rcases sync_plain h.live h.bud (by omega) hlim hn with ⟨g', a1, a2, a3, a4, a5, a6, a7, a8, a9, a10, a11⟩ | ⟨_, _, _, _, _, _, _, _, _, _, _, _, a1⟩
  · rcases a8 with ⟨a8, a12⟩ | ⟨_, hw⟩
    · exact ⟨a8, g', ⟨a1, a6, a12, a9.trans h.arm⟩, a2, a3, a4, a5, a10⟩
    · exact absurd hw (h.why (k := 35) hc hr)
  · rcases a1 with a1 | a1
    · rw [h.on] at a1; cases a1
    · rw [h.arm] at a1; cases a1
structure Checked (f r : Fs) (l l' : Wl) (g' : Gh) (st : ByteArray) (c S d : Nat) : Prop where
  good : Good r l' g' (c + 1) (S + st.size + 35) (d + 66)
  state : l'.state = st
  first : l'.first = l.last + 1
  recs : l'.recs = []
  firm : l'.firm = l.last
  since : r.since = []
  firmN : r.firm = r.now
  nums : numsOf r.now = [g'.N]
  room : r.room = f.room
theorem chk_ok {f : Fs} {l : Wl} {g : Gh} {c S d nid : Nat} {st : ByteArray} (h : Good f l g c S d) (hc : c < 64) (hlim : l.first + l.recs.length ≤ 1099511627776) (hn : nid ∉ f.ids) (hst : st.size ≤ 60000) (hr : (S : Int) + (st.size + 35 : Nat) ≤ f.room) :
    (chkW f l nid st).2.2 = 0 ∧ ∃ g', Checked f (chkW f l nid st).1 l (chkW f l nid st).2.1 g' st c S d := by
  rcases chk_plain h.live h.bud (by omega) hlim hn hst with ⟨g', a1, a2, a3, a4, a5, a6, a7, a8, a9, a10, a11, a12, a13, a14⟩ | ⟨_, _, _, _, _, _, _, _, _, hw, _, _, _⟩ | ⟨_, _, _, _, _, _, _, _, _, _, _, _, a1⟩ | ⟨_, _, _, _, _, _, _, _, _, _, _, a1⟩
  · exact ⟨a12, g', ⟨a1, a10, a6, a13.trans h.arm⟩, a2, a3, a4, a5, a7, a8, a9, a14⟩
  · exact absurd hw (h.why (k := st.size + 35) hc hr)
  · rcases a1 with a1 | a1
    · rw [h.on] at a1; cases a1
    · rw [h.arm] at a1; cases a1
  · rw [h.arm] at a1; cases a1
/-- opened anew behind a crash: what was found, with a budget -/
theorem reopen {f f' : Fs} {g : Gh} {st : ByteArray} {fi : Nat} {nx : Option Hd} {c S d nid : Nat} (hw : f.Wf) (hw' : f'.Wf) (h : DI f g st fi nx) (hb : Bud f c S d) (hc : CrashOf f f') (hc64 : c < 64)
    (hlim : ∀ ld, After g st fi nx ld → 1 ≤ ld.first ∧ ld.first + ld.recs.length ≤ 1099511627776) (hn : nid ∉ f'.ids) (hroom : (S : Int) + 35 ≤ f.room) :
    ∃ ld g', f'.loaded = some ld ∧ After g st fi nx ld ∧ (openW f' nid).2.2 = 0 ∧ Good (openW f' nid).1 (openW f' nid).2.1 g' (c + 1) (S + 35) 64 ∧ (openW f' nid).2.1.state = ld.state ∧ (openW f' nid).2.1.first = ld.first ∧ (openW f' nid).2.1.recs = ld.recs ∧
      (openW f' nid).2.1.firm = (openW f' nid).2.1.last ∧ (openW f' nid).1.room = f.room := by
  obtain ⟨ld, h1, h2⟩ := h.ready hw hw' hb hc
  obtain ⟨q1, q2⟩ := hlim ld h1
  obtain ⟨g', a1, a2, a3, a4, a5, a6, a7, a8, a9, a10, a11⟩ := open_ok h2 hc64 q1 q2 hn (by rw [hc.room]; exact hroom)
  exact ⟨ld, g', h2.ld, h1, a2, ⟨a1, a10, a7, a8⟩, a3, a4, a5, a6, a9.trans hc.room⟩
theorem append_keeps (f : Fs) (name s : ByteArray) : (f.append name s).1.firm = f.firm ∧ (f.append name s).1.since = f.since ∧ (f.append name s).1.now = f.now ∧ ∀ id, ((f.append name s).1.cont id).synced = (f.cont id).synced := by
  have hs := Fs.step_fields f
  unfold Fs.append
  split
  · exact ⟨rfl, rfl, rfl, fun _ => rfl⟩
  · split
    · exact ⟨rfl, rfl, rfl, fun _ => rfl⟩
    · refine ⟨hs.1, hs.2.2.2.2.1, hs.2.2.2.1, fun id => ?_⟩
      show (upd f.cont _ _ id).synced = _
      unfold upd
      split
      · next e => rw [e]
      · rfl
theorem appendW_keeps (f : Fs) (l : Wl) (xs : List ByteArray) : (appendW f l xs).1.firm = f.firm ∧ (appendW f l xs).1.since = f.since ∧ (appendW f l xs).1.now = f.now ∧ ∀ id, ((appendW f l xs).1.cont id).synced = (f.cont id).synced := by
  unfold appendW
  split
  · exact ⟨rfl, rfl, rfl, fun _ => rfl⟩
  · exact append_keeps _ _ _
theorem nums_one {n : Nat} {x : Nat} (h1 : 1 ≤ n) (h2 : n ≤ 99999999) : numsOf [(segName n, x)] = [n] := by
  refine incr_ext (nums_incr _ (by simp)) (by simp) (fun m => ?_)
  rw [mem_numsOf]
  simp only [List.map_cons, List.map_nil, List.mem_singleton]
  constructor
  · rintro ⟨a, b, e⟩; exact segName_inj b h2 e
  · rintro rfl; exact ⟨h1, h2, rfl⟩
/-- what was appended to a new log and not synced is not found behind a crash without picks -/
theorem new_lost {f1 : Fs} {nid : Nat} {xs : List ByteArray} (hg : Good f1 Wl.zero (Gh.zero nid) 1 35 0) (hnow : f1.now = [(segName 1, nid)]) (hsince : f1.since = []) (hfirm : f1.firm = f1.now)
    (hcont : f1.cont nid = ⟨headOf 1 true ⟨#[]⟩, (headOf 1 true ⟨#[]⟩).size⟩) (hok : Good (appendW f1 Wl.zero xs).1 { Wl.zero with recs := xs } { Gh.zero nid with rs := xs } 1 (35 + (framesL xs).length) 0)
    {nids : List Nat} (h1 : nids.length = ((appendW f1 Wl.zero xs).1.crLeft []).length) (h2 : nids.Nodup) (h3 : ∀ i, i ∈ nids → i ∉ (appendW f1 Wl.zero xs).1.ids) :
    ((appendW f1 Wl.zero xs).1.crash [] nids).loaded = some ⟨1, ⟨#[]⟩, 1, []⟩ := by
  obtain ⟨k1, k2, k3, k4⟩ := appendW_keeps f1 Wl.zero xs
  obtain ⟨c1, c2⟩ := crash_nil hok.live.wf h1 h2 h3
  have hf : (appendW f1 Wl.zero xs).1.firm = [(segName 1, nid)] := by rw [k1, hfirm, hnow]
  have hlast := hok.live.di.last
  have hsy := k4 nid
  rw [hcont] at hsy
  generalize (appendW f1 Wl.zero xs).1 = f2 at *
  have hm : mget f2.firm (segName 1) = some nid := by rw [hf]; simp [mget]
  obtain ⟨id', d1, d2⟩ := c2 _ _ hm
  have hbody : toL ((f2.crash [] nids).bodyAt 1) = toL (headOf 1 true ⟨#[]⟩) := by
    unfold Fs.bodyAt
    rw [d1]
    simp only
    rw [d2, toL_extract, List.drop_zero, Nat.sub_zero, hsy]
    have : toL (f2.cont nid).bytes = toL (headOf 1 true ⟨#[]⟩) ++ framesL xs := hlast
    rw [this, List.take_append_of_le_length (by rw [toL_length]; exact Nat.le_refl _), List.take_of_length_le (by rw [toL_length]; exact Nat.le_refl _)]
  have hk : (f2.crash [] nids).now.map (·.1) = [segName 1] := by rw [c1, hf]; rfl
  have hnums : numsOf (f2.crash [] nids).now = [1] := by
    match hL : (f2.crash [] nids).now, hk with
    | [(a, x)], hk =>
      simp at hk
      subst hk
      exact nums_one (by decide) (by decide)
  unfold Fs.loaded
  rw [hnums, foldC_one]
  have hh : HeadOk 1 true ⟨#[]⟩ := ⟨Nat.le_refl _, by decide, fun h => Bool.noConfusion h, Nat.zero_le _⟩
  have hr := read_whole (num := 1) (recs := []) hh (fun b hb => by cases hb) (s := (f2.crash [] nids).bodyAt 1) (by rw [hbody]; simp [segL', framesL])
  unfold rd
  rw [hr]
  rfl
theorem framesL_size (xs : List ByteArray) (n : Nat) (h : ∀ x, x ∈ xs → x.size ≤ n) : (framesL xs).length ≤ xs.length * (n + 14) := by
  induction xs with
  | nil => exact Nat.zero_le _
  | cons x xs ih =>
    rw [framesL_cons, List.length_append, toL_length, frameOf_size, List.length_cons, Nat.succ_mul]
    have := ih (fun y hy => h y (List.mem_cons_of_mem _ hy))
    have := h x List.mem_cons_self
    have := putN_length x.size
    omega
end Go.Proofs.YthogefmngddnbaaGreatDoor
/- The laws' awake: the walk. -/
namespace Go.Proofs.YthogefmngddnbaaGreatDoor
open Go.RowKit

theorem Sys.lt {w0 w : World} {b fb : Nat} {f : Fs} {l : Wl} {F G : BSet} (h : Sys w0 w b fb f l F G) {k : Nat} (hk : F k ∨ G k) : k < w.heap.size := by
  rcases hk with hk | hk
  · exact h.rep.wl.lt k hk
  · exact h.rep.fs.lt k hk
/-- Append of a row of texts just made -/
theorem append_new (w0 : World) (b fb : Nat) (f : Fs) (l : Wl) (g : Gh) (F G : BSet) (c S d : Nat) (xs : List ByteArray) (w : World) (bv n cp : Nat) (cs : Array Value) (t : TypeId) (fr : Nat × Nat) (h : Sys w0 w b fb f l F G) (hg : Live f l g)
    (hlim : l.first + l.recs.length ≤ 1099511627776) (hb : w.heap[bv]? = some (.cells cs t fr)) (hn : n = xs.length) (hnl : n ≤ maxLen) (hcs : ∀ i, i < n → cs[i]? = (strs xs)[i]?) (hbv : ¬ (F bv ∨ G bv)) (hs : ∀ s, s ∈ xs → s.size ≤ 1099511627776) (hfl : (framesL xs).length ≤ 1099511627776)
    (hrl : l.recs.length + xs.length ≤ 1099511627776) (hx0 : 0 < xs.length) :
    Calls Tryz.prog 19 #[.pointer (some ⟨b, 0, none⟩), .slice (some ⟨bv, 0, none⟩) n cp] w (SysP w0 b fb F G (appendW f l xs).1 (appendW f l xs).2.1 (.int .i64 (appendW f l xs).2.2) w) := by
  subst hn
  have hok := hg.wok hlim
  refine (wappend_any b fb F G f l (.slice (some ⟨bv, 0, none⟩) xs.length cp) xs w h.rep h.gl ⟨_, cp, by rw [strs_length], by rw [strs_length]; exact hnl, fun _ => ⟨bv, 0, cs, t, fr, rfl, hb, fun i hi => by rw [Nat.zero_add]; rw [strs_length] at hi; exact hcs i hi⟩⟩ (fun _ => hbv) hs hfl hok.2.2 hrl hx0).mono ?_
  intro e w' hp
  exact hp.sys h
def SysNP (w0 : World) (b fb : Nat) (F G : BSet) (f : Fs) (op : Nat → Fs × Wl × Int) (w : World) (e : Ending) (w' : World) : Prop :=
  ∃ nid, nid ∉ f.ids ∧ SysP w0 b fb F G (op nid).1 (op nid).2.1 (.int .i64 (op nid).2.2) w e w'
theorem sync_law (w0 : World) (b fb : Nat) (f : Fs) (l : Wl) (g : Gh) (F G : BSet) (w : World) (h : Sys w0 w b fb f l F G) (hg : Live f l g) (hlim : l.first + l.recs.length ≤ 1099511627776) (hlen : f.since.length ≤ 500000000) :
    Calls Tryz.prog 20 #[.pointer (some ⟨b, 0, none⟩)] w (SysNP w0 b fb F G f (syncW f l) w) := by
  have hok := hg.wok hlim
  refine (wsync_any b fb F G f l w h.rep h.gl hok.2.2 hok.1 (by omega)).mono ?_
  rintro e w' ⟨nid, hn, hp⟩
  exact ⟨nid, hn, hp.sys h⟩
theorem chk_law (w0 : World) (b fb : Nat) (f : Fs) (l : Wl) (g : Gh) (F G : BSet) (st : ByteArray) (w : World) (h : Sys w0 w b fb f l F G) (hg : Live f l g) (hlim : l.first + l.recs.length ≤ 1099511627776) (hlen : f.since.length ≤ 500000000) (hst : st.size ≤ 60000) :
    Calls Tryz.prog 27 #[.pointer (some ⟨b, 0, none⟩), .string st] w (SysNP w0 b fb F G f (fun nid => chkW f l nid st) w) := by
  have hok := hg.wok hlim
  refine (wchk_any b fb F G f l st w h.rep h.gl hok.2.1 hok.1 hlen hst (by have := hg.last; have := hg.recs; have hl : l.recs.length = g.acc.length + g.rs.length := by rw [hg.recs, List.length_append]
                                                                           omega)).mono ?_
  rintro e w' ⟨nid, hn, hp⟩
  exact ⟨nid, hn, hp.sys h⟩
def xsAB : List ByteArray := [⟨#[97]⟩, ⟨#[98]⟩]
def xsA : List ByteArray := [⟨#[97]⟩]
theorem names_one {nid : Nat} : namesOf [(segName 1, nid)] = [segName 1] := by
  unfold namesOf sortL
  simp [List.mergeSort]
  exact ofL_toL _
theorem segName_1 : segName 1 = ⟨#[119, 46, 48, 48, 48, 48, 48, 48, 48, 49]⟩ := by
  unfold segName segL
  rw [digs_eq (by decide)]
  rfl
set_option maxRecDepth 100000 in
set_option maxHeartbeats 8000000 in
theorem awake_any (w : World) (hg : Globs w) : Calls Tryz.prog 14 #[] w fun e w' => e = .returned (.bool true) ∧ Mod BSet.none w w' := by
  have HG := Lib.hid hg
  have hsz9 := hg.size
  have hroom : Fs.roomOf 100000 = 100000 := by decide
  have HROOM := Lib.hid hroom
  clear hg hroom
  go_enter Tryz.func14, Tryz.ntmps14
  go_wp2_with fail
  refine (new_any 100000 w).mono ?_
  rintro e w1 ⟨fb, rfl, hr1, hm1⟩
  have S1 := Lib.hid (FSys.of_new HG.out hr1 hm1)
  clear hr1 hm1
  go_wp2_with fail
  refine (open_law w fb _ (Fs.new 100000) w1 S1.out rfl rfl (by decide) (by decide)).mono ?_
  rintro e w2 ⟨nid, hn, hm2, hc⟩
  have NEW := open_new (n := 100000) (nid := nid) (by rw [HROOM.out]; decide) hn
  obtain ⟨o1, o2, o3, o4, o5, o6, o7, o8, o9, o10⟩ := NEW
  rcases hc with ⟨_, b, F1, G1, rfl, hs2, _⟩ | ⟨h0, _⟩
  rotate_left
  · rw [o1] at h0; exact absurd rfl h0
  obtain ⟨f1, hf1⟩ : ∃ f1, (openW (Fs.new 100000) nid).1 = f1 := ⟨_, rfl⟩
  rw [o1] at hs2
  rw [hf1] at hs2 o2 o3 o4 o5 o6 o7 o8 o9 o10
  have S2 := Lib.hid hs2
  have GD1 : Hid (Good f1 Wl.zero (Gh.zero nid) 1 35 0) := Lib.hid ⟨o2, o6, o3, o4⟩
  have O5 : Hid (f1.room = 100000) := Lib.hid (o5.trans HROOM.out)
  have O7 := Lib.hid o7
  have O8 := Lib.hid o8
  have O9 := Lib.hid o9
  have O10 := Lib.hid o10
  clear o1 o2 o3 o4 o5 o6 o7 o8 o9 o10 hs2 hm2 hn hf1
  go_wp2_with fail
  refine (names_any fb f1 G1 w2 S2.out.rep.fs).mono ?_
  rintro e w3 ⟨lv, rfl, hlo, hm3⟩
  rw [O7.out] at hlo
  have hnm : strs ((sortL (([(segName 1, nid)] : Nm).map (·.1.data.toList))).map ofL) = [.string ⟨#[119, 46, 48, 48, 48, 48, 48, 48, 48, 49]⟩] := by
    rw [show (sortL (([(segName 1, nid)] : Nm).map (·.1.data.toList))).map ofL = namesOf [(segName 1, nid)] from rfl, names_one, segName_1]; rfl
  rw [hnm] at hlo
  obtain ⟨la, lc, rfl, _, hlx⟩ := hlo.slice
  obtain ⟨lg, lcur, rfl, hLG, hlg, hlc⟩ := hlx (by simp)
  have lc0 : w3.cell? ⟨lg, 0, none⟩ = some (.string ⟨#[119, 46, 48, 48, 48, 48, 48, 48, 48, 49]⟩) := by rw [cell_of_at hlg]; exact hlc 0 (by simp)
  have hLGn : w2.heap.size ≤ lg ∧ lg < w3.heap.size := by
    rcases hLG with h | h
    · exact h.elim
    · exact h
  have S3 := Lib.hid (S2.out.keep hm3)
  have OUT3 : Hid (¬ (F1 lg ∨ G1 lg)) := Lib.hid (fun h => by have := S2.out.lt h; omega)
  have hz3 := hm3.size
  clear hlo hm3 hnm hlx hLG hlg hlc
  go_wp2_with fail
  refine (wfirst_any b (some ⟨fb, 0, none⟩) Wl.zero F1 w3 S3.out.rep.wl).mono ?_
  rintro e w3' ⟨rfl, hw3⟩
  rw [hw3]
  clear hw3
  rw [show ((Wl.zero.first : Nat) : Int) = 1 from rfl]
  go_wp2_with fail
  have WOK1 := Lib.hid (GD1.out.live.wok (by decide))
  refine (wlast_any b ⟨fb, 0, none⟩ Wl.zero F1 w3 S3.out.rep.wl WOK1.out.1).mono ?_
  rintro e w4 ⟨rfl, n4, rfl⟩
  rw [show ((Wl.zero.last : Nat) : Int) = 0 from rfl]
  have M4 : Hid (Mod BSet.none w3 ((w3.drewN n4).alloc (.cells #[.string ⟨#[97]⟩, .string ⟨#[98]⟩] 9))) := Lib.hid (((Mod.refl _ _).drewN n4).alloc _)
  have S4 := Lib.hid (S3.out.keep M4.out)
  have AP1 : Hid ((appendW f1 Wl.zero xsAB).2 = ({ Wl.zero with recs := Wl.zero.recs ++ xsAB }, 0) ∧ Good (appendW f1 Wl.zero xsAB).1 { Wl.zero with recs := Wl.zero.recs ++ xsAB } { Gh.zero nid with rs := (Gh.zero nid).rs ++ xsAB } 1 (35 + (framesL xsAB).length) 0 ∧ (appendW f1 Wl.zero xsAB).1.room = f1.room) := Lib.hid
    (append_ok GD1.out (by decide) (by rw [O5.out]; have := framesL_size xsAB 1 (by decide); have : xsAB.length = 2 := rfl; omega))
  go_wp2_with fail
  refine (append_new w b fb f1 Wl.zero (Gh.zero nid) F1 G1 1 35 0 xsAB _ w3.heap.size 2 2 #[.string ⟨#[97]⟩, .string ⟨#[98]⟩] 9 (0, 0) S4.out GD1.out.live (by decide) at_new rfl (by decide) (fun i hi => by rcases (show i = 0 ∨ i = 1 by omega) with rfl | rfl <;> rfl) (fun h => by have := S3.out.lt h; omega) (by decide) (by have := framesL_size xsAB 1 (by decide); have : xsAB.length = 2 := rfl; omega) (by decide) (by decide)).mono ?_
  rintro e w5 ⟨rfl, F5, G5, hs5, hsub5, hm5⟩
  have S5 := Lib.hid hs5
  have OUT5 : Hid (¬ (F5 lg ∨ G5 lg) ∧ lg < w5.heap.size) := Lib.hid ⟨fun h => by
    rcases hsub5 lg h with h | h
    · exact OUT3.out h
    · have h1 : w3.heap.size + 1 ≤ lg := by simpa using h
      omega, by have := hm5.size; simp at this; omega⟩
  have lc5 : w5.cell? ⟨lg, 0, none⟩ = some (.string ⟨#[119, 46, 48, 48, 48, 48, 48, 48, 48, 49]⟩) := hm5.cell (M4.out.cell lc0 (fun h => h)) OUT3.out
  rw [AP1.out.1]
  clear hs5 hsub5 hm5 lc0
  obtain ⟨f2, hf2⟩ : ∃ f2, (appendW f1 Wl.zero xsAB).1 = f2 := ⟨_, rfl⟩
  have HF2 := Lib.hid hf2
  rw [AP1.out.1, hf2] at S5
  have GD2 := Lib.hid (hf2 ▸ AP1.out.2.1)
  have RM2 : Hid (f2.room = 100000) := Lib.hid (by rw [← hf2, AP1.out.2.2, O5.out])
  clear hf2
  go_wp2_with fail
  refine (crash_law w fb G5 BSet.none f2 _ [] w5 S5.out.fsys (picks_nil _ _) (fun k h => h.elim) (by have := GD2.out.bud.len; omega)).mono ?_
  rintro e w6 ⟨rfl, nids, n1, n2, n3, hs6, hm6⟩
  obtain ⟨f3, hf3⟩ : ∃ f3, f2.crash [] nids = f3 := ⟨_, rfl⟩
  have LD3 : Hid (f3.loaded = some ⟨1, ⟨#[]⟩, 1, []⟩) := Lib.hid (by
    rw [← hf3]
    have := HF2.out
    subst this
    exact new_lost GD1.out O7.out O8.out O9.out O10.out AP1.out.2.1 n1 n2 n3)
  rw [hf3] at hs6
  have S6 := Lib.hid hs6
  have CR3 : Hid (CrashOf f2 f3) := Lib.hid (by rw [← hf3]; exact crash_of GD2.out.live.wf (fun p hp => by cases hp) n1 n2 n3)
  have OUT6 : Hid (¬ grow G5 w5 w6 lg ∧ lg < w6.heap.size) := Lib.hid ⟨fun h => by
    rcases h with h | h
    · exact OUT5.out.1 (.inr h)
    · have := OUT5.out.2; omega, by have := hm6.size; have := OUT5.out.2; omega⟩
  have lc6 : w6.cell? ⟨lg, 0, none⟩ = some (.string ⟨#[119, 46, 48, 48, 48, 48, 48, 48, 48, 49]⟩) := hm6.cell lc5 (fun h => OUT5.out.1 (.inr h))
  have LEN2 : (framesL xsAB).length ≤ 30 := by have := framesL_size xsAB 1 (by decide); have : xsAB.length = 2 := rfl; omega
  have U3 : Hid (f3.used ≤ 1099511627776) := Lib.hid (by
    have h1 := (CR3.out.bud GD2.out.live.wf GD2.out.bud)
    have := used_le_bud S6.out.fs.wf h1
    omega)
  clear hs6 hm6 hf3 n1 n2 n3 lc5
  go_wp2_with fail
  refine (open_law w fb _ f3 w6 S6.out CR3.out.on CR3.out.arm U3.out (by rw [CR3.out.since]; decide)).mono ?_
  rintro e w7 ⟨nid3, hn7, hm7, hc7⟩
  obtain ⟨ld3, g4, q1, q2, q3, q4, q5, q6, q7, q8, q9⟩ := reopen GD2.out.live.wf S6.out.fs.wf GD2.out.live.di GD2.out.bud CR3.out (by decide) (fun ld h => by
    rcases h with ⟨_, h2, j, _, h4, h5⟩ | ⟨_, _, h, _⟩
    · have : (Wl.zero.first) = 1 := rfl
      rw [h5, h2]
      refine ⟨by decide, ?_⟩
      simp only [List.length_append, List.length_take]
      have : xsAB.length = 2 := rfl
      show 1 + ([].length + min j (([] : List ByteArray) ++ xsAB).length) ≤ _
      simp; omega
    · cases h) hn7 (by rw [RM2.out]; omega)
  rw [LD3.out] at q1
  cases q1
  rcases hc7 with ⟨_, b7, F7, G7, rfl, hs7, hsub7⟩ | ⟨h0, _⟩
  rotate_left
  · exact absurd q3 h0
  obtain ⟨f4, hf4⟩ : ∃ f4, (openW f3 nid3).1 = f4 := ⟨_, rfl⟩
  obtain ⟨l4, hl4⟩ : ∃ l4, (openW f3 nid3).2.1 = l4 := ⟨_, rfl⟩
  rw [hf4, hl4] at hs7 q4
  rw [hf4] at q9
  rw [hl4] at q5 q6 q7 q8
  simp only at q5 q6 q7
  have S7 := Lib.hid hs7
  have GD4 := Lib.hid q4
  have Q6 := Lib.hid q6
  have Q7 := Lib.hid q7
  have RM4 : Hid (f4.room = 100000) := Lib.hid (q9.trans RM2.out)
  have OUT7 : Hid (¬ (F7 lg ∨ G7 lg) ∧ lg < w7.heap.size) := Lib.hid ⟨fun h => by
    rcases hsub7 lg h with h | h
    · exact OUT6.out.1 h
    · have := OUT6.out.2; omega, by have := hm7.size; have := OUT6.out.2; omega⟩
  have lc7 : w7.cell? ⟨lg, 0, none⟩ = some (.string ⟨#[119, 46, 48, 48, 48, 48, 48, 48, 48, 49]⟩) := hm7.cell lc6 OUT6.out.1
  have hlast4 : l4.last = 0 := by unfold Wl.last; rw [q6, q7]; rfl
  have HL4 := Lib.hid hlast4
  have LIM4 : Hid (l4.first + l4.recs.length ≤ 1099511627776) := Lib.hid (by rw [q6, q7]; decide)
  have WOK4 := Lib.hid (GD4.out.live.wok LIM4.out)
  clear q2 q3 q4 q5 q6 q7 q8 q9 hs7 hm7 hsub7 hf4 hl4 hn7 lc6 hlast4
  go_wp2_with fail
  refine (wlast_any b7 ⟨fb, 0, none⟩ l4 F7 w7 S7.out.rep.wl WOK4.out.1).mono ?_
  rintro e w8 ⟨rfl, n8, rfl⟩
  rw [HL4.out]
  rw [show ((0 : Nat) : Int) = 0 from rfl]
  have M8 : Hid (Mod BSet.none w7 ((w7.drewN n8).alloc (.cells #[.string ⟨#[97]⟩] 9))) := Lib.hid (((Mod.refl _ _).drewN n8).alloc _)
  have S8 := Lib.hid (S7.out.keep M8.out)
  have LENA : (framesL xsA).length ≤ 15 := by have := framesL_size xsA 1 (by decide); have : xsA.length = 1 := rfl; omega
  have AP4 : Hid ((appendW f4 l4 xsA).2 = ({ l4 with recs := l4.recs ++ xsA }, 0) ∧ Good (appendW f4 l4 xsA).1 { l4 with recs := l4.recs ++ xsA } { g4 with rs := g4.rs ++ xsA } 2 (35 + (framesL xsAB).length + 35 + (framesL xsA).length) 64 ∧ (appendW f4 l4 xsA).1.room = f4.room) := Lib.hid
    (append_ok GD4.out (by decide) (by rw [RM4.out]; omega))
  go_wp2_with fail
  refine (append_new w b7 fb f4 l4 g4 F7 G7 2 100 64 xsA _ w7.heap.size 1 1 #[.string ⟨#[97]⟩] 9 (0, 0) S8.out GD4.out.live LIM4.out at_new rfl (by decide) (fun i hi => by rcases (show i = 0 by omega) with rfl; rfl) (fun h => by have := S7.out.lt h; omega) (by decide) (by omega) (by rw [Q7.out]; decide) (by decide)).mono ?_
  rintro e w9 ⟨rfl, F9, G9, hs9, hsub9, hm9⟩
  have OUT9 : Hid (¬ (F9 lg ∨ G9 lg) ∧ lg < w9.heap.size) := Lib.hid ⟨fun h => by
    rcases hsub9 lg h with h | h
    · exact OUT7.out.1 h
    · have h1 : w7.heap.size + 1 ≤ lg := by simpa using h
      have := OUT7.out.2
      omega, by have := hm9.size; simp at this; have := OUT7.out.2; omega⟩
  have lc9 : w9.cell? ⟨lg, 0, none⟩ = some (.string ⟨#[119, 46, 48, 48, 48, 48, 48, 48, 48, 49]⟩) := hm9.cell (M8.out.cell lc7 (fun h => h)) OUT7.out.1
  rw [AP4.out.1]
  obtain ⟨f5, hf5⟩ : ∃ f5, (appendW f4 l4 xsA).1 = f5 := ⟨_, rfl⟩
  rw [AP4.out.1, hf5] at hs9
  have S9 := Lib.hid hs9
  have GD5 := Lib.hid (hf5 ▸ AP4.out.2.1)
  have RM5 : Hid (f5.room = 100000) := Lib.hid (by rw [← hf5, AP4.out.2.2, RM4.out])
  have LIM5 : Hid (({ l4 with recs := l4.recs ++ xsA } : Wl).first + ({ l4 with recs := l4.recs ++ xsA } : Wl).recs.length ≤ 1099511627776) := Lib.hid (by
    show l4.first + (l4.recs ++ xsA).length ≤ _
    rw [Q6.out, Q7.out]; decide)
  clear hs9 hsub9 hm9 hf5 lc7
  go_wp2_with fail
  refine (sync_law w b7 fb f5 _ _ F9 G9 w9 S9.out GD5.out.live LIM5.out (by have := GD5.out.bud.len; omega)).mono ?_
  rintro e w10 ⟨nid10, hn10, rfl, F10, G10, hs10, hsub10, hm10⟩
  obtain ⟨y1, g10, y2⟩ := sync_ok GD5.out (by decide) LIM5.out hn10 (by rw [RM5.out]; omega)
  obtain ⟨f6, hf6⟩ : ∃ f6, (syncW f5 { l4 with recs := l4.recs ++ xsA } nid10).1 = f6 := ⟨_, rfl⟩
  obtain ⟨l6, hl6⟩ : ∃ l6, (syncW f5 { l4 with recs := l4.recs ++ xsA } nid10).2.1 = l6 := ⟨_, rfl⟩
  rw [y1]
  rw [hf6, hl6] at hs10 y2
  have S10 := Lib.hid hs10
  have GD6 := Lib.hid y2.good
  have RM6 : Hid (f6.room = 100000) := Lib.hid (y2.room.trans RM5.out)
  have F6F : Hid (l6.first = 1 ∧ l6.recs = xsA) := Lib.hid ⟨y2.first.trans Q6.out, by have := y2.recs; rw [this]; show l4.recs ++ xsA = xsA; rw [Q7.out]; rfl⟩
  have LIM6 : Hid (l6.first + l6.recs.length ≤ 1099511627776) := Lib.hid (by rw [F6F.out.1, F6F.out.2]; decide)
  have LAST6 : Hid (l6.last + 1 = 2) := Lib.hid (by unfold Wl.last; rw [F6F.out.1, F6F.out.2]; rfl)
  have OUT10 : Hid (¬ (F10 lg ∨ G10 lg) ∧ lg < w10.heap.size) := Lib.hid ⟨fun h => by
    rcases hsub10 lg h with h | h
    · exact OUT9.out.1 h
    · have := OUT9.out.2; omega, by have := hm10.size; have := OUT9.out.2; omega⟩
  have lc10 : w10.cell? ⟨lg, 0, none⟩ = some (.string ⟨#[119, 46, 48, 48, 48, 48, 48, 48, 48, 49]⟩) := hm10.cell lc9 OUT9.out.1
  clear hs10 y1 y2 hsub10 hm10 hf6 hl6 hn10 lc9
  go_wp2_with fail
  refine (chk_law w b7 fb f6 l6 g10 F10 G10 ⟨#[115]⟩ w10 S10.out GD6.out.live LIM6.out (by have := GD6.out.bud.len; omega) (by decide)).mono ?_
  rintro e w11 ⟨nid11, hn11, rfl, F11, G11, hs11, hsub11, hm11⟩
  obtain ⟨y1, g11, y2⟩ := chk_ok GD6.out (by decide) LIM6.out hn11 (st := ⟨#[115]⟩) (by decide) (by rw [RM6.out]; have : (⟨#[115]⟩ : ByteArray).size = 1 := rfl; omega)
  obtain ⟨f7, hf7⟩ : ∃ f7, (chkW f6 l6 nid11 ⟨#[115]⟩).1 = f7 := ⟨_, rfl⟩
  obtain ⟨l7, hl7⟩ : ∃ l7, (chkW f6 l6 nid11 ⟨#[115]⟩).2.1 = l7 := ⟨_, rfl⟩
  rw [y1]
  rw [hf7, hl7] at hs11 y2
  have S11 := Lib.hid hs11
  have GD7 := Lib.hid y2.good
  have Y2 := Lib.hid y2
  have RM7 : Hid (f7.room = 100000) := Lib.hid (y2.room.trans RM6.out)
  have OUT11 : Hid (¬ (F11 lg ∨ G11 lg) ∧ lg < w11.heap.size) := Lib.hid ⟨fun h => by
    rcases hsub11 lg h with h | h
    · exact OUT10.out.1 h
    · have := OUT10.out.2; omega, by have := hm11.size; have := OUT10.out.2; omega⟩
  have lc11 : w11.cell? ⟨lg, 0, none⟩ = some (.string ⟨#[119, 46, 48, 48, 48, 48, 48, 48, 48, 49]⟩) := hm11.cell lc10 OUT10.out.1
  clear hs11 y1 y2 hsub11 hm11 hf7 hl7 hn11 lc10
  go_wp2_with fail
  refine (crash_law w fb G11 BSet.none f7 _ [] w11 S11.out.fsys (picks_nil _ _) (fun k h => h.elim) (by have := GD7.out.bud.len; omega)).mono ?_
  rintro e w12 ⟨rfl, nids12, n1, n2, n3, hs12, hm12⟩
  obtain ⟨f8, hf8⟩ : ∃ f8, f7.crash [] nids12 = f8 := ⟨_, rfl⟩
  rw [hf8] at hs12
  have S12 := Lib.hid hs12
  have CR8 : Hid (CrashOf f7 f8) := Lib.hid (by rw [← hf8]; exact crash_of GD7.out.live.wf (fun p hp => by cases hp) n1 n2 n3)
  have OUT12 : Hid (¬ grow G11 w11 w12 lg ∧ lg < w12.heap.size) := Lib.hid ⟨fun h => by
    rcases h with h | h
    · exact OUT11.out.1 (.inr h)
    · have := OUT11.out.2; omega, by have := hm12.size; have := OUT11.out.2; omega⟩
  have lc12 : w12.cell? ⟨lg, 0, none⟩ = some (.string ⟨#[119, 46, 48, 48, 48, 48, 48, 48, 48, 49]⟩) := hm12.cell lc11 (fun h => OUT11.out.1 (.inr h))
  have U8 : Hid (f8.used ≤ 1099511627776) := Lib.hid (by
    have h1 := (CR8.out.bud GD7.out.live.wf GD7.out.bud)
    have := used_le_bud S12.out.fs.wf h1
    have : (⟨#[115]⟩ : ByteArray).size = 1 := rfl
    omega)
  clear hs12 hm12 hf8 n1 n2 n3 lc11
  go_wp2_with fail
  refine (open_law w fb _ f8 w12 S12.out CR8.out.on CR8.out.arm U8.out (by rw [CR8.out.since]; decide)).mono ?_
  rintro e w13 ⟨nid13, hn13, hm13, hc13⟩
  have hr7 : l7.recs = [] := Y2.out.recs
  have hrs7 : g11.acc = [] ∧ g11.rs = [] := by
    have := GD7.out.live.recs
    rw [hr7] at this
    exact List.append_eq_nil_iff.1 this.symm
  obtain ⟨ld8, g13, q1, q2, q3, q4, q5, q6, q7, q8, q9⟩ := reopen GD7.out.live.wf S12.out.fs.wf GD7.out.live.di GD7.out.bud CR8.out (by decide) (fun ld h => by
    rcases h with ⟨_, h2, j, _, h4, h5⟩ | ⟨_, _, h, _⟩
    · rw [h5, h2, Y2.out.first, LAST6.out, hrs7.1, hrs7.2]
      simp
    · cases h) hn13 (by rw [RM7.out]; have : (⟨#[115]⟩ : ByteArray).size = 1 := rfl; omega)
  rcases hc13 with ⟨_, b13, F13, G13, rfl, hs13, hsub13⟩ | ⟨h0, _⟩
  rotate_left
  · exact absurd q3 h0
  obtain ⟨f9, hf9⟩ : ∃ f9, (openW f8 nid13).1 = f9 := ⟨_, rfl⟩
  obtain ⟨l9, hl9⟩ : ∃ l9, (openW f8 nid13).2.1 = l9 := ⟨_, rfl⟩
  rw [hf9, hl9] at hs13
  rw [hl9] at q5 q6
  have hst : l9.state = ⟨#[115]⟩ ∧ l9.first = 2 := by
    rcases q2 with ⟨h1, h2, _⟩ | ⟨_, _, h, _⟩
    · exact ⟨by rw [q5, h1, Y2.out.state], by rw [q6, h2, Y2.out.first, LAST6.out]⟩
    · cases h
  have S13 := Lib.hid hs13
  have lc13 : w13.cell? ⟨lg, 0, none⟩ = some (.string ⟨#[119, 46, 48, 48, 48, 48, 48, 48, 48, 49]⟩) := hm13.cell lc12 OUT12.out.1
  have HST := Lib.hid hst
  clear q1 q2 q3 q4 q5 q6 q7 q8 q9 hs13 hm13 hsub13 hf9 hl9 hn13 lc12 hst hr7 hrs7
  have W13 := Lib.hid S13.out.rep.wl
  go_wp2_with fail
  refine (wstate_any b13 (some ⟨fb, 0, none⟩) l9 F13 w13 W13.out).mono ?_
  rintro e w14 ⟨rfl, hw14⟩
  rw [hw14, HST.out.1]
  clear hw14
  go_wp2_with fail
  refine (wfirst_any b13 (some ⟨fb, 0, none⟩) l9 F13 w13 W13.out).mono ?_
  rintro e w15 ⟨rfl, hw15⟩
  rw [hw15, HST.out.2, show ((2 : Nat) : Int) = 2 from rfl]
  clear hw15
  go_wp2
  go_ret
  exact ⟨rfl, S13.out.mod⟩
end Go.Proofs.YthogefmngddnbaaGreatDoor
/- WalNil: the walk. -/
namespace Go.Proofs.YthogefmngddnbaaGreatDoor
open Go.RowKit

theorem append_nilrec (v : Value) (w : World) : Calls Tryz.prog 19 #[.pointer none, v] w fun e w' => e = .returned (.int .i64 1) ∧ w' = w := by
  go_enter Tryz.func19, Tryz.ntmps19
  go_wp2_with fail
  refine (ready_nil _ _).mono ?_
  rintro e w1 ⟨rfl, rfl⟩
  go_wp2
  go_ret
  exact ⟨rfl, rfl⟩
theorem sync_nilrec (w : World) : Calls Tryz.prog 20 #[.pointer none] w fun e w' => e = .returned (.int .i64 1) ∧ w' = w := by
  go_enter Tryz.func20, Tryz.ntmps20
  go_wp2_with fail
  refine (ready_nil _ _).mono ?_
  rintro e w1 ⟨rfl, rfl⟩
  go_wp2
  go_ret
  exact ⟨rfl, rfl⟩
theorem chk_nilrec (s : ByteArray) (w : World) : Calls Tryz.prog 27 #[.pointer none, .string s] w fun e w' => e = .returned (.int .i64 1) ∧ Mod BSet.none w w' := by
  go_enter Tryz.func27, Tryz.ntmps27
  go_wp2_with fail
  refine (ready_nil _ _).mono ?_
  rintro e w1 ⟨rfl, hw⟩
  rw [hw]
  clear hw
  go_wp2
  go_ret
  exact ⟨rfl, (Mod.refl _ _).alloc _⟩
set_option maxRecDepth 100000 in
theorem ready_broken (b : Nat) (fp : Option Addr) (l : Wl) (F : BSet) (v : Value) (w : World) (h : WlAt w.heap b fp l F) (hb : (fp.isNone || l.broken) = true) :
    Calls Tryz.prog 64 #[.pointer (some ⟨b, 0, none⟩), v] w fun e w' => e = .returned (.int .i64 13) ∧ w' = w := by
  have H := Lib.hid h
  have HB := Lib.hid hb
  clear h hb
  go_enter Tryz.func64, Tryz.ntmps64
  go_wp2_with fail
  refine (wbroken_any b fp l F _ (by exact H.out)).mono ?_
  rintro e w1 ⟨rfl, rfl⟩
  rw [HB.out]
  go_wp2
  go_ret
  exact ⟨rfl, rfl⟩
/-- a log that is broken -/
theorem append_broken (b : Nat) (fp : Option Addr) (l : Wl) (F : BSet) (v : Value) (w : World) (h : WlAt w.heap b fp l F) (hb : (fp.isNone || l.broken) = true) :
    Calls Tryz.prog 19 #[.pointer (some ⟨b, 0, none⟩), v] w fun e w' => e = .returned (.int .i64 13) ∧ w' = w := by
  have H := Lib.hid h
  have HB := Lib.hid hb
  clear h hb
  go_enter Tryz.func19, Tryz.ntmps19
  go_wp2_with fail
  refine (ready_broken b fp l F _ _ H.out HB.out).mono ?_
  rintro e w1 ⟨rfl, hw⟩
  rw [hw]
  clear hw
  go_wp2
  go_ret
  exact ⟨rfl, rfl⟩
theorem sync_broken (b : Nat) (fp : Option Addr) (l : Wl) (F : BSet) (w : World) (h : WlAt w.heap b fp l F) (hb : (fp.isNone || l.broken) = true) :
    Calls Tryz.prog 20 #[.pointer (some ⟨b, 0, none⟩)] w fun e w' => e = .returned (.int .i64 13) ∧ w' = w := by
  have H := Lib.hid h
  have HB := Lib.hid hb
  clear h hb
  go_enter Tryz.func20, Tryz.ntmps20
  go_wp2_with fail
  refine (ready_broken b fp l F _ _ H.out HB.out).mono ?_
  rintro e w1 ⟨rfl, hw⟩
  rw [hw]
  clear hw
  go_wp2
  go_ret
  exact ⟨rfl, rfl⟩
def Wl.none : Wl := { state := ⟨#[]⟩, recs := [], first := 0, firm := 0, now := ⟨#[]⟩, broken := false }
set_option maxRecDepth 100000 in
set_option maxHeartbeats 8000000 in
theorem walNil_any (s : ByteArray) (w : World) (hg : Globs w) (hs : s.size ≤ maxLen) : Calls Tryz.prog 5 #[.string s] w fun e w' => e = .returned (.bool true) ∧ Mod BSet.none w w' := by
  have HG := Lib.hid hg
  have HS := Lib.hid hs
  clear hg hs
  have M0 : Hid (Mod BSet.none w (w.alloc (.cells #[.pointer none, .string ⟨#[]⟩, .slice none 0 0, .int .i64 0, .int .i64 0, .string ⟨#[]⟩, .bool false] 45))) := Lib.hid ((Mod.refl _ _).alloc _)
  have Z0 : Hid (WlAt (w.alloc (.cells #[.pointer none, .string ⟨#[]⟩, .slice none 0 0, .int .i64 0, .int .i64 0, .string ⟨#[]⟩, .bool false] 45)).heap w.heap.size none Wl.none (BSet.one w.heap.size)) := Lib.hid
    ⟨rfl, fun k hk => by rw [show k = w.heap.size from hk]; simp, .slice none 0 0, at_new, owns_nil _ _ _⟩
  go_enter Tryz.func5, Tryz.ntmps5
  go_wp2_with fail
  refine (wopen_nil _).mono ?_
  rintro e w1 ⟨rfl, hw1⟩
  rw [hw1]
  clear hw1
  go_wp2_with fail
  refine (awake_any _ (HG.out.mod0 M0.out)).mono ?_
  rintro e w2 ⟨rfl, hm2⟩
  have M2 := Lib.hid (M0.out.trans hm2 (fun _ _ h => h))
  have Z2 := Lib.hid (Z0.out.keep hm2 (fun _ _ h => h))
  clear hm2
  go_wp2_with fail
  refine (wstate_nil _).mono ?_
  rintro e w3 ⟨rfl, h3⟩
  rw [h3]
  clear h3
  go_wp2_with fail
  refine (wrecords_nil _).mono ?_
  rintro e w3 ⟨rfl, h3⟩
  rw [h3]
  clear h3
  go_wp2_with fail
  refine (wnilInt 30 (.inl rfl) _).mono ?_
  rintro e w3 ⟨rfl, h3⟩
  rw [h3]
  clear h3
  go_wp2_with fail
  refine (wlast_nil _).mono ?_
  rintro e w3 ⟨rfl, h3⟩
  rw [h3]
  clear h3
  go_wp2_with fail
  refine (wnilInt 24 (.inr rfl) _).mono ?_
  rintro e w3 ⟨rfl, h3⟩
  rw [h3]
  clear h3
  go_wp2_with fail
  refine (wseg_nil _).mono ?_
  rintro e w3 ⟨rfl, h3⟩
  rw [h3]
  clear h3
  go_wp2_with fail
  refine (append_nilrec _ _).mono ?_
  rintro e w3 ⟨rfl, h3⟩
  rw [h3]
  clear h3
  have M4 : Hid (Mod BSet.none w (w2.alloc (.cells #[.string s] 9))) := Lib.hid (M2.out.alloc _)
  have Z4 : Hid (WlAt (w2.alloc (.cells #[.string s] 9)).heap w.heap.size none Wl.none (BSet.one w.heap.size)) := Lib.hid (Z2.out.keep ((Mod.refl BSet.none w2).alloc _) (fun _ _ h => h))
  go_wp2_with fail
  refine (sync_nilrec _).mono ?_
  rintro e w3 ⟨rfl, h3⟩
  rw [h3]
  clear h3
  go_wp2_with fail
  refine (chk_nilrec s _).mono ?_
  rintro e w5 ⟨rfl, hm5⟩
  have M5 := Lib.hid (M4.out.trans hm5 (fun _ _ h => h))
  have Z5 := Lib.hid (Z4.out.keep hm5 (fun _ _ h => h))
  clear hm5
  go_wp2_with fail
  refine (wbroken_nil _).mono ?_
  rintro e w3 ⟨rfl, h3⟩
  rw [h3]
  clear h3
  go_wp2_with fail
  refine (wbroken_any w.heap.size none Wl.none _ w5 Z5.out).mono ?_
  rintro e w3 ⟨rfl, h3⟩
  rw [h3, show ((none : Option Addr).isNone || Wl.none.broken) = true from rfl]
  clear h3
  have M6 : Hid (Mod BSet.none w (w5.alloc (.cells #[.string s] 9))) := Lib.hid (M5.out.alloc _)
  have Z6 : Hid (WlAt (w5.alloc (.cells #[.string s] 9)).heap w.heap.size none Wl.none (BSet.one w.heap.size)) := Lib.hid (Z5.out.keep ((Mod.refl BSet.none w5).alloc _) (fun _ _ h => h))
  go_wp2_with fail
  refine (append_broken w.heap.size none Wl.none _ _ _ Z6.out rfl).mono ?_
  rintro e w3 ⟨rfl, h3⟩
  rw [h3]
  clear h3
  go_wp2_with fail
  refine (sync_broken w.heap.size none Wl.none _ _ Z6.out rfl).mono ?_
  rintro e w3 ⟨rfl, h3⟩
  rw [h3]
  clear h3
  go_wp2_with fail
  refine (wlast_zero w.heap.size Wl.none _ _ Z6.out).mono ?_
  rintro e w3 ⟨rfl, h3⟩
  rw [h3]
  clear h3
  go_wp2_with fail
  refine (wrecords_any w.heap.size none Wl.none _ _ Z6.out (by decide)).mono ?_
  rintro e w7 ⟨v, rfl, ho, hm7⟩
  obtain ⟨va, vc, rfl, -⟩ := ho.slice
  rw [show (Wl.none.recs.length) = 0 from rfl]
  have M7 := Lib.hid (M6.out.trans hm7 (fun _ _ h => h))
  clear ho hm7
  go_wp2
  go_ret
  exact ⟨rfl, M7.out⟩
end Go.Proofs.YthogefmngddnbaaGreatDoor
/- The rows: what the listed variables give; WalNil proved. -/
namespace Go.Proofs.YthogefmngddnbaaGreatDoor
open Go.ChangeShapes Go.WideShapes Go.ChangeAt Go.RowKit

section
variable {H : Type} {enc : TypeId × Value → H} {P : Program}
theorem post_of_mod {f : Func} {s : ChangeSpec} {apart fresh handsOn again : Bool} {W W' : World} {args : Array Value} {v : Value} {ds gs : List (DataW H)} {before pa pv : List MemPlace}
    (hW : DataW.Whole enc P f.params.toList s.vars apart W args.toList ds gs before)
    (hres : ∀ (b : Nat) (sp : Nat → Bool) (hd : Bool), DataW.TrodAll enc P W' b sp hd f.resultTypes.toList (v.resultList f.resultTypes.size) (s.fn H (ds ++ gs)).results [])
    (hargs : ∀ sp : Nat → Bool, (∀ p ∈ before, sp p.block = true) → DataW.TrodAll enc P W' 0 sp true f.params.toList args.toList (s.fn H (ds ++ gs)).args pa)
    (hvars : ∀ sp : Nat → Bool, (∀ p ∈ before, sp p.block = true) → DataW.TrodVars enc P W' sp s.vars (s.fn H (ds ++ gs)).vars pv)
    (hps : before = pa ++ pv) (hb : Mod BSet.none W W')
    (hok : ∀ (j : Nat) (t : TypeId) (r : Value), f.resultTypes[j]? = some t → (v.resultList f.resultTypes.size)[j]? = some r → Value.okWide P W' .any 0 t r) :
    s.post enc P f apart fresh handsOn again W args v W' := by
  have hlt : ∀ p ∈ before, p.block < W.heap.size := fun p hp => hW.lt p hp
  have hold : ∀ p ∈ before, (fun b => decide (b < W.heap.size)) p.block = true := fun p hp => by simpa using hlt p hp
  refine ⟨ds, gs, before, [], pa, pv, hW, hres _ _ _, hargs _ hold, hvars _ hold, World.keptBut_mono (fun p hp => ⟨hp, ?_⟩) (hb.frame (· ∈ before)), fun _ => ?_⟩
  · rw [hps, List.mem_append] at hp
    exact Or.inr hp
  · obtain ⟨_, _, _, _, _, hz, hn⟩ := hW
    refine ⟨hok, _, _, ([] ++ pa) ++ pv, ⟨[] ++ pa, pv, trodAll_append (hargs _ (fun _ _ => rfl)) (hres _ _ _), hvars _ (fun _ _ => rfl), rfl, ?_, ?_⟩, ?_⟩
    · intro b off hp
      have hin : MemPlace.cell b off ∈ before := by rw [hps]; simpa using hp
      rw [World.frozen?_of_block (w := W) (hb.block b (hlt _ hin) (fun h => h))]
      exact hz b off hin
    · intro ha
      have := hn ha
      rw [hps] at this
      simpa using this
    · intro p hp _
      rw [hps]
      simpa using hp
end
theorem Tryz.own : ownKnob Tryz.prog.godebug = none := by kernel_rfl
def laid6 : List (String × DataW Unit) := [("heliograph/sum.table", Rows.laid_heliograph_sum_table), ("math/bits.deBruijn32tab", Rows.laid_math_bits_deBruijn32tab), ("math/bits.deBruijn64tab", Rows.laid_math_bits_deBruijn64tab), ("internal/strconv.uint64pow10", Rows.laid_internal_strconv_uint64pow10), ("strconv.ErrRange", Rows.laid_strconv_ErrRange), ("strconv.ErrSyntax", Rows.laid_strconv_ErrSyntax)]
theorem g_sum : Tryz.prog.globalNamed "heliograph/sum.table" = some 5 := by kernel_rfl
theorem g_range : Tryz.prog.globalNamed "strconv.ErrRange" = some 1 := by kernel_rfl
theorem g_syntax : Tryz.prog.globalNamed "strconv.ErrSyntax" = some 0 := by kernel_rfl
theorem g_d64 : Tryz.prog.globalNamed "math/bits.deBruijn64tab" = some 8 := by kernel_rfl
theorem Tryz.door_met6 (os : Os) (args : Array Value) : laidMetH Tryz.prog laid6 ((World.doorLaid Tryz.prog 400 os).forCall (fun _ _ => 0) ⟨#[], args, []⟩).memory :=
  laidMetH_of_parts3 (fuel := 8) (laidMet_of_run' 8 (by kernel_rfl) (by kernel_rfl)) (by kernel_rfl) (by kernel_rfl)
theorem globs_of_laid {W : World} (h : laidMetH Tryz.prog laid6 W) : Globs W := by
  rw [MakeChecks.laidMetH_plain _ _ _ (by kernel_rfl)] at h
  have hsum : Lib.TabIs Tryz.prog W "heliograph/sum.table" .u32 sumTab := Lib.tabIs_of_head (rest := laid6.tail) g_sum (t := 271) (e := 217) (n := 16) (by kernel_rfl) (by kernel_rfl) (by kernel_rfl) (by kernel_rfl) (by kernel_rfl) h
  obtain ⟨ps, ⟨g0, t0, cs0, f0, p0, q0, hg0, ht0, hv0, hd0, ⟨g1, t1, cs1, f1, p1, q1, hg1, ht1, hv1, hd1, ⟨g2, t2, cs2, f2, p2, q2, hg2, ht2, hv2, hd2, ⟨g3, t3, cs3, f3, p3, q3, hg3, ht3, hv3, hd3, ⟨g4, t4, cs4, f4, p4, q4, hg4, ht4, hv4, hd4, ⟨g5, t5, cs5, f5, p5, q5, hg5, ht5, hv5, hd5, _, _⟩, _⟩, _⟩, _⟩, _⟩, _⟩, _, _⟩ := h
  obtain rfl := Option.some.inj (pow_global.symm.trans hg3)
  obtain rfl := Option.some.inj (g_range.symm.trans hg4)
  obtain rfl := Option.some.inj (g_syntax.symm.trans hg5)
  obtain rfl := Option.some.inj (g_d64.symm.trans hg2)
  have ty3 : (Tryz.prog.globals[6]?).map (·.type) = some 285 := by kernel_rfl
  have ty4 : (Tryz.prog.globals[1]?).map (·.type) = some 154 := by kernel_rfl
  have ty5 : (Tryz.prog.globals[0]?).map (·.type) = some 154 := by kernel_rfl
  obtain rfl := Option.some.inj (ty3.symm.trans ht3)
  obtain rfl := Option.some.inj (ty4.symm.trans ht4)
  obtain rfl := Option.some.inj (ty5.symm.trans ht5)
  have hpow : Lib.TabIs Tryz.prog W "internal/strconv.uint64pow10" .u64 Lib.pow10Tab := by
    unfold Lib.TabIs
    rw [hv3, ← Lib.cells_of_tab (t := 285) (e := 143) (n := 20) (by kernel_rfl) (by kernel_rfl) (by kernel_rfl) (by kernel_rfl) hd3]
  obtain ⟨_, u4, v4, hc4, _⟩ := iface_of_trod Tryz.underlying154 hd4
  obtain ⟨_, u5, v5, hc5, _⟩ := iface_of_trod Tryz.underlying154 hd5
  have c4 := World.var?_cell hg4 hv4 0
  have c5 := World.var?_cell hg5 hv5 0
  rw [Array.eq_one_of_toList hc4] at c4
  rw [Array.eq_one_of_toList hc5] at c5
  have h8 : 8 < W.heap.size := by
    have hl : 0 < cs2.size := by
      rcases Nat.eq_zero_or_pos cs2.size with h | h
      · exfalso
        have ty2 : (Tryz.prog.globals[8]?).map (·.type) = some 288 := by kernel_rfl
        obtain rfl := Option.some.inj (ty2.symm.trans ht2)
        have := Lib.cells_of_tab (k := .u8) (zs := [0, 1, 56, 2, 57, 49, 28, 3, 61, 58, 42, 50, 38, 29, 17, 4, 62, 47, 59, 36, 45, 43, 51, 22, 53, 39, 33, 30, 24, 18, 12, 5, 63, 55, 48, 27, 60, 41, 37, 16, 46, 35, 44, 21, 52, 32, 23, 11, 54, 26, 40, 15, 34, 20, 31, 10, 25, 14, 19, 9, 13, 8, 7, 6]) (t := 288) (e := 5) (n := 64) (by kernel_rfl) (by kernel_rfl) (by kernel_rfl) (by kernel_rfl) hd2
        have := congrArg List.length this
        simp [h] at this
      · exact h
    have c2 := World.var?_cell hg2 hv2 0
    rw [Array.getElem?_eq_getElem hl] at c2
    exact World.block_lt_of_cell? W _ c2
  refine ⟨fun i hi => ?_, hpow, ⟨u5, v5, by simpa using c5⟩, ⟨u4, v4, by simpa using c4⟩, h8⟩
  exact hsum.cell g_sum i (by exact hi)
end Go.Proofs.YthogefmngddnbaaGreatDoor
