/- Frames and heads, plain: what is put is got back; what is cut off is not taken for whole. -/
import Derived.Test.YthogefmngddnbaaGreatDoorZc
import Derived.Test.YthogefmngddnbaaGreatDoorZe
import Derived.Deep.RegionHeld3
import Derived.IntWalk
set_option linter.unusedVariables false
set_option linter.unusedSimpArgs false
namespace Go.Proofs.YthogefmngddnbaaGreatDoor

abbrev toL (s : ByteArray) : List UInt8 := s.data.toList
theorem toL_inj {a b : ByteArray} (h : toL a = toL b) : a = b := by
  rcases a with ⟨⟨l⟩⟩; rcases b with ⟨⟨m⟩⟩; simpa using h
theorem toL_append (a b : ByteArray) : toL (a ++ b) = toL a ++ toL b := by simp [toL]
theorem toL_extract (a : ByteArray) (i j : Nat) : toL (a.extract i j) = ((toL a).drop i).take (j - i) := by
  simp [toL, List.extract_eq_take_drop]
theorem toL_length (a : ByteArray) : (toL a).length = a.size := rfl
theorem toL_mk (l : List UInt8) : toL ⟨l.toArray⟩ = l := rfl

theorem getF_putF (f : Nat) : ∀ (k n v : Nat) (rest : List UInt8), f + k = 9 → n < 2 ^ (64 - 7 * k) → (0 < k → 0 < n) → getF (f + 1) (putF f n ++ rest) k v = some (v + n * 128 ^ k, k + (putF f n).length) := by
  induction f with
  | zero =>
    intro k n v rest hk hn h0
    have : k = 9 := by omega
    subst this
    have hn2 : n < 2 := by simpa using hn
    have h1 := h0 (by decide)
    have hb : (UInt8.ofNat n).toNat = n := by rw [UInt8.toNat_ofNat']; omega
    simp only [putF, List.singleton_append, getF, hb]
    rw [if_pos (by omega), if_neg (by omega)]
    simp
    rw [Nat.mod_eq_of_lt (by omega)]
  | succ f ih =>
    intro k n v rest hk hn h0
    by_cases hs : n < 128
    · have hb : (UInt8.ofNat n).toNat = n := by rw [UInt8.toNat_ofNat']; omega
      simp only [putF, if_pos hs, List.singleton_append, getF, hb]
      rw [if_neg (by omega)]
      simp
      rw [Nat.mod_eq_of_lt (by omega)]
    · have hb : (UInt8.ofNat (n % 128 + 128)).toNat = n % 128 + 128 := by rw [UInt8.toNat_ofNat']; omega
      simp only [putF, if_neg hs, List.cons_append]
      rw [getF]
      simp only [hb]
      rw [if_neg (by omega), ih (k + 1) (n / 128) _ rest (by omega) ?_ (by omega)]
      · simp only [List.length_cons]
        congr 1
        rw [Prod.mk.injEq]
        refine ⟨?_, by omega⟩
        rw [Nat.add_mod_right, Nat.mod_mod, Nat.pow_succ, Nat.add_assoc]
        congr 1
        have := Nat.div_add_mod n 128
        calc n % 128 * 128 ^ k + n / 128 * (128 ^ k * 128) = (128 * (n / 128) + n % 128) * 128 ^ k := by rw [Nat.add_mul]; ac_rfl
          _ = n * 128 ^ k := by rw [this]
      · have he : 64 - 7 * k = (64 - 7 * (k + 1)) + 7 := by omega
        rw [he, Nat.pow_add] at hn
        rw [Nat.div_lt_iff_lt_mul (by decide)]
        exact hn
theorem getN_putN (n : Nat) (rest : List UInt8) (h : n < 18446744073709551616) : getN (putN n ++ rest) = some (n, (putN n).length) := by
  unfold getN putN
  rw [getF_putF 9 0 n 0 rest rfl (by simpa using h) (fun h => absurd h (by decide))]
  simp
theorem highs_take (f : Nat) : ∀ (n j : Nat), j < (putF f n).length → highs ((putF f n).take j) = true := by
  induction f with
  | zero => intro n j hj; simp [putF] at hj; subst hj; rfl
  | succ f ih =>
    intro n j hj
    by_cases hs : n < 128
    · simp only [putF, if_pos hs] at hj ⊢
      simp at hj; subst hj; rfl
    · simp only [putF, if_neg hs] at hj ⊢
      cases j with
      | zero => rfl
      | succ j =>
        rw [List.take_succ_cons]
        have hb : (UInt8.ofNat (n % 128 + 128)).toNat = n % 128 + 128 := by rw [UInt8.toNat_ofNat']; omega
        have := ih (n / 128) j (by simpa using hj)
        unfold highs at this ⊢
        rw [List.all_cons, this, hb]
        simp
theorem highs_not (f : Nat) : ∀ (n : Nat) (rest : List UInt8), n < 128 ^ (f + 1) → highs (putF f n ++ rest) = false := by
  induction f with
  | zero =>
    intro n rest hn
    have hn : n < 128 := by simpa using hn
    have hb : (UInt8.ofNat n).toNat = n := by rw [UInt8.toNat_ofNat']; omega
    unfold highs
    simp only [putF, List.singleton_append, List.all_cons, hb]
    rw [decide_eq_false (by omega)]; rfl
  | succ f ih =>
    intro n rest hn
    by_cases hs : n < 128
    · have hb : (UInt8.ofNat n).toNat = n := by rw [UInt8.toNat_ofNat']; omega
      unfold highs
      simp only [putF, if_pos hs, List.singleton_append, List.all_cons, hb]
      rw [decide_eq_false (by omega)]; rfl
    · have := ih (n / 128) rest (by rw [Nat.div_lt_iff_lt_mul (by decide)]; rw [Nat.pow_succ] at hn; exact hn)
      simp only [putF, if_neg hs, List.cons_append]
      unfold highs at this ⊢
      rw [List.all_cons, this]; simp
theorem frameOf_toL (b : ByteArray) : toL (frameOf b) = putN b.size ++ (toL b ++ sumBytes (sumOf b)) := by
  unfold frameOf sealOf
  rw [toL_append, toL_append]
theorem frameOf_size (b : ByteArray) : (frameOf b).size = (putN b.size).length + b.size + 4 := by
  rw [← toL_length, frameOf_toL]
  simp [toL, sumBytes]; omega
theorem sumBytes_length (c : Int) : (sumBytes c).length = 4 := rfl
theorem openOf_seal (b : ByteArray) : openOf (sealOf b) = some b := by
  have hs := sealOf_size b
  have he : (sealOf b).extract 0 ((sealOf b).size - 4) = b := by
    apply toL_inj
    rw [toL_extract, hs]
    unfold sealOf
    rw [toL_append, List.drop_zero, List.take_append_of_le_length (by rw [toL_length]; omega), List.take_of_length_le (by rw [toL_length]; omega)]
  rw [openOf_some (by omega) (by rw [he]), he]
theorem small_pow {n : Nat} (h : n ≤ 70000) : n < 128 ^ (9 + 1) := Nat.lt_of_le_of_lt h (by decide)
theorem early_not {s : ByteArray} {a : Nat} {n : Nat} {rest : List UInt8} (hn : n ≤ 70000) (h : (toL s).drop a = putN n ++ rest) : earlyOf (s.extract a s.size) = false := by
  unfold earlyOf
  have : toL (s.extract a s.size) = putN n ++ rest := by
    rw [toL_extract, List.take_of_length_le (by rw [List.length_drop, toL_length]; omega), h]
  rw [show (s.extract a s.size).data.toList = putN n ++ rest from this]
  rw [show highs (putN n ++ rest) = false from highs_not 9 n rest (small_pow hn)]
  rfl
theorem drop_len {s : ByteArray} {a : Nat} {l : List UInt8} (h : (toL s).drop a = l) (ha : a ≤ s.size) : s.size = a + l.length := by
  have := congrArg List.length h
  rw [List.length_drop, toL_length] at this; omega
theorem fget_frame {s b : ByteArray} {a : Nat} {rest : List UInt8} (h : (toL s).drop a = toL (frameOf b) ++ rest) (ha : a ≤ s.size) (hb : b.size ≤ 70000) : fgetOf s a = (b, a + (frameOf b).size, 0) := by
  have hl := drop_len h ha
  rw [frameOf_toL, List.append_assoc, List.append_assoc] at h
  have hsz := frameOf_size b
  rw [List.length_append, toL_length, hsz] at hl
  unfold fgetOf
  rw [if_neg (by omega), early_not hb h]
  simp only [Bool.false_eq_true, if_false]
  rw [show s.data.toList.drop a = _ from h, getN_putN _ _ (by omega)]
  simp only
  rw [if_neg (by omega), if_neg (by omega)]
  have he : s.extract (a + (putN b.size).length) (a + (putN b.size).length + b.size + 4) = sealOf b := by
    apply toL_inj
    rw [toL_extract, ← List.drop_drop, h, List.drop_left]
    unfold sealOf
    rw [toL_append, toL_mk]
    rw [← List.append_assoc, List.take_append_of_le_length (by rw [List.length_append, toL_length, sumBytes_length]; omega), List.take_of_length_le (by rw [List.length_append, toL_length, sumBytes_length]; omega)]
  rw [he, openOf_seal]
  simp only
  rw [hsz]
  congr 2
  omega
theorem fget_end {s : ByteArray} {a : Nat} (h : a = s.size) : (fgetOf s a).2.2 ≠ 0 := by unfold fgetOf; rw [if_pos h]; simp
theorem fget_torn {s b : ByteArray} {a j : Nat} (h : (toL s).drop a = (toL (frameOf b)).take j) (hj : j < (frameOf b).size) (ha : a ≤ s.size) (hb : b.size ≤ 70000) : (fgetOf s a).2.2 ≠ 0 := by
  have hl := drop_len h ha
  have hsz := frameOf_size b
  rw [List.length_take, toL_length, Nat.min_eq_left (by omega)] at hl
  by_cases h0 : j = 0
  · exact fget_end (by omega)
  by_cases hp : j < (putN b.size).length
  · unfold fgetOf
    rw [if_neg (by omega)]
    have he : earlyOf (s.extract a s.size) = true := by
      unfold earlyOf
      have h1 : toL (s.extract a s.size) = (putN b.size).take j := by
        rw [toL_extract, List.take_of_length_le (by rw [List.length_drop, toL_length]; omega), h, frameOf_toL, List.take_append_of_le_length (by omega)]
      have h2 := putN_length b.size
      rw [show (s.extract a s.size).data.toList = _ from h1, show highs ((putN b.size).take j) = true from highs_take 9 _ _ hp, ← toL_length, h1, List.length_take]
      simp; omega
    rw [he]; simp
  · have h1 : (toL s).drop a = putN b.size ++ (toL b ++ sumBytes (sumOf b)).take (j - (putN b.size).length) := by
      rw [h, frameOf_toL, List.take_append, List.take_of_length_le (by omega)]
    unfold fgetOf
    rw [if_neg (by omega), early_not hb h1]
    simp only [Bool.false_eq_true, if_false]
    rw [show s.data.toList.drop a = _ from h1, getN_putN _ _ (by omega)]
    simp only
    rw [if_neg (by omega), if_pos (by omega)]
    simp

theorem scanF_frames (s : ByteArray) (tl : List UInt8) (bs : List ByteArray) (hb : ∀ b, b ∈ bs → b.size ≤ 70000) : ∀ (f a : Nat), a ≤ s.size → (toL s).drop a = framesL bs ++ tl → bs.length < f → (∀ a, a ≤ s.size → (toL s).drop a = tl → (fgetOf s a).2.2 ≠ 0) →
    (scanF s f a).1 = bs := by
  induction bs with
  | nil =>
    intro f a ha h hf ht
    cases f with
    | zero => rfl
    | succ f =>
      rw [scanF, if_neg (ht a ha (by simpa [framesL] using h))]
  | cons b bs ih =>
    intro f a ha h hf ht
    cases f with
    | zero => simp at hf
    | succ f =>
      have h1 : (toL s).drop a = toL (frameOf b) ++ (framesL bs ++ tl) := by rw [h]; simp [framesL]
      have hg := fget_frame h1 ha (hb b List.mem_cons_self)
      have hl := drop_len h1 ha
      rw [List.length_append, toL_length] at hl
      rw [scanF, hg]
      simp only [if_true]
      rw [ih (fun b h => hb b (List.mem_cons_of_mem _ h)) f _ (by omega) ?_ (by simpa using hf) ht]
      rw [← List.drop_drop, h1, ← toL_length, List.drop_left]
theorem framesL_length_ge (bs : List ByteArray) : bs.length ≤ (framesL bs).length := by
  induction bs with
  | nil => exact Nat.zero_le _
  | cons b bs ih =>
    have : framesL (b :: bs) = toL (frameOf b) ++ framesL bs := by simp [framesL]
    rw [this, List.length_append, toL_length, frameOf_size, List.length_cons]; omega
theorem framesL_append (a b : List ByteArray) : framesL (a ++ b) = framesL a ++ framesL b := by simp [framesL]
theorem framesL_cons (b : ByteArray) (bs : List ByteArray) : framesL (b :: bs) = toL (frameOf b) ++ framesL bs := by simp [framesL]
/-- whole frames, and a torn one -/
theorem scanOf_tail {s : ByteArray} {bs : List ByteArray} {tl : List UInt8} (hb : ∀ b, b ∈ bs → b.size ≤ 70000) (h : toL s = framesL bs ++ tl) (ht : ∀ a, a ≤ s.size → (toL s).drop a = tl → (fgetOf s a).2.2 ≠ 0) : (scanOf s).1 = bs := by
  refine scanF_frames s tl bs hb (s.size + 1) 0 (Nat.zero_le _) (by rw [List.drop_zero]; exact h) ?_ ht
  have := framesL_length_ge bs
  have h2 := congrArg List.length h
  rw [List.length_append, toL_length] at h2
  omega
theorem scanOf_frames {s : ByteArray} {bs : List ByteArray} (hb : ∀ b, b ∈ bs → b.size ≤ 70000) (h : toL s = framesL bs) : (scanOf s).1 = bs :=
  scanOf_tail hb (tl := []) (by simpa using h) (fun a ha hd => fget_end (by have := drop_len hd ha; simpa using this.symm))
/-- how many whole frames a beginning has -/
theorem take_frames (bs : List ByteArray) : ∀ (k : Nat), k ≤ (framesL bs).length → ∃ j, j ≤ bs.length ∧ (framesL (bs.take j)).length ≤ k ∧ ((framesL bs).take k = framesL (bs.take j) ∨ ∃ b t, b ∈ bs ∧ t < (frameOf b).size ∧ (framesL bs).take k = framesL (bs.take j) ++ (toL (frameOf b)).take t) ∧
    ∀ i, i ≤ bs.length → (framesL (bs.take i)).length ≤ k → i ≤ j := by
  induction bs with
  | nil => intro k hk; exact ⟨0, Nat.le_refl _, by simp [framesL], .inl (by simp [framesL]), fun i hi _ => hi⟩
  | cons b bs ih =>
    intro k hk
    rw [framesL_cons] at hk ⊢
    by_cases hlt : k < (frameOf b).size
    · refine ⟨0, Nat.zero_le _, by simp [framesL], .inr ⟨b, k, List.mem_cons_self, hlt, ?_⟩, fun i hi h => ?_⟩
      · rw [List.take_append_of_le_length (by rw [toL_length]; omega)]; simp [framesL]
      · cases i with
        | zero => exact Nat.le_refl _
        | succ i =>
          rw [List.take_succ_cons, framesL_cons, List.length_append, toL_length] at h
          omega
    · rw [List.length_append, toL_length] at hk
      obtain ⟨j, h1, h2, h3, h4⟩ := ih (k - (frameOf b).size) (by omega)
      refine ⟨j + 1, by simpa using h1, ?_, ?_, fun i hi h => ?_⟩
      · rw [List.take_succ_cons, framesL_cons, List.length_append, toL_length]; omega
      · rw [List.take_append, List.take_of_length_le (by rw [toL_length]; omega), toL_length, List.take_succ_cons, framesL_cons]
        rcases h3 with h3 | ⟨c, t, hc, ht, h3⟩
        · exact .inl (by rw [h3])
        · exact .inr ⟨c, t, List.mem_cons_of_mem _ hc, ht, by rw [h3, List.append_assoc]⟩
      · cases i with
        | zero => exact Nat.zero_le _
        | succ i =>
          rw [List.take_succ_cons, framesL_cons, List.length_append, toL_length] at h
          have := h4 i (by simpa using hi) (by omega)
          omega
/-- of a beginning of frames so many are found -/
theorem scanOf_take {s : ByteArray} {bs : List ByteArray} {k : Nat} (hb : ∀ b, b ∈ bs → b.size ≤ 70000) (hk : k ≤ (framesL bs).length) (h : toL s = (framesL bs).take k) :
    ∃ j, j ≤ bs.length ∧ (scanOf s).1 = bs.take j ∧ (∀ i, i ≤ bs.length → (framesL (bs.take i)).length ≤ k → i ≤ j) ∧ (framesL (bs.take j)).length ≤ k := by
  obtain ⟨j, h1, h2, h3, h4⟩ := take_frames bs k hk
  refine ⟨j, h1, ?_, h4, h2⟩
  have hb2 : ∀ b, b ∈ bs.take j → b.size ≤ 70000 := fun b h => hb b (List.mem_of_mem_take h)
  rcases h3 with h3 | ⟨b, t, hbm, ht, h3⟩
  · exact scanOf_frames hb2 (h.trans h3)
  · exact scanOf_tail hb2 (h.trans h3) (fun a ha hd => fget_torn hd ht ha (hb b hbm))

/-- the reader at what was put -/
theorem num_put {r : Rd} {n : Nat} {rest : List UInt8} (hbad : r.bad = false) (h : (toL r.s).drop r.pos = putN n ++ rest) (hn : n < 18446744073709551616) (hp : r.pos ≤ r.s.size) : r.num = ({ r with pos := r.pos + (putN n).length }, n) := by
  have hl := drop_len h hp
  have hne : (putN n).length ≠ 0 := fun h => putF_ne 9 n (List.length_eq_zero_iff.1 h)
  rw [List.length_append] at hl
  have hv : vgetX r.s r.pos = (n, r.pos + (putN n).length, 0) := by
    unfold vgetX
    rw [if_pos (by omega)]
    exact vget_some (by rw [show r.s.data.toList.drop r.pos = _ from h]; exact getN_putN n rest hn)
  unfold Rd.num
  rw [hbad, hv]
  simp
theorem small_put {r : Rd} {n most : Nat} {rest : List UInt8} (hbad : r.bad = false) (h : (toL r.s).drop r.pos = putN n ++ rest) (hn : n < 18446744073709551616) (hp : r.pos ≤ r.s.size) (hm : n ≤ most) :
    r.small most = ({ r with pos := r.pos + (putN n).length }, n) := by
  unfold Rd.small
  rw [num_put hbad h hn hp]
  simp only [hbad, Bool.false_or]
  rw [if_neg (by simpa using hm)]
theorem text_put {r : Rd} {t : ByteArray} {rest : List UInt8} (hbad : r.bad = false) (h : (toL r.s).drop r.pos = toL (textOf t) ++ rest) (hn : t.size < 18446744073709551616) (hp : r.pos ≤ r.s.size) :
    r.text = ({ r with pos := r.pos + (textOf t).size }, t) := by
  have hl := drop_len h hp
  unfold textOf at h
  rw [toL_append, toL_mk, List.append_assoc] at h
  have hsz : (textOf t).size = (putN t.size).length + t.size := by unfold textOf; rw [ByteArray.size_append]; rfl
  rw [List.length_append, toL_length, hsz] at hl
  unfold Rd.text
  rw [num_put hbad h hn hp]
  have hleft : ({ r with pos := r.pos + (putN t.size).length } : Rd).left = r.s.size - (r.pos + (putN t.size).length) := by
    unfold Rd.left; simp [hbad]
  simp only [hleft]
  simp only [hbad, Bool.false_or]
  rw [if_neg (by simp only [decide_eq_true_eq]; omega), hsz]
  have he : r.s.extract (r.pos + (putN t.size).length) (r.pos + (putN t.size).length + t.size) = t := by
    apply toL_inj
    rw [toL_extract, ← List.drop_drop, h, List.drop_left, List.take_append_of_le_length (by rw [toL_length]; omega), List.take_of_length_le (by rw [toL_length]; omega)]
  rw [he]
  simp only [Nat.add_assoc]

theorem bodyOf_toL (first : Nat) (kept : Bool) (state : ByteArray) : toL (bodyOf first kept state) = putN first ++ (putN kept.toNat ++ toL (textOf state)) := by
  unfold bodyOf
  rw [toL_append, toL_append]
  cases kept
  all_goals (simp [toL]; rfl)
theorem bodyOf_size (first : Nat) (kept : Bool) (state : ByteArray) : (bodyOf first kept state).size ≤ state.size + 21 := by
  rw [← toL_length, bodyOf_toL, List.length_append, List.length_append, toL_length]
  have h1 := putN_length first
  have h2 : (putN kept.toNat).length = 1 := by cases kept <;> rfl
  have h3 := textOf_size state
  omega
def HeadOk (first : Nat) (kept : Bool) (state : ByteArray) : Prop := 1 ≤ first ∧ first ≤ 1099511627776 ∧ (kept = false → state = ⟨#[]⟩) ∧ state.size ≤ 60000
theorem headOf_ok {first : Nat} {kept : Bool} {state : ByteArray} (h : HeadOk first kept state) : headOf first kept state = frameOf (bodyOf first kept state) := by
  obtain ⟨h1, h2, h3, _⟩ := h
  unfold headOf
  rw [if_neg]
  rintro (h | h | ⟨hk, hs⟩)
  · omega
  · omega
  · exact hs (h3 hk)
theorem head_read {first : Nat} {kept : Bool} {state : ByteArray} (h : HeadOk first kept state) :
    let a := (Rd.new (bodyOf first kept state)).small 1099511627776
    let b := a.1.small 1
    let c := b.1.text
    a.2 = first ∧ b.2 = kept.toNat ∧ c.2 = state ∧ c.1.fin = 0 := by
  obtain ⟨h1, h2, h3, h4⟩ := h
  have hL := bodyOf_toL first kept state
  have hs := congrArg List.length hL
  rw [toL_length, List.length_append, List.length_append, toL_length] at hs
  have ha := small_put (r := Rd.new (bodyOf first kept state)) (n := first) (most := 1099511627776) rfl (by show (toL (bodyOf first kept state)).drop 0 = _; rw [List.drop_zero]; exact hL) (by omega) (Nat.zero_le _) h2
  rw [ha]
  have hd1 : (toL (bodyOf first kept state)).drop (0 + (putN first).length) = putN kept.toNat ++ toL (textOf state) := by rw [hL, Nat.zero_add, List.drop_left]
  have hb := small_put (r := { Rd.new (bodyOf first kept state) with pos := 0 + (putN first).length }) (n := kept.toNat) (most := 1) rfl hd1 (by cases kept <;> decide) (by show 0 + (putN first).length ≤ (bodyOf first kept state).size; omega) (by cases kept <;> decide)
  have hd2 : (toL (bodyOf first kept state)).drop (0 + (putN first).length + (putN kept.toNat).length) = toL (textOf state) ++ [] := by rw [← List.drop_drop, hd1, List.drop_left, List.append_nil]
  have hc := text_put (r := { Rd.new (bodyOf first kept state) with pos := 0 + (putN first).length + (putN kept.toNat).length }) (t := state) rfl hd2 (by omega) (by show 0 + (putN first).length + (putN kept.toNat).length ≤ (bodyOf first kept state).size; omega)
  simp only
  refine ⟨trivial, ?_⟩
  simp only [Rd.new] at hb hc ⊢
  rw [hb]
  simp only
  refine ⟨trivial, ?_⟩
  rw [hc]
  refine ⟨rfl, ?_⟩
  unfold Rd.fin
  simp
  omega
theorem readOf_bodies {num : Nat} {s : ByteArray} {first : Nat} {kept : Bool} {state : ByteArray} {recs : List ByteArray} (h : HeadOk first kept state) (hs : (scanOf s).1 = bodyOf first kept state :: recs) : readOf num s = (⟨num, first, kept, state, recs⟩, true) := by
  have hr := head_read h
  simp only at hr
  obtain ⟨r1, r2, r3, r4⟩ := hr
  unfold readOf
  rw [hs]
  simp only
  rw [r1, r2, r3, r4]
  obtain ⟨h1, h2, h3, h4⟩ := h
  cases kept
  · rw [h3 rfl]; simp; omega
  · simp; omega
theorem readOf_empty {num : Nat} {s : ByteArray} (hs : (scanOf s).1 = []) : (readOf num s).2 = false := by unfold readOf; rw [hs]
/-- a segment's bytes -/
def segL' (first : Nat) (kept : Bool) (state : ByteArray) (recs : List ByteArray) : List UInt8 := toL (headOf first kept state) ++ framesL recs
theorem segBytes {first : Nat} {kept : Bool} {state : ByteArray} (h : HeadOk first kept state) (recs : List ByteArray) : segL' first kept state recs = framesL (bodyOf first kept state :: recs) := by
  unfold segL'; rw [headOf_ok h, framesL_cons]
theorem body_ok {first : Nat} {kept : Bool} {state : ByteArray} (h : HeadOk first kept state) : (bodyOf first kept state).size ≤ 70000 := by
  have := bodyOf_size first kept state; have := h.2.2.2; omega
/-- a segment cut off behind its head -/
theorem read_take {num : Nat} {s : ByteArray} {first : Nat} {kept : Bool} {state : ByteArray} {recs : List ByteArray} {k m : Nat} (h : HeadOk first kept state) (hr : ∀ b, b ∈ recs → b.size ≤ 70000) (hm : m ≤ recs.length) (hk : (segL' first kept state (recs.take m)).length ≤ k) (hk2 : k ≤ (segL' first kept state recs).length)
    (hs : toL s = (segL' first kept state recs).take k) : ∃ j, m ≤ j ∧ j ≤ recs.length ∧ readOf num s = (⟨num, first, kept, state, recs.take j⟩, true) ∧ (scanOf s).1 = bodyOf first kept state :: recs.take j := by
  rw [segBytes h] at hk hk2 hs
  have hb : ∀ b, b ∈ bodyOf first kept state :: recs → b.size ≤ 70000 := fun b hb => by
    rcases List.mem_cons.1 hb with rfl | hb
    · exact body_ok h
    · exact hr b hb
  obtain ⟨j, h1, h2, h3, _⟩ := scanOf_take hb hk2 hs
  have := h3 (m + 1) (by simpa using hm) (by rw [List.take_succ_cons]; exact hk)
  cases j with
  | zero => omega
  | succ j =>
    rw [List.take_succ_cons] at h2
    exact ⟨j, by omega, by simpa using h1, readOf_bodies h h2, h2⟩
theorem read_whole {num : Nat} {s : ByteArray} {first : Nat} {kept : Bool} {state : ByteArray} {recs : List ByteArray} (h : HeadOk first kept state) (hr : ∀ b, b ∈ recs → b.size ≤ 70000) (hs : toL s = segL' first kept state recs) : readOf num s = (⟨num, first, kept, state, recs⟩, true) := by
  rw [segBytes h] at hs
  refine readOf_bodies h (scanOf_frames (fun b hb => ?_) hs)
  rcases List.mem_cons.1 hb with rfl | hb
  · exact body_ok h
  · exact hr b hb
/-- a head, or a beginning of one -/
theorem read_head {num : Nat} {s : ByteArray} {first : Nat} {kept : Bool} {state : ByteArray} {k : Nat} (h : HeadOk first kept state) (hs : toL s = (toL (headOf first kept state)).take k) : (readOf num s).2 = false ∨ readOf num s = (⟨num, first, kept, state, []⟩, true) := by
  by_cases hk : (headOf first kept state).size ≤ k
  · exact .inr (read_whole h (fun b hb => by cases hb) (by rw [hs, List.take_of_length_le (by rw [toL_length]; exact hk)]; simp [segL', framesL]))
  · left
    refine readOf_empty ?_
    rw [headOf_ok h] at hs hk
    have hf : framesL [bodyOf first kept state] = toL (frameOf (bodyOf first kept state)) := by simp [framesL]
    refine scanOf_tail (bs := []) (tl := toL s) (fun b hb => by cases hb) (by simp [framesL]) (fun a ha hd => ?_)
    exact fget_torn (hd.trans hs) (by omega) ha (body_ok h)
end Go.Proofs.YthogefmngddnbaaGreatDoor
/- Segments' names in order, plain. -/
namespace Go.Proofs.YthogefmngddnbaaGreatDoor

def digK : Nat → Nat → List UInt8
  | 0, _ => []
  | k + 1, n => digK k (n / 10) ++ [UInt8.ofNat (48 + n % 10)]
theorem digK_length (k : Nat) : ∀ n, (digK k n).length = k := by
  induction k with
  | zero => intro n; rfl
  | succ k ih => intro n; simp [digK, ih]
theorem digK_zero (k : Nat) : digK k 0 = List.replicate k 48 := by
  induction k with
  | zero => rfl
  | succ k ih => rw [List.replicate_succ']; simp only [digK, Nat.zero_div, ih]; rfl
theorem digK_dec (k : Nat) : ∀ n, Lib.nDigits n ≤ k → List.replicate (k - Lib.nDigits n) 48 ++ Lib.decDigits n = digK k n := by
  induction k with
  | zero => intro n h; have := Lib.nDigits_pos n; omega
  | succ k ih =>
    intro n h
    by_cases h9 : n < 10
    · rw [Lib.decDigits_one h9, Lib.nDigits_small h9]
      simp only [digK]
      rw [Nat.div_eq_of_lt h9, digK_zero, Nat.mod_eq_of_lt h9]
      rfl
    · rw [Lib.nDigits_big h9] at h ⊢
      rw [Lib.decDigits, dif_neg h9, ← List.append_assoc]
      simp only [digK]
      rw [← ih (n / 10) (by omega)]
      congr 3
      omega
theorem digs_eq {n : Nat} (h : n ≤ 99999999) : digs n = digK 8 n := digK_dec 8 n (nDigits_le8 h)
theorem snoc_lt {a b : List UInt8} (hl : a.length = b.length) (x y : UInt8) (h : a < b ∨ (a = b ∧ x < y)) : a ++ [x] < b ++ [y] := by
  induction a generalizing b with
  | nil =>
    cases b with
    | nil =>
      rcases h with h | h
      · exact absurd h (List.not_lt_nil _)
      · simpa [List.cons_lt_cons_iff] using h.2
    | cons c b => cases hl
  | cons c a ih =>
    cases b with
    | nil => cases hl
    | cons d b =>
      rw [List.cons_append, List.cons_append, List.cons_lt_cons_iff]
      rw [List.cons_lt_cons_iff, List.cons.injEq] at h
      rcases h with (h | ⟨rfl, h⟩) | ⟨⟨rfl, rfl⟩, h⟩
      · exact .inl h
      · exact .inr ⟨rfl, ih (by simpa using hl) (.inl h)⟩
      · exact .inr ⟨rfl, ih rfl (.inr ⟨rfl, h⟩)⟩
theorem digK_lt (k : Nat) : ∀ n m, n < m → m < 10 ^ k → digK k n < digK k m := by
  induction k with
  | zero => intro n m h hm; simp at hm; omega
  | succ k ih =>
    intro n m h hm
    simp only [digK]
    refine snoc_lt (by rw [digK_length, digK_length]) _ _ ?_
    by_cases hd : n / 10 = m / 10
    · right
      refine ⟨by rw [hd], ?_⟩
      rw [UInt8.lt_iff_toNat_lt, UInt8.toNat_ofNat', UInt8.toNat_ofNat']
      omega
    · left
      refine ih _ _ (by omega) ?_
      rw [Nat.div_lt_iff_lt_mul (by decide)]
      rw [Nat.pow_succ] at hm; exact hm
theorem segName_lt {n m : Nat} (h : n < m) (hm : m ≤ 99999999) : toL (segName n) < toL (segName m) := by
  show segL n < segL m
  unfold segL
  rw [List.cons_lt_cons_iff]
  refine .inr ⟨rfl, ?_⟩
  rw [List.cons_lt_cons_iff]
  refine .inr ⟨rfl, ?_⟩
  rw [digs_eq (by omega), digs_eq hm]
  exact digK_lt 8 n m h (by omega)
theorem segName_inj {n m : Nat} (hn : n ≤ 99999999) (hm : m ≤ 99999999) (h : segName n = segName m) : n = m := by
  rcases Nat.lt_trichotomy n m with h1 | h1 | h1
  · have := segName_lt h1 hm; rw [h] at this; exact absurd this (List.lt_irrefl _)
  · exact h1
  · have := segName_lt h1 hn; rw [h] at this; exact absurd this (List.lt_irrefl _)
def numD (s : ByteArray) : Nat := (numOf s).getD 0
/-- the numbers of the segments among names, in order -/
def numsOf (L : Nm) : List Nat := ((namesOf L).filter isSeg).map numD
theorem fnames_eq (f : Fs) : f.names = namesOf f.now := rfl
theorem isSeg_num {s : ByteArray} (h : isSeg s = true) : 1 ≤ numD s ∧ numD s ≤ 99999999 ∧ s = segName (numD s) ∧ numOf s = some (numD s) := by
  unfold isSeg at h
  obtain ⟨n, hn⟩ := Option.isSome_iff_exists.1 h
  have := numOf_some hn
  have h2 : numD s = n := by unfold numD; rw [hn]; rfl
  rw [h2]; exact ⟨this.1, this.2.1, this.2.2, hn⟩
theorem segs_nums (L : Nm) : (namesOf L).filter isSeg = (numsOf L).map segName := by
  unfold numsOf
  rw [List.map_map]
  conv => lhs; rw [← List.map_id ((namesOf L).filter isSeg)]
  apply List.map_congr_left
  intro s hs
  exact (isSeg_num (List.mem_filter.1 hs).2).2.2.1
theorem isSeg_segName {n : Nat} (h1 : 1 ≤ n) (h : n ≤ 99999999) : isSeg (segName n) = true := by unfold isSeg; rw [numOf_seg h1 h]; rfl
theorem numD_segName {n : Nat} (h1 : 1 ≤ n) (h : n ≤ 99999999) : numD (segName n) = n := by unfold numD; rw [numOf_seg h1 h]; rfl
theorem mem_numsOf {L : Nm} {n : Nat} : n ∈ numsOf L ↔ 1 ≤ n ∧ n ≤ 99999999 ∧ segName n ∈ L.map (·.1) := by
  unfold numsOf
  rw [List.mem_map]
  constructor
  · rintro ⟨s, hs, rfl⟩
    obtain ⟨hs1, hs2⟩ := List.mem_filter.1 hs
    obtain ⟨h1, h2, h3, _⟩ := isSeg_num hs2
    exact ⟨h1, h2, h3 ▸ mem_namesOf.1 hs1⟩
  · rintro ⟨h1, h2, h3⟩
    exact ⟨segName n, List.mem_filter.2 ⟨mem_namesOf.2 h3, isSeg_segName h1 h2⟩, numD_segName h1 h2⟩
theorem names_pairwise (L : Nm) (hn : (L.map (·.1)).Nodup) : (namesOf L).Pairwise (fun a b => toL a ≤ toL b ∧ a ≠ b) := by
  have h1 : (sortL (L.map (·.1.data.toList))).Pairwise (fun a b => decide (a ≤ b) = true) := by
    unfold sortL
    exact List.pairwise_mergeSort (fun a b c => le_trans_bytes a b c) (fun a b => le_total_bytes a b) _
  have h2 : (sortL (L.map (·.1.data.toList))).Nodup := by
    have hp : (sortL (L.map (·.1.data.toList))).Perm (L.map (·.1.data.toList)) := List.mergeSort_perm _ _
    rw [hp.nodup_iff]
    rw [show (L.map (·.1.data.toList)) = (L.map (·.1)).map toL from by rw [List.map_map]; rfl]
    exact List.Pairwise.map _ (fun a b hab he => hab (toL_inj he)) hn
  unfold namesOf
  rw [List.pairwise_map]
  have h3 := h1.and h2
  refine h3.imp ?_
  rintro a b ⟨hab, hne⟩
  refine ⟨of_decide_eq_true hab, fun he => hne ?_⟩
  have := congrArg toL he
  exact this
theorem nums_incr (L : Nm) (hn : (L.map (·.1)).Nodup) : (numsOf L).Pairwise (· < ·) := by
  unfold numsOf
  rw [List.pairwise_map]
  have h1 := ((names_pairwise L hn).filter isSeg)
  refine List.Pairwise.imp_of_mem ?_ h1
  rintro a b ha hb ⟨hab, hne⟩
  obtain ⟨a1, a2, a3, _⟩ := isSeg_num (List.mem_filter.1 ha).2
  obtain ⟨b1, b2, b3, _⟩ := isSeg_num (List.mem_filter.1 hb).2
  rcases Nat.lt_trichotomy (numD a) (numD b) with h | h | h
  · exact h
  · exact absurd (by rw [a3, b3, h]) hne
  · have := segName_lt h a2
    rw [← a3, ← b3] at this
    exact absurd this (List.not_lt.2 hab)
theorem incr_ext : ∀ {a b : List Nat}, a.Pairwise (· < ·) → b.Pairwise (· < ·) → (∀ n, n ∈ a ↔ n ∈ b) → a = b := by
  intro a
  induction a with
  | nil =>
    intro b _ _ h
    cases b with
    | nil => rfl
    | cons y b => exact absurd ((h y).2 List.mem_cons_self) (by simp)
  | cons x a ih =>
    intro b ha hb h
    cases b with
    | nil => exact absurd ((h x).1 List.mem_cons_self) (by simp)
    | cons y b =>
      rw [List.pairwise_cons] at ha hb
      have hxy : x = y := by
        rcases List.mem_cons.1 ((h x).1 List.mem_cons_self) with e | e
        · exact e
        · rcases List.mem_cons.1 ((h y).2 List.mem_cons_self) with e2 | e2
          · exact e2.symm
          · have := hb.1 x e; have := ha.1 y e2; omega
      subst hxy
      rw [ih ha.2 hb.2]
      intro n
      constructor
      · intro hn
        rcases List.mem_cons.1 ((h n).1 (List.mem_cons_of_mem _ hn)) with e | e
        · have := ha.1 n hn; omega
        · exact e
      · intro hn
        rcases List.mem_cons.1 ((h n).2 (List.mem_cons_of_mem _ hn)) with e | e
        · have := hb.1 n hn; omega
        · exact e
theorem topOf_map {ns : List Nat} (h : ∀ n, n ∈ ns → 1 ≤ n ∧ n ≤ 99999999) : topOf (ns.map segName) = ns.getLastD 0 := by
  unfold topOf
  rw [List.getLast?_map]
  cases hl : ns.getLast? with
  | none => simp [List.getLastD_eq_getLast?, hl]
  | some n =>
    have := h n (List.mem_of_getLast? hl)
    simp only [Option.map_some, List.getLastD_eq_getLast?, hl, Option.getD_some]
    exact numD_segName this.1 this.2
theorem fsegs_eq (f : Fs) : f.segs = (numsOf f.now).map segName := segs_nums f.now
theorem ftop_eq (f : Fs) : topOf f.segs = (numsOf f.now).getLastD 0 := by
  rw [fsegs_eq]
  exact topOf_map (fun n hn => by have := mem_numsOf.1 hn; exact ⟨this.1, this.2.1⟩)
/-- a number that is there and is the greatest is the last -/
theorem last_of_max {ns : List Nat} (hp : ns.Pairwise (· < ·)) {t : Nat} (ht : t ∈ ns) (hm : ∀ n, n ∈ ns → n ≤ t) : ns.getLastD 0 = t := by
  rw [List.getLastD_eq_getLast?]
  cases hl : ns.getLast? with
  | none => rw [List.getLast?_eq_none_iff] at hl; subst hl; cases ht
  | some m =>
    have h1 := hm m (List.mem_of_getLast? hl)
    simp only [Option.getD_some]
    obtain ⟨pre, rfl⟩ : ∃ pre, ns = pre ++ [m] := by
      obtain ⟨ys, h⟩ := List.getLast?_eq_some_iff.1 hl
      exact ⟨ys, h⟩
    rcases List.mem_append.1 ht with h | h
    · rw [List.pairwise_append] at hp
      have := hp.2.2 t h m (by simp)
      omega
    · exact (List.mem_singleton.1 h).symm
end Go.Proofs.YthogefmngddnbaaGreatDoor
/- The walk of the folder's Crash. -/
namespace Go.Proofs.YthogefmngddnbaaGreatDoor
open Go.RowKit Go.MapKept Go.Shelf

theorem MapAt.alloc {w : World} {m : Nat} {L : Nm} (h : MapAt w.heap m L) (o : Obj) : MapAt (w.alloc o).heap m L := by
  obtain ⟨es, clk, h1, h2⟩ := h; exact ⟨es, clk, at_alloc h1, h2⟩
theorem Owns.slice {h : Array Obj} {F : BSet} {e : TypeId} {v : Value} {n : Nat} {xs : List Value} (hx : Owns h F e 1 v n xs) :
    ∃ a cap, v = .slice a n cap ∧ n ≤ maxLen ∧ (0 < n → ∃ g cur, a = some ⟨g, 0, none⟩ ∧ F g ∧ h[g]? = some (.cells cur e (0, 0)) ∧ ∀ i, i < n → cur[i]? = xs[i]?) := by
  rcases hx.2 with ⟨rfl, rfl⟩ | ⟨g, cap, cur, rfl, hF, hg, hn, hm, hs, ht⟩
  · exact ⟨none, 0, rfl, Nat.zero_le _, fun h => absurd h (Nat.lt_irrefl _)⟩
  · refine ⟨_, cap, rfl, Nat.le_trans hn hm, fun _ => ⟨g, cur, rfl, hF, hg, fun i hi => ?_⟩⟩
    rw [← ht, Nat.mul_one, List.getElem?_take_of_lt hi]
    simp

def CrashP (b : Nat) (F : BSet) (f : Fs) (picks : List Int) (w : World) (e : Ending) (w' : World) : Prop :=
  e = .returned (.tuple #[]) ∧ ∃ nids : List Nat, nids.length = (f.crLeft picks).length ∧ nids.Nodup ∧ (∀ i, i ∈ nids → i ∉ f.ids) ∧ FsRep w'.heap b (f.crash picks nids) (grow F w w') ∧ Mod F w w'

theorem crash_close {f : Fs} {picks : List Int} {nids : List Nat} {G F : BSet} {b bx m3 N : Nat} {w w4 wr wz W : World} (hR : FsRep w.heap b f F) (HI : CrInv f picks G bx m3 w4 N nids wr)
    (HE : (f.crStart picks).fold ((namesOf (f.crLeft picks)).take N) nids = f.crEnd picks nids) (hN : N = (f.crLeft picks).length) (h0 : Mod BSet.none w wr) (h4 : w.heap.size ≤ w4.heap.size) (hm3 : w.heap.size ≤ m3 ∧ m3 < wr.heap.size)
    (hz : Mod BSet.none wr wz) (hsz : wz.heap.size = wr.heap.size + 1) (hMz : MapAt wz.heap wr.heap.size (f.crEnd picks nids).L)
    (hW : W.heap[b]? = some (fsObj m3 wr.heap.size (.slice none 0 0) (f.crash picks nids))) (hst : Stay 106 wz.heap W.heap) (hs : W.heap.size = wz.heap.size) (hmW : Mod (BSet.one b) wz W) : CrashP b F f picks w (.returned (.tuple #[])) W := by
  have hmap := HI.map
  have hfiles := HI.files
  have hok := HI.ok
  have hkeys := HI.keys
  rw [HE] at hmap hfiles hok hkeys
  have hge := h0.size
  refine ⟨rfl, nids, by rw [HI.len, hN], HI.nodup, fun i hi h => ?_, ⟨fun k hk => ?_, .inl hR.own, ⟨m3, wr.heap.size, .slice none 0 0, [], hW, .inr ⟨hm3.1, by omega⟩, .inr ⟨by omega, by omega⟩, by omega, ?_, ?_, ⟨rfl, .inl ⟨rfl, rfl⟩⟩, ⟨rfl, fun i u p h => by simp at h⟩⟩, fun id hid => ?_, hR.wf.crash hok hkeys⟩,
    (h0.none_any.trans hz.none_any (fun _ _ h => h)).trans hmW (fun i _ hi => by rw [show i = b from hi]; exact hR.own)⟩
  · have := hR.ids_lt h
    have := (HI.ge i hi).1
    omega
  · rcases hk with hk | hk
    · have := hR.lt k hk; omega
    · exact hk.2
  · exact (hmap.mod hz (fun h => h)).stay hst (by decide)
  · exact hMz.stay hst (by decide)
  · obtain ⟨p, hp, rfl⟩ := crash_ids hid
    obtain ⟨g1, g2⟩ := hfiles p hp
    refine ⟨?_, (show FileAt wz.heap p.2 _ from hz.at g1 (fun h => h)).stay hst (by decide)⟩
    rcases g2 with g2 | g2
    · exact .inl (hR.files _ g2).1
    · have := HI.ge _ g2
      exact .inr ⟨by omega, by omega⟩

set_option maxRecDepth 100000 in
set_option maxHeartbeats 2000000 in
theorem crash_any (b : Nat) (f : Fs) (F G : BSet) (v : Value) (picks : List Int) (w : World) (hr : FsRep w.heap b f F) (hv : PickSl w.heap G v picks) (hG : ∀ k, G k → k < w.heap.size ∧ ¬ F k) (hlen : f.since.length ≤ 1073741824) :
    Calls Tryz.prog 21 #[.pointer (some ⟨b, 0, none⟩), v] w (CrashP b F f picks w) := by
  obtain ⟨m1, m2, sv, vs, hb, F1, F2, hne, hm1, hm2, ho, hcl⟩ := hr.ex
  obtain ⟨sa, scap, rfl, hsn, hsx⟩ := ho.slice
  have hR := Lib.hid hr
  have hB := Lib.hid hb
  have hM2 := Lib.hid hm2
  have hSX := Lib.hid hsx
  have hCL := Lib.hid hcl
  have hGG := Lib.hid hG
  have hV := Lib.hid hv
  have HL := Lib.hid hlen
  have hlen' : f.since.length < 1073741825 := by omega
  have hmf : ∀ fn first cap w, (Instr.makeFunc fn first cap).run Tryz.prog w = .ok (.func fn first cap) w := fun _ _ _ _ => rfl
  have hq : ∀ (m : Nat) (w : World), (binOp .eql 102 (.map (some m)) (.map none)).run Tryz.prog w = .ok (.bool false) w := fun m w => run_eql_map_nil w 102 9 112 (some m) under102
  have h70 : ∀ args w, (callFunc 70 args).run Tryz.prog w = .ok (.enter 70 args) w := fun _ _ => by kernel_rfl
  have c1 := (fcells hb).c1
  have hbw : b < w.heap.size := lt_of_at hb
  obtain ⟨va, vc, rfl, hv1⟩ := hv
  clear hr hb hm1 hm2 hsx hcl hG hv1 ho hlen
  go_enter Tryz.func21, Tryz.ntmps21
  go_wp2_with fail
  go_step3
  go_wp2_with fail
  refine (clone_any m2 f.firm _ (hM2.out.alloc _)).mono ?_
  rintro e w1 ⟨rfl, hm3, hmod1, hsz1⟩
  have hszw : w.heap.size < w1.heap.size := by have := hsz1; simp at this; omega
  have mod01 : Mod BSet.none w w1 := ((Mod.refl BSet.none w).alloc _).trans hmod1 (fun _ _ h => h)
  have B1 := Lib.hid (mod01.at hB.out (fun h => h))
  have d2 := (fcells B1.out).c2
  have P1 : Hid (PicksAt w1.heap G w.heap.size picks) := Lib.hid ⟨fun h => by have := (hGG.out _ h).1; omega, _, hmod1.at at_new (fun h => h), hV.out.keep (fun k o hk ho => mod01.at ho (fun h => h))⟩
  have M3 := Lib.hid hm3
  clear hm3
  go_wp2_with fail
  refine (next_any G w.heap.size picks f.since.length _ (by exact P1.out) (by omega) (by have := HL.out; omega)).mono ?_
  rintro e w2 ⟨rfl, hP2, hmod2⟩
  have hsz2 := hmod2.size
  have hpk := pick_range picks f.since.length (by omega) (by obtain ⟨_, _, _, _, _, h, _⟩ := hV.out; exact h)
  obtain ⟨M, hM⟩ : ∃ M : Nat, (pickOf picks f.since.length).1 = (M : Int) := ⟨(pickOf picks f.since.length).1.toNat, by omega⟩
  have HMany := Lib.hid hM
  rw [hM] at hpk
  have hMl : M ≤ f.since.length := by omega
  rw [hM]
  have mod02 : Hid (Mod BSet.none w w2) := Lib.hid (mod01.trans hmod2 (fun i hi h => by have : i = w.heap.size := h; omega))
  have B2 := Lib.hid (mod02.out.at hB.out (fun h => h))
  have d2' := (fcells B2.out).c2
  have M32 := Lib.hid (M3.out.mod hmod2 (fun h => by have h' : (w.alloc (.cells #[.slice va picks.length vc] 53)).heap.size = w.heap.size := h; simp at h'))
  have P2 := Lib.hid hP2
  clear hP2 hmod2 hM hpk d2
  go_wp2_with fail
  go_step3
  go_wp2_with fail
  go_loopw [7, 8, 36] (fun _ _ i wr => ∃ j : Nat, j ≤ M ∧ i = .int .i64 j ∧ MapAt wr.heap (w.heap.size + 1) (Fs.hist f.firm (f.since.take j)) ∧ Mod (BSet.one (w.heap.size + 1)) w2 wr) (fun _ _ i _ => f.since.length - (intOf i).toNat)
  case atStart => exact ⟨0, Nat.zero_le _, rfl, by have := M32.out; simpa [Fs.hist] using this, Mod.refl _ _⟩
  case round =>
    obtain ⟨j, hj, rfl, hMj, hmj⟩ := hrel
    obtain ⟨wo, rfl⟩ : ∃ wo : World, wo = wr := ⟨_, rfl⟩
    have HMj := Lib.hid hMj
    have Hmj := Lib.hid hmj
    have mod0r : Hid (Mod BSet.none w wo) := Lib.hid (mod02.out.trans hmj (fun i hi h => by have : i = w.heap.size + 1 := h; omega))
    have hszr : w.heap.size + 2 ≤ wo.heap.size := by have := hmj.size; have := hsz1; simp at this; omega
    clear hMj hmj
    by_cases hjM : j < M
    · have hlt : j < f.since.length := by omega
      obtain ⟨g, cur, rfl, hFg, hg, hcur⟩ := hSX.out (by omega)
      have hvl : vs.length = f.since.length := hCL.out.1
      have hop := hCL.out.2 j vs[j] f.since[j] (by rw [List.getElem?_eq_getElem]) (by rw [List.getElem?_eq_getElem])
      obtain ⟨k, caps, hvj, hE, hcalls⟩ := change_any hop
      have hcell : wo.cell? ⟨g, j, none⟩ = some (.func (.func k) #[] caps) := by
        rw [cell_of_at (mod0r.out.at hg (fun h => h)), hcur j hlt, List.getElem?_eq_getElem (by omega), hvj]
      have hE' : ∀ args w, (callFunc k args).run Tryz.prog w = .ok (.enter k args) w := hE
      have hop' : ClosAt wo.heap F (.func (.func k) #[] caps) f.since[j] := by
        rw [← hvj]
        exact hop.keep (fun i hi => mod0r.out.block i (hR.out.lt i hi) (fun h => h)) (fun _ h => h)
      have HC := Lib.hid (hcalls wo (w.heap.size + 1) _ (by rw [hvj]; exact hop') HMj.out (nodup_hist _ _ hR.out.wf.firmNodup))
      clear hop hop' hcalls hvj hE hg hcur hFg
      go_wp2_with fail
      refine HC.out.mono ?_
      rintro e w3 ⟨rfl, hM3, hm3⟩
      have HM3 := Lib.hid hM3
      have Hm3 := Lib.hid hm3
      clear hM3 hm3
      go_wp2
      go_roundw
      case rel =>
        refine ⟨j + 1, by omega, by go_num, ?_, Hmj.out.trans Hm3.out (fun _ _ h => h)⟩
        have : f.since.take (j + 1) = f.since.take j ++ [f.since[j]] := by rw [List.take_succ_eq_append_getElem hlt]
        rw [this, hist_snoc]
        exact HM3.out
      case measure => simp [intOf]; omega
    · obtain rfl : j = M := by omega
      have hload : j < f.since.length → ∃ g k caps, sa = some ⟨g, 0, none⟩ ∧ wo.cell? ⟨g, j, none⟩ = some (.func (.func k) #[] caps) := fun hlt => by
        obtain ⟨g, cur, rfl, hFg, hg, hcur⟩ := hSX.out (by omega)
        have hvl : vs.length = f.since.length := hCL.out.1
        have hop := hCL.out.2 j vs[j] f.since[j] (by rw [List.getElem?_eq_getElem]) (by rw [List.getElem?_eq_getElem])
        obtain ⟨k, caps, hvj, hE, hcalls⟩ := change_any hop
        exact ⟨g, k, caps, rfl, by rw [cell_of_at (mod0r.out.at hg (fun h => h)), hcur j hlt, List.getElem?_eq_getElem (by omega), hvj]⟩
      have HLo := Lib.hid hload
      clear hload
      have hleft : Hid (Fs.hist f.firm (f.since.take j) = f.crLeft picks) := Lib.hid (by unfold Fs.crLeft Fs.crMany; rw [HMany.out]; rfl)
      have HMl := Lib.hid (hleft.out ▸ HMj.out)
      have hll : (f.crLeft picks).length ≤ 64 := by rw [← hleft.out]; exact hR.out.wf.many j
      have hlo : Hid (∀ p, p ∈ f.crLeft picks → okName p.1 = true) := Lib.hid (by
        intro p hp
        rw [← hleft.out] at hp
        rcases mem_hist _ _ _ hp with hp | ⟨n, id, h1, rfl⟩
        · exact hR.out.wf.firmNames p hp
        · exact hR.out.wf.sinceNames n id (List.mem_of_mem_take h1))
      by_cases hlt : j < f.since.length
      case' pos => obtain ⟨g, k, caps, rfl, hcell⟩ := HLo.out hlt
      all_goals
        go_wp2_with fail
        refine (keys_any _ _).mono ?_
        rintro e wk ⟨rfl, rfl⟩
        go_wp2_with fail
        refine (sortedKeys_any (w.heap.size + 1) (f.crLeft picks) wo HMl.out hll hlo.out).mono ?_
        rintro e w4 ⟨nv, rfl, hno, hnm⟩
        obtain ⟨na, ncap, rfl, hnl, hnx⟩ := hno.slice
        have hw4 : wo.heap.size ≤ w4.heap.size := hnm.size
        have HNX := Lib.hid hnx
        have HNM := Lib.hid hnm
        clear hno hnx hnm
        go_wp2_with fail
        go_loopw [10, 11, 12, 52] (fun _ _ _ i wx => ∃ (q : Nat) (nids : List Nat), q ≤ (f.crLeft picks).length ∧ i = .int .i64 q ∧ CrInv f picks G w.heap.size (w.heap.size + 1) w4 q nids wx) (fun _ _ _ i _ => (f.crLeft picks).length - (intOf i).toNat)
        case atStart =>
          refine ⟨0, [], Nat.zero_le _, rfl, CrInv.start hR.out.wf ((HMl.out).mod HNM.out (fun h => h)) ?_ (by obtain ⟨_, _, _, _, _, h, _⟩ := hV.out; exact h) (fun id hid => ?_)⟩
          · exact (P2.out.mod Hmj.out (fun h => by have h' : w.heap.size = w.heap.size + 1 := h; omega) (fun k hk h => by have h' : k = w.heap.size + 1 := h; have := (hGG.out k hk).1; omega)).mod HNM.out (fun h => h) (fun _ _ h => h)
          · exact HNM.out.at (mod0r.out.at (hR.out.files id hid).2 (fun h => h)) (fun h => h)
        case round =>
          obtain ⟨q, nids, hq4, rfl, hinv⟩ := hrel
          have HI := Lib.hid hinv
          clear hinv
          by_cases hqN : q < (f.crLeft picks).length
          · have hqn : q < (namesOf (f.crLeft picks)).length := by rw [length_namesOf]; exact hqN
            obtain ⟨ng, ncur, rfl, hFg, hng, hncur⟩ := HNX.out (by omega)
            obtain ⟨name, hname⟩ : ∃ name, (namesOf (f.crLeft picks))[q] = name := ⟨_, rfl⟩
            have hmemn : name ∈ namesOf (f.crLeft picks) := hname ▸ List.getElem_mem hqn
            obtain ⟨id, hid, hfile, hs1, hs2⟩ := HI.out.next hmemn
            obtain ⟨st, hst⟩ : ∃ st, (f.crStart picks).fold ((namesOf (f.crLeft picks)).take q) nids = st := ⟨_, rfl⟩
            rw [hst] at hid hfile hs1 hs2
            have hints : IntsOk st.ps := hst ▸ HI.out.ints
            have hpk : PicksAt wr.heap G w.heap.size st.ps := hst ▸ HI.out.pk
            have hmap : MapAt wr.heap (w.heap.size + 1) st.L := hst ▸ HI.out.map
            have hpr := pick_range st.ps (((st.cont id).bytes.size : Int) - (st.cont id).synced) (by omega) hints
            obtain ⟨R, hRn⟩ : ∃ R : Nat, (pickOf st.ps (((st.cont id).bytes.size : Int) - (st.cont id).synced)).1 = (R : Int) := ⟨(pickOf st.ps (((st.cont id).bytes.size : Int) - (st.cont id).synced)).1.toNat, by omega⟩
            have hRb : (st.cont id).synced + R ≤ (st.cont id).bytes.size := by omega
            have hngm : wr.heap[ng]? = some (.cells ncur 9 (0, 0)) := HI.out.mod.at hng (fun h => by rcases hFg with h' | h'; exact h'; rcases h with h | h <;> omega)
            have hcell : wr.cell? ⟨ng, q, none⟩ = some (.string name) := by
              rw [cell_of_at hngm, hncur q hqN]
              show ((namesOf (f.crLeft picks)).map Value.string)[q]? = _
              rw [List.getElem?_map, List.getElem?_eq_getElem hqn, hname]; rfl
            have hl := lookup_run1 name hmap hid
            have x0 : wr.cell? ⟨id, 0, none⟩ = some (.string (st.cont id).bytes) := cell_of_at hfile 0
            have x1 : wr.cell? ⟨id, 1, none⟩ = some (.int .i64 (st.cont id).synced) := cell_of_at hfile 1
            have hw1 : IntKind.i64.wrap (((st.cont id).bytes.size : Int) - (st.cont id).synced) = ((st.cont id).bytes.size : Int) - (st.cont id).synced := IntWalk.i64_in _ (by omega)
            have hw2 : IntKind.i64.wrap (((st.cont id).synced : Int) + R) = ((st.cont id).synced : Int) + R := IntWalk.i64_in _ (by omega)
            have HPK := Lib.hid hpk
            have HMAP := Lib.hid hmap
            have HFILE := Lib.hid hfile
            have HRN := Lib.hid hRn
            have HST := Lib.hid hst
            have HID := Lib.hid hid
            have HNAME := Lib.hid hname
            have HINTS := Lib.hid hints
            have hidbx : id ≠ w.heap.size := by
              intro e
              obtain ⟨_, v, hv, _⟩ := hpk
              rw [← e, hfile] at hv
              cases hv
            clear hpk hmap hfile hRn hst hid hname hints hng hncur hFg hngm hmemn hpr
            go_wp2_with fail
            go_region_held3 (fun w' => w'.cell? ⟨id, 0, none⟩ = some (.string (st.cont id).bytes) ∧ w'.cell? ⟨id, 1, none⟩ = some (.int .i64 (st.cont id).synced)) (first | exact ⟨y0, y1⟩ | exact ⟨x0, x1⟩) (first | (go_at_call 70; refine (next_any G w.heap.size st.ps _ _ (by exact HPK.out) (by omega) (by omega)).mono ?_; rintro e wx ⟨rfl, hpx, hmx⟩; rw [HRN.out]; have y0 : wx.cell? ⟨id, 0, none⟩ = some (.string (st.cont id).bytes) := cell_of_at (hmx.at HFILE.out hidbx) 0; have y1 : wx.cell? ⟨id, 1, none⟩ = some (.int .i64 (st.cont id).synced) := cell_of_at (hmx.at HFILE.out hidbx) 1))
            clear hw1 hw2 hl hcell
            have hmx : Mod (BSet.one w.heap.size) wr wx := ((Mod.refl _ wr).drew).trans hmx (fun _ _ h => h)
            obtain ⟨wy, hu, hMy, hmy⟩ := update_run (w := wx.alloc (.cells #[.string ((st.cont id).bytes.extract 0 ((st.cont id).synced + R)), .int .i64 (((st.cont id).synced : Int) + R)] 119)) name wx.heap.size ((HMAP.out.mod hmx (fun h => by have h' : w.heap.size + 1 = w.heap.size := h; omega)).alloc _) (HST.out ▸ HI.out.ok.nodup)
            have HU := Lib.hid hMy
            have HY := Lib.hid hmy
            have HPX := Lib.hid hpx
            have HMX := Lib.hid hmx
            clear hMy hmy hpx hmx
            go_wp2
            go_roundw
            case rel =>
              refine ⟨q + 1, nids ++ [wx.heap.size], by omega, by go_num, ?_⟩
              refine HI.out.push hqn HNAME.out (fun x hx => ?_) ⟨by omega, by omega, by omega⟩ st HST.out HID.out HPX.out HMX.out _ rfl ?_ HU.out (fun k hk => ⟨?_, ?_⟩)
              · have := hR.out.ids_lt hx; omega
              · rw [HRN.out]; exact HY.out
              · have := (hGG.out k hk).1; omega
              · have := (hGG.out k hk).1; omega
            case measure => simp [intOf]; omega
          · obtain rfl : q = (f.crLeft picks).length := by omega
            have hend : (f.crStart picks).fold ((namesOf (f.crLeft picks)).take (f.crLeft picks).length) nids = f.crEnd picks nids := by
              unfold Fs.crEnd
              rw [List.take_of_length_le (by rw [length_namesOf]; exact Nat.le_refl _)]
            have HE := Lib.hid hend
            clear hend
            have mod0x : Hid (Mod BSet.none w wr) := Lib.hid ((mod0r.out.trans HNM.out (fun _ _ h => h)).trans HI.out.mod (fun i hi h => by rcases h with h | h <;> omega))
            have BX := Lib.hid (mod0x.out.at hB.out (fun h => h))
            go_wp2_with fail
            refine (clone_any (w.heap.size + 1) (f.crEnd picks nids).L _ (by have := HI.out.map; rw [HE.out] at this; exact this)).mono ?_
            rintro e wz ⟨rfl, hMz, hmz, hsz⟩
            have BZ := Lib.hid (hmz.at BX.out (fun h => h))
            have z0 := (fcells BZ.out).c0
            have z1 := (fcells BZ.out).c1
            have z2 := (fcells BZ.out).c2
            have z4 := (fcells BZ.out).c4
            have z5 := (fcells BZ.out).c5
            have e0 : wz.frozen? ⟨b, 0, none⟩ = false := free_of_at BZ.out 0
            have e1 : wz.frozen? ⟨b, 1, none⟩ = false := free_of_at BZ.out 1
            have e2 : wz.frozen? ⟨b, 2, none⟩ = false := free_of_at BZ.out 2
            have e4 : wz.frozen? ⟨b, 4, none⟩ = false := free_of_at BZ.out 4
            have e5 : wz.frozen? ⟨b, 5, none⟩ = false := free_of_at BZ.out 5
            have HMz := Lib.hid hMz
            have Hmz := Lib.hid hmz
            clear hMz hmz
            go_wp2
            rw [Exit.noGoto_normal]
            go_end0
            refine crash_close hR.out HI.out HE.out rfl mod0x.out (by omega) ⟨by omega, ?_⟩ Hmz.out hsz HMz.out ?_ ?_ (by simp [World.setCell]) ?_
            · have := HI.out.mod.size; omega
            · rw [at_setCell_same (at_setCell_same (at_setCell_same (at_setCell_same (at_setCell_same BZ.out))))]; simp [fsObj, Fs.crash]
            · exact Mod.stay (o := fsObj _ _ _ f) (((mod_two _ _ _ _ _ _).trans (mod_two _ _ _ _ _ _) (fun _ _ h => h)).trans (mod_one _ _ _ _) (fun _ _ h => h)) BZ.out 106 rfl
            · exact ((mod_two _ _ _ _ _ _).trans (mod_two _ _ _ _ _ _) (fun _ _ h => h)).trans (mod_one _ _ _ _) (fun _ _ h => h)
end Go.Proofs.YthogefmngddnbaaGreatDoor
/- What may be on the disk, plain: names and segments. -/
namespace Go.Proofs.YthogefmngddnbaaGreatDoor

theorem mget_mput (L : Nm) (k k' : ByteArray) (v : Nat) : mget (mput L k v) k' = if k' = k then some v else mget L k' := by
  unfold mput
  by_cases h : (mget L k).isSome = true
  · rw [if_pos h]
    have hk := mget_isSome.1 h
    clear h
    induction L with
    | nil => simp at hk
    | cons p L ih =>
      obtain ⟨a, b⟩ := p
      rw [List.map_cons]
      by_cases ha : a = k
      · subst ha
        simp only [if_true]
        by_cases hk' : k' = a
        · subst hk'; simp [mget]
        · rw [if_neg hk']
          have hne : ¬ a = k' := fun h => hk' h.symm
          simp only [mget, List.find?_cons, hne, decide_false]
          by_cases hm : a ∈ L.map (·.1)
          · have := ih hm
            rw [if_neg hk'] at this
            exact this
          · congr 1
            have : L.map (fun p => if p.1 = a then (a, v) else p) = L := by
              conv => rhs; rw [← List.map_id L]
              apply List.map_congr_left
              intro q hq
              rw [if_neg]; rfl
              intro e; exact hm (List.mem_map.2 ⟨q, hq, e⟩)
            rw [this]
      · simp only [if_neg ha]
        have hk2 : k ∈ L.map (·.1) := by
          rcases List.mem_cons.1 hk with e | e
          · exact absurd e.symm ha
          · exact e
        have := ih hk2
        by_cases hak : a = k'
        · subst hak
          rw [if_neg ha]
          simp [mget]
        · simp only [mget, List.find?_cons, hak, decide_false] at this ⊢
          exact this
  · rw [if_neg h]
    have hn : mget L k = none := by simpa using h
    unfold mget at hn ⊢
    rw [List.find?_append, Option.map_or]
    by_cases hk : k' = k
    · subst hk; rw [if_pos rfl, hn]; simp
    · rw [if_neg hk]
      have hne : ¬ k = k' := fun h => hk h.symm
      simp [hne]
theorem mget_mdel (L : Nm) (k k' : ByteArray) : mget (mdel L k) k' = if k' = k then none else mget L k' := by
  unfold mdel mget
  rw [List.find?_filter]
  by_cases hk : k' = k
  · subst hk
    rw [if_pos rfl]
    simp
  · rw [if_neg hk]
    congr 1
    congr 1
    funext p
    by_cases h : p.1 = k'
    · simp [h, hk]
    · simp [h]
theorem mget_of_mem {L : Nm} (hn : (L.map (·.1)).Nodup) {p : ByteArray × Nat} (hp : p ∈ L) : mget L p.1 = some p.2 := by
  obtain ⟨id, hid⟩ := Option.isSome_iff_exists.1 (mget_isSome.2 (List.mem_map.2 ⟨p, hp, rfl⟩))
  have hm := mget_mem hid
  have : (p.1, id) = p := by
    clear hid
    induction L with
    | nil => cases hp
    | cons q L ih =>
      rw [List.map_cons, List.nodup_cons] at hn
      rcases List.mem_cons.1 hp with e1 | h1
      · rcases List.mem_cons.1 hm with e | h2
        · rw [e, e1]
        · exact absurd (List.mem_map.2 ⟨_, h2, rfl⟩ : p.1 ∈ L.map (·.1)) (e1 ▸ hn.1)
      · rcases List.mem_cons.1 hm with e | h2
        · exact absurd (List.mem_map.2 ⟨p, h1, rfl⟩ : p.1 ∈ L.map (·.1)) (by have := congrArg Prod.fst e; simp only at this; rw [this]; exact hn.1)
        · exact ih hn.2 h1 h2
  rw [hid, ← this]

/-- what names there may be behind a crash -/
def Fs.Poss (f : Fs) (L : Nm) : Prop := ∃ i, L = Fs.hist f.firm (f.since.take i)
theorem Fs.Poss.now {f : Fs} (h : f.Wf) : f.Poss f.now := ⟨f.since.length, by rw [List.take_length]; exact h.now⟩
theorem Fs.Poss.happens {f : Fs} (h : f.Wf) {op : FOp} {L : Nm} (hL : (f.happens op).1.Poss L) : f.Poss L ∨ L = op.app f.now := by
  obtain ⟨i, hi⟩ := hL
  have hs := Fs.step_fields f
  have h1 : (f.happens op).1.firm = f.firm := hs.1
  have h2 : (f.happens op).1.since = f.since ++ [op] := rfl
  rw [h1, h2] at hi
  rcases Fs.take_snoc_cases f.since op i with e | e
  · exact .inl ⟨i, by rw [hi, e]⟩
  · right; rw [hi, e, hist_snoc, ← h.now]
theorem Fs.Poss.ids {f : Fs} {L : Nm} (h : f.Poss L) {p : ByteArray × Nat} (hp : p ∈ L) : p.2 ∈ f.ids := by
  obtain ⟨i, rfl⟩ := h
  simp only [Fs.ids, List.mem_append, List.mem_map, List.mem_filterMap]
  rcases mem_hist _ _ _ hp with hp | ⟨n, id, h1, rfl⟩
  · exact .inl (.inr ⟨p, hp, rfl⟩)
  · exact .inr ⟨_, List.mem_of_mem_take h1, rfl⟩
theorem Fs.Poss.nodup {f : Fs} {L : Nm} (hw : f.Wf) (h : f.Poss L) : (L.map (·.1)).Nodup := by
  obtain ⟨i, rfl⟩ := h; exact nodup_hist _ _ hw.firmNodup
theorem Fs.Poss.same {f f' : Fs} (h1 : f'.firm = f.firm) (h2 : f'.since = f.since) {L : Nm} (h : f'.Poss L) : f.Poss L := by
  obtain ⟨i, hi⟩ := h; exact ⟨i, by rw [hi, h1, h2]⟩
theorem Fs.Poss.nil {f : Fs} (h : f.since = []) {L : Nm} (hL : f.Poss L) : L = f.firm := by
  obtain ⟨i, rfl⟩ := hL; rw [h, List.take_nil]; rfl

abbrev Hd := Nat × Bool × ByteArray
/-- the bytes of a segment that may be being begun -/
def Nxt (nx : Option Hd) (s : ByteArray) : Prop := toL s = [] ∨ ∃ fi k st, nx = some (fi, k, st) ∧ HeadOk fi k st ∧ s = headOf fi k st
/-- segments C from B on, no others to T; behind it one may be being begun -/
structure DB (f : Fs) (C : List Nat) (B T : Nat) (ids : Nat → Nat) (nx : Option Hd) : Prop where
  incr : C.Pairwise (· < ·)
  rng : ∀ n, n ∈ C → B ≤ n ∧ n ≤ T
  one : 1 ≤ B
  top : T < 99999999
  names : ∀ L, f.Poss L → ∀ p, p ∈ L → ∃ n, p.1 = segName n ∧ 1 ≤ n ∧ n ≤ T + 1 ∧ (B ≤ n → n ≤ T → n ∈ C)
  there : ∀ L, f.Poss L → ∀ n, n ∈ C → mget L (segName n) = some (ids n)
  inj : ∀ n, n ∈ C → ∀ m, m ∈ C → ids n = ids m → n = m
  next : ∀ L, f.Poss L → ∀ id, mget L (segName (T + 1)) = some id → (∀ n, n ∈ C → id ≠ ids n) ∧ Nxt nx (f.cont id).bytes
theorem DB.weaken {f f' : Fs} {C : List Nat} {B T : Nat} {ids : Nat → Nat} {nx : Option Hd} (h : DB f C B T ids nx) (hP : ∀ L, f'.Poss L → f.Poss L) (hc : ∀ id, (f'.cont id).bytes = (f.cont id).bytes) : DB f' C B T ids nx where
  incr := h.incr
  rng := h.rng
  one := h.one
  top := h.top
  names := fun L hL => h.names L (hP L hL)
  there := fun L hL => h.there L (hP L hL)
  inj := h.inj
  next := fun L hL id hid => by rw [hc]; exact h.next L (hP L hL) id hid
theorem DB.num {f : Fs} {C : List Nat} {B T : Nat} {ids : Nat → Nat} {nx : Option Hd} (h : DB f C B T ids nx) {n : Nat} (hn : n ∈ C) : 1 ≤ n ∧ n ≤ 99999999 := by
  have := h.rng n hn; have := h.one; have := h.top; omega
theorem DB.idMem {f : Fs} {C : List Nat} {B T : Nat} {ids : Nat → Nat} {nx : Option Hd} (hw : f.Wf) (h : DB f C B T ids nx) {n : Nat} (hn : n ∈ C) : ids n ∈ f.ids :=
  (Fs.Poss.now hw).ids (mget_mem (h.there _ (Fs.Poss.now hw) n hn))
theorem DB.seg_ne {f : Fs} {C : List Nat} {B T : Nat} {ids : Nat → Nat} {nx : Option Hd} (h : DB f C B T ids nx) {n : Nat} (hn : n ∈ C) : segName n ≠ segName (T + 1) := fun e => by
  have h1 := h.num hn
  have h2 := h.top
  have := segName_inj h1.2 (by omega) e
  have := h.rng n hn
  omega
/-- a new name behind all -/
theorem DB.create {f : Fs} {C : List Nat} {B T nid : Nat} {ids : Nat → Nat} {nx : Option Hd} (hw : f.Wf) (h : DB f C B T ids nx) (hn : nid ∉ f.ids) (hk : mget f.now (segName (T + 1)) = none) :
    DB (({ f with cont := upd f.cont nid ⟨⟨#[]⟩, 0⟩ } : Fs).happens (.create (segName (T + 1)) nid)).1 C B T ids nx ∧
    mget (({ f with cont := upd f.cont nid ⟨⟨#[]⟩, 0⟩ } : Fs).happens (.create (segName (T + 1)) nid)).1.now (segName (T + 1)) = some nid := by
  have hw2 : ({ f with cont := upd f.cont nid ⟨⟨#[]⟩, 0⟩ } : Fs).Wf := hw.cont nid _ ⟨Nat.zero_le _, Nat.le_refl _⟩
  have hcont : ∀ id, id ∈ f.ids → (({ f with cont := upd f.cont nid ⟨⟨#[]⟩, 0⟩ } : Fs).happens (.create (segName (T + 1)) nid)).1.cont id = f.cont id := by
    intro id hid
    show (({ f with cont := upd f.cont nid ⟨⟨#[]⟩, 0⟩ } : Fs).step.1.cont id) = _
    rw [(Fs.step_fields _).2.1]
    show upd f.cont nid _ id = _
    unfold upd
    rw [if_neg (fun e : id = nid => hn (e ▸ hid))]
  have hnid : (({ f with cont := upd f.cont nid ⟨⟨#[]⟩, 0⟩ } : Fs).happens (.create (segName (T + 1)) nid)).1.cont nid = ⟨⟨#[]⟩, 0⟩ := by
    show (({ f with cont := upd f.cont nid ⟨⟨#[]⟩, 0⟩ } : Fs).step.1.cont nid) = _
    rw [(Fs.step_fields _).2.1]
    show upd f.cont nid _ nid = _
    unfold upd
    rw [if_pos rfl]
  have hP : ∀ L, (({ f with cont := upd f.cont nid ⟨⟨#[]⟩, 0⟩ } : Fs).happens (.create (segName (T + 1)) nid)).1.Poss L → f.Poss L ∨ L = mput f.now (segName (T + 1)) nid := fun L hL => Fs.Poss.happens hw2 hL
  refine ⟨⟨h.incr, h.rng, h.one, h.top, ?_, ?_, h.inj, ?_⟩, ?_⟩
  · intro L hL p hp
    rcases hP L hL with hL | rfl
    · exact h.names L hL p hp
    · rcases ids_mput hp with hp | rfl
      · exact h.names _ (Fs.Poss.now hw) p hp
      · exact ⟨T + 1, rfl, by omega, Nat.le_refl _, fun _ h => absurd h (by omega)⟩
  · intro L hL n hn
    rcases hP L hL with hL | rfl
    · exact h.there L hL n hn
    · rw [mget_mput, if_neg (h.seg_ne hn)]
      exact h.there _ (Fs.Poss.now hw) n hn
  · intro L hL id hid
    rcases hP L hL with hL | rfl
    · rw [hcont id (hL.ids (mget_mem hid))]
      exact h.next L hL id hid
    · rw [mget_mput, if_pos rfl] at hid
      cases hid
      rw [hnid]
      exact ⟨fun n hn' e => hn (e ▸ h.idMem hw hn'), .inl rfl⟩
  · show mget (mput f.now (segName (T + 1)) nid) (segName (T + 1)) = some nid
    rw [mget_mput, if_pos rfl]
/-- a name less, none of C -/
theorem DB.delete {f : Fs} {C : List Nat} {B T : Nat} {ids : Nat → Nat} {nx : Option Hd} (hw : f.Wf) (h : DB f C B T ids nx) {s : ByteArray} (hs : ∀ n, n ∈ C → segName n ≠ s) : DB (f.happens (.delete s)).1 C B T ids nx := by
  have hcont : (f.happens (.delete s)).1.cont = f.cont := (Fs.step_fields f).2.1
  have hsub : ∀ p, p ∈ mdel f.now s → p ∈ f.now := fun p hp => (List.mem_filter.1 hp).1
  refine ⟨h.incr, h.rng, h.one, h.top, ?_, ?_, h.inj, ?_⟩
  · intro L hL p hp
    rcases Fs.Poss.happens hw hL with hL | rfl
    · exact h.names L hL p hp
    · exact h.names _ (Fs.Poss.now hw) p (hsub p hp)
  · intro L hL n hn
    rcases Fs.Poss.happens hw hL with hL | rfl
    · exact h.there L hL n hn
    · show mget (mdel f.now s) (segName n) = _
      rw [mget_mdel, if_neg (hs n hn)]
      exact h.there _ (Fs.Poss.now hw) n hn
  · intro L hL id hid
    rw [hcont]
    rcases Fs.Poss.happens hw hL with hL | rfl
    · exact h.next L hL id hid
    · have hid : mget (mdel f.now s) (segName (T + 1)) = some id := hid
      rw [mget_mdel] at hid
      split at hid
      · cases hid
      · exact h.next _ (Fs.Poss.now hw) id hid
/-- bytes into the one that is being begun -/
theorem DB.head {f : Fs} {C : List Nat} {B T id : Nat} {ids : Nat → Nat} (hw : f.Wf) (h : DB f C B T ids none) (hid : mget f.now (segName (T + 1)) = some id) {x : Fl} {hd : Hd} (hh : HeadOk hd.1 hd.2.1 hd.2.2) (hx : x.bytes = headOf hd.1 hd.2.1 hd.2.2) :
    DB ({ f with cont := upd f.cont id x } : Fs) C B T ids (some hd) ∧ (∀ n, n ∈ C → upd f.cont id x (ids n) = f.cont (ids n)) := by
  have h0 := (h.next _ (Fs.Poss.now hw) id hid).1
  refine ⟨⟨h.incr, h.rng, h.one, h.top, h.names, h.there, h.inj, ?_⟩, fun n hn => by unfold upd; rw [if_neg (fun e => h0 n hn e.symm)]⟩
  intro L hL id2 hid2
  have := h.next L hL id2 hid2
  refine ⟨this.1, ?_⟩
  show Nxt (some hd) (upd f.cont id x id2).bytes
  unfold upd
  split
  · right
    exact ⟨_, _, _, rfl, hh, hx⟩
  · rcases this.2 with h | ⟨_, _, _, h, _⟩
    · exact .inl h
    · cases h
/-- the one that was being begun is there -/
theorem DB.promote {f : Fs} {C : List Nat} {B T id : Nat} {ids : Nat → Nat} {nx : Option Hd} (hw : f.Wf) (h : DB f C B T ids nx) (hs : f.since = []) (hid : mget f.now (segName (T + 1)) = some id) (hT : T + 1 < 99999999) (hB : B ≤ T + 1) :
    DB f (C ++ [T + 1]) B (T + 1) (upd ids (T + 1) id) none := by
  have h0 := (h.next _ (Fs.Poss.now hw) id hid).1
  have hP : ∀ L, f.Poss L → L = f.now := fun L hL => by rw [hL.nil hs, (Fs.Poss.now hw).nil hs]
  have hne : ∀ n, n ∈ C → upd ids (T + 1) id n = ids n := fun n hn => by unfold upd; rw [if_neg]; have := h.rng n hn; omega
  have hself : upd ids (T + 1) id (T + 1) = id := by unfold upd; rw [if_pos rfl]
  have hno : mget f.now (segName (T + 1 + 1)) = none := by
    rw [mget_none]
    intro hm
    obtain ⟨p, hp, e⟩ := List.mem_map.1 hm
    obtain ⟨n, h1, h2, h3, _⟩ := h.names _ (Fs.Poss.now hw) p hp
    have := segName_inj (by omega) (by omega) (h1.symm.trans e)
    omega
  refine ⟨?_, ?_, h.one, hT, ?_, ?_, ?_, ?_⟩
  · rw [List.pairwise_append]
    exact ⟨h.incr, by simp, fun a ha b hb => by simp at hb; subst hb; have := h.rng a ha; omega⟩
  · intro n hn
    rcases List.mem_append.1 hn with hn | hn
    · have := h.rng n hn; omega
    · simp at hn; omega
  · intro L hL p hp
    rw [hP L hL] at hp
    obtain ⟨n, h1, h2, h3, h4⟩ := h.names _ (Fs.Poss.now hw) p hp
    refine ⟨n, h1, h2, by omega, fun hb ht => ?_⟩
    by_cases hn : n ≤ T
    · exact List.mem_append_left _ (h4 hb hn)
    · exact List.mem_append_right _ (by simp; omega)
  · intro L hL n hn
    rw [hP L hL]
    rcases List.mem_append.1 hn with hn | hn
    · rw [hne n hn]; exact h.there _ (Fs.Poss.now hw) n hn
    · simp at hn; subst hn; rw [hself]; exact hid
  · intro n hn m hm he
    rcases List.mem_append.1 hn with hn | hn <;> rcases List.mem_append.1 hm with hm | hm
    · rw [hne n hn, hne m hm] at he; exact h.inj n hn m hm he
    · simp at hm; subst hm; rw [hne n hn, hself] at he; exact absurd he.symm (h0 n hn)
    · simp at hn; subst hn; rw [hne m hm, hself] at he; exact absurd he (h0 m hm)
    · simp at hn hm; omega
  · intro L hL id2 hid2
    rw [hP L hL, hno] at hid2; cases hid2
/-- .. and is the first one -/
theorem DB.alone {f : Fs} {C : List Nat} {B T id : Nat} {ids : Nat → Nat} {nx : Option Hd} (hw : f.Wf) (h : DB f C B T ids nx) (hs : f.since = []) (hid : mget f.now (segName (T + 1)) = some id) (hT : T + 1 < 99999999) :
    DB f [T + 1] (T + 1) (T + 1) (fun _ => id) none := by
  have hP : ∀ L, f.Poss L → L = f.now := fun L hL => by rw [hL.nil hs, (Fs.Poss.now hw).nil hs]
  have hno : mget f.now (segName (T + 1 + 1)) = none := by
    rw [mget_none]
    intro hm
    obtain ⟨p, hp, e⟩ := List.mem_map.1 hm
    obtain ⟨n, h1, h2, h3, _⟩ := h.names _ (Fs.Poss.now hw) p hp
    have := segName_inj (by omega) (by omega) (h1.symm.trans e)
    omega
  refine ⟨by simp, fun n hn => by simp at hn; omega, by omega, hT, ?_, ?_, fun n hn m hm _ => by simp at hn hm; omega, ?_⟩
  · intro L hL p hp
    rw [hP L hL] at hp
    obtain ⟨n, h1, h2, h3, h4⟩ := h.names _ (Fs.Poss.now hw) p hp
    exact ⟨n, h1, h2, by omega, fun hb ht => by simp; omega⟩
  · intro L hL n hn
    rw [hP L hL]
    simp at hn; subst hn; exact hid
  · intro L hL id2 hid2
    rw [hP L hL, hno] at hid2; cases hid2

structure Ld where
  num : Nat
  state : ByteArray
  first : Nat
  recs : List ByteArray
/-- a segment behind others -/
def stepL : Option Ld → Option Seg → Option Ld
  | a, none => a
  | a, some g => if g.kept then some ⟨g.number, g.state, g.first, g.recs⟩ else match a with | none => none | some x => if g.first = x.first + x.recs.length then some { x with recs := x.recs ++ g.recs } else some x
def rd (n : Nat) (s : ByteArray) : Option Seg := if (readOf n s).2 then some (readOf n s).1 else none
def foldC (body : Nat → ByteArray) (C : List Nat) (a : Option Ld) : Option Ld := C.foldl (fun a n => stepL a (rd n (body n))) a
def Fs.bodyAt (f : Fs) (n : Nat) : ByteArray := match mget f.now (segName n) with | some id => (f.cont id).bytes | none => ⟨#[]⟩
def Fs.loaded (f : Fs) : Option Ld := foldC f.bodyAt (numsOf f.now) none
theorem foldC_append (body : Nat → ByteArray) (C D : List Nat) (a : Option Ld) : foldC body (C ++ D) a = foldC body D (foldC body C a) := by unfold foldC; rw [List.foldl_append]
theorem foldC_congr {b1 b2 : Nat → ByteArray} {C : List Nat} (h : ∀ n, n ∈ C → b1 n = b2 n) (a : Option Ld) : foldC b1 C a = foldC b2 C a := by
  unfold foldC
  induction C generalizing a with
  | nil => rfl
  | cons n C ih =>
    simp only [List.foldl_cons]
    rw [h n List.mem_cons_self]
    exact ih (fun m hm => h m (List.mem_cons_of_mem _ hm)) _
theorem rd_number {n : Nat} {s : ByteArray} {g : Seg} (h : rd n s = some g) : g.number = n := by
  unfold rd at h
  split at h
  · next hr =>
    cases h
    unfold readOf at hr ⊢
    split
    · next h0 => rw [h0] at hr; cases hr
    · rfl
  · cases h
/-- what was loaded begins at a segment, and depends on nothing ahead of it -/
theorem load_split {body : Nat → ByteArray} : ∀ {ns : List Nat} {ld : Ld}, ns.Pairwise (· < ·) → foldC body ns none = some ld → ld.num ∈ ns ∧ ∀ a, foldC body (ns.filter (fun n => decide (ld.num ≤ n))) a = some ld := by
  intro ns
  generalize hlen : ns.length = m
  induction m generalizing ns with
  | zero =>
    intro ld _ h
    obtain rfl := List.eq_nil_of_length_eq_zero hlen
    cases h
  | succ m ih =>
    intro ld hp h
    obtain ⟨pre, n, rfl⟩ : ∃ pre n, ns = pre ++ [n] := by
      rcases List.eq_nil_or_concat ns with h | ⟨l, b, h⟩
      · subst h; simp at hlen
      · exact ⟨l, b, by simpa using h⟩
    have hl : pre.length = m := by simpa using hlen
    rw [List.pairwise_append] at hp
    obtain ⟨hp1, _, hp3⟩ := hp
    rw [foldC_append] at h
    have hone : ∀ a, foldC body [n] a = stepL a (rd n (body n)) := fun a => rfl
    rw [hone] at h
    rw [List.filter_append]
    cases hr : rd n (body n) with
    | none =>
      rw [hr] at h
      obtain ⟨i1, i2⟩ := ih hl hp1 (show foldC body pre none = some ld from h)
      have hlt := hp3 _ i1 n (by simp)
      refine ⟨List.mem_append_left _ i1, fun a => ?_⟩
      rw [List.filter_cons, if_pos (by simp; omega), List.filter_nil, foldC_append, i2, hone, hr]
      rfl
    | some g =>
      have hnum := rd_number hr
      rw [hr] at h
      by_cases hk : g.kept = true
      · simp only [stepL, hk, if_true] at h
        cases h
        simp only
        refine ⟨List.mem_append_right _ (by simp [hnum]), fun a => ?_⟩
        have hno : pre.filter (fun x => decide (g.number ≤ x)) = [] := by
          rw [List.filter_eq_nil_iff]
          intro x hx
          have := hp3 x hx n (by simp)
          simp; omega
        rw [hno, List.nil_append, List.filter_cons, if_pos (by simp; omega), List.filter_nil, hone, hr]
        simp [stepL, hk]
      · cases hx : foldC body pre none with
        | none => rw [hx] at h; simp [stepL, hk] at h
        | some x =>
          obtain ⟨i1, i2⟩ := ih hl hp1 hx
          rw [hx] at h
          have hxn : ld.num = x.num := by
            simp only [stepL, hk] at h
            simp only [Bool.false_eq_true, if_false] at h
            split at h <;> cases h <;> rfl
          rw [hxn]
          have hlt := hp3 _ i1 n (by simp)
          refine ⟨List.mem_append_left _ i1, fun a => ?_⟩
          rw [List.filter_cons, if_pos (by simp; omega), List.filter_nil, foldC_append, i2, hone, hr]
          exact h
end Go.Proofs.YthogefmngddnbaaGreatDoor
/- What a crash leaves, and how much there is: plain. -/
namespace Go.Proofs.YthogefmngddnbaaGreatDoor

def usedOf (cont : Nat → Fl) (L : Nm) : Nat := (L.map fun p => (cont p.2).bytes.size).sum
theorem used_eq (f : Fs) : f.used = usedOf f.cont f.now := rfl
/-- what a crash leaves -/
structure CrashOf (f f' : Fs) : Prop where
  on : f'.on = true
  arm : f'.armed = false
  since : f'.since = []
  firm : f'.firm = f'.now
  room : f'.room = f.room
  ex : ∃ L, f.Poss L ∧ f'.now.map (·.1) = L.map (·.1) ∧ (f'.now.map (·.2)).Nodup ∧
    ∀ name id, mget L name = some id → ∃ id' k, mget f'.now name = some id' ∧ (f.cont id).synced ≤ k ∧ k ≤ (f.cont id).bytes.size ∧ f'.cont id' = ⟨(f.cont id).bytes.extract 0 k, k⟩

/-- what the second loop of Crash makes, name by name -/
theorem crFold (cont0 : Nat → Fl) : ∀ (ns : List ByteArray) (nids : List Nat) (s : CrSt), ns.length = nids.length → ns.Nodup → nids.Nodup → IntsOk s.ps →
    (∀ n, n ∈ ns → ∃ id, mget s.L n = some id ∧ s.cont id = cont0 id ∧ id ∉ nids ∧ (cont0 id).synced ≤ (cont0 id).bytes.size) →
    (s.fold ns nids).L.map (·.1) = s.L.map (·.1) ∧ (∀ n, n ∉ ns → mget (s.fold ns nids).L n = mget s.L n) ∧ (∀ id, id ∉ nids → (s.fold ns nids).cont id = s.cont id) ∧
    ∀ i (h : i < ns.length) (h2 : i < nids.length), mget (s.fold ns nids).L ns[i] = some nids[i] ∧ ∃ id k, mget s.L ns[i] = some id ∧ (cont0 id).synced ≤ k ∧ k ≤ (cont0 id).bytes.size ∧ (s.fold ns nids).cont nids[i] = ⟨(cont0 id).bytes.extract 0 k, k⟩ ∧ (s.ps = [] → k = (cont0 id).synced) := by
  intro ns
  induction ns with
  | nil =>
    intro nids s _ _ _ _ _
    exact ⟨rfl, fun _ _ => rfl, fun _ _ => rfl, fun i h => absurd h (by simp)⟩
  | cons a ns ih =>
    intro nids s hl hn hi hp hall
    cases nids with
    | nil => simp at hl
    | cons x nids =>
      rw [List.nodup_cons] at hn hi
      obtain ⟨id, g1, g2, g3, g4⟩ := hall a List.mem_cons_self
      have hr := pick_range s.ps (((s.cont id).bytes.size : Int) - (s.cont id).synced) (by rw [g2]; omega) hp
      have hstep : s.step a x = { L := mput s.L a x, cont := upd s.cont x ⟨(s.cont id).bytes.extract 0 ((s.cont id).synced + (pickOf s.ps (((s.cont id).bytes.size : Int) - (s.cont id).synced)).1.toNat), (s.cont id).synced + (pickOf s.ps (((s.cont id).bytes.size : Int) - (s.cont id).synced)).1.toNat⟩, ps := (pickOf s.ps (((s.cont id).bytes.size : Int) - (s.cont id).synced)).2 } := by
        unfold CrSt.step; rw [g1]
      have hL : (s.step a x).L = mput s.L a x := by rw [hstep]
      have hC : ∀ j, j ≠ x → (s.step a x).cont j = s.cont j := fun j hj => by rw [hstep]; show upd s.cont x _ j = _; unfold upd; rw [if_neg hj]
      have hX : (s.step a x).cont x = ⟨(cont0 id).bytes.extract 0 ((cont0 id).synced + (pickOf s.ps (((s.cont id).bytes.size : Int) - (s.cont id).synced)).1.toNat), (cont0 id).synced + (pickOf s.ps (((s.cont id).bytes.size : Int) - (s.cont id).synced)).1.toNat⟩ := by
        rw [hstep]; show upd s.cont x _ x = _; unfold upd; rw [if_pos rfl, g2]
      have hps : IntsOk (s.step a x).ps := by rw [hstep]; exact pick_ok _ hp
      have hkeys : (s.step a x).L.map (·.1) = s.L.map (·.1) := by rw [hL, keys_mput, if_pos (by rw [g1]; rfl)]
      obtain ⟨j1, j2, j3, j4⟩ := ih nids (s.step a x) (by simpa using hl) hn.2 hi.2 hps (fun n hnn => by
        obtain ⟨id2, k1, k2, k3, k4⟩ := hall n (List.mem_cons_of_mem _ hnn)
        have hne : n ≠ a := fun e => hn.1 (e ▸ hnn)
        refine ⟨id2, by rw [hL, mget_mput, if_neg hne]; exact k1, ?_, fun h => k3 (List.mem_cons_of_mem _ h), k4⟩
        rw [hC id2 (fun e => k3 (e ▸ List.mem_cons_self)), k2])
      have hfold : s.fold (a :: ns) (x :: nids) = (s.step a x).fold ns nids := rfl
      rw [hfold]
      refine ⟨j1.trans hkeys, ?_, ?_, ?_⟩
      · intro n hnn
        rw [List.mem_cons, not_or] at hnn
        rw [j2 n hnn.2, hL, mget_mput, if_neg hnn.1]
      · intro i hii
        rw [List.mem_cons, not_or] at hii
        rw [j3 i hii.2, hC i hii.1]
      · intro i h h2
        cases i with
        | zero =>
          simp only [List.getElem_cons_zero]
          refine ⟨by rw [j2 a hn.1, hL, mget_mput, if_pos rfl], id, _, g1, ?_, ?_, by rw [j3 x hi.1]; exact hX, fun hnil => by rw [hnil, next_nil]; exact Nat.add_zero _⟩
          · exact Nat.le_add_right _ _
          · rw [g2] at hr ⊢; omega
        | succ i =>
          simp only [List.getElem_cons_succ]
          obtain ⟨k1, id2, k, k2, k3, k4, k5, k6⟩ := j4 i (by simpa using h) (by simpa using h2)
          refine ⟨k1, id2, k, ?_, k3, k4, k5, fun hnil => k6 (by rw [hstep]; show (pickOf s.ps _).2 = []; rw [hnil, next_nil])⟩
          have hne : ns[i]'(by simpa using h) ≠ a := fun e => hn.1 (e ▸ List.getElem_mem _)
          rw [hL, mget_mput, if_neg hne] at k2
          exact k2
theorem nodup_get {α : Type} {l : List α} (h : l.Nodup) {i j : Nat} (hi : i < l.length) (hj : j < l.length) (e : l[i] = l[j]) : i = j := by
  unfold List.Nodup at h
  rw [List.pairwise_iff_getElem] at h
  rcases Nat.lt_trichotomy i j with k | k | k
  · exact absurd e (h i j hi hj k)
  · exact k
  · exact absurd e.symm (h j i hj hi k)
theorem namesOf_nodup {L : Nm} (hn : (L.map (·.1)).Nodup) : (namesOf L).Nodup := (names_pairwise L hn).imp (fun h => h.2)
theorem crash_of {f : Fs} (hw : f.Wf) {picks : List Int} (hp : IntsOk picks) {nids : List Nat} (h1 : nids.length = (f.crLeft picks).length) (h2 : nids.Nodup) (h3 : ∀ i, i ∈ nids → i ∉ f.ids) : CrashOf f (f.crash picks nids) := by
  have hL : f.Poss (f.crLeft picks) := ⟨f.crMany picks, rfl⟩
  have hnd := hL.nodup hw
  have hall := crFold f.cont (namesOf (f.crLeft picks)) nids (f.crStart picks) (by rw [length_namesOf, h1]) (namesOf_nodup hnd) h2 (pick_ok _ hp) (fun n hn => by
    obtain ⟨id, hid⟩ := Option.isSome_iff_exists.1 (mget_isSome.2 (mem_namesOf.1 hn))
    have hmem := hL.ids (mget_mem hid)
    exact ⟨id, hid, rfl, fun h => h3 _ h hmem, (hw.size _ hmem).2⟩)
  obtain ⟨j1, j2, j3, j4⟩ := hall
  have hidx : ∀ n, n ∈ (f.crLeft picks).map (·.1) → ∃ i, ∃ (h : i < (namesOf (f.crLeft picks)).length), (namesOf (f.crLeft picks))[i] = n := fun n hn => by
    obtain ⟨i, h, e⟩ := List.mem_iff_getElem.1 (mem_namesOf.2 hn); exact ⟨i, h, e⟩
  have hlen : ∀ i, i < (namesOf (f.crLeft picks)).length → i < nids.length := fun i h => by rw [length_namesOf] at h; omega
  refine ⟨rfl, rfl, rfl, rfl, rfl, f.crLeft picks, hL, j1, ?_, ?_⟩
  · have hnd2 : ((f.crEnd picks nids).L.map (·.1)).Nodup := by rw [show (f.crEnd picks nids).L.map (·.1) = _ from j1]; exact hnd
    show ((f.crEnd picks nids).L.map (·.2)).Nodup
    have hnd3 := hnd2
    unfold List.Nodup at hnd2 ⊢
    rw [List.pairwise_map] at hnd2 ⊢
    refine List.Pairwise.imp_of_mem ?_ hnd2
    intro p q hpm hqm hne he
    have gp := mget_of_mem hnd3 hpm
    have gq := mget_of_mem hnd3 hqm
    have kp : p.1 ∈ (f.crLeft picks).map (·.1) := by rw [← show _ = (f.crLeft picks).map (·.1) from j1]; exact List.mem_map.2 ⟨p, hpm, rfl⟩
    have kq : q.1 ∈ (f.crLeft picks).map (·.1) := by rw [← show _ = (f.crLeft picks).map (·.1) from j1]; exact List.mem_map.2 ⟨q, hqm, rfl⟩
    obtain ⟨i, hi, ei⟩ := hidx _ kp
    obtain ⟨j, hj, ej⟩ := hidx _ kq
    have a1 := (j4 i hi (hlen i hi)).1
    have a2 := (j4 j hj (hlen j hj)).1
    rw [ei] at a1; rw [ej] at a2
    rw [show mget ((f.crStart picks).fold (namesOf (f.crLeft picks)) nids).L p.1 = some p.2 from gp] at a1
    rw [show mget ((f.crStart picks).fold (namesOf (f.crLeft picks)) nids).L q.1 = some q.2 from gq] at a2
    have : nids[i]'(hlen i hi) = nids[j]'(hlen j hj) := by
      rw [← Option.some.inj a1, ← Option.some.inj a2]; exact he
    have := nodup_get h2 _ _ this
    subst this
    exact hne (ei.symm.trans ej)
  · intro name id hid
    obtain ⟨i, hi, ei⟩ := hidx name (mget_isSome.1 (by rw [hid]; rfl))
    obtain ⟨a1, id2, k, a2, a3, a4, a5, _⟩ := j4 i hi (hlen i hi)
    rw [ei] at a1 a2
    have : id2 = id := by
      rw [show mget (f.crStart picks).L name = mget (f.crLeft picks) name from rfl, hid] at a2
      exact (Option.some.inj a2).symm
    subst this
    exact ⟨_, k, a1, a3, a4, a5⟩

/-- without picks just what is firm is left -/
theorem crash_nil {f : Fs} (hw : f.Wf) {nids : List Nat} (h1 : nids.length = (f.crLeft []).length) (h2 : nids.Nodup) (h3 : ∀ i, i ∈ nids → i ∉ f.ids) :
    (f.crash [] nids).now.map (·.1) = f.firm.map (·.1) ∧ ∀ name id, mget f.firm name = some id → ∃ id', mget (f.crash [] nids).now name = some id' ∧ (f.crash [] nids).cont id' = ⟨(f.cont id).bytes.extract 0 (f.cont id).synced, (f.cont id).synced⟩ := by
  have hLE : f.crLeft [] = f.firm := rfl
  have hL : f.Poss f.firm := ⟨0, rfl⟩
  have hnd := hL.nodup hw
  have hall := crFold f.cont (namesOf (f.crLeft [])) nids (f.crStart []) (by rw [length_namesOf, h1]) (namesOf_nodup hnd) h2 (fun p hp => by cases hp) (fun n hn => by
    obtain ⟨id, hid⟩ := Option.isSome_iff_exists.1 (mget_isSome.2 (mem_namesOf.1 hn))
    have hmem := hL.ids (mget_mem hid)
    exact ⟨id, hid, rfl, fun h => h3 _ h hmem, (hw.size _ hmem).2⟩)
  obtain ⟨j1, j2, j3, j4⟩ := hall
  refine ⟨j1, fun name id hid => ?_⟩
  obtain ⟨i, hi, ei⟩ := List.mem_iff_getElem.1 (mem_namesOf.2 (mget_isSome.1 (by rw [hLE, hid]; rfl : (mget (f.crLeft []) name).isSome = true)))
  have hi2 : i < nids.length := by rw [length_namesOf] at hi; omega
  obtain ⟨a1, id2, k, a2, a3, a4, a5, a6⟩ := j4 i hi hi2
  rw [ei] at a1 a2
  have : id2 = id := by
    rw [show mget (f.crStart []).L name = mget f.firm name from rfl, hid] at a2
    exact (Option.some.inj a2).symm
  subst this
  have := a6 rfl
  subst this
  exact ⟨_, a1, a5⟩
theorem sum_map_le {α : Type} (l : List α) (g h : α → Nat) (hh : ∀ a, a ∈ l → g a ≤ h a) : (l.map g).sum ≤ (l.map h).sum := by
  induction l with
  | nil => exact Nat.le_refl _
  | cons a l ih =>
    simp only [List.map_cons, List.sum_cons]
    have := hh a List.mem_cons_self
    have := ih (fun b hb => hh b (List.mem_cons_of_mem _ hb))
    omega
def sizeAt (cont : Nat → Fl) (L : Nm) (k : ByteArray) : Nat := match mget L k with | some id => (cont id).bytes.size | none => 0
theorem usedOf_keys (cont : Nat → Fl) {L : Nm} (hn : (L.map (·.1)).Nodup) : usedOf cont L = ((L.map (·.1)).map (sizeAt cont L)).sum := by
  unfold usedOf
  rw [List.map_map]
  congr 1
  apply List.map_congr_left
  intro p hp
  simp only [Function.comp, sizeAt]
  rw [mget_of_mem hn hp]
theorem CrashOf.used {f f' : Fs} (hw : f.Wf) (h : CrashOf f f') {S : Nat} (hS : ∀ L, f.Poss L → usedOf f.cont L ≤ S) : usedOf f'.cont f'.now ≤ S := by
  obtain ⟨L, hL, hk, _, hx⟩ := h.ex
  refine Nat.le_trans ?_ (hS L hL)
  have hn := hL.nodup hw
  rw [usedOf_keys _ (by rw [hk]; exact hn), usedOf_keys _ hn, hk]
  apply sum_map_le
  intro k hkm
  obtain ⟨id, hid⟩ := Option.isSome_iff_exists.1 (mget_isSome.2 hkm)
  obtain ⟨id', j, h1, h2, h3, h4⟩ := hx k id hid
  unfold sizeAt
  rw [hid, h1]
  simp only
  rw [h4]
  simp only [ByteArray.size_extract]
  omega

/-- how much there is, and how many -/
structure Bud (f : Fs) (c S d : Nat) : Prop where
  uni : ∀ L, f.Poss L → (L.map (·.2)).Nodup
  tot : ∀ L, f.Poss L → usedOf f.cont L ≤ S
  num : ∀ L, f.Poss L → ∀ n, 1 ≤ n → n ≤ 99999999 → segName n ∈ L.map (·.1) → n ≤ c
  len : f.since.length ≤ d
theorem Bud.mono {f : Fs} {c S d c' S' d' : Nat} (h : Bud f c S d) (h1 : c ≤ c') (h2 : S ≤ S') (h3 : d ≤ d') : Bud f c' S' d' :=
  ⟨h.uni, fun L hL => Nat.le_trans (h.tot L hL) h2, fun L hL n a b hm => Nat.le_trans (h.num L hL n a b hm) h1, Nat.le_trans h.len h3⟩
theorem Bud.weaken {f f' : Fs} {c S d d' : Nat} (h : Bud f c S d) (hP : ∀ L, f'.Poss L → f.Poss L) (hc : ∀ id, (f'.cont id).bytes = (f.cont id).bytes) (hd : f'.since.length ≤ d') : Bud f' c S d' where
  uni := fun L hL => h.uni L (hP L hL)
  tot := fun L hL => by
    have := h.tot L (hP L hL)
    unfold usedOf at this ⊢
    simp only [hc]; exact this
  num := fun L hL => h.num L (hP L hL)
  len := hd
theorem usedOf_congr {c1 c2 : Nat → Fl} {L : Nm} (h : ∀ p, p ∈ L → (c1 p.2).bytes.size = (c2 p.2).bytes.size) : usedOf c1 L = usedOf c2 L := by
  unfold usedOf
  congr 1
  apply List.map_congr_left
  exact h
theorem mput_new {L : Nm} {k : ByteArray} {v : Nat} (h : mget L k = none) : mput L k v = L ++ [(k, v)] := by unfold mput; rw [h]; rfl
theorem Bud.create {f : Fs} {c S d nid n : Nat} (hw : f.Wf) (h : Bud f c S d) (hn : nid ∉ f.ids) (h1 : 1 ≤ n) (hk : mget f.now (segName n) = none) (h2 : n ≤ c + 1) (h3 : n ≤ 99999999) :
    Bud (({ f with cont := upd f.cont nid ⟨⟨#[]⟩, 0⟩ } : Fs).happens (.create (segName n) nid)).1 (c + 1) S (d + 1) := by
  have hw2 : ({ f with cont := upd f.cont nid ⟨⟨#[]⟩, 0⟩ } : Fs).Wf := hw.cont nid _ ⟨Nat.zero_le _, Nat.le_refl _⟩
  have hcont : (({ f with cont := upd f.cont nid ⟨⟨#[]⟩, 0⟩ } : Fs).happens (.create (segName n) nid)).1.cont = upd f.cont nid ⟨⟨#[]⟩, 0⟩ := (Fs.step_fields _).2.1
  have hP : ∀ L, (({ f with cont := upd f.cont nid ⟨⟨#[]⟩, 0⟩ } : Fs).happens (.create (segName n) nid)).1.Poss L → f.Poss L ∨ L = f.now ++ [(segName n, nid)] := fun L hL => by
    rw [← mput_new hk]; exact Fs.Poss.happens hw2 hL
  have hold : ∀ L, f.Poss L → usedOf (upd f.cont nid ⟨⟨#[]⟩, 0⟩) L = usedOf f.cont L := fun L hL => usedOf_congr (fun p hp => by unfold upd; rw [if_neg (fun e : p.2 = nid => hn (e ▸ hL.ids hp))])
  have hnow := Fs.Poss.now hw
  refine ⟨?_, ?_, ?_, ?_⟩
  · intro L hL
    rcases hP L hL with hL | rfl
    · exact h.uni L hL
    · rw [List.map_append, List.nodup_append]
      refine ⟨h.uni _ hnow, by simp, fun a ha b hb e => ?_⟩
      obtain ⟨p, hp, rfl⟩ := List.mem_map.1 ha
      simp at hb
      exact hn (hb ▸ e ▸ hnow.ids hp)
  · intro L hL
    rw [hcont]
    rcases hP L hL with hL | rfl
    · rw [hold L hL]; exact h.tot L hL
    · have := h.tot _ hnow
      have h0 := hold _ hnow
      unfold usedOf at this h0 ⊢
      rw [List.map_append, List.sum_append, h0]
      simp only [List.map_cons, List.map_nil, List.sum_cons, List.sum_nil]
      unfold upd
      rw [if_pos rfl]
      show _ + (0 + 0) ≤ S
      omega
  · intro L hL m h4 h5 hm
    rcases hP L hL with hL | rfl
    · have := h.num L hL m h4 h5 hm; omega
    · rw [List.map_append, List.mem_append] at hm
      rcases hm with hm | hm
      · have := h.num _ hnow m h4 h5 hm; omega
      · simp at hm
        have := segName_inj h5 h3 hm
        omega
  · show (f.since ++ [_]).length ≤ _
    have := h.len
    simp; omega
theorem Bud.delete {f : Fs} {c S d : Nat} (hw : f.Wf) (h : Bud f c S d) (s : ByteArray) : Bud (f.happens (.delete s)).1 c S (d + 1) := by
  have hcont : (f.happens (.delete s)).1.cont = f.cont := (Fs.step_fields f).2.1
  have hnow := Fs.Poss.now hw
  refine ⟨?_, ?_, ?_, ?_⟩
  · intro L hL
    rcases Fs.Poss.happens hw hL with hL | rfl
    · exact h.uni L hL
    · exact (h.uni _ hnow).sublist (List.Sublist.map _ List.filter_sublist)
  · intro L hL
    rw [hcont]
    rcases Fs.Poss.happens hw hL with hL | rfl
    · exact h.tot L hL
    · refine Nat.le_trans ?_ (h.tot _ hnow)
      show usedOf f.cont (mdel f.now s) ≤ _
      unfold usedOf mdel
      clear hnow
      induction f.now with
      | nil => exact Nat.le_refl _
      | cons p L ih =>
        rw [List.filter_cons]
        split
        · simp only [List.map_cons, List.sum_cons]; omega
        · simp only [List.map_cons, List.sum_cons]; omega
  · intro L hL n h1 h2 hm
    rcases Fs.Poss.happens hw hL with hL | rfl
    · exact h.num L hL n h1 h2 hm
    · refine h.num _ hnow n h1 h2 ?_
      obtain ⟨p, hp, e⟩ := List.mem_map.1 hm
      exact List.mem_map.2 ⟨p, (List.mem_filter.1 hp).1, e⟩
  · show (f.since ++ [_]).length ≤ _
    have := h.len
    simp; omega
/-- bytes more in one file -/
theorem Bud.cont {f : Fs} {c S d id m : Nat} {x : Fl} (h : Bud f c S d) (hx : x.bytes.size = (f.cont id).bytes.size + m) : Bud ({ f with cont := upd f.cont id x } : Fs) c (S + m) d where
  uni := h.uni
  tot := fun L hL => by
    have h1 := h.tot L hL
    have h2 := h.uni L hL
    show usedOf (upd f.cont id x) L ≤ S + m
    have : usedOf (upd f.cont id x) L ≤ usedOf f.cont L + m := by
      clear hL h1
      induction L with
      | nil => exact Nat.zero_le _
      | cons p L ih =>
        rw [List.map_cons, List.nodup_cons] at h2
        by_cases hp : p.2 = id
        · have hrest : usedOf (upd f.cont id x) L = usedOf f.cont L := usedOf_congr (fun q hq => by
            unfold upd
            rw [if_neg (fun e => h2.1 (List.mem_map.2 ⟨q, hq, by rw [hp]; exact e⟩))])
          unfold usedOf at hrest ⊢
          simp only [List.map_cons, List.sum_cons]
          rw [hrest, hp]
          unfold upd
          rw [if_pos rfl, hx]
          omega
        · have := ih h2.2
          unfold usedOf at this ⊢
          simp only [List.map_cons, List.sum_cons]
          have e : upd f.cont id x p.2 = f.cont p.2 := by unfold upd; rw [if_neg hp]
          rw [e]
          omega
    omega
  num := h.num
  len := h.len
theorem CrashOf.poss {f f' : Fs} (h : CrashOf f f') {L : Nm} (hL : f'.Poss L) : L = f'.now := by rw [hL.nil h.since, h.firm]
theorem CrashOf.bud {f f' : Fs} {c S d : Nat} (hw : f.Wf) (h : CrashOf f f') (hb : Bud f c S d) : Bud f' c S 0 where
  uni := fun L hL => by rw [h.poss hL]; obtain ⟨_, _, _, h, _⟩ := h.ex; exact h
  tot := fun L hL => by rw [h.poss hL]; exact h.used hw hb.tot
  num := fun L hL n h1 h2 hm => by
    rw [h.poss hL] at hm
    obtain ⟨L0, hL0, hk, _⟩ := h.ex
    rw [hk] at hm
    exact hb.num L0 hL0 n h1 h2 hm
  len := by rw [h.since]; exact Nat.le_refl _

/-- the segments behind a crash: those that are sure, with what is left of them; ahead of them older ones, behind them one at most -/
theorem crash_base {f f' : Fs} {C : List Nat} {B T : Nat} {ids : Nat → Nat} {nx : Option Hd} (hw : f.Wf) (hw' : f'.Wf) (h : DB f C B T ids nx) (hc : CrashOf f f') :
    ∃ pre post, numsOf f'.now = pre ++ (C ++ post) ∧ (post = [] ∨ post = [T + 1] ∧ ∃ id k, k ≤ (f.cont id).bytes.size ∧ toL (f'.bodyAt (T + 1)) = (toL (f.cont id).bytes).take k ∧ Nxt nx (f.cont id).bytes) ∧
      ∀ n, n ∈ C → ∃ k, (f.cont (ids n)).synced ≤ k ∧ k ≤ (f.cont (ids n)).bytes.size ∧ toL (f'.bodyAt n) = (toL (f.cont (ids n)).bytes).take k := by
  obtain ⟨L, hL, hk, hnd, hx⟩ := hc.ex
  have hbody : ∀ n id, mget L (segName n) = some id → ∃ k, (f.cont id).synced ≤ k ∧ k ≤ (f.cont id).bytes.size ∧ toL (f'.bodyAt n) = (toL (f.cont id).bytes).take k := by
    intro n id hid
    obtain ⟨id', k, h1, h2, h3, h4⟩ := hx _ id hid
    refine ⟨k, h2, h3, ?_⟩
    unfold Fs.bodyAt
    rw [h1]
    simp only
    rw [h4]
    simp only [toL_extract, List.drop_zero, Nat.sub_zero]
  have hmem : ∀ n, n ∈ numsOf f'.now ↔ 1 ≤ n ∧ n ≤ 99999999 ∧ segName n ∈ L.map (·.1) := fun n => by rw [mem_numsOf, hk]
  have hincr := nums_incr f'.now hw'.nodup
  have hin : ∀ n, n ∈ C → n ∈ numsOf f'.now := fun n hn => by
    have := h.num hn
    exact (hmem n).2 ⟨this.1, this.2, mget_isSome.1 (by rw [h.there L hL n hn]; rfl)⟩
  have hcase : ∀ n, n ∈ numsOf f'.now → n ≤ T + 1 ∧ (B ≤ n → n ≤ T → n ∈ C) := fun n hn => by
    obtain ⟨h1, h2, h3⟩ := (hmem n).1 hn
    obtain ⟨p, hp, e⟩ := List.mem_map.1 h3
    obtain ⟨m, k1, k2, k3, k4⟩ := h.names L hL p hp
    have hT := h.top
    have : n = m := segName_inj h2 (by omega) (e.symm.trans k1)
    subst this
    exact ⟨k3, k4⟩
  have hsplit : numsOf f'.now = (numsOf f'.now).filter (fun n => decide (n < B ∧ n ≤ T)) ++ (C ++ (if T + 1 ∈ numsOf f'.now then [T + 1] else [])) := by
    refine incr_ext hincr ?_ ?_
    · rw [List.pairwise_append]
      refine ⟨hincr.filter _, ?_, ?_⟩
      · rw [List.pairwise_append]
        refine ⟨h.incr, by split <;> simp, fun a ha b hb => ?_⟩
        split at hb
        · simp at hb; have := h.rng a ha; omega
        · cases hb
      · intro a ha b hb
        have ha2 := (List.mem_filter.1 ha).2
        simp at ha2
        rcases List.mem_append.1 hb with hb | hb
        · have := h.rng b hb; omega
        · split at hb
          · simp at hb; omega
          · cases hb
    · intro n
      constructor
      · intro hn
        obtain ⟨h1, h2⟩ := hcase n hn
        by_cases hT : n = T + 1
        · subst hT
          rw [if_pos hn]; simp
        · by_cases hB : n < B
          · exact List.mem_append_left _ (List.mem_filter.2 ⟨hn, by simp; omega⟩)
          · exact List.mem_append_right _ (List.mem_append_left _ (h2 (by omega) (by omega)))
      · intro hn
        rcases List.mem_append.1 hn with hn | hn
        · exact (List.mem_filter.1 hn).1
        · rcases List.mem_append.1 hn with hn | hn
          · exact hin n hn
          · split at hn
            · simp at hn; subst hn; assumption
            · cases hn
  refine ⟨_, _, hsplit, ?_, fun n hn => hbody n _ (h.there L hL n hn)⟩
  by_cases hT : T + 1 ∈ numsOf f'.now
  · rw [if_pos hT]
    right
    refine ⟨rfl, ?_⟩
    obtain ⟨_, _, h3⟩ := (hmem _).1 hT
    obtain ⟨id, hid⟩ := Option.isSome_iff_exists.1 (mget_isSome.2 h3)
    obtain ⟨k, k1, k2, k3⟩ := hbody _ id hid
    exact ⟨id, k, k2, k3, (h.next L hL id hid).2⟩
  · rw [if_neg hT]; exact .inl rfl
/-- the one behind: it is none, or has no records -/
theorem torn_rd {nx : Option Hd} {s t : ByteArray} {k n : Nat} (h : Nxt nx s) (ht : toL t = (toL s).take k) : rd n t = none ∨ ∃ fi kp st, nx = some (fi, kp, st) ∧ rd n t = some ⟨n, fi, kp, st, []⟩ := by
  rcases h with h | ⟨fi, kp, st, h1, h2, rfl⟩
  · left
    rw [h, List.take_nil] at ht
    have : t = ⟨#[]⟩ := toL_inj ht
    subst this
    unfold rd
    rw [if_neg]
    rw [readOf_empty (scanOf_frames (bs := []) (fun b hb => by cases hb) rfl)]
    decide
  · rcases read_head (num := n) h2 ht with h | h
    · left; unfold rd; rw [h]; rfl
    · right; exact ⟨fi, kp, st, h1, by unfold rd; rw [h]; rfl⟩
theorem step_empty {x : Ld} {n fi : Nat} {st : ByteArray} : stepL (some x) (some ⟨n, fi, false, st, []⟩) = some x := by
  unfold stepL
  simp
end Go.Proofs.YthogefmngddnbaaGreatDoor
/- Wal.begin and drop, plain. -/
namespace Go.Proofs.YthogefmngddnbaaGreatDoor

theorem digK_ok (k : Nat) : ∀ n, (digK k n).all okByte = true := by
  induction k with
  | zero => intro n; rfl
  | succ k ih =>
    intro n
    simp only [digK, List.all_append, ih, Bool.true_and, List.all_cons, List.all_nil, Bool.and_true]
    rw [okByte_iff]
    have : (UInt8.ofNat (48 + n % 10)).toNat = 48 + n % 10 := by rw [UInt8.toNat_ofNat']; omega
    rw [this]
    omega
theorem okName_seg {n : Nat} (h : n ≤ 99999999) : okName (segName n) = true := by
  unfold okName
  have h1 : (segName n).data.toList = segL n := rfl
  have h2 := segName_size h
  rw [h1, h2]
  unfold segL
  simp only [List.all_cons, digs_eq h, digK_ok]
  rw [show okByte 119 = true from by decide, show okByte 46 = true from by decide]
  rfl
theorem seg_size {n : Nat} (h : n ≤ 99999999) : (segName n).size ≤ maxLen := by rw [segName_size h]; decide
theorem seg_ne {n : Nat} : segName n ≠ ⟨#[]⟩ := fun h => by
  have := congrArg toL h
  cases this

theorem step_facts (f : Fs) : (f.step.2 = 0 ∧ f.step.1.on = f.on) ∨ (f.step.2 = 14 ∧ f.step.1.on = false ∧ f.armed = true) := by
  unfold Fs.step
  by_cases h : f.armed = true
  · rw [if_pos h]
    by_cases h2 : 0 < f.steps
    · rw [if_pos h2]; exact .inl ⟨rfl, rfl⟩
    · rw [if_neg h2]; exact .inr ⟨rfl, rfl, h⟩
  · rw [if_neg h]; exact .inl ⟨rfl, rfl⟩
theorem ready1_on {f : Fs} {name : ByteArray} (h : f.on = true) (hn : okName name = true) : f.ready1 name = 0 := by unfold Fs.ready1; rw [h, hn]; rfl
theorem ready1_off {f : Fs} {name : ByteArray} (h : f.on = false) : f.ready1 name = 14 := by unfold Fs.ready1; rw [h]; rfl
theorem delete_off {f : Fs} {name : ByteArray} (h : f.on = false) : f.delete name = (f, 14) := by
  unfold Fs.delete; rw [get_bad (by rw [ready1_off h]; decide), ready1_off h]
theorem append_off {f : Fs} {name s : ByteArray} (h : f.on = false) : f.append name s = (f, 14) := by
  unfold Fs.append; rw [get_bad (by rw [ready1_off h]; decide), ready1_off h]
theorem sync_off {f : Fs} {name : ByteArray} (h : f.on = false) : f.sync name = (f, 14) := by
  unfold Fs.sync; rw [get_bad (by rw [ready1_off h]; decide), ready1_off h]
theorem create_off {f : Fs} {name : ByteArray} {nid : Nat} (h : f.on = false) : f.create nid name = (f, 14) := by
  unfold Fs.create; rw [if_pos (by rw [ready1_off h]; decide), ready1_off h]
theorem syncDir_off {f : Fs} (h : f.on = false) : f.syncDir = (f, 14) := by
  unfold Fs.syncDir; rw [h]; rfl
/-- e is a step's: it went, or the power did -/
def Went (f f' : Fs) (e : Int) : Prop := f'.armed = f.armed ∧ f'.room = f.room ∧ ((e = 0 ∧ f'.on = true) ∨ (e = 14 ∧ f'.on = false ∧ f.armed = true))
theorem went {f f' : Fs} (hon : f.on = true) (h1 : f'.armed = f.step.1.armed) (h2 : f'.room = f.step.1.room) (h3 : f'.on = f.step.1.on) : Went f f' f.step.2 := by
  have hs := Fs.step_fields f
  refine ⟨h1.trans hs.2.2.2.2.2, h2.trans hs.2.2.1, ?_⟩
  rw [h3]
  rcases step_facts f with ⟨h, k⟩ | ⟨h, k, l⟩
  · exact .inl ⟨h, k.trans hon⟩
  · exact .inr ⟨h, k, l⟩
theorem create_cases {f : Fs} {name : ByteArray} {nid : Nat} (hon : f.on = true) (hn : okName name = true) (hk : mget f.now name = none) :
    (f.create nid name = (f, 15) ∧ 64 ≤ f.now.length) ∨
    ∃ e, f.now.length < 64 ∧ f.create nid name = ((({ f with cont := upd f.cont nid ⟨⟨#[]⟩, 0⟩ } : Fs).happens (.create name nid)).1, e) ∧ Went f (({ f with cont := upd f.cont nid ⟨⟨#[]⟩, 0⟩ } : Fs).happens (.create name nid)).1 e := by
  have hr := ready1_on hon hn
  have hm : (mget f.now name).isSome = false := by rw [hk]; rfl
  by_cases hl : 64 ≤ f.now.length
  · exact .inl ⟨create_full nid hr hm hl, hl⟩
  · refine .inr ⟨_, by omega, create_new nid hr hm hl, ?_⟩
    exact went (f := ({ f with cont := upd f.cont nid ⟨⟨#[]⟩, 0⟩ } : Fs)) hon rfl rfl rfl
theorem append_cases {f : Fs} {name s : ByteArray} {id : Nat} (hon : f.on = true) (hn : okName name = true) (hid : mget f.now name = some id) :
    (f.append name s = (f, 15) ∧ f.room < (f.used : Int) + s.size) ∨
    ∃ e, (f.used : Int) + s.size ≤ f.room ∧ f.append name s = ({ f.step.1 with cont := upd f.cont id ⟨(f.cont id).bytes ++ s, (f.cont id).synced⟩ }, e) ∧ Went f ({ f.step.1 with cont := upd f.cont id ⟨(f.cont id).bytes ++ s, (f.cont id).synced⟩ } : Fs) e := by
  have hg := get_some (ready1_on hon hn) hid
  by_cases hl : f.room < (f.used : Int) + s.size
  · exact .inl ⟨by unfold Fs.append; rw [hg]; simp only; rw [if_pos hl], hl⟩
  · exact .inr ⟨_, by omega, by unfold Fs.append; rw [hg]; simp only; rw [if_neg hl], went hon rfl rfl rfl⟩
theorem sync_cases {f : Fs} {name : ByteArray} {id : Nat} (hon : f.on = true) (hn : okName name = true) (hid : mget f.now name = some id) :
    (f.sync name = ({ f.step.1 with cont := upd f.cont id ⟨(f.cont id).bytes, (f.cont id).bytes.size⟩ }, 0) ∧ Went f ({ f.step.1 with cont := upd f.cont id ⟨(f.cont id).bytes, (f.cont id).bytes.size⟩ } : Fs) 0) ∨
    (f.sync name = (f.step.1, 14) ∧ Went f f.step.1 14) := by
  have hg := get_some (ready1_on hon hn) hid
  have hw : Went f f.step.1 f.step.2 := went hon rfl rfl rfl
  rcases step_facts f with ⟨h, k⟩ | ⟨h, k, l⟩
  · rw [h] at hw
    exact .inl ⟨by unfold Fs.sync; rw [hg]; simp only; rw [if_pos h], hw⟩
  · rw [h] at hw
    refine .inr ⟨?_, hw⟩
    unfold Fs.sync; rw [hg]; simp only; rw [if_neg (by rw [h]; decide), ← h]
theorem syncDir_cases {f : Fs} (hon : f.on = true) :
    (f.syncDir = ({ f.step.1 with firm := f.now, since := [] }, 0) ∧ Went f ({ f.step.1 with firm := f.now, since := [] } : Fs) 0) ∨ (f.syncDir = (f.step.1, 14) ∧ Went f f.step.1 14) := by
  have hw : Went f f.step.1 f.step.2 := went hon rfl rfl rfl
  rcases step_facts f with ⟨h, k⟩ | ⟨h, k, l⟩
  · rw [h] at hw
    exact .inl ⟨by unfold Fs.syncDir; rw [hon, h]; rfl, hw⟩
  · rw [h] at hw
    refine .inr ⟨?_, hw⟩
    unfold Fs.syncDir; rw [hon, if_pos rfl, if_neg (by rw [h]; decide), ← h]
theorem delete_cases {f : Fs} {name : ByteArray} {id : Nat} (hon : f.on = true) (hn : okName name = true) (hid : mget f.now name = some id) :
    ∃ e, f.delete name = ((f.happens (.delete name)).1, e) ∧ Went f (f.happens (.delete name)).1 e := by
  have hg := get_some (ready1_on hon hn) hid
  exact ⟨_, by unfold Fs.delete; rw [hg]; rfl, went hon rfl rfl rfl⟩
theorem delete_none {f : Fs} {name : ByteArray} (hon : f.on = true) (hn : okName name = true) (hid : mget f.now name = none) : f.delete name = (f, 12) := by
  unfold Fs.delete; rw [get_none (ready1_on hon hn) hid]

theorem seen_zero (l : Wl) : l.seen 0 = l := by unfold Wl.seen; simp
theorem seen_15 (l : Wl) : l.seen 15 = l := by unfold Wl.seen; simp
theorem seen_14 (l : Wl) : l.seen 14 = { l with broken := true } := by unfold Wl.seen; simp
/-- the steps of begin -/
def stepsW (name : ByteArray) : List (Fs → Fs × Int) → Fs → Wl → Fs × Wl × Int
  | [], f, l => (f, { l with now := name }, 0)
  | s :: ss, f, l => if (s f).2 = 0 then stepsW name ss (s f).1 (l.seen 0) else (((s f).1.delete name).1, l.seen (s f).2, (s f).2)
theorem stepsW_ok {name : ByteArray} {s : Fs → Fs × Int} {ss : List (Fs → Fs × Int)} {f f' : Fs} {l : Wl} (h : s f = (f', 0)) : stepsW name (s :: ss) f l = stepsW name ss f' l := by simp [stepsW, h, seen_zero]
theorem stepsW_bad {name : ByteArray} {s : Fs → Fs × Int} {ss : List (Fs → Fs × Int)} {f f' : Fs} {l : Wl} {e : Int} (h : s f = (f', e)) (he : e ≠ 0) : stepsW name (s :: ss) f l = ((f'.delete name).1, l.seen e, e) := by simp [stepsW, h, he]
def stepList (name head : ByteArray) (nid : Nat) : List (Fs → Fs × Int) := [fun f => f.create nid name, fun f => f.append name head, fun f => f.sync name, fun f => f.syncDir]
/-- wal.begin -/
def beginW (f : Fs) (l : Wl) (nid first : Nat) (kept : Bool) (state : ByteArray) : Fs × Wl × Int :=
  if segI ((topOf f.segs : Nat) + 1 : Int) = ⟨#[]⟩ then (f, l, 11) else stepsW (segI ((topOf f.segs : Nat) + 1 : Int)) (stepList (segI ((topOf f.segs : Nat) + 1 : Int)) (headOf first kept state) nid) f l

/-- a new segment is there -/
structure BgOk (f r : Fs) (C : List Nat) (B T : Nat) (ids : Nat → Nat) (hd : Hd) (c S nid : Nat) : Prop where
  on : r.on = true
  wf : r.Wf
  since : r.since = []
  firm : r.firm = r.now
  now : r.now = f.now ++ [(segName (T + 1), nid)]
  file : r.cont nid = ⟨headOf hd.1 hd.2.1 hd.2.2, (headOf hd.1 hd.2.1 hd.2.2).size⟩
  cont : ∀ id, id ≠ nid → r.cont id = f.cont id
  db : DB r C B T ids (some hd)
  bud : Bud r (c + 1) (S + (headOf hd.1 hd.2.1 hd.2.2).size) 0
  armed : r.armed = f.armed
  room : r.room = f.room
/-- there was no room -/
structure BgFull (f r : Fs) (C : List Nat) (B T : Nat) (ids : Nat → Nat) (hd : Hd) (c S d nid : Nat) : Prop where
  wf : r.Wf
  firm : r.firm = f.firm
  now : r.now = f.now
  cont : ∀ id, id ≠ nid → r.cont id = f.cont id
  db : DB r C B T ids none
  bud : Bud r (c + 1) S (d + 2)
  armed : r.armed = f.armed
  room : r.room = f.room
  why : 64 ≤ f.now.length ∨ f.room < (f.used : Int) + (headOf hd.1 hd.2.1 hd.2.2).size
  pow : r.on = true ∨ f.armed = true
/-- the power went -/
structure BgOff (f r : Fs) (C : List Nat) (B T : Nat) (ids : Nat → Nat) (hd : Hd) (c S d nid : Nat) : Prop where
  off : r.on = false
  wf : r.Wf
  cont : ∀ id, id ≠ nid → r.cont id = f.cont id
  db : DB r C B T ids (some hd)
  bud : Bud r (c + 1) (S + (headOf hd.1 hd.2.1 hd.2.2).size) (d + 2)
  armed : f.armed = true
theorem DB.some {f : Fs} {C : List Nat} {B T : Nat} {ids : Nat → Nat} (hd : Hd) (h : DB f C B T ids none) : DB f C B T ids (some hd) :=
  ⟨h.incr, h.rng, h.one, h.top, h.names, h.there, h.inj, fun L hL id hid => ⟨(h.next L hL id hid).1, by
    rcases (h.next L hL id hid).2 with h | ⟨_, _, _, h, _⟩
    · exact .inl h
    · cases h⟩⟩
theorem mdel_new {L : Nm} {k : ByteArray} {v : Nat} (h : mget L k = none) : mdel (L ++ [(k, v)]) k = L := by
  unfold mdel
  rw [List.filter_append]
  have h1 : L.filter (fun p => decide (p.1 ≠ k)) = L := by
    rw [List.filter_eq_self]
    intro p hp
    simp only [decide_eq_true_eq]
    intro e
    exact mget_none.1 h (List.mem_map.2 ⟨p, hp, e⟩)
  rw [h1]
  simp
theorem used_new {f : Fs} {name : ByteArray} {nid : Nat} (hn : nid ∉ f.ids) : usedOf (upd f.cont nid ⟨⟨#[]⟩, 0⟩) (f.now ++ [(name, nid)]) = f.used := by
  rw [used_eq]
  unfold usedOf
  rw [List.map_append, List.sum_append]
  have : (f.now.map fun p => (upd f.cont nid ⟨⟨#[]⟩, 0⟩ p.2).bytes.size) = f.now.map fun p => (f.cont p.2).bytes.size := by
    apply List.map_congr_left
    intro p hp
    have : p.2 ≠ nid := fun e => hn (by rw [← e]; unfold Fs.ids; simp only [List.mem_append, List.mem_map]; exact .inl (.inl ⟨p, hp, rfl⟩))
    unfold upd; rw [if_neg this]
  rw [this]
  unfold upd
  simp only [if_true, List.map_cons, List.map_nil, List.sum_cons, List.sum_nil]
  rfl

set_option maxHeartbeats 1000000 in
theorem begin_plain {f : Fs} {l : Wl} {nid first : Nat} {kept : Bool} {state : ByteArray} {C : List Nat} {B T : Nat} {ids : Nat → Nat} {c S d : Nat} (hw : f.Wf) (hn : nid ∉ f.ids) (h : DB f C B T ids none)
    (htop : topOf f.segs = T) (hno : mget f.now (segName (T + 1)) = none) (hon : f.on = true) (hh : HeadOk first kept state) (hb : Bud f c S d) (hc : T ≤ c) :
    ((beginW f l nid first kept state).2 = ({ l with now := segName (T + 1) }, 0) ∧ BgOk f (beginW f l nid first kept state).1 C B T ids (first, kept, state) c S nid) ∨
    ((beginW f l nid first kept state).2 = (l, 15) ∧ BgFull f (beginW f l nid first kept state).1 C B T ids (first, kept, state) c S d nid) ∨
    ((beginW f l nid first kept state).2 = ({ l with broken := true }, 14) ∧ BgOff f (beginW f l nid first kept state).1 C B T ids (first, kept, state) c S d nid) := by
  have hT := h.top
  have hname : segI ((T : Nat) + 1 : Int) = segName (T + 1) := segI_of (n := T + 1) (by omega) (by omega)
  have hok := okName_seg (n := T + 1) (by omega)
  have hbw : beginW f l nid first kept state = stepsW (segName (T + 1)) (stepList (segName (T + 1)) (headOf first kept state) nid) f l := by unfold beginW; rw [htop, hname, if_neg seg_ne]
  rw [hbw]
  clear hbw
  generalize hhd : headOf first kept state = head
  have hhd' : headOf (first, kept, state).1 (first, kept, state).2.1 (first, kept, state).2.2 = head := hhd
  generalize hr : stepsW (segName (T + 1)) (stepList (segName (T + 1)) head nid) f l = r
  unfold stepList at hr
  rcases create_cases (nid := nid) hon hok hno with ⟨hcr, hl⟩ | ⟨e0, hl, hcr, hw0⟩
  · rw [stepsW_bad hcr (by decide), delete_none hon hok hno, seen_15] at hr
    subst hr
    exact .inr (.inl ⟨rfl, hw, rfl, rfl, fun _ _ => rfl, h, hb.mono (by omega) (Nat.le_refl _) (by omega), rfl, rfl, .inl hl, .inl hon⟩)
  obtain ⟨hdb1, hid1⟩ := h.create hw hn hno
  have hbud1 := hb.create hw hn (by omega) hno (show T + 1 ≤ c + 1 by omega) (by omega)
  have hwf1 := hw.create nid hok hno hl
  have hcont1 : (({ f with cont := upd f.cont nid ⟨⟨#[]⟩, 0⟩ } : Fs).happens (.create (segName (T + 1)) nid)).1.cont = upd f.cont nid ⟨⟨#[]⟩, 0⟩ := (Fs.step_fields _).2.1
  have hnow1 : (({ f with cont := upd f.cont nid ⟨⟨#[]⟩, 0⟩ } : Fs).happens (.create (segName (T + 1)) nid)).1.now = f.now ++ [(segName (T + 1), nid)] := mput_new hno
  have hfirm1 : (({ f with cont := upd f.cont nid ⟨⟨#[]⟩, 0⟩ } : Fs).happens (.create (segName (T + 1)) nid)).1.firm = f.firm := (Fs.step_fields _).1
  generalize (({ f with cont := upd f.cont nid ⟨⟨#[]⟩, 0⟩ } : Fs).happens (.create (segName (T + 1)) nid)).1 = f1 at hcr hw0 hdb1 hid1 hbud1 hwf1 hcont1 hnow1 hfirm1
  have hc1 : ∀ id, id ≠ nid → f1.cont id = f.cont id := fun id hne => by rw [hcont1]; unfold upd; rw [if_neg hne]
  have hc1n : f1.cont nid = ⟨⟨#[]⟩, 0⟩ := by rw [hcont1]; unfold upd; rw [if_pos rfl]
  obtain ⟨ha1, hr1, hw0⟩ := hw0
  rcases hw0 with ⟨rfl, hon1⟩ | ⟨rfl, hoff, harm⟩
  rotate_left
  · rw [stepsW_bad hcr (by decide), delete_off hoff, seen_14] at hr
    subst hr
    exact .inr (.inr ⟨rfl, hoff, hwf1, hc1, hdb1.some _, hbud1.mono (by omega) (by omega) (by omega), harm⟩)
  rw [stepsW_ok hcr] at hr
  rcases append_cases (s := head) hon1 hok hid1 with ⟨hap, hl2⟩ | ⟨e1, hl2, hap, hw1⟩
  · obtain ⟨e, hde, hwd⟩ := delete_cases hon1 hok hid1
    rw [stepsW_bad hap (by decide), hde, seen_15] at hr
    subst hr
    have hdb2 := hdb1.delete hwf1 (s := segName (T + 1)) (fun n hn => hdb1.seg_ne hn)
    have hbud2 := hbud1.delete hwf1 (segName (T + 1))
    have hcd : (f1.happens (.delete (segName (T + 1)))).1.cont = f1.cont := (Fs.step_fields _).2.1
    have hused : f1.used = f.used := by rw [used_eq, hcont1, hnow1]; exact used_new hn
    refine .inr (.inl ⟨rfl, hwf1.delete _, ?_, ?_, fun id hne => by rw [hcd]; exact hc1 id hne, hdb2, hbud2.mono (by omega) (Nat.le_refl _) (by omega), hwd.1.trans ha1, hwd.2.1.trans hr1, .inr ?_, ?_⟩)
    · show f1.step.1.firm = f.firm
      rw [(Fs.step_fields _).1]; exact hfirm1
    · show mdel f1.now (segName (T + 1)) = f.now
      rw [hnow1]; exact mdel_new hno
    · rw [hhd', ← hr1, ← hused]; exact hl2
    · rcases hwd.2.2 with ⟨_, h⟩ | ⟨_, _, h⟩
      · exact .inl h
      · exact .inr (ha1 ▸ h)
  have hempty : (⟨#[]⟩ : ByteArray) ++ head = head := by apply toL_inj; rw [toL_append]; rfl
  rw [hc1n] at hw1 hap
  simp only [hempty] at hw1 hap
  have hhead := hdb1.head hwf1 hid1 (x := ⟨head, 0⟩) (hd := (first, kept, state)) hh hhd.symm
  have hs1 := Fs.step_fields f1
  have hdb2 : DB ({ f1.step.1 with cont := upd f1.cont nid ⟨head, 0⟩ } : Fs) C B T ids (some (first, kept, state)) := hhead.1.weaken (fun L hL => hL.same (f := ({ f1 with cont := upd f1.cont nid ⟨head, 0⟩ } : Fs)) hs1.1 hs1.2.2.2.2.1) (fun _ => rfl)
  have hbud2 : Bud ({ f1.step.1 with cont := upd f1.cont nid ⟨head, 0⟩ } : Fs) (c + 1) (S + head.size) (d + 1) :=
    (hbud1.cont (id := nid) (m := head.size) (x := ⟨head, 0⟩) (by rw [hc1n]; exact (Nat.zero_add _).symm)).weaken (fun L hL => hL.same (f := ({ f1 with cont := upd f1.cont nid ⟨head, 0⟩ } : Fs)) hs1.1 hs1.2.2.2.2.1) (fun _ => rfl) (by show f1.step.1.since.length ≤ _; rw [hs1.2.2.2.2.1]; exact hbud1.len)
  have hwf2 : ({ f1.step.1 with cont := upd f1.cont nid ⟨head, 0⟩ } : Fs).Wf := by
    have := hwf1.append head hid1 hl2
    rw [hc1n] at this
    simp only [hempty] at this
    exact this
  have hid2 : mget ({ f1.step.1 with cont := upd f1.cont nid ⟨head, 0⟩ } : Fs).now (segName (T + 1)) = some nid := by show mget f1.step.1.now _ = _; rw [hs1.2.2.2.1]; exact hid1
  have hnow2 : ({ f1.step.1 with cont := upd f1.cont nid ⟨head, 0⟩ } : Fs).now = f.now ++ [(segName (T + 1), nid)] := by show f1.step.1.now = _; rw [hs1.2.2.2.1]; exact hnow1
  have hc2 : ∀ id, id ≠ nid → ({ f1.step.1 with cont := upd f1.cont nid ⟨head, 0⟩ } : Fs).cont id = f.cont id := fun id hne => by show upd f1.cont nid _ id = _; unfold upd; rw [if_neg hne]; exact hc1 id hne
  have hc2n : ({ f1.step.1 with cont := upd f1.cont nid ⟨head, 0⟩ } : Fs).cont nid = ⟨head, 0⟩ := by show upd f1.cont nid _ nid = _; unfold upd; rw [if_pos rfl]
  generalize ({ f1.step.1 with cont := upd f1.cont nid ⟨head, 0⟩ } : Fs) = f2 at hap hw1 hdb2 hbud2 hwf2 hid2 hnow2 hc2 hc2n
  obtain ⟨ha2, hr2, hw1⟩ := hw1
  rcases hw1 with ⟨rfl, hon2⟩ | ⟨rfl, hoff, harm⟩
  rotate_left
  · rw [stepsW_bad hap (by decide), delete_off hoff, seen_14] at hr
    subst hr
    exact .inr (.inr ⟨rfl, hoff, hwf2, hc2, hdb2, hbud2.mono (by omega) (by rw [hhd']; exact Nat.le_refl _) (by omega), ha1 ▸ harm⟩)
  rw [stepsW_ok hap] at hr
  rcases sync_cases hon2 hok hid2 with ⟨hsy, hw2⟩ | ⟨hsy, hw2⟩
  rotate_left
  · obtain ⟨_, _, hw2⟩ := hw2
    rcases hw2 with ⟨h, _⟩ | ⟨_, hoff, harm⟩
    · exact absurd h (by decide)
    have hs2 := Fs.step_fields f2
    rw [stepsW_bad hsy (by decide), delete_off hoff, seen_14] at hr
    subst hr
    refine .inr (.inr ⟨rfl, hoff, hwf2.step, fun id hne => by rw [hs2.2.1]; exact hc2 id hne, hdb2.weaken (fun L hL => hL.same hs2.1 hs2.2.2.2.2.1) (fun id => by rw [hs2.2.1]), ?_, ha1 ▸ ha2 ▸ harm⟩)
    exact (hbud2.weaken (fun L hL => hL.same hs2.1 hs2.2.2.2.2.1) (fun id => by rw [hs2.2.1]) (by rw [hs2.2.2.2.2.1]; exact hbud2.len)).mono (Nat.le_refl _) (by rw [hhd']; exact Nat.le_refl _) (by omega)
  rw [stepsW_ok hsy] at hr
  have hs2 := Fs.step_fields f2
  rw [hc2n] at hw2 hr
  have hby : ∀ id, (({ f2.step.1 with cont := upd f2.cont nid ⟨head, head.size⟩ } : Fs).cont id).bytes = (f2.cont id).bytes := fun id => by
    show (upd f2.cont nid _ id).bytes = _
    unfold upd
    split
    · next e => rw [e, hc2n]
    · rfl
  have hP3 : ∀ L, ({ f2.step.1 with cont := upd f2.cont nid ⟨head, head.size⟩ } : Fs).Poss L → f2.Poss L := fun L hL => hL.same hs2.1 hs2.2.2.2.2.1
  have hdb3 := hdb2.weaken hP3 hby
  have hbud3 : Bud ({ f2.step.1 with cont := upd f2.cont nid ⟨head, head.size⟩ } : Fs) (c + 1) (S + head.size) (d + 1) := hbud2.weaken hP3 hby (by show f2.step.1.since.length ≤ _; rw [hs2.2.2.2.2.1]; exact hbud2.len)
  have hwf3 : ({ f2.step.1 with cont := upd f2.cont nid ⟨head, head.size⟩ } : Fs).Wf := by
    have := hwf2.sync hid2
    rw [hc2n] at this
    exact this
  have hnow3 : ({ f2.step.1 with cont := upd f2.cont nid ⟨head, head.size⟩ } : Fs).now = f.now ++ [(segName (T + 1), nid)] := by show f2.step.1.now = _; rw [hs2.2.2.2.1]; exact hnow2
  have hc3 : ∀ id, id ≠ nid → ({ f2.step.1 with cont := upd f2.cont nid ⟨head, head.size⟩ } : Fs).cont id = f.cont id := fun id hne => by show upd f2.cont nid _ id = _; unfold upd; rw [if_neg hne]; exact hc2 id hne
  have hc3n : ({ f2.step.1 with cont := upd f2.cont nid ⟨head, head.size⟩ } : Fs).cont nid = ⟨head, head.size⟩ := by show upd f2.cont nid _ nid = _; unfold upd; rw [if_pos rfl]
  generalize ({ f2.step.1 with cont := upd f2.cont nid ⟨head, head.size⟩ } : Fs) = f3 at hr hw2 hdb3 hbud3 hwf3 hnow3 hc3 hc3n
  obtain ⟨ha3, hr3, hw2⟩ := hw2
  rcases hw2 with ⟨_, hon3⟩ | ⟨h, _⟩
  rotate_left
  · exact absurd h (by decide)
  have hs3 := Fs.step_fields f3
  rcases syncDir_cases hon3 with ⟨hsd, hw3⟩ | ⟨hsd, hw3⟩
  · rw [stepsW_ok hsd] at hr
    simp only [stepsW] at hr
    subst hr
    have hP4 : ∀ L, ({ f3.step.1 with firm := f3.now, since := [] } : Fs).Poss L → f3.Poss L := fun L hL => by
      rw [hL.nil rfl]; exact Fs.Poss.now hwf3
    have hc4 : ({ f3.step.1 with firm := f3.now, since := [] } : Fs).cont = f3.cont := hs3.2.1
    obtain ⟨ha4, hr4, hw3⟩ := hw3
    refine .inl ⟨rfl, ?_, hwf3.syncDir, rfl, ?_, ?_, ?_, ?_, hdb3.weaken hP4 (fun id => by rw [hc4]), ?_, by rw [ha4, ha3, ha2, ha1], by rw [hr4, hr3, hr2, hr1]⟩
    · rcases hw3 with ⟨_, h⟩ | ⟨h, _⟩
      · exact h
      · exact absurd h (by decide)
    · show f3.now = f3.step.1.now; exact hs3.2.2.2.1.symm
    · show f3.step.1.now = _; rw [hs3.2.2.2.1]; exact hnow3
    · rw [hc4, hc3n, hhd']
    · intro id hne; rw [hc4]; exact hc3 id hne
    · exact (hbud3.weaken (d' := 0) hP4 (fun id => by rw [hc4]) (Nat.le_refl _)).mono (Nat.le_refl _) (by rw [hhd']; exact Nat.le_refl _) (Nat.le_refl _)
  · obtain ⟨_, _, hw3⟩ := hw3
    rcases hw3 with ⟨h, _⟩ | ⟨_, hoff, harm⟩
    · exact absurd h (by decide)
    rw [stepsW_bad hsd (by decide), delete_off hoff, seen_14] at hr
    subst hr
    refine .inr (.inr ⟨rfl, hoff, hwf3.step, fun id hne => by rw [hs3.2.1]; exact hc3 id hne, hdb3.weaken (fun L hL => hL.same hs3.1 hs3.2.2.2.2.1) (fun id => by rw [hs3.2.1]), ?_, ha1 ▸ ha2 ▸ ha3 ▸ harm⟩)
    exact (hbud3.weaken (fun L hL => hL.same hs3.1 hs3.2.2.2.2.1) (fun id => by rw [hs3.2.1]) (by rw [hs3.2.2.2.2.1]; exact hbud3.len)).mono (Nat.le_refl _) (by rw [hhd']; exact Nat.le_refl _) (by omega)

/-- wal.drop, over a list of names -/
def dropW (gone : Nat → Bool) : List ByteArray → Fs → Wl → Fs × Wl × Int
  | [], f, l => (f, l, 0)
  | s :: ss, f, l => if gone (numD s) then (if (f.delete s).2 = 0 then dropW gone ss (f.delete s).1 (l.seen 0) else ((f.delete s).1, l.seen (f.delete s).2, (f.delete s).2)) else dropW gone ss f l
structure DrOk (f r : Fs) (C : List Nat) (B T : Nat) (ids : Nat → Nat) (nx : Option Hd) (c S d : Nat) : Prop where
  wf : r.Wf
  cont : r.cont = f.cont
  db : DB r C B T ids nx
  bud : Bud r c S d
  armed : r.armed = f.armed
  room : r.room = f.room
theorem drop_plain (gone : Nat → Bool) {C : List Nat} {B T : Nat} {ids : Nat → Nat} {nx : Option Hd} {c S : Nat} (hg : ∀ n, n ∈ C → gone n = false) : ∀ (ns : List Nat) (f : Fs) (l : Wl) (d : Nat), f.Wf → f.on = true → DB f C B T ids nx → Bud f c S d →
    ns.Nodup → (∀ n, n ∈ ns → n ≤ 99999999 ∧ 1 ≤ n ∧ segName n ∈ f.now.map (·.1)) →
    DrOk f (dropW gone (ns.map segName) f l).1 C B T ids nx c S (d + ns.length) ∧
    (((dropW gone (ns.map segName) f l).2 = (l, 0) ∧ (dropW gone (ns.map segName) f l).1.on = true ∧ (dropW gone (ns.map segName) f l).1.now = f.now.filter (fun p => !(ns.filter gone).any (fun n => p.1 = segName n))) ∨
     ((dropW gone (ns.map segName) f l).2 = ({ l with broken := true }, 14) ∧ (dropW gone (ns.map segName) f l).1.on = false ∧ f.armed = true)) := by
  intro ns
  induction ns with
  | nil =>
    intro f l d hw hon hdb hb _ _
    refine ⟨⟨hw, rfl, hdb, hb, rfl, rfl⟩, .inl ⟨rfl, hon, ?_⟩⟩
    show f.now = f.now.filter (fun p => !([].filter gone).any (fun n => p.1 = segName n))
    rw [List.filter_eq_self.2]; simp
  | cons n ns ih =>
    intro f l d hw hon hdb hb hnd hin
    rw [List.nodup_cons] at hnd
    obtain ⟨hn1, hn2, hn3⟩ := hin n List.mem_cons_self
    have hnum := numD_segName hn2 hn1
    rw [List.map_cons]
    unfold dropW
    rw [hnum]
    by_cases hgn : gone n = true
    · rw [if_pos hgn]
      obtain ⟨id, hid⟩ := Option.isSome_iff_exists.1 (mget_isSome.2 hn3)
      obtain ⟨e, hde, hwd⟩ := delete_cases hon (okName_seg hn1) hid
      rw [hde]
      have hnC : ∀ m, m ∈ C → segName m ≠ segName n := fun m hm he => by
        have := segName_inj (hdb.num hm).2 hn1 he
        subst this
        rw [hg m hm] at hgn; cases hgn
      have hdb1 := hdb.delete hw hnC
      have hb1 := hb.delete hw (segName n)
      have hw1 := hw.delete (segName n)
      have hc1 : (f.happens (.delete (segName n))).1.cont = f.cont := (Fs.step_fields f).2.1
      have hnow1 : (f.happens (.delete (segName n))).1.now = mdel f.now (segName n) := rfl
      obtain ⟨ha, hr, hwd⟩ := hwd
      rcases hwd with ⟨rfl, hon1⟩ | ⟨rfl, hoff, harm⟩
      · simp only [if_true, seen_zero]
        obtain ⟨i1, i2⟩ := ih (f.happens (.delete (segName n))).1 l (d + 1) hw1 hon1 hdb1 hb1 hnd.2 (fun m hm => by
          obtain ⟨k1, k2, k3⟩ := hin m (List.mem_cons_of_mem _ hm)
          refine ⟨k1, k2, ?_⟩
          rw [hnow1, keys_mdel, List.mem_filter]
          refine ⟨k3, ?_⟩
          simp only [decide_eq_true_eq]
          intro he
          exact hnd.1 (segName_inj k1 hn1 he ▸ hm))
        refine ⟨⟨i1.wf, i1.cont.trans hc1, i1.db, i1.bud.mono (Nat.le_refl _) (Nat.le_refl _) (by simp only [List.length_cons]; omega), i1.armed.trans ha, i1.room.trans hr⟩, ?_⟩
        rcases i2 with ⟨j1, j2, j3⟩ | ⟨j1, j2, j3⟩
        · refine .inl ⟨j1, j2, ?_⟩
          rw [j3, hnow1, List.filter_cons, if_pos hgn]
          unfold mdel
          rw [List.filter_filter]
          congr 1
          funext p
          rw [List.any_cons]
          by_cases hp : p.1 = segName n <;> simp [hp]
        · exact .inr ⟨j1, j2, ha ▸ j3⟩
      · simp only [show ¬ (14 : Int) = 0 by decide, if_false, seen_14]
        exact ⟨⟨hw1, hc1, hdb1, hb1.mono (Nat.le_refl _) (Nat.le_refl _) (by simp only [List.length_cons]; omega), ha, hr⟩, .inr ⟨trivial, hoff, harm⟩⟩
    · rw [if_neg hgn]
      obtain ⟨i1, i2⟩ := ih f l d hw hon hdb hb hnd.2 (fun m hm => hin m (List.mem_cons_of_mem _ hm))
      refine ⟨⟨i1.wf, i1.cont, i1.db, i1.bud.mono (Nat.le_refl _) (Nat.le_refl _) (by simp only [List.length_cons]; omega), i1.armed, i1.room⟩, ?_⟩
      rw [List.filter_cons, if_neg hgn]
      exact i2
end Go.Proofs.YthogefmngddnbaaGreatDoor
/- A log and its folder, plain: what holds while it is used, and what a crash leaves. -/
namespace Go.Proofs.YthogefmngddnbaaGreatDoor

/-- what is on the disk: whole segments, and the one that is written -/
structure Gh where
  C0 : List Nat
  N : Nat
  B : Nat
  ids : Nat → Nat
  first : Nat
  kept : Bool
  state : ByteArray
  acc : List ByteArray
  rs : List ByteArray
  k : Nat
structure DI (f : Fs) (g : Gh) (st : ByteArray) (fi : Nat) (nx : Option Hd) : Prop where
  db : DB f (g.C0 ++ [g.N]) g.B g.N g.ids nx
  whole : ∀ n, n ∈ g.C0 → (f.cont (g.ids n)).synced = (f.cont (g.ids n)).bytes.size
  head : HeadOk g.first g.kept g.state
  last : toL (f.cont (g.ids g.N)).bytes = segL' g.first g.kept g.state g.rs
  recs : ∀ b, b ∈ g.rs → b.size ≤ 70000
  kle : g.k ≤ g.rs.length
  firm : (segL' g.first g.kept g.state (g.rs.take g.k)).length ≤ (f.cont (g.ids g.N)).synced
  fold : ∀ a rs', stepL (foldC (fun n => (f.cont (g.ids n)).bytes) g.C0 a) (some ⟨g.N, g.first, g.kept, g.state, rs'⟩) = some ⟨g.B, st, fi, g.acc ++ rs'⟩
theorem DI.weaken {f f' : Fs} {g : Gh} {st : ByteArray} {fi : Nat} {nx : Option Hd} (h : DI f g st fi nx) (hP : ∀ L, f'.Poss L → f.Poss L) (hc : f'.cont = f.cont) : DI f' g st fi nx :=
  ⟨h.db.weaken hP (fun id => by rw [hc]), by rw [hc]; exact h.whole, h.head, by rw [hc]; exact h.last, h.recs, h.kle, by rw [hc]; exact h.firm, by rw [hc]; exact h.fold⟩
theorem DI.step {f : Fs} {g : Gh} {st : ByteArray} {fi : Nat} {nx : Option Hd} (h : DI f g st fi nx) : DI f.step.1 g st fi nx :=
  h.weaken (fun L hL => hL.same (Fs.step_fields f).1 (Fs.step_fields f).2.2.2.2.1) (Fs.step_fields f).2.1
/-- other files may have turned, if the names say so -/
theorem DI.of_db {f f' : Fs} {g : Gh} {st : ByteArray} {fi : Nat} {nx nx' : Option Hd} (h : DI f g st fi nx) (hdb : DB f' (g.C0 ++ [g.N]) g.B g.N g.ids nx') (hc : ∀ n, n ∈ g.C0 ++ [g.N] → f'.cont (g.ids n) = f.cont (g.ids n)) : DI f' g st fi nx' := by
  have hN := hc g.N (by simp)
  have h0 : ∀ n, n ∈ g.C0 → f'.cont (g.ids n) = f.cont (g.ids n) := fun n hn => hc n (List.mem_append_left _ hn)
  refine ⟨hdb, fun n hn => by rw [h0 n hn]; exact h.whole n hn, h.head, by rw [hN]; exact h.last, h.recs, h.kle, by rw [hN]; exact h.firm, fun a rs' => ?_⟩
  rw [foldC_congr (fun n hn => by rw [h0 n hn])]
  exact h.fold a rs'
theorem foldC_one (body : Nat → ByteArray) (n : Nat) (a : Option Ld) : foldC body [n] a = stepL a (rd n (body n)) := rfl
/-- a crash: what is found -/
def After (g : Gh) (st : ByteArray) (fi : Nat) (nx : Option Hd) (ld : Ld) : Prop :=
  (ld.state = st ∧ ld.first = fi ∧ ∃ j, g.k ≤ j ∧ j ≤ g.rs.length ∧ ld.recs = g.acc ++ g.rs.take j) ∨ ∃ fi' st', nx = some (fi', true, st') ∧ ld.state = st' ∧ ld.first = fi' ∧ ld.recs = []
theorem DI.crash {f f' : Fs} {g : Gh} {st : ByteArray} {fi : Nat} {nx : Option Hd} (hw : f.Wf) (hw' : f'.Wf) (h : DI f g st fi nx) (hc : CrashOf f f') : ∃ ld, f'.loaded = some ld ∧ After g st fi nx ld := by
  obtain ⟨pre, post, hns, hpost, hbody⟩ := crash_base hw hw' h.db hc
  have hN := hbody g.N (by simp)
  obtain ⟨k, k1, k2, k3⟩ := hN
  have hsz := congrArg List.length h.last
  rw [toL_length] at hsz
  rw [h.last] at k3
  obtain ⟨j, j1, j2, j3, _⟩ := read_take (num := g.N) h.head h.recs h.kle (Nat.le_trans h.firm k1) (by omega) k3
  have h0 : ∀ n, n ∈ g.C0 → f'.bodyAt n = (f.cont (g.ids n)).bytes := fun n hn => by
    obtain ⟨m, m1, m2, m3⟩ := hbody n (List.mem_append_left _ hn)
    apply toL_inj
    rw [m3, List.take_of_length_le]
    rw [toL_length, ← h.whole n hn]; exact m1
  have hmain : foldC f'.bodyAt (g.C0 ++ [g.N]) (foldC f'.bodyAt pre none) = some ⟨g.B, st, fi, g.acc ++ g.rs.take j⟩ := by
    rw [foldC_append, foldC_one, foldC_congr h0]
    have : rd g.N (f'.bodyAt g.N) = some ⟨g.N, g.first, g.kept, g.state, g.rs.take j⟩ := by unfold rd; rw [j3]; rfl
    rw [this]
    exact h.fold _ _
  unfold Fs.loaded
  rw [hns, foldC_append, foldC_append, hmain]
  rcases hpost with rfl | ⟨rfl, id, m, m1, m2, m3⟩
  · exact ⟨_, rfl, .inl ⟨rfl, rfl, j, j1, j2, rfl⟩⟩
  · rw [foldC_one]
    rcases torn_rd (n := g.N + 1) m3 m2 with hr | ⟨fi', kp, st', e, hr⟩
    · rw [hr]; exact ⟨_, rfl, .inl ⟨rfl, rfl, j, j1, j2, rfl⟩⟩
    · rw [hr]
      cases kp with
      | false => rw [step_empty]; exact ⟨_, rfl, .inl ⟨rfl, rfl, j, j1, j2, rfl⟩⟩
      | true => exact ⟨_, rfl, .inr ⟨fi', st', e, rfl, rfl, rfl⟩⟩

/-- a log that is not broken -/
structure Live (f : Fs) (l : Wl) (g : Gh) : Prop where
  wf : f.Wf
  di : DI f g l.state l.first none
  top : mget f.now (segName (g.N + 1)) = none
  now : l.now = segName g.N
  recs : l.recs = g.acc ++ g.rs
  firm : l.firm + 1 = l.first + g.acc.length + g.k
  one : 1 ≤ l.first
  brk : l.broken = false
theorem Live.mem {f : Fs} {l : Wl} {g : Gh} (h : Live f l g) : g.N ∈ numsOf f.now := by
  have hn := h.di.db.num (n := g.N) (by simp)
  exact mem_numsOf.2 ⟨hn.1, hn.2, mget_isSome.1 (by rw [h.di.db.there _ (Fs.Poss.now h.wf) g.N (by simp)]; rfl)⟩
theorem DB.top_of {f : Fs} {C : List Nat} {B T : Nat} {ids : Nat → Nat} {nx : Option Hd} (hw : f.Wf) (h : DB f C B T ids nx) (hT : T ∈ C) (hno : mget f.now (segName (T + 1)) = none) : topOf f.segs = T := by
  rw [ftop_eq]
  have hn := h.num hT
  refine last_of_max (nums_incr _ hw.nodup) (mem_numsOf.2 ⟨hn.1, hn.2, mget_isSome.1 (by rw [h.there _ (Fs.Poss.now hw) T hT]; rfl)⟩) (fun n hn => ?_)
  obtain ⟨h1, h2, h3⟩ := mem_numsOf.1 hn
  obtain ⟨p, hp, e⟩ := List.mem_map.1 h3
  obtain ⟨m, k1, k2, k3, _⟩ := h.names _ (Fs.Poss.now hw) p hp
  have := h.top
  have : n = m := segName_inj h2 (by omega) (e.symm.trans k1)
  subst this
  by_cases hT : n = T + 1
  · subst hT
    exact absurd h3 (mget_none.1 hno)
  · omega
theorem Live.topEq {f : Fs} {l : Wl} {g : Gh} (h : Live f l g) : topOf f.segs = g.N := h.di.db.top_of h.wf (by simp) h.top
theorem Live.id {f : Fs} {l : Wl} {g : Gh} (h : Live f l g) : mget f.now l.now = some (g.ids g.N) := by rw [h.now]; exact h.di.db.there _ (Fs.Poss.now h.wf) g.N (by simp)
theorem Live.ok {f : Fs} {l : Wl} {g : Gh} (h : Live f l g) : okName l.now = true := by rw [h.now]; exact okName_seg (h.di.db.num (n := g.N) (by simp)).2
theorem Live.last {f : Fs} {l : Wl} {g : Gh} (h : Live f l g) : l.last + 1 = l.first + g.acc.length + g.rs.length := by
  unfold Wl.last; have := h.one; rw [h.recs, List.length_append]; omega
theorem Live.same {f f' : Fs} {l : Wl} {g : Gh} (h : Live f l g) (hw : f'.Wf) (h1 : f'.firm = f.firm) (h2 : f'.since = f.since) (h3 : f'.cont = f.cont) (h4 : f'.now = f.now) : Live f' l g :=
  ⟨hw, h.di.weaken (fun L hL => hL.same h1 h2) h3, by rw [h4]; exact h.top, h.now, h.recs, h.firm, h.one, h.brk⟩

/-- wal.Append -/
def appendW (f : Fs) (l : Wl) (xs : List ByteArray) : Fs × Wl × Int :=
  if Wl.ready (some default) l xs ≠ 0 then (f, l, Wl.ready (some default) l xs) else
  ((f.append l.now (framesOf xs)).1, if (f.append l.now (framesOf xs)).2 = 0 then { l with recs := l.recs ++ xs } else l.seen (f.append l.now (framesOf xs)).2, (f.append l.now (framesOf xs)).2)
theorem framesOf_toL (xs : List ByteArray) : toL (framesOf xs) = framesL xs := rfl
theorem segL'_append (first : Nat) (kept : Bool) (state : ByteArray) (a b : List ByteArray) : segL' first kept state (a ++ b) = segL' first kept state a ++ framesL b := by
  unfold segL'; rw [framesL_append, List.append_assoc]
theorem not_long {xs : List ByteArray} (h : xs.any tooLong = false) {b : ByteArray} (hb : b ∈ xs) : b.size ≤ 70000 := by
  rw [List.any_eq_false] at h
  have := h b hb
  unfold tooLong at this
  simp at this
  omega
/-- bytes behind the segment that is written -/
theorem DI.append {f : Fs} {g : Gh} {st : ByteArray} {fi : Nat} {xs : List ByteArray} (h : DI f g st fi none) (hx : ∀ b, b ∈ xs → b.size ≤ 70000) (hw : f.Wf) :
    DI ({ f with cont := upd f.cont (g.ids g.N) ⟨(f.cont (g.ids g.N)).bytes ++ framesOf xs, (f.cont (g.ids g.N)).synced⟩ } : Fs) { g with rs := g.rs ++ xs } st fi none := by
  have hne : ∀ n, n ∈ g.C0 → g.ids n ≠ g.ids g.N := fun n hn e => by
    have := h.db.inj n (List.mem_append_left _ hn) g.N (by simp) e
    have hi := h.db.incr
    rw [List.pairwise_append] at hi
    have := hi.2.2 n hn g.N (by simp)
    omega
  have h0 : ∀ n, n ∈ g.C0 → upd f.cont (g.ids g.N) ⟨(f.cont (g.ids g.N)).bytes ++ framesOf xs, (f.cont (g.ids g.N)).synced⟩ (g.ids n) = f.cont (g.ids n) := fun n hn => by unfold upd; rw [if_neg (hne n hn)]
  have hN : upd f.cont (g.ids g.N) ⟨(f.cont (g.ids g.N)).bytes ++ framesOf xs, (f.cont (g.ids g.N)).synced⟩ (g.ids g.N) = ⟨(f.cont (g.ids g.N)).bytes ++ framesOf xs, (f.cont (g.ids g.N)).synced⟩ := by unfold upd; rw [if_pos rfl]
  refine ⟨⟨h.db.incr, h.db.rng, h.db.one, h.db.top, h.db.names, h.db.there, h.db.inj, ?_⟩, ?_, h.head, ?_, ?_, ?_, ?_, ?_⟩
  · intro L hL id hid
    have := h.db.next L hL id hid
    refine ⟨this.1, ?_⟩
    show Nxt none (upd f.cont (g.ids g.N) _ id).bytes
    unfold upd
    rw [if_neg (this.1 g.N (by simp))]
    exact this.2
  · intro n hn
    show (upd f.cont (g.ids g.N) _ (g.ids n)).synced = (upd f.cont (g.ids g.N) _ (g.ids n)).bytes.size
    rw [h0 n hn]; exact h.whole n hn
  · show toL (upd f.cont (g.ids g.N) _ (g.ids g.N)).bytes = _
    rw [hN, toL_append, h.last, segL'_append]; rfl
  · intro b hb
    rcases List.mem_append.1 hb with hb | hb
    · exact h.recs b hb
    · exact hx b hb
  · show g.k ≤ (g.rs ++ xs).length
    have := h.kle; simp; omega
  · show (segL' g.first g.kept g.state ((g.rs ++ xs).take g.k)).length ≤ (upd f.cont (g.ids g.N) _ (g.ids g.N)).synced
    rw [hN, List.take_append_of_le_length h.kle]; exact h.firm
  · intro a rs'
    show stepL (foldC (fun n => (upd f.cont (g.ids g.N) _ (g.ids n)).bytes) g.C0 a) _ = _
    rw [foldC_congr (fun n hn => by rw [h0 n hn])]
    exact h.fold a rs'
/-- all of the segment that is written lasts -/
theorem DI.sync {f : Fs} {g : Gh} {st : ByteArray} {fi : Nat} (h : DI f g st fi none) (hw : f.Wf) :
    DI ({ f with cont := upd f.cont (g.ids g.N) ⟨(f.cont (g.ids g.N)).bytes, (f.cont (g.ids g.N)).bytes.size⟩ } : Fs) { g with k := g.rs.length } st fi none := by
  have hby : ∀ id, (upd f.cont (g.ids g.N) ⟨(f.cont (g.ids g.N)).bytes, (f.cont (g.ids g.N)).bytes.size⟩ id).bytes = (f.cont id).bytes := fun id => by
    unfold upd
    split
    · next e => rw [e]
    · rfl
  have hN : upd f.cont (g.ids g.N) ⟨(f.cont (g.ids g.N)).bytes, (f.cont (g.ids g.N)).bytes.size⟩ (g.ids g.N) = ⟨(f.cont (g.ids g.N)).bytes, (f.cont (g.ids g.N)).bytes.size⟩ := by unfold upd; rw [if_pos rfl]
  refine ⟨h.db.weaken (fun L hL => hL) hby, ?_, h.head, (by show toL (upd f.cont _ _ (g.ids g.N)).bytes = _; rw [hby]; exact h.last), h.recs, Nat.le_refl _, ?_, ?_⟩
  · intro n hn
    show (upd f.cont (g.ids g.N) _ (g.ids n)).synced = (upd f.cont (g.ids g.N) _ (g.ids n)).bytes.size
    unfold upd
    split
    · rfl
    · exact h.whole n hn
  · show (segL' g.first g.kept g.state (g.rs.take g.rs.length)).length ≤ (upd f.cont (g.ids g.N) _ (g.ids g.N)).synced
    rw [hN, List.take_length, ← h.last]
    exact Nat.le_refl _
  · intro a rs'
    show stepL (foldC (fun n => (upd f.cont (g.ids g.N) _ (g.ids n)).bytes) g.C0 a) _ = _
    rw [foldC_congr (fun n _ => hby (g.ids n))]
    exact h.fold a rs'

/-- a log whose folder has no power; what was found there, had it crashed -/
structure Dead (f : Fs) (g : Gh) (st : ByteArray) (fi : Nat) (nx : Option Hd) : Prop where
  wf : f.Wf
  off : f.on = false
  di : DI f g st fi nx
theorem cont_step (f : Fs) (X : Nat → Fl) : ({ f.step.1 with cont := X } : Fs) = ({ ({ f with cont := X } : Fs).step.1 with cont := X } : Fs) := by
  unfold Fs.step
  split <;> (try split) <;> simp_all
theorem append_plain {f : Fs} {l : Wl} {g : Gh} {xs : List ByteArray} {c S d : Nat} (h : Live f l g) (hb : Bud f c S d) :
    ((appendW f l xs) = (f, l, 11) ∧ xs.any tooLong = true) ∨ (xs.any tooLong = false ∧
    (((appendW f l xs).2 = ({ l with recs := l.recs ++ xs }, 0) ∧ Live (appendW f l xs).1 { l with recs := l.recs ++ xs } { g with rs := g.rs ++ xs } ∧ (appendW f l xs).1.on = true ∧ Bud (appendW f l xs).1 c (S + (framesL xs).length) d ∧ (appendW f l xs).1.armed = f.armed ∧ (appendW f l xs).1.room = f.room) ∨
     (appendW f l xs = (f, l, 15) ∧ f.on = true ∧ f.room < (f.used : Int) + (framesL xs).length) ∨
     ((appendW f l xs).2 = ({ l with broken := true }, 14) ∧ (f.on = false ∨ f.armed = true) ∧ ∃ ys, (ys = [] ∨ ys = xs) ∧ Dead (appendW f l xs).1 { g with rs := g.rs ++ ys } l.state l.first none ∧ Bud (appendW f l xs).1 c (S + (framesL xs).length) d))) := by
  unfold appendW
  have hrd : Wl.ready (some default) l xs = if xs.any tooLong then 11 else 0 := by unfold Wl.ready; rw [h.brk]; rfl
  cases hl : xs.any tooLong with
  | true =>
    rw [hl] at hrd
    rw [hrd]
    exact .inl ⟨rfl, rfl⟩
  | false =>
    rw [hl] at hrd
    rw [hrd]
    refine .inr ⟨rfl, ?_⟩
    have hx : ∀ b, b ∈ xs → b.size ≤ 70000 := fun b hb => not_long hl hb
    have hdi := h.di.append hx h.wf
    have hs := Fs.step_fields f
    simp only [Bool.false_eq_true, if_false, ne_eq, not_true]
    cases hon : f.on with
    | false =>
      rw [append_off hon]
      refine .inr (.inr ⟨by simp only [show ¬ (14 : Int) = 0 by decide, if_false, seen_14], .inl rfl, [], .inl rfl, ⟨h.wf, hon, by rw [List.append_nil]; exact h.di⟩, hb.mono (Nat.le_refl _) (by omega) (Nat.le_refl _)⟩)
    | true =>
      rcases append_cases (s := framesOf xs) hon h.ok h.id with ⟨ha, hr⟩ | ⟨e, hr, ha, hwn⟩
      · rw [ha]
        exact .inr (.inl ⟨by simp only [show ¬ (15 : Int) = 0 by decide, if_false, seen_15], rfl, hr⟩)
      · rw [ha]
        have hwf := h.wf.append (framesOf xs) h.id hr
        have hP : ∀ L, ({ f.step.1 with cont := upd f.cont (g.ids g.N) ⟨(f.cont (g.ids g.N)).bytes ++ framesOf xs, (f.cont (g.ids g.N)).synced⟩ } : Fs).Poss L → ({ f with cont := upd f.cont (g.ids g.N) ⟨(f.cont (g.ids g.N)).bytes ++ framesOf xs, (f.cont (g.ids g.N)).synced⟩ } : Fs).Poss L := fun L hL => hL.same hs.1 hs.2.2.2.2.1
        have hdi2 := hdi.weaken (f' := ({ f.step.1 with cont := upd f.cont (g.ids g.N) ⟨(f.cont (g.ids g.N)).bytes ++ framesOf xs, (f.cont (g.ids g.N)).synced⟩ } : Fs)) hP rfl
        have hbud := (hb.cont (id := g.ids g.N) (m := (framesL xs).length) (x := ⟨(f.cont (g.ids g.N)).bytes ++ framesOf xs, (f.cont (g.ids g.N)).synced⟩) (by rw [ByteArray.size_append]; rfl)).weaken (f' := ({ f.step.1 with cont := upd f.cont (g.ids g.N) ⟨(f.cont (g.ids g.N)).bytes ++ framesOf xs, (f.cont (g.ids g.N)).synced⟩ } : Fs)) (d' := d) hP (fun _ => rfl) (by show f.step.1.since.length ≤ d; rw [hs.2.2.2.2.1]; exact hb.len)
        obtain ⟨h1, h2, hwn⟩ := hwn
        rcases hwn with ⟨rfl, hon2⟩ | ⟨rfl, hoff, harm⟩
        · refine .inl ⟨rfl, ⟨hwf, hdi2, ?_, h.now, ?_, h.firm, h.one, h.brk⟩, hon2, hbud, h1, h2⟩
          · show mget f.step.1.now _ = none
            rw [hs.2.2.2.1]; exact h.top
          · show l.recs ++ xs = g.acc ++ (g.rs ++ xs)
            rw [h.recs, List.append_assoc]
        · refine .inr (.inr ⟨by simp only [show ¬ (14 : Int) = 0 by decide, if_false, seen_14], .inr harm, xs, .inr rfl, ⟨hwf, hoff, hdi2⟩, hbud⟩)
end Go.Proofs.YthogefmngddnbaaGreatDoor
/- Sync and Checkpoint, plain. -/
namespace Go.Proofs.YthogefmngddnbaaGreatDoor

/-- wal.Sync -/
def syncW (f : Fs) (l : Wl) (nid : Nat) : Fs × Wl × Int :=
  if l.broken then (f, l, 13) else
  if (f.sync l.now).2 ≠ 0 then ((f.sync l.now).1, l.seen (f.sync l.now).2, (f.sync l.now).2) else
  if ((f.sync l.now).1.read l.now).1.size ≤ 4000 then ((f.sync l.now).1, { l with firm := l.last }, 0) else
  beginW (f.sync l.now).1 { l with firm := l.last } nid (l.last + 1) false ⟨#[]⟩
/-- wal.Checkpoint -/
def chkW (f : Fs) (l : Wl) (nid : Nat) (state : ByteArray) : Fs × Wl × Int :=
  if l.broken then (f, l, 13) else if tooLong state then (f, l, 11) else
  if (f.sync l.now).2 ≠ 0 then ((f.sync l.now).1, l.seen (f.sync l.now).2, (f.sync l.now).2) else
  let r2 := beginW (f.sync l.now).1 { l with firm := l.last } nid (l.last + 1) true state
  if r2.2.2 ≠ 0 then r2 else
  let l2 : Wl := { r2.2.1 with state := state, first := r2.2.1.last + 1, recs := [], firm := r2.2.1.last }
  let r3 := dropW (fun n => n != numD l2.now) r2.1.segs r2.1 l2
  if r3.2.2 ≠ 0 then r3 else (r3.1.syncDir.1, r3.2.1.seen r3.1.syncDir.2, r3.1.syncDir.2)

theorem head_size {first : Nat} {kept : Bool} {state : ByteArray} (h : HeadOk first kept state) : (headOf first kept state).size ≤ state.size + 35 := by
  rw [headOf_ok h, frameOf_size]
  have := bodyOf_size first kept state
  have := putN_length (bodyOf first kept state).size
  omega
theorem sync_split {f : Fs} {l : Wl} {g : Gh} {c S d : Nat} (h : Live f l g) (hb : Bud f c S d) (hon : f.on = true) :
    (∃ f1, f.sync l.now = (f1, 0) ∧ Live f1 { l with firm := l.last } { g with k := g.rs.length } ∧ (f1.cont (g.ids g.N)).synced = (f1.cont (g.ids g.N)).bytes.size ∧ f1.on = true ∧ Bud f1 c S d ∧ f1.armed = f.armed ∧ f1.room = f.room ∧ f1.now = f.now ∧ f1.firm = f.firm ∧ f1.since = f.since ∧
      (∀ id, (f1.cont id).bytes = (f.cont id).bytes) ∧ (f1.read l.now).1 = (f1.cont (g.ids g.N)).bytes ∧ f1.used = f.used ∧ f1.ids = f.ids) ∨
    (f.sync l.now = (f.step.1, 14) ∧ Dead f.step.1 g l.state l.first none ∧ Bud f.step.1 c S d ∧ f.armed = true) := by
  have hs := Fs.step_fields f
  have hdi := h.di.sync h.wf
  rcases sync_cases hon h.ok h.id with ⟨hsy, hw⟩ | ⟨hsy, hw⟩
  · left
    obtain ⟨h1, h2, hw⟩ := hw
    have hon1 : ({ f.step.1 with cont := upd f.cont (g.ids g.N) ⟨(f.cont (g.ids g.N)).bytes, (f.cont (g.ids g.N)).bytes.size⟩ } : Fs).on = true := by
      rcases hw with ⟨_, h⟩ | ⟨h, _⟩
      · exact h
      · exact absurd h (by decide)
    have hP : ∀ L, ({ f.step.1 with cont := upd f.cont (g.ids g.N) ⟨(f.cont (g.ids g.N)).bytes, (f.cont (g.ids g.N)).bytes.size⟩ } : Fs).Poss L → ({ f with cont := upd f.cont (g.ids g.N) ⟨(f.cont (g.ids g.N)).bytes, (f.cont (g.ids g.N)).bytes.size⟩ } : Fs).Poss L := fun L hL => hL.same hs.1 hs.2.2.2.2.1
    have hby : ∀ id, (upd f.cont (g.ids g.N) ⟨(f.cont (g.ids g.N)).bytes, (f.cont (g.ids g.N)).bytes.size⟩ id).bytes = (f.cont id).bytes := fun id => by
      unfold upd
      split
      · next e => rw [e]
      · rfl
    have hnow1 : ({ f.step.1 with cont := upd f.cont (g.ids g.N) ⟨(f.cont (g.ids g.N)).bytes, (f.cont (g.ids g.N)).bytes.size⟩ } : Fs).now = f.now := hs.2.2.2.1
    refine ⟨_, hsy, ⟨h.wf.sync h.id, hdi.weaken hP rfl, by rw [hnow1]; exact h.top, h.now, h.recs, ?_, h.one, h.brk⟩, ?_, hon1, hb.weaken (fun L hL => hL.same hs.1 hs.2.2.2.2.1) hby (by show f.step.1.since.length ≤ d; rw [hs.2.2.2.2.1]; exact hb.len), h1, h2, hnow1, hs.1, hs.2.2.2.2.1, hby, ?_, ?_, ?_⟩
    · exact h.last
    · show (upd f.cont (g.ids g.N) _ (g.ids g.N)).synced = (upd f.cont (g.ids g.N) _ (g.ids g.N)).bytes.size
      unfold upd; rw [if_pos rfl]
    · unfold Fs.read
      have hid1 : mget ({ f.step.1 with cont := upd f.cont (g.ids g.N) ⟨(f.cont (g.ids g.N)).bytes, (f.cont (g.ids g.N)).bytes.size⟩ } : Fs).now l.now = some (g.ids g.N) := by rw [hnow1]; exact h.id
      rw [get_some (ready1_on hon1 h.ok) hid1]
    · rw [used_eq, used_eq, hnow1]
      exact usedOf_congr (fun p _ => by rw [hby])
    · unfold Fs.ids
      rw [hnow1, show ({ f.step.1 with cont := upd f.cont (g.ids g.N) ⟨(f.cont (g.ids g.N)).bytes, (f.cont (g.ids g.N)).bytes.size⟩ } : Fs).firm = f.firm from hs.1, show ({ f.step.1 with cont := upd f.cont (g.ids g.N) ⟨(f.cont (g.ids g.N)).bytes, (f.cont (g.ids g.N)).bytes.size⟩ } : Fs).since = f.since from hs.2.2.2.2.1]
  · right
    obtain ⟨h1, h2, hw⟩ := hw
    rcases hw with ⟨h, _⟩ | ⟨_, hoff, harm⟩
    · exact absurd h (by decide)
    exact ⟨hsy, ⟨h.wf.step, hoff, h.di.step⟩, hb.weaken (fun L hL => hL.same hs.1 hs.2.2.2.2.1) (fun id => by rw [hs.2.1]) (by rw [hs.2.2.2.2.1]; exact hb.len), harm⟩

/-- a new segment behind the one that was written -/
def Gh.roll (g : Gh) (nid fi : Nat) : Gh := { C0 := g.C0 ++ [g.N], N := g.N + 1, B := g.B, ids := upd g.ids (g.N + 1) nid, first := fi, kept := false, state := ⟨#[]⟩, acc := g.acc ++ g.rs, rs := [], k := 0 }
theorem Live.roll {f r : Fs} {l : Wl} {g : Gh} {c S nid : Nat} (h : Live f l g) (hall : (f.cont (g.ids g.N)).synced = (f.cont (g.ids g.N)).bytes.size) (hfirm : l.firm = l.last) (hn : nid ∉ f.ids)
    (hh : HeadOk (l.last + 1) false ⟨#[]⟩) (hT : g.N + 1 < 99999999) (hr : BgOk f r (g.C0 ++ [g.N]) g.B g.N g.ids (l.last + 1, false, ⟨#[]⟩) c S nid) : Live r { l with now := segName (g.N + 1) } (g.roll nid (l.last + 1)) := by
  have hid : mget r.now (segName (g.N + 1)) = some nid := by
    rw [hr.now, ← mput_new h.top, mget_mput, if_pos rfl]
  have hne : ∀ n, n ∈ g.C0 ++ [g.N] → g.ids n ≠ nid := fun n hnn e => hn (e ▸ h.di.db.idMem h.wf hnn)
  have hle : ∀ n, n ∈ g.C0 ++ [g.N] → upd g.ids (g.N + 1) nid n = g.ids n := fun n hnn => by
    unfold upd; rw [if_neg]; have := h.di.db.rng n hnn; omega
  have hself : upd g.ids (g.N + 1) nid (g.N + 1) = nid := by unfold upd; rw [if_pos rfl]
  have hB := h.di.db.rng g.N (by simp)
  have hlast := h.last
  refine ⟨hr.wf, ⟨hr.db.promote hr.wf hr.since hid hT (Nat.le_succ_of_le hB.1), ?_, hh, ?_, fun b hb => (by cases hb), Nat.le_refl _, ?_, ?_⟩, ?_, rfl, ?_, ?_, h.one, h.brk⟩
  · intro n hnn
    show (r.cont (upd g.ids (g.N + 1) nid n)).synced = (r.cont (upd g.ids (g.N + 1) nid n)).bytes.size
    rw [hle n hnn, hr.cont _ (hne n hnn)]
    rcases List.mem_append.1 hnn with h1 | h1
    · exact h.di.whole n h1
    · simp at h1; subst h1; exact hall
  · show toL (r.cont (upd g.ids (g.N + 1) nid (g.N + 1))).bytes = segL' (l.last + 1) false ⟨#[]⟩ []
    rw [hself, hr.file]
    simp [segL', framesL]
  · show (segL' (l.last + 1) false ⟨#[]⟩ ([].take 0)).length ≤ (r.cont (upd g.ids (g.N + 1) nid (g.N + 1))).synced
    rw [hself, hr.file]
    simp [segL', framesL]
  · intro a rs'
    show stepL (foldC (fun n => (r.cont (upd g.ids (g.N + 1) nid n)).bytes) (g.C0 ++ [g.N]) a) (some ⟨g.N + 1, l.last + 1, false, ⟨#[]⟩, rs'⟩) = some ⟨g.B, l.state, l.first, (g.acc ++ g.rs) ++ rs'⟩
    rw [foldC_congr (b2 := fun n => (f.cont (g.ids n)).bytes) (fun n hnn => by rw [hle n hnn, hr.cont _ (hne n hnn)]), foldC_append, foldC_one]
    have hrd : rd g.N (f.cont (g.ids g.N)).bytes = some ⟨g.N, g.first, g.kept, g.state, g.rs⟩ := by
      unfold rd; rw [read_whole h.di.head h.di.recs h.di.last]; rfl
    rw [hrd, h.di.fold]
    unfold stepL
    simp only [Bool.false_eq_true, if_false]
    rw [if_pos (by simp only [List.length_append]; omega)]
  · show mget r.now (segName (g.N + 1 + 1)) = none
    rw [hr.now, ← mput_new h.top, mget_mput, if_neg, mget_none]
    · intro hm
      obtain ⟨p, hp, e⟩ := List.mem_map.1 hm
      obtain ⟨n, h1, h2, h3, _⟩ := h.di.db.names _ (Fs.Poss.now h.wf) p hp
      have := segName_inj (by omega) (by omega) (h1.symm.trans e)
      omega
    · intro e
      have := segName_inj (by omega) (by omega) e
      omega
  · show l.recs = (g.acc ++ g.rs) ++ []
    rw [List.append_nil]; exact h.recs
  · show l.firm + 1 = l.first + (g.acc ++ g.rs).length + 0
    rw [List.length_append]; omega
/-- .. that begins anew -/
def Gh.anew (g : Gh) (nid fi : Nat) (st : ByteArray) : Gh := { C0 := [], N := g.N + 1, B := g.N + 1, ids := fun _ => nid, first := fi, kept := true, state := st, acc := [], rs := [], k := 0 }
theorem live_anew {f r : Fs} {C : List Nat} {B T fi c S nid : Nat} {ids : Nat → Nat} {st : ByteArray} (hw : f.Wf) (hdb : DB f C B T ids none) (hno : mget f.now (segName (T + 1)) = none)
    (hh : HeadOk fi true st) (hT : T + 1 < 99999999) (hr : BgOk f r C B T ids (fi, true, st) c S nid) (l : Wl) (h1 : l.state = st) (h2 : l.first = fi) (h3 : l.recs = []) (h4 : l.firm + 1 = fi) (h5 : l.now = segName (T + 1)) (h6 : l.broken = false) :
    Live r l { C0 := [], N := T + 1, B := T + 1, ids := fun _ => nid, first := fi, kept := true, state := st, acc := [], rs := [], k := 0 } := by
  have hid : mget r.now (segName (T + 1)) = some nid := by
    rw [hr.now, ← mput_new hno, mget_mput, if_pos rfl]
  refine ⟨hr.wf, ⟨hr.db.alone hr.wf hr.since hid hT, fun n hn => (by cases hn), hh, ?_, fun b hb => (by cases hb), Nat.le_refl _, ?_, ?_⟩, ?_, h5, by rw [h3]; rfl, by simp only [List.length_nil]; omega, by rw [h2]; exact hh.1, h6⟩
  · show toL (r.cont nid).bytes = segL' fi true st []
    rw [hr.file]; simp [segL', framesL]
  · show (segL' fi true st ([].take 0)).length ≤ (r.cont nid).synced
    rw [hr.file]; simp [segL', framesL]
  · intro a rs'
    show stepL _ (some ⟨T + 1, fi, true, st, rs'⟩) = some ⟨T + 1, l.state, l.first, [] ++ rs'⟩
    rw [h1, h2]
    simp [stepL]
  · show mget r.now (segName (T + 1 + 1)) = none
    rw [hr.now, ← mput_new hno, mget_mput, if_neg, mget_none]
    · intro hm
      obtain ⟨p, hp, e⟩ := List.mem_map.1 hm
      obtain ⟨n, h1, h2, h3, _⟩ := hdb.names _ (Fs.Poss.now hw) p hp
      have := segName_inj (by omega) (by omega) (h1.symm.trans e)
      omega
    · intro e
      have := segName_inj (by omega) (by omega) e
      omega
theorem bgOff_dead {f r : Fs} {l : Wl} {g : Gh} {hd : Hd} {c S d nid : Nat} (h : Live f l g) (hn : nid ∉ f.ids) (hr : BgOff f r (g.C0 ++ [g.N]) g.B g.N g.ids hd c S d nid) : Dead r g l.state l.first (some hd) :=
  ⟨hr.wf, hr.off, h.di.of_db hr.db (fun n hnn => hr.cont _ (fun e => hn (e ▸ h.di.db.idMem h.wf hnn)))⟩
theorem bgFull_live {f r : Fs} {l : Wl} {g : Gh} {hd : Hd} {c S d nid : Nat} (h : Live f l g) (hn : nid ∉ f.ids) (hr : BgFull f r (g.C0 ++ [g.N]) g.B g.N g.ids hd c S d nid) : Live r l g :=
  ⟨hr.wf, h.di.of_db hr.db (fun n hnn => hr.cont _ (fun e => hn (e ▸ h.di.db.idMem h.wf hnn))), by rw [hr.now]; exact h.top, h.now, h.recs, h.firm, h.one, h.brk⟩

/-- what Sync leaves of a log that is not broken -/
inductive SyncR (f : Fs) (l : Wl) (g : Gh) (c S d : Nat) (r : Fs × Wl × Int) : Prop
  | ok (g' : Gh) (hl : Live r.1 r.2.1 g') (h1 : r.2.1.state = l.state) (h2 : r.2.1.first = l.first) (h3 : r.2.1.recs = l.recs) (h4 : r.2.1.firm = l.last) (hb : Bud r.1 (c + 1) (S + 35) (d + 2)) (hN : g'.N ≤ c + 1)
      (he : (r.2.2 = 0 ∧ r.1.on = true) ∨ (r.2.2 = 15 ∧ (64 ≤ f.now.length ∨ f.room < (f.used : Int) + 35))) (ha : r.1.armed = f.armed) (hr : r.1.room = f.room) (hp : r.1.on = true ∨ f.armed = true) : SyncR f l g c S d r
  | off (g' : Gh) (nx : Option Hd) (hd : Dead r.1 g' l.state l.first nx) (h0 : r.2.1.broken = true) (h1 : r.2.1.state = l.state) (h2 : r.2.1.first = l.first) (h3 : r.2.1.recs = l.recs) (h4 : r.2.1.firm + 1 = l.first + g'.acc.length + g'.k) (h5 : g'.acc ++ g'.rs = l.recs) (hn : ∀ fi st, nx ≠ some (fi, true, st))
      (he : r.2.2 = 14) (hb : Bud r.1 (c + 1) (S + 35) (d + 2)) (hp : f.on = false ∨ f.armed = true) : SyncR f l g c S d r
theorem headOk_plain {n : Nat} (h1 : 1 ≤ n) (h2 : n ≤ 1099511627776) : HeadOk n false ⟨#[]⟩ := ⟨h1, h2, fun _ => rfl, Nat.zero_le _⟩
theorem sync_plain {f : Fs} {l : Wl} {g : Gh} {c S d nid : Nat} (h : Live f l g) (hb : Bud f c S d) (hc : c < 99999990) (hlim : l.first + l.recs.length ≤ 1099511627776) (hn : nid ∉ f.ids) : SyncR f l g c S d (syncW f l nid) := by
  have hNc : g.N ≤ c := by
    have hm := h.mem
    obtain ⟨m1, m2, m3⟩ := mem_numsOf.1 hm
    exact hb.num _ (Fs.Poss.now h.wf) g.N m1 m2 m3
  have hone := h.one
  have hlast : l.last + 1 = l.first + l.recs.length := by rw [h.last, h.recs, List.length_append]; omega
  unfold syncW
  rw [if_neg (by rw [h.brk]; decide)]
  cases hon : f.on with
  | false =>
    rw [sync_off hon]
    simp only [show ¬ (14 : Int) = 0 by decide, ne_eq, not_false_eq_true, if_true, seen_14]
    exact .off g none ⟨h.wf, hon, h.di⟩ rfl rfl rfl rfl h.firm h.recs.symm (fun _ _ h => by cases h) rfl (hb.mono (by omega) (by omega) (by omega)) (.inl hon)
  | true =>
    rcases sync_split h hb hon with ⟨f1, hsy, hl1, hall, hon1, hb1, ha1, hr1, hnow1, _, _, hby, hread, hused, hids⟩ | ⟨hsy, hd, hb1, harm⟩
    · rw [hsy]
      simp only [ne_eq, not_true, if_false]
      by_cases hsz : (f1.read l.now).1.size ≤ 4000
      · rw [if_pos hsz]
        exact .ok _ hl1 rfl rfl rfl rfl (hb1.mono (by omega) (by omega) (by omega)) (by show g.N ≤ _; omega) (.inl ⟨rfl, hon1⟩) ha1 hr1 (.inl hon1)
      · rw [if_neg hsz]
        have hh := headOk_plain (n := l.last + 1) (by omega) (by omega)
        have hhs := head_size hh
        have hhs0 : (⟨#[]⟩ : ByteArray).size = 0 := rfl
        rw [hhs0] at hhs
        have hn1 : nid ∉ f1.ids := by rw [hids]; exact hn
        rcases begin_plain (l := { l with firm := l.last }) hl1.wf hn1 hl1.di.db (by exact hl1.topEq) hl1.top hon1 hh hb1 hNc with ⟨hr, hbg⟩ | ⟨hr, hbg⟩ | ⟨hr, hbg⟩
        · generalize beginW f1 { l with firm := l.last } nid (l.last + 1) false ⟨#[]⟩ = r at hr hbg
          obtain ⟨rf, rl, re⟩ := r
          simp only at hr hbg
          cases hr
          have hlive := hl1.roll hall rfl hn1 hh (by show g.N + 1 < _; omega) hbg
          exact .ok _ hlive rfl rfl rfl rfl (hbg.bud.mono (Nat.le_refl _) (by show S + (headOf (l.last + 1) false ⟨#[]⟩).size ≤ _; omega) (by omega)) (by show g.N + 1 ≤ _; omega) (.inl ⟨rfl, hbg.on⟩) (hbg.armed.trans ha1) (hbg.room.trans hr1) (.inl hbg.on)
        · generalize beginW f1 { l with firm := l.last } nid (l.last + 1) false ⟨#[]⟩ = r at hr hbg
          obtain ⟨rf, rl, re⟩ := r
          simp only at hr hbg
          cases hr
          have hlive := bgFull_live hl1 hn1 hbg
          refine .ok _ hlive rfl rfl rfl rfl (hbg.bud.mono (Nat.le_refl _) (by omega) (by omega)) (by show g.N ≤ _; omega) (.inr ⟨rfl, ?_⟩) (hbg.armed.trans ha1) (hbg.room.trans hr1) ?_
          · have hw := hbg.why
            rw [hnow1, hused, hr1] at hw
            rcases hw with hw | hw
            · exact .inl hw
            · right
              have : ((headOf (l.last + 1) false ⟨#[]⟩).size : Int) ≤ 35 := by omega
              simp only at hw
              omega
          · rcases hbg.pow with h | h
            · exact .inl h
            · exact .inr (ha1 ▸ h)
        · generalize beginW f1 { l with firm := l.last } nid (l.last + 1) false ⟨#[]⟩ = r at hr hbg
          obtain ⟨rf, rl, re⟩ := r
          simp only at hr hbg
          cases hr
          have hdead := bgOff_dead hl1 hn1 hbg
          exact .off _ _ hdead rfl rfl rfl rfl h.last h.recs.symm (fun _ _ h => by cases h) rfl (hbg.bud.mono (Nat.le_refl _) (by show S + (headOf (l.last + 1) false ⟨#[]⟩).size ≤ _; omega) (by omega)) (.inr (ha1 ▸ hbg.armed))
    · rw [hsy]
      simp only [show ¬ (14 : Int) = 0 by decide, ne_eq, not_false_eq_true, if_true, seen_14]
      exact .off g none hd rfl rfl rfl rfl h.firm h.recs.symm (fun _ _ h => by cases h) rfl (hb1.mono (by omega) (by omega) (by omega)) (.inr harm)
end Go.Proofs.YthogefmngddnbaaGreatDoor
/- Checkpoint and Open, plain. -/
namespace Go.Proofs.YthogefmngddnbaaGreatDoor

theorem live_drop {f r : Fs} {l : Wl} {g : Gh} {c S d : Nat} (h : Live f l g) (hr : DrOk f r (g.C0 ++ [g.N]) g.B g.N g.ids none c S d) (hs : ∀ p, p ∈ r.now → p ∈ f.now) : Live r l g := by
  refine ⟨hr.wf, h.di.of_db hr.db (fun n _ => by rw [hr.cont]), ?_, h.now, h.recs, h.firm, h.one, h.brk⟩
  rw [mget_none]
  intro hm
  obtain ⟨p, hp, e⟩ := List.mem_map.1 hm
  exact mget_none.1 h.top (List.mem_map.2 ⟨p, hs p hp, e⟩)
theorem dead_drop {f r : Fs} {l : Wl} {g : Gh} {c S d : Nat} (h : Live f l g) (hr : DrOk f r (g.C0 ++ [g.N]) g.B g.N g.ids none c S d) (ho : r.on = false) : Dead r g l.state l.first none :=
  ⟨hr.wf, ho, h.di.of_db hr.db (fun n _ => by rw [hr.cont])⟩
theorem nums_drop {f : Fs} (hw : f.Wf) : (numsOf f.now).Nodup ∧ (∀ n, n ∈ numsOf f.now → n ≤ 99999999 ∧ 1 ≤ n ∧ segName n ∈ f.now.map (·.1)) ∧ (numsOf f.now).length ≤ 64 := by
  refine ⟨(nums_incr _ hw.nodup).imp (fun h => Nat.ne_of_lt h), fun n hn => by have := mem_numsOf.1 hn; exact ⟨this.2.1, this.1, this.2.2⟩, ?_⟩
  unfold numsOf
  rw [List.length_map]
  refine Nat.le_trans (List.length_filter_le _ _) ?_
  rw [length_namesOf]
  exact hw.nowMany
inductive ChkR (f : Fs) (l : Wl) (g : Gh) (c S d : Nat) (st : ByteArray) (r : Fs × Wl × Int) : Prop
  | ok (g' : Gh) (hl : Live r.1 r.2.1 g') (h1 : r.2.1.state = st) (h2 : r.2.1.first = l.last + 1) (h3 : r.2.1.recs = []) (h4 : r.2.1.firm = l.last) (hon : r.1.on = true) (hs : r.1.since = []) (hf : r.1.firm = r.1.now) (hn : numsOf r.1.now = [g'.N]) (hb : Bud r.1 (c + 1) (S + st.size + 35) (d + 66)) (hN : g'.N ≤ c + 1)
      (he : r.2.2 = 0) (ha : r.1.armed = f.armed) (hr : r.1.room = f.room) : ChkR f l g c S d st r
  | full (g' : Gh) (hl : Live r.1 r.2.1 g') (h1 : r.2.1.state = l.state) (h2 : r.2.1.first = l.first) (h3 : r.2.1.recs = l.recs) (h4 : r.2.1.firm = l.last) (hb : Bud r.1 (c + 1) (S + st.size + 35) (d + 66)) (hN : g'.N ≤ c + 1)
      (he : r.2.2 = 15) (hw : 64 ≤ f.now.length ∨ f.room < (f.used : Int) + (st.size + 35 : Nat)) (ha : r.1.armed = f.armed) (hr : r.1.room = f.room) (hp : r.1.on = true ∨ f.armed = true) : ChkR f l g c S d st r
  | off (g' : Gh) (nx : Option Hd) (hd : Dead r.1 g' l.state l.first nx) (h0 : r.2.1.broken = true) (h1 : r.2.1.state = l.state) (h2 : r.2.1.first = l.first) (h3 : r.2.1.recs = l.recs) (h4 : r.2.1.firm + 1 = l.first + g'.acc.length + g'.k) (h5 : g'.acc ++ g'.rs = l.recs) (hn : ∀ fi k st', nx = some (fi, k, st') → fi = l.last + 1 ∧ st' = st)
      (he : r.2.2 = 14) (hb : Bud r.1 (c + 1) (S + st.size + 35) (d + 66)) (hp : f.on = false ∨ f.armed = true) : ChkR f l g c S d st r
  | done (g' : Gh) (hd : Dead r.1 g' st (l.last + 1) none) (h0 : r.2.1.broken = true) (h1 : r.2.1.state = st) (h2 : r.2.1.first = l.last + 1) (h3 : r.2.1.recs = []) (h4 : r.2.1.firm = l.last) (h5 : g'.acc = []) (h6 : g'.rs = [])
      (he : r.2.2 = 14) (hb : Bud r.1 (c + 1) (S + st.size + 35) (d + 66)) (hp : f.armed = true) : ChkR f l g c S d st r
theorem headOk_kept {n : Nat} {st : ByteArray} (h1 : 1 ≤ n) (h2 : n ≤ 1099511627776) (hs : st.size ≤ 60000) : HeadOk n true st := ⟨h1, h2, fun h => Bool.noConfusion h, hs⟩
set_option maxHeartbeats 1000000 in
theorem chk_plain {f : Fs} {l : Wl} {g : Gh} {c S d nid : Nat} {st : ByteArray} (h : Live f l g) (hb : Bud f c S d) (hc : c < 99999990) (hlim : l.first + l.recs.length ≤ 1099511627776) (hn : nid ∉ f.ids) (hst : st.size ≤ 60000) : ChkR f l g c S d st (chkW f l nid st) := by
  have hNc : g.N ≤ c := by
    have hm := h.mem
    obtain ⟨m1, m2, m3⟩ := mem_numsOf.1 hm
    exact hb.num _ (Fs.Poss.now h.wf) g.N m1 m2 m3
  have hone := h.one
  have hlast : l.last + 1 = l.first + l.recs.length := by rw [h.last, h.recs, List.length_append]; omega
  have hlong : tooLong st = false := by unfold tooLong; rw [decide_eq_false]; omega
  unfold chkW
  rw [if_neg (by rw [h.brk]; decide), if_neg (by rw [hlong]; decide)]
  cases hon : f.on with
  | false =>
    rw [sync_off hon]
    simp only [show ¬ (14 : Int) = 0 by decide, ne_eq, not_false_eq_true, if_true, seen_14]
    exact .off g none ⟨h.wf, hon, h.di⟩ rfl rfl rfl rfl h.firm h.recs.symm (fun _ _ _ h => by cases h) rfl (hb.mono (by omega) (by omega) (by omega)) (.inl hon)
  | true =>
    rcases sync_split h hb hon with ⟨f1, hsy, hl1, hall, hon1, hb1, ha1, hr1, hnow1, _, _, hby, hread, hused, hids⟩ | ⟨hsy, hd, hb1, harm⟩
    · rw [hsy]
      simp only [ne_eq, not_true, if_false]
      have hh := headOk_kept (n := l.last + 1) (st := st) (by omega) (by omega) hst
      have hhs := head_size hh
      have hn1 : nid ∉ f1.ids := by rw [hids]; exact hn
      rcases begin_plain (l := { l with firm := l.last }) hl1.wf hn1 hl1.di.db (by exact hl1.topEq) hl1.top hon1 hh hb1 hNc with ⟨hr, hbg⟩ | ⟨hr, hbg⟩ | ⟨hr, hbg⟩
      · generalize beginW f1 { l with firm := l.last } nid (l.last + 1) true st = r at hr hbg
        obtain ⟨f2, rl, re⟩ := r
        simp only at hr hbg
        cases hr
        simp only [not_true, if_false]
        have hl2 := live_anew (nid := nid) (c := c) (S := S) hl1.wf hl1.di.db hl1.top hh (by show g.N + 1 < _; omega) hbg
          { state := st, recs := [], first := l.last + 1, firm := l.last, now := segName (g.N + 1), broken := l.broken } rfl rfl rfl rfl rfl h.brk
        have hbud2 := hbg.bud.mono (Nat.le_refl _) (show S + (headOf (l.last + 1) true st).size ≤ S + st.size + 35 by omega) (Nat.le_refl _)
        obtain ⟨hnd, hin, hlen⟩ := nums_drop hbg.wf
        have hnow : numD (segName (g.N + 1)) = g.N + 1 := numD_segName (by omega) (by omega)
        have hdrop := drop_plain (fun n => n != numD (segName (g.N + 1))) (C := [] ++ [g.N + 1]) (B := g.N + 1) (T := g.N + 1) (ids := fun _ => nid) (nx := none) (c := c + 1) (S := S + st.size + 35) (fun n hnn => by rw [hnow]; simp at hnn; simp [hnn]) (numsOf f2.now) f2
          { state := st, recs := [], first := l.last + 1, firm := l.last, now := segName (g.N + 1), broken := l.broken } 0 hbg.wf hbg.on hl2.di.db hbud2 hnd hin
        rw [← fsegs_eq] at hdrop
        have hl2' : ({ l with firm := l.last, now := segName (g.N + 1) } : Wl).last = l.last := rfl
        simp only [show ({ state := l.state, recs := l.recs, first := l.first, firm := l.last, now := segName (g.N + 1), broken := l.broken } : Wl).last = l.last from rfl]
        generalize dropW (fun n => n != numD (segName (g.N + 1))) f2.segs f2 { state := st, recs := [], first := l.last + 1, firm := l.last, now := segName (g.N + 1), broken := l.broken } = r3 at hdrop
        obtain ⟨f3, l3, e3⟩ := r3
        obtain ⟨hdr, hcase⟩ := hdrop
        simp only at hdr hcase ⊢
        have ha3 : f3.armed = f.armed := hdr.armed.trans (hbg.armed.trans ha1)
        have hr3 : f3.room = f.room := hdr.room.trans (hbg.room.trans hr1)
        rcases hcase with ⟨h3, hon3, hnow3⟩ | ⟨h3, hoff, harm⟩
        · cases h3
          simp only [not_true, if_false]
          have hsub : ∀ p, p ∈ f3.now → p ∈ f2.now := fun p hp => by rw [hnow3] at hp; exact (List.mem_filter.1 hp).1
          have hl3 := live_drop hl2 hdr hsub
          have hs3 := Fs.step_fields f3
          rcases syncDir_cases hon3 with ⟨hsd, hw⟩ | ⟨hsd, hw⟩
          · rw [hsd]
            simp only [seen_zero]
            have hc4 : ({ f3.step.1 with firm := f3.now, since := [] } : Fs).cont = f3.cont := hs3.2.1
            have hnow4 : ({ f3.step.1 with firm := f3.now, since := [] } : Fs).now = f3.now := hs3.2.2.2.1
            have hP : ∀ L, ({ f3.step.1 with firm := f3.now, since := [] } : Fs).Poss L → f3.Poss L := fun L hL => by
              rw [hL.nil rfl]; exact Fs.Poss.now hdr.wf
            obtain ⟨ha4, hr4, hw⟩ := hw
            refine .ok _ ⟨hdr.wf.syncDir, hl3.di.weaken hP hc4, by rw [hnow4]; exact hl3.top, hl3.now, hl3.recs, hl3.firm, hl3.one, hl3.brk⟩ rfl rfl rfl rfl ?_ rfl hnow4.symm ?_ ((hdr.bud.weaken (d' := 0) hP (fun id => by rw [hc4]) (Nat.le_refl _)).mono (Nat.le_refl _) (Nat.le_refl _) (Nat.zero_le _)) (by show g.N + 1 ≤ _; omega) rfl (ha4.trans ha3) (hr4.trans hr3)
            · rcases hw with ⟨_, h⟩ | ⟨h, _⟩
              · exact h
              · exact absurd h (by decide)
            · show numsOf f3.step.1.now = [g.N + 1]
              rw [hs3.2.2.2.1]
              refine incr_ext (nums_incr _ hdr.wf.nodup) (by simp) (fun n => ?_)
              constructor
              · intro hnn
                obtain ⟨m1, m2, m3⟩ := mem_numsOf.1 hnn
                obtain ⟨p, hp, e⟩ := List.mem_map.1 m3
                rw [hnow3] at hp
                obtain ⟨hp1, hp2⟩ := List.mem_filter.1 hp
                by_cases hne : n = g.N + 1
                · simp [hne]
                · exfalso
                  simp only [Bool.not_eq_true', List.any_eq_false] at hp2
                  have hm2 : n ∈ numsOf f2.now := mem_numsOf.2 ⟨m1, m2, List.mem_map.2 ⟨p, hp1, e⟩⟩
                  have := hp2 n (List.mem_filter.2 ⟨hm2, by rw [hnow]; simpa using hne⟩)
                  simp [e] at this
              · intro hnn
                simp at hnn; subst hnn
                exact hl3.mem
          · rw [hsd]
            simp only [seen_14]
            obtain ⟨_, _, hw⟩ := hw
            rcases hw with ⟨h, _⟩ | ⟨_, hoff, harm⟩
            · exact absurd h (by decide)
            refine .done _ ⟨hdr.wf.step, hoff, hl3.di.step⟩ rfl rfl rfl rfl rfl rfl rfl rfl ?_ (ha3 ▸ harm)
            exact (hdr.bud.weaken (fun L hL => hL.same hs3.1 hs3.2.2.2.2.1) (fun id => by rw [hs3.2.1]) (by rw [hs3.2.2.2.2.1]; exact hdr.bud.len)).mono (Nat.le_refl _) (Nat.le_refl _) (by omega)
        · cases h3
          simp only [show ¬ (14 : Int) = 0 by decide, not_false_eq_true, if_true]
          refine .done _ (dead_drop hl2 hdr hoff) rfl rfl rfl rfl rfl rfl rfl rfl (hdr.bud.mono (Nat.le_refl _) (Nat.le_refl _) (by omega)) ?_
          rw [← ha1, ← hbg.armed]; exact harm
      · generalize beginW f1 { l with firm := l.last } nid (l.last + 1) true st = r at hr hbg
        obtain ⟨rf, rl, re⟩ := r
        simp only at hr hbg
        cases hr
        simp only [show ¬ (15 : Int) = 0 by decide, not_false_eq_true, if_true]
        have hlive := bgFull_live hl1 hn1 hbg
        refine .full _ hlive rfl rfl rfl rfl (hbg.bud.mono (Nat.le_refl _) (by omega) (by omega)) (by show g.N ≤ _; omega) rfl ?_ (hbg.armed.trans ha1) (hbg.room.trans hr1) ?_
        · have hw := hbg.why
          rw [hnow1, hused, hr1] at hw
          rcases hw with hw | hw
          · exact .inl hw
          · right
            simp only at hw
            omega
        · rcases hbg.pow with h | h
          · exact .inl h
          · exact .inr (ha1 ▸ h)
      · generalize beginW f1 { l with firm := l.last } nid (l.last + 1) true st = r at hr hbg
        obtain ⟨rf, rl, re⟩ := r
        simp only at hr hbg
        cases hr
        simp only [show ¬ (14 : Int) = 0 by decide, not_false_eq_true, if_true]
        have hdead := bgOff_dead hl1 hn1 hbg
        exact .off _ _ hdead rfl rfl rfl rfl h.last h.recs.symm (fun fi k st' e => by cases e; exact ⟨rfl, rfl⟩) rfl (hbg.bud.mono (Nat.le_refl _) (by show S + (headOf (l.last + 1) true st).size ≤ _; omega) (by omega)) (.inr (ha1 ▸ hbg.armed))
    · rw [hsy]
      simp only [show ¬ (14 : Int) = 0 by decide, ne_eq, not_false_eq_true, if_true, seen_14]
      exact .off g none hd rfl rfl rfl rfl h.firm h.recs.symm (fun _ _ _ h => by cases h) rfl (hb1.mono (by omega) (by omega) (by omega)) (.inr harm)
end Go.Proofs.YthogefmngddnbaaGreatDoor
/- Open, plain. -/
namespace Go.Proofs.YthogefmngddnbaaGreatDoor

def syncAll : Fs → List ByteArray → Fs
  | f, [] => f
  | f, s :: ss => syncAll (f.sync s).1 ss
structure SyAll (f r : Fs) (ss : List ByteArray) : Prop where
  wf : r.Wf
  on : r.on = true
  armed : r.armed = false
  now : r.now = f.now
  firm : r.firm = f.firm
  since : r.since = f.since
  room : r.room = f.room
  bytes : ∀ id, (r.cont id).bytes = (f.cont id).bytes
  keep : ∀ id, (f.cont id).synced = (f.cont id).bytes.size → (r.cont id).synced = (r.cont id).bytes.size
  all : ∀ s, s ∈ ss → ∀ id, mget f.now s = some id → (r.cont id).synced = (r.cont id).bytes.size
theorem syncAll_ok : ∀ (ss : List ByteArray) (f : Fs), f.Wf → f.on = true → f.armed = false → (∀ s, s ∈ ss → okName s = true ∧ (mget f.now s).isSome = true) → SyAll f (syncAll f ss) ss ∧ ∀ s, s ∈ ss → (f.sync s).2 = 0 := by
  intro ss
  induction ss with
  | nil => intro f hw hon ha _; exact ⟨⟨hw, hon, ha, rfl, rfl, rfl, rfl, fun _ => rfl, fun _ h => h, fun s h => by cases h⟩, fun s h => by cases h⟩
  | cons s ss ih =>
    intro f hw hon ha hin
    obtain ⟨h1, h2⟩ := hin s List.mem_cons_self
    obtain ⟨id, hid⟩ := Option.isSome_iff_exists.1 h2
    have hst : f.step = (f, 0) := step_off ha
    have hsy : f.sync s = ({ f with cont := upd f.cont id ⟨(f.cont id).bytes, (f.cont id).bytes.size⟩ }, 0) := by
      unfold Fs.sync
      rw [get_some (ready1_on hon h1) hid]
      simp only
      rw [hst]
      rfl
    have hwf : ({ f with cont := upd f.cont id ⟨(f.cont id).bytes, (f.cont id).bytes.size⟩ } : Fs).Wf := hw.cont id _ ⟨(hw.size id (Fs.mget_ids hid)).1, Nat.le_refl _⟩
    have hby : ∀ j, (upd f.cont id ⟨(f.cont id).bytes, (f.cont id).bytes.size⟩ j).bytes = (f.cont j).bytes := fun j => by
      unfold upd
      split
      · next e => rw [e]
      · rfl
    have hk : ∀ j, (f.cont j).synced = (f.cont j).bytes.size → (upd f.cont id ⟨(f.cont id).bytes, (f.cont id).bytes.size⟩ j).synced = (upd f.cont id ⟨(f.cont id).bytes, (f.cont id).bytes.size⟩ j).bytes.size := fun j hj => by
      unfold upd
      split
      · rfl
      · exact hj
    unfold syncAll
    rw [hsy]
    obtain ⟨i, i2⟩ := ih ({ f with cont := upd f.cont id ⟨(f.cont id).bytes, (f.cont id).bytes.size⟩ } : Fs) hwf hon ha (fun t ht => hin t (List.mem_cons_of_mem _ ht))
    refine ⟨⟨i.wf, i.on, i.armed, i.now, i.firm, i.since, i.room, fun j => (i.bytes j).trans (hby j), fun j hj => i.keep j (hk j hj), ?_⟩, ?_⟩
    · intro t ht id2 hid2
      rcases List.mem_cons.1 ht with rfl | ht
      · rw [hid] at hid2
        cases hid2
        refine i.keep id ?_
        show (upd f.cont id _ id).synced = (upd f.cont id _ id).bytes.size
        unfold upd; rw [if_pos rfl]
      · exact i.all t ht id2 hid2
    · intro t ht
      obtain ⟨k1, k2⟩ := hin t ht
      obtain ⟨id2, hid2⟩ := Option.isSome_iff_exists.1 k2
      unfold Fs.sync
      rw [get_some (ready1_on hon k1) hid2]
      simp only
      rw [hst]
      rfl

def wlOf (ld : Option Ld) : Wl := match ld with
  | none => { state := ⟨#[]⟩, recs := [], first := 1, firm := 0, now := ⟨#[]⟩, broken := false }
  | some x => { state := x.state, recs := x.recs, first := x.first, firm := x.first + x.recs.length - 1, now := ⟨#[]⟩, broken := false }
def fromOf (ld : Option Ld) : Nat := match ld with | none => 0 | some x => x.num
/-- wal.Open, at a folder that has power and isn't armed -/
def openW (f : Fs) (nid : Nat) : Fs × Wl × Int :=
  let f1 := syncAll f f.segs
  let r := beginW f1 (wlOf f1.loaded) nid ((wlOf f1.loaded).last + 1) (fromOf f1.loaded == 0) ⟨#[]⟩
  if r.2.2 ≠ 0 then r else dropW (fun n => decide (n < fromOf f1.loaded)) r.1.segs r.1 r.2.1

theorem le_last {ns : List Nat} (hp : ns.Pairwise (· < ·)) {n : Nat} (hn : n ∈ ns) : n ≤ ns.getLastD 0 ∧ ns.getLastD 0 ∈ ns := by
  obtain ⟨pre, m, rfl⟩ : ∃ pre m, ns = pre ++ [m] := by
    rcases List.eq_nil_or_concat ns with h | ⟨l, b, h⟩
    · subst h; cases hn
    · exact ⟨l, b, by simpa using h⟩
  rw [List.pairwise_append] at hp
  have hl : (pre ++ [m]).getLastD 0 = m := by simp [List.getLastD_eq_getLast?]
  rw [hl]
  refine ⟨?_, by simp⟩
  rcases List.mem_append.1 hn with h | h
  · exact Nat.le_of_lt (hp.2.2 n h m (by simp))
  · simp at h; omega
theorem mget_inj {L : Nm} (hn : (L.map (·.2)).Nodup) {a b : ByteArray} {x : Nat} (ha : mget L a = some x) (hb : mget L b = some x) : a = b := by
  have h1 := mget_mem ha
  have h2 := mget_mem hb
  induction L with
  | nil => cases h1
  | cons p L ih =>
    rw [List.map_cons, List.nodup_cons] at hn
    rcases List.mem_cons.1 h1 with e1 | m1 <;> rcases List.mem_cons.1 h2 with e2 | m2
    · have := e1.trans e2.symm
      exact congrArg Prod.fst this
    · exact absurd (List.mem_map.2 ⟨_, m2, by rw [← e1]⟩) hn.1
    · exact absurd (List.mem_map.2 ⟨_, m1, by rw [← e2]⟩) hn.1
    · by_cases h : p.1 = a
      · exfalso
        unfold mget at ha
        rw [List.find?_cons_of_pos (by simpa using h)] at ha
        simp at ha
        exact hn.1 (List.mem_map.2 ⟨_, m1, ha.symm⟩)
      · by_cases h' : p.1 = b
        · exfalso
          unfold mget at hb
          rw [List.find?_cons_of_pos (by simpa using h')] at hb
          simp at hb
          exact hn.1 (List.mem_map.2 ⟨_, m2, hb.symm⟩)
        · refine ih hn.2 ?_ ?_ m1 m2
          · unfold mget at ha ⊢; rw [List.find?_cons_of_neg (by simpa using h)] at ha; exact ha
          · unfold mget at hb ⊢; rw [List.find?_cons_of_neg (by simpa using h')] at hb; exact hb
/-- all names are segments' -/
def SegNames (L : Nm) : Prop := ∀ p, p ∈ L → ∃ n, p.1 = segName n ∧ 1 ≤ n ∧ n ≤ 99999999
theorem DB.segNames {f f' : Fs} {C : List Nat} {B T : Nat} {ids : Nat → Nat} {nx : Option Hd} (h : DB f C B T ids nx) (hc : CrashOf f f') : SegNames f'.now := by
  obtain ⟨L, hL, hk, _⟩ := hc.ex
  intro p hp
  have hm : p.1 ∈ L.map (·.1) := by rw [← hk]; exact List.mem_map.2 ⟨p, hp, rfl⟩
  obtain ⟨q, hq, e⟩ := List.mem_map.1 hm
  obtain ⟨n, h1, h2, h3, _⟩ := h.names L hL q hq
  have := h.top
  exact ⟨n, e.symm.trans h1, h2, by omega⟩
/-- a folder in which something can be found, ready to be opened -/
structure Ready (f : Fs) (ld : Ld) (c S : Nat) : Prop where
  wf : f.Wf
  on : f.on = true
  arm : f.armed = false
  since : f.since = []
  firm : f.firm = f.now
  names : SegNames f.now
  bud : Bud f c S 0
  ld : f.loaded = some ld
theorem loaded_db {f f1 : Fs} {ld : Ld} {c S : Nat} (h : Ready f ld c S) (hc : c < 99999990) (hs : SyAll f f1 f.segs) :
    ∃ ids, DB f1 ((numsOf f.now).filter (fun n => decide (ld.num ≤ n))) ld.num (topOf f.segs) ids none ∧ topOf f.segs ≤ c ∧ mget f1.now (segName (topOf f.segs + 1)) = none ∧
      (∀ n, n ∈ (numsOf f.now).filter (fun n => decide (ld.num ≤ n)) → (f1.cont (ids n)).synced = (f1.cont (ids n)).bytes.size) ∧ f1.loaded = some ld ∧
      ∀ a, foldC (fun n => (f1.cont (ids n)).bytes) ((numsOf f.now).filter (fun n => decide (ld.num ≤ n))) a = some ld := by
  have hincr := nums_incr f.now h.wf.nodup
  obtain ⟨hm, hfold⟩ := load_split hincr h.ld
  have hT := ftop_eq f
  obtain ⟨hle, hTm⟩ := le_last hincr hm
  rw [← hT] at hle hTm
  have hmax : ∀ n, n ∈ numsOf f.now → n ≤ topOf f.segs := fun n hn => by rw [hT]; exact (le_last hincr hn).1
  have hP0 : f.Poss f.now := Fs.Poss.now h.wf
  have hTc : topOf f.segs ≤ c := by
    obtain ⟨m1, m2, m3⟩ := mem_numsOf.1 hTm
    exact h.bud.num _ hP0 _ m1 m2 m3
  have hP : ∀ L, f1.Poss L → L = f.now := fun L hL => by rw [hL.nil (hs.since.trans h.since), hs.firm, h.firm]
  have hids : ∀ n, n ∈ numsOf f.now → mget f.now (segName n) = some ((mget f.now (segName n)).getD 0) := fun n hn => by
    obtain ⟨id, hid⟩ := Option.isSome_iff_exists.1 (mget_isSome.2 (mem_numsOf.1 hn).2.2)
    rw [hid]; rfl
  have hno : mget f1.now (segName (topOf f.segs + 1)) = none := by
    rw [hs.now, mget_none]
    intro hk
    have := hmax (topOf f.segs + 1) (mem_numsOf.2 ⟨by omega, by omega, hk⟩)
    omega
  have hbody : ∀ n, n ∈ numsOf f.now → f1.bodyAt n = f.bodyAt n ∧ f.bodyAt n = (f1.cont ((mget f.now (segName n)).getD 0)).bytes := fun n hn => by
    unfold Fs.bodyAt
    rw [hs.now, hids n hn]
    exact ⟨hs.bytes _, (hs.bytes _).symm⟩
  refine ⟨fun n => (mget f.now (segName n)).getD 0, ⟨hincr.filter _, fun n hn => ?_, (mem_numsOf.1 hm).1, by omega, ?_, ?_, ?_, ?_⟩, hTc, hno, ?_, ?_, ?_⟩
  · obtain ⟨h1, h2⟩ := List.mem_filter.1 hn
    exact ⟨by simpa using h2, hmax n h1⟩
  · intro L hL p hp
    rw [hP L hL] at hp
    obtain ⟨n, h1, h2, h3⟩ := h.names p hp
    have hmem : n ∈ numsOf f.now := mem_numsOf.2 ⟨h2, h3, List.mem_map.2 ⟨p, hp, h1⟩⟩
    have := hmax n hmem
    exact ⟨n, h1, h2, by omega, fun hb _ => List.mem_filter.2 ⟨hmem, by simpa using hb⟩⟩
  · intro L hL n hn
    rw [hP L hL]
    exact hids n (List.mem_filter.1 hn).1
  · intro n hn m hm2 e
    have k1 := hids n (List.mem_filter.1 hn).1
    have k2 := hids m (List.mem_filter.1 hm2).1
    rw [show (mget f.now (segName n)).getD 0 = (mget f.now (segName m)).getD 0 from e] at k1
    have := mget_inj (h.bud.uni _ hP0) k1 k2
    exact segName_inj (mem_numsOf.1 (List.mem_filter.1 hn).1).2.1 (mem_numsOf.1 (List.mem_filter.1 hm2).1).2.1 this
  · intro L hL id hid
    rw [hP L hL, ← hs.now, hno] at hid
    cases hid
  · intro n hn
    have hn1 := (List.mem_filter.1 hn).1
    refine hs.all (segName n) ?_ _ (hids n hn1)
    rw [fsegs_eq]
    exact List.mem_map.2 ⟨n, hn1, rfl⟩
  · unfold Fs.loaded
    rw [hs.now, foldC_congr (fun n hn => (hbody n hn).1)]
    exact h.ld
  · intro a
    rw [foldC_congr (b2 := f.bodyAt) (fun n hn => ((hbody n (List.mem_filter.1 hn).1).2).symm)]
    exact hfold a
theorem live_on {f r : Fs} {C : List Nat} {T c S nid : Nat} {ids : Nat → Nat} {ld : Ld} (hw : f.Wf) (hdb : DB f C ld.num T ids none) (hno : mget f.now (segName (T + 1)) = none) (hBT : ld.num ≤ T) (hn : nid ∉ f.ids)
    (hwhole : ∀ n, n ∈ C → (f.cont (ids n)).synced = (f.cont (ids n)).bytes.size) (hfold : ∀ a, foldC (fun n => (f.cont (ids n)).bytes) C a = some ld)
    (hh : HeadOk (ld.first + ld.recs.length) false ⟨#[]⟩) (hT : T + 1 < 99999999) (hr : BgOk f r C ld.num T ids (ld.first + ld.recs.length, false, ⟨#[]⟩) c S nid) (l : Wl)
    (h1 : l.state = ld.state) (h2 : l.first = ld.first) (h3 : l.recs = ld.recs) (h4 : l.firm + 1 = ld.first + ld.recs.length) (h5 : l.now = segName (T + 1)) (h6 : l.broken = false) (h7 : 1 ≤ ld.first) :
    Live r l { C0 := C, N := T + 1, B := ld.num, ids := upd ids (T + 1) nid, first := ld.first + ld.recs.length, kept := false, state := ⟨#[]⟩, acc := ld.recs, rs := [], k := 0 } := by
  have hid : mget r.now (segName (T + 1)) = some nid := by
    rw [hr.now, ← mput_new hno, mget_mput, if_pos rfl]
  have hne : ∀ n, n ∈ C → ids n ≠ nid := fun n hnn e => hn (e ▸ hdb.idMem hw hnn)
  have hle : ∀ n, n ∈ C → upd ids (T + 1) nid n = ids n := fun n hnn => by
    unfold upd; rw [if_neg]; have := hdb.rng n hnn; omega
  have hself : upd ids (T + 1) nid (T + 1) = nid := by unfold upd; rw [if_pos rfl]
  refine ⟨hr.wf, ⟨hr.db.promote hr.wf hr.since hid hT (by show ld.num ≤ T + 1; omega), ?_, hh, ?_, fun b hb => (by cases hb), Nat.le_refl _, ?_, ?_⟩, ?_, h5, by rw [h3, List.append_nil], by show l.firm + 1 = l.first + ld.recs.length + 0; omega, by omega, h6⟩
  · intro n hnn
    show (r.cont (upd ids (T + 1) nid n)).synced = (r.cont (upd ids (T + 1) nid n)).bytes.size
    rw [hle n hnn, hr.cont _ (hne n hnn)]
    exact hwhole n hnn
  · show toL (r.cont (upd ids (T + 1) nid (T + 1))).bytes = segL' (ld.first + ld.recs.length) false ⟨#[]⟩ []
    rw [hself, hr.file]
    simp [segL', framesL]
  · show (segL' (ld.first + ld.recs.length) false ⟨#[]⟩ ([].take 0)).length ≤ (r.cont (upd ids (T + 1) nid (T + 1))).synced
    rw [hself, hr.file]
    simp [segL', framesL]
  · intro a rs'
    show stepL (foldC (fun n => (r.cont (upd ids (T + 1) nid n)).bytes) C a) (some ⟨T + 1, ld.first + ld.recs.length, false, ⟨#[]⟩, rs'⟩) = some ⟨ld.num, l.state, l.first, ld.recs ++ rs'⟩
    rw [foldC_congr (b2 := fun n => (f.cont (ids n)).bytes) (fun n hnn => by rw [hle n hnn, hr.cont _ (hne n hnn)]), hfold, h1, h2]
    simp [stepL]
  · show mget r.now (segName (T + 1 + 1)) = none
    rw [hr.now, ← mput_new hno, mget_mput, if_neg, mget_none]
    · intro hm
      obtain ⟨p, hp, e⟩ := List.mem_map.1 hm
      obtain ⟨n, h1, h2, h3, _⟩ := hdb.names _ (Fs.Poss.now hw) p hp
      have := segName_inj (by omega) (by omega) (h1.symm.trans e)
      omega
    · intro e
      have := segName_inj (by omega) (by omega) e
      omega
inductive OpenR (f : Fs) (ld : Ld) (c S : Nat) (r : Fs × Wl × Int) : Prop
  | ok (g : Gh) (hl : Live r.1 r.2.1 g) (h1 : r.2.1.state = ld.state) (h2 : r.2.1.first = ld.first) (h3 : r.2.1.recs = ld.recs) (h4 : r.2.1.firm = r.2.1.last) (hon : r.1.on = true) (ha : r.1.armed = false) (hr : r.1.room = f.room) (hb : Bud r.1 (c + 1) (S + 35) 64) (hN : g.N ≤ c + 1) (he : r.2.2 = 0) : OpenR f ld c S r
  | full (he : r.2.2 = 15) (hw : 64 ≤ f.now.length ∨ f.room < (f.used : Int) + 35) (wf : r.1.Wf) (hc : ∀ f', CrashOf r.1 f' → f'.Wf → f'.loaded = some ld ∧ SegNames f'.now) (hf : r.1.firm = f.now) (hb : Bud r.1 (c + 1) S 2) (hr : r.1.room = f.room) : OpenR f ld c S r
set_option maxHeartbeats 1000000 in
theorem open_plain {f : Fs} {ld : Ld} {c S nid : Nat} (h : Ready f ld c S) (hc : c < 99999990) (h1 : 1 ≤ ld.first) (hlim : ld.first + ld.recs.length ≤ 1099511627776) (hn : nid ∉ f.ids) : OpenR f ld c S (openW f nid) := by
  have hseg : ∀ s, s ∈ f.segs → okName s = true ∧ (mget f.now s).isSome = true := fun s hs => by
    rw [fsegs_eq] at hs
    obtain ⟨n, hn, rfl⟩ := List.mem_map.1 hs
    obtain ⟨m1, m2, m3⟩ := mem_numsOf.1 hn
    exact ⟨okName_seg m2, mget_isSome.2 m3⟩
  obtain ⟨hs, _⟩ := syncAll_ok f.segs f h.wf h.on h.arm hseg
  obtain ⟨ids, hdb, hTc, hno, hwhole, hld, hfold⟩ := loaded_db h hc hs
  have hincr := nums_incr f.now h.wf.nodup
  obtain ⟨hm, _⟩ := load_split hincr h.ld
  have hnum : 1 ≤ ld.num := (mem_numsOf.1 hm).1
  have hBT : ld.num ≤ topOf f.segs := by rw [ftop_eq]; exact (le_last hincr hm).1
  unfold openW
  simp only
  generalize syncAll f f.segs = f1 at hs hdb hno hwhole hld hfold
  rw [hld]
  have hlast : (wlOf (some ld)).last + 1 = ld.first + ld.recs.length := by show ld.first + ld.recs.length - 1 + 1 = _; omega
  have hk : (fromOf (some ld) == 0) = false := by show (ld.num == 0) = false; rw [beq_eq_false_iff_ne]; omega
  rw [hlast, hk]
  have hh := headOk_plain (n := ld.first + ld.recs.length) (by omega) hlim
  have hhs := head_size hh
  have hn1 : nid ∉ f1.ids := by unfold Fs.ids at hn ⊢; rw [hs.now, hs.firm, hs.since]; exact hn
  have htop : topOf f1.segs = topOf f.segs := by rw [ftop_eq, ftop_eq, hs.now]
  have hb1 : Bud f1 c S 0 := h.bud.weaken (fun L hL => hL.same hs.firm hs.since) hs.bytes (by rw [hs.since, h.since]; exact Nat.le_refl _)
  have hcontne : ∀ n, n ∈ (numsOf f.now).filter (fun n => decide (ld.num ≤ n)) → ids n ≠ nid := fun n hnn e => hn1 (e ▸ hdb.idMem hs.wf hnn)
  rcases begin_plain (l := wlOf (some ld)) (nid := nid) hs.wf hn1 hdb htop hno hs.on hh hb1 hTc with ⟨hr, hbg⟩ | ⟨hr, hbg⟩ | ⟨hr, hbg⟩
  · generalize beginW f1 (wlOf (some ld)) nid (ld.first + ld.recs.length) false ⟨#[]⟩ = r at hr hbg
    obtain ⟨f2, rl, re⟩ := r
    simp only at hr hbg
    cases hr
    simp only [ne_eq, not_true, if_false]
    have hl2 := live_on (nid := nid) hs.wf hdb hno hBT hn1 hwhole hfold hh (by omega) hbg { wlOf (some ld) with now := segName (topOf f.segs + 1) } rfl rfl rfl hlast rfl rfl h1
    obtain ⟨hnd, hin, hlen⟩ := nums_drop hbg.wf
    have hbud2 := hbg.bud.mono (Nat.le_refl _) (show S + (headOf (ld.first + ld.recs.length) false ⟨#[]⟩).size ≤ S + 35 from by have : (⟨#[]⟩ : ByteArray).size = 0 := rfl; omega) (Nat.le_refl _)
    have hdrop := drop_plain (fun n => decide (n < ld.num)) (nx := none) (c := c + 1) (S := S + 35) (fun n hnn => by
      have := hl2.di.db.rng n hnn
      simp only at this
      rw [decide_eq_false]; omega) (numsOf f2.now) f2 { wlOf (some ld) with now := segName (topOf f.segs + 1) } 0 hbg.wf hbg.on hl2.di.db hbud2 hnd hin
    rw [← fsegs_eq] at hdrop
    have hfrom : fromOf (some ld) = ld.num := rfl
    rw [hfrom]
    generalize dropW (fun n => decide (n < ld.num)) f2.segs f2 { wlOf (some ld) with now := segName (topOf f.segs + 1) } = r3 at hdrop
    obtain ⟨f3, l3, e3⟩ := r3
    obtain ⟨hdr, hcase⟩ := hdrop
    simp only at hdr hcase
    rcases hcase with ⟨h3, hon3, hnow3⟩ | ⟨h3, hoff, harm⟩
    · cases h3
      have hsub : ∀ p, p ∈ f3.now → p ∈ f2.now := fun p hp => by rw [hnow3] at hp; exact (List.mem_filter.1 hp).1
      exact .ok _ (live_drop hl2 hdr hsub) rfl rfl rfl rfl hon3 (hdr.armed.trans (hbg.armed.trans hs.armed)) (hdr.room.trans (hbg.room.trans hs.room)) (hdr.bud.mono (Nat.le_refl _) (Nat.le_refl _) (by omega)) (by show topOf f.segs + 1 ≤ _; omega) rfl
    · rw [hbg.armed, hs.armed] at harm; cases harm
  · generalize beginW f1 (wlOf (some ld)) nid (ld.first + ld.recs.length) false ⟨#[]⟩ = r at hr hbg
    obtain ⟨f2, rl, re⟩ := r
    simp only at hr hbg
    cases hr
    simp only [show ¬ (15 : Int) = 0 by decide, ne_eq, not_false_eq_true, if_true]
    refine .full rfl ?_ hbg.wf (fun f' hcr hw' => ⟨?_, hbg.db.segNames hcr⟩) (by rw [hbg.firm, hs.firm, h.firm]) (hbg.bud.mono (Nat.le_refl _) (Nat.le_refl _) (by omega)) (hbg.room.trans hs.room)
    · have hw := hbg.why
      have hu : f1.used = f.used := by rw [used_eq, used_eq, hs.now]; exact usedOf_congr (fun p _ => by rw [hs.bytes])
      rw [hs.now, hu, hs.room] at hw
      rcases hw with hw | hw
      · exact .inl hw
      · right
        have : (⟨#[]⟩ : ByteArray).size = 0 := rfl
        simp only at hw
        omega
    · obtain ⟨pre, post, hns, hpost, hbody⟩ := crash_base hbg.wf hw' hbg.db hcr
      have h0 : ∀ n, n ∈ (numsOf f.now).filter (fun n => decide (ld.num ≤ n)) → f'.bodyAt n = (f1.cont (ids n)).bytes := fun n hnn => by
        obtain ⟨m, m1, m2, m3⟩ := hbody n hnn
        rw [hbg.cont _ (hcontne n hnn)] at m1 m2 m3
        apply toL_inj
        rw [m3, List.take_of_length_le]
        rw [toL_length, ← hwhole n hnn]; exact m1
      unfold Fs.loaded
      rw [hns, foldC_append, foldC_append, foldC_congr h0, hfold]
      rcases hpost with rfl | ⟨rfl, id, m, m1, m2, m3⟩
      · rfl
      · rw [foldC_one]
        rcases torn_rd (n := topOf f.segs + 1) m3 m2 with hr | ⟨_, _, _, e, _⟩
        · rw [hr]; rfl
        · cases e
  · exact absurd hbg.armed (by rw [hs.armed]; decide)
end Go.Proofs.YthogefmngddnbaaGreatDoor
/- What load gathers: plain. -/
namespace Go.Proofs.YthogefmngddnbaaGreatDoor

def begIdx (L : List Seg) : Int := (L.foldl (fun (p : Int × Nat) g => (if g.kept then (p.2 : Int) else p.1, p.2 + 1)) (-1, 0)).1
theorem begFold (L : List Seg) : ∀ p : Int × Nat, (L.foldl (fun (p : Int × Nat) g => (if g.kept then (p.2 : Int) else p.1, p.2 + 1)) p).2 = p.2 + L.length := by
  induction L with
  | nil => intro p; rfl
  | cons g L ih => intro p; rw [List.foldl_cons, ih]; simp only [List.length_cons]; omega
theorem begIdx_nil : begIdx [] = -1 := rfl
theorem begIdx_snoc (L : List Seg) (g : Seg) : begIdx (L ++ [g]) = if g.kept then (L.length : Int) else begIdx L := by
  unfold begIdx
  rw [List.foldl_append, List.foldl_cons, List.foldl_nil]
  simp only
  rw [begFold]
  simp
theorem snoc_cases {α : Type} (L : List α) : L = [] ∨ ∃ M a, L = M ++ [a] := by
  rcases List.eq_nil_or_concat L with h | ⟨l, b, h⟩
  · exact .inl h
  · exact .inr ⟨l, b, by simpa using h⟩
theorem begIdx_bd : ∀ (n : Nat) (L : List Seg), L.length = n → -1 ≤ begIdx L ∧ begIdx L < L.length := by
  intro n
  induction n with
  | zero => intro L h; obtain rfl := List.eq_nil_of_length_eq_zero h; decide
  | succ n ih =>
    intro L h
    rcases snoc_cases L with rfl | ⟨M, a, rfl⟩
    · simp at h
    · have := ih M (by simpa using h)
      rw [begIdx_snoc]
      split <;> simp <;> omega
def foldL (L : List Seg) (a : Option Ld) : Option Ld := L.foldl (fun a g => stepL a (some g)) a
theorem foldL_append (L M : List Seg) (a : Option Ld) : foldL (L ++ M) a = foldL M (foldL L a) := by unfold foldL; rw [List.foldl_append]
/-- without a kept one nothing is found; else all begins at the last kept one -/
theorem begIdx_none : ∀ (n : Nat) (L : List Seg), L.length = n → begIdx L < 0 → foldL L none = none := by
  intro n
  induction n with
  | zero => intro L h _; obtain rfl := List.eq_nil_of_length_eq_zero h; rfl
  | succ n ih =>
    intro L h hb
    rcases snoc_cases L with rfl | ⟨M, a, rfl⟩
    · rfl
    · rw [begIdx_snoc] at hb
      rw [foldL_append]
      split at hb
      · omega
      · next hk =>
        rw [ih M (by simpa using h) hb]
        show stepL none (some a) = none
        simp [stepL, hk]
theorem begIdx_some : ∀ (n : Nat) (L : List Seg), L.length = n → ∀ b : Nat, begIdx L = b → ∃ pre g rest, L = pre ++ g :: rest ∧ pre.length = b ∧ g.kept = true ∧ ∀ x, x ∈ rest → x.kept = false := by
  intro n
  induction n with
  | zero => intro L h b hb; obtain rfl := List.eq_nil_of_length_eq_zero h; rw [begIdx_nil] at hb; omega
  | succ n ih =>
    intro L h b hb
    rcases snoc_cases L with rfl | ⟨M, a, rfl⟩
    · simp at h
    · rw [begIdx_snoc] at hb
      split at hb
      · next hk => exact ⟨M, a, [], rfl, by omega, hk, fun x hx => by cases hx⟩
      · next hk =>
        obtain ⟨pre, g, rest, rfl, h1, h2, h3⟩ := ih M (by simpa using h) b hb
        refine ⟨pre, g, rest ++ [a], by simp, h1, h2, fun x hx => ?_⟩
        rcases List.mem_append.1 hx with hx | hx
        · exact h3 x hx
        · simp at hx; subst hx; simpa using hk
def chainR (first : Nat) (acc : List ByteArray) (gs : List Seg) : List ByteArray := gs.foldl (fun acc g => if g.first = first + acc.length then acc ++ g.recs else acc) acc
theorem chainR_snoc (first : Nat) (acc : List ByteArray) (gs : List Seg) (g : Seg) : chainR first acc (gs ++ [g]) = if g.first = first + (chainR first acc gs).length then chainR first acc gs ++ g.recs else chainR first acc gs := by
  unfold chainR; rw [List.foldl_append]; rfl
theorem chain_fold (rest : List Seg) (hr : ∀ x, x ∈ rest → x.kept = false) : ∀ (n : Nat) (st : ByteArray) (fi : Nat) (acc : List ByteArray), foldL rest (some ⟨n, st, fi, acc⟩) = some ⟨n, st, fi, chainR fi acc rest⟩ := by
  induction rest with
  | nil => intro n st fi acc; rfl
  | cons g rest ih =>
    intro n st fi acc
    have hk := hr g List.mem_cons_self
    show foldL rest (stepL (some ⟨n, st, fi, acc⟩) (some g)) = _
    unfold stepL
    simp only [hk, Bool.false_eq_true, if_false]
    show foldL rest _ = some ⟨n, st, fi, chainR fi (if g.first = fi + acc.length then acc ++ g.recs else acc) rest⟩
    split
    · exact ih (fun x hx => hr x (List.mem_cons_of_mem _ hx)) _ _ _ _
    · exact ih (fun x hx => hr x (List.mem_cons_of_mem _ hx)) _ _ _ _
/-- what is found, by the place of the last kept one -/
theorem fold_beg {L : List Seg} {b : Nat} {g : Seg} (hb : begIdx L = b) (hg : L[b]? = some g) : foldL L none = some ⟨g.number, g.state, g.first, chainR g.first [] (L.drop b)⟩ := by
  obtain ⟨pre, g', rest, rfl, h1, h2, h3⟩ := begIdx_some _ L rfl b hb
  subst h1
  have : g' = g := by
    rw [List.getElem?_append_right (Nat.le_refl _)] at hg
    simpa using hg
  subst this
  rw [foldL_append, List.drop_left]
  show foldL rest (stepL (foldL pre none) (some g')) = _
  have : stepL (foldL pre none) (some g') = some ⟨g'.number, g'.state, g'.first, g'.recs⟩ := by simp [stepL, h2]
  rw [this, chain_fold rest h3]
  congr 2
  show chainR g'.first g'.recs rest = chainR g'.first (if g'.first = g'.first + ([] : List ByteArray).length then [] ++ g'.recs else []) rest
  simp
theorem chainR_le (first : Nat) (gs : List Seg) : ∀ acc, (chainR first acc gs).length ≤ acc.length + (gs.map (·.recs.length)).sum := by
  induction gs with
  | nil => intro acc; exact Nat.le_add_right _ _
  | cons g gs ih =>
    intro acc
    show (chainR first (if g.first = first + acc.length then acc ++ g.recs else acc) gs).length ≤ _
    have := ih (if g.first = first + acc.length then acc ++ g.recs else acc)
    simp only [List.map_cons, List.sum_cons]
    by_cases h : g.first = first + acc.length
    · rw [if_pos h] at this ⊢
      rw [List.length_append] at this
      omega
    · rw [if_neg h] at this ⊢
      omega

/-- the segments of a folder, read -/
def segOf (f : Fs) (s : ByteArray) : Option Seg := rd (numD s) (f.read s).1
def segsIn (f : Fs) (ss : List ByteArray) : List Seg := ss.filterMap (segOf f)
theorem segsIn_snoc (f : Fs) (ss : List ByteArray) (s : ByteArray) : segsIn f (ss ++ [s]) = match segOf f s with | none => segsIn f ss | some g => segsIn f ss ++ [g] := by
  unfold segsIn
  rw [List.filterMap_append]
  cases h : segOf f s <;> simp [h]
theorem read_seg {f : Fs} (hon : f.on = true) {n : Nat} (hn : n ∈ numsOf f.now) : f.read (segName n) = (f.bodyAt n, 0) := by
  obtain ⟨h1, h2, h3⟩ := mem_numsOf.1 hn
  obtain ⟨id, hid⟩ := Option.isSome_iff_exists.1 (mget_isSome.2 h3)
  unfold Fs.read Fs.bodyAt
  rw [get_some (ready1_on hon (okName_seg h2)) hid, hid]
theorem loaded_segs {f : Fs} (hon : f.on = true) : f.loaded = foldL (segsIn f f.segs) none := by
  have key : ∀ (ns : List Nat), (∀ n, n ∈ ns → n ∈ numsOf f.now) → ∀ a, foldC f.bodyAt ns a = foldL (segsIn f (ns.map segName)) a := by
    intro ns
    induction ns with
    | nil => intro _ a; rfl
    | cons n ns ih =>
      intro h a
      have hn := h n List.mem_cons_self
      have hm := mem_numsOf.1 hn
      have hs : segOf f (segName n) = rd n (f.bodyAt n) := by
        unfold segOf; rw [read_seg hon hn, numD_segName hm.1 hm.2.1]
      show foldC f.bodyAt ns (stepL a (rd n (f.bodyAt n))) = _
      rw [ih (fun m hm => h m (List.mem_cons_of_mem _ hm))]
      rw [List.map_cons]
      unfold segsIn
      rw [List.filterMap_cons, hs]
      cases rd n (f.bodyAt n) with
      | none => rfl
      | some g => rfl
  unfold Fs.loaded
  rw [key _ (fun n hn => hn), fsegs_eq]
theorem segOf_first {f : Fs} {s : ByteArray} {g : Seg} (h : segOf f s = some g) : 1 ≤ g.first ∧ g.first ≤ 1099511627776 ∧ g.recs.length ≤ (f.read s).1.size ∧ g.number = numD s := by
  unfold segOf rd at h
  split at h
  · next hr =>
    cases h
    have hb := scanOf_bound (f.read s).1
    unfold readOf at hr ⊢
    split
    · next h0 => rw [h0] at hr; cases hr
    · next hd tl h0 =>
      rw [h0] at hr hb
      simp only [Bool.and_eq_true, decide_eq_true_eq] at hr
      simp only [List.length_cons] at hb
      refine ⟨hr.2.1, ?_, by simp only; omega, rfl⟩
      have hsz : hd.size ≤ 70000 := hb.2 hd List.mem_cons_self
      exact ((Rd.Ok.new hd (by omega)).small 1099511627776).2.2
  · cases h
theorem sub_sum {a b : List Nat} (h : a.Sublist b) : a.sum ≤ b.sum := by
  induction h with
  | slnil => exact Nat.le_refl _
  | cons _ _ ih => simp only [List.sum_cons]; omega
  | cons_cons _ _ ih => simp only [List.sum_cons]; omega
/-- there are no more records than bytes -/
theorem recs_used {f : Fs} (hw : f.Wf) (hon : f.on = true) : ((segsIn f f.segs).map (·.recs.length)).sum ≤ f.used := by
  have h1 : ((segsIn f f.segs).map (·.recs.length)).sum ≤ ((numsOf f.now).map (fun n => (f.bodyAt n).size)).sum := by
    rw [fsegs_eq]
    have : ∀ ns : List Nat, (∀ n, n ∈ ns → n ∈ numsOf f.now) → ((segsIn f (ns.map segName)).map (·.recs.length)).sum ≤ (ns.map (fun n => (f.bodyAt n).size)).sum := by
      intro ns
      induction ns with
      | nil => intro _; exact Nat.le_refl _
      | cons n ns ih =>
        intro h
        have := ih (fun m hm => h m (List.mem_cons_of_mem _ hm))
        have hn := h n List.mem_cons_self
        rw [List.map_cons, List.map_cons, List.sum_cons]
        unfold segsIn at this ⊢
        rw [List.filterMap_cons]
        cases hs : segOf f (segName n) with
        | none => simp only; omega
        | some g =>
          have := (segOf_first hs).2.2.1
          rw [read_seg hon hn] at this
          simp only [List.map_cons, List.sum_cons] at this ⊢
          omega
    exact this _ (fun n hn => hn)
  refine Nat.le_trans h1 ?_
  rw [used_eq, usedOf_keys f.cont hw.nodup]
  have h2 : (numsOf f.now).map (fun n => (f.bodyAt n).size) = ((numsOf f.now).map segName).map (sizeAt f.cont f.now) := by
    rw [List.map_map]
    apply List.map_congr_left
    intro n _
    simp only [Function.comp, sizeAt, Fs.bodyAt]
    cases mget f.now (segName n) <;> rfl
  rw [h2, ← fsegs_eq]
  have h3 : f.segs.Sublist f.names := List.filter_sublist
  have h4 : f.names.Perm (f.now.map (·.1)) := by
    show (namesOf f.now).Perm _
    unfold namesOf sortL
    have hp := (List.mergeSort_perm (f.now.map (·.1.data.toList)) (fun x y => decide (x ≤ y))).map ofL
    rw [List.map_map] at hp
    have : f.now.map (ofL ∘ fun x => x.1.data.toList) = f.now.map (·.1) := by
      apply List.map_congr_left
      intro p _
      exact ofL_toL p.1
    rw [this] at hp
    exact hp
  have h5 := (h4.map (sizeAt f.cont f.now)).sum_nat
  rw [← h5]
  exact sub_sum (h3.map (sizeAt f.cont f.now))
end Go.Proofs.YthogefmngddnbaaGreatDoor
