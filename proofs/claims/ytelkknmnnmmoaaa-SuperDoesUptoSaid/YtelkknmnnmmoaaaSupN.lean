import Derived.Test.YtelkknmnnmmoaaaSupM
set_option linter.unusedVariables false
set_option linter.unusedSimpArgs false
namespace Go.Hp
open Go Go.Proofs

theorem leN_cat : ∀ (a b : List UInt8), leN (a ++ b) = leN a + 2 ^ (8 * a.length) * leN b
  | [], b => by simp [leN]
  | x :: a, b => by
    simp only [List.cons_append, leN, leN_cat a b, List.length_cons]
    rw [show 8 * (a.length + 1) = 8 * a.length + 8 by omega, Nat.pow_add, Nat.mul_add, Nat.add_assoc]
    congr 2
    rw [Nat.mul_comm (2 ^ (8 * a.length)) (2 ^ 8), Nat.mul_assoc]
theorem leN_inj : ∀ (a b : List UInt8), a.length = b.length → leN a = leN b → a = b
  | [], [], _, _ => rfl
  | x :: a, y :: b, hl, h => by
    simp only [leN] at h
    have hx := x.toNat_lt
    have hy := y.toNat_lt
    have e1 : x.toNat = y.toNat := by omega
    have e2 : leN a = leN b := by omega
    rw [UInt8.toNat_inj.1 e1, leN_inj a b (by simpa using hl) e2]
/-- The number at a sector's end. -/
def tagN (b : List UInt8) : Nat := leN (b.drop 56)
theorem tag_dec {b : List UInt8} {t : Sp} (h : decS b = some t) : t.may ∧ (tagN b : Int) = t.no ∧ enc t = b := by
  unfold decS at h
  split at h
  · rename_i hh
    cases h
    refine ⟨hh.2.1, ?_, hh.2.2⟩
    have hn := hh.2.1.no
    have e := enc_tag (decF b)
    rw [hh.2.2] at e
    unfold tagN
    rw [e, leN_leB (by omega)]; omega
  · cases h
theorem tag_enc {s : Sp} (h : s.may) : tagN (enc s) = s.no.toNat := by
  have hn := h.no
  unfold tagN
  rw [enc_tag, leN_leB (by omega)]
theorem tag_zero : tagN (List.replicate 64 0) = 0 := by
  unfold tagN
  rw [List.drop_replicate, zero_leN]
theorem tagz_iff {b : List UInt8} (h : tagN b = 0) : tagz b = true := by
  unfold tagz; unfold tagN at h; rw [h]; rfl
/-- The number of a sector that was torn: some of its bytes are the new ones', the rest are the old ones'. -/
theorem tag_mix {o e : List UInt8} {m : Nat} (ho : o.length = 64) (he : e.length = 64) (hm : m ≤ 64) (hlt : tagN o < tagN e) :
    (tagN (e.take m ++ o.drop m) ≤ tagN e) ∧ (tagN (e.take m ++ o.drop m) = tagN e → e.take m ++ o.drop m = e) ∧ (tagN (e.take m ++ o.drop m) = tagN o ∨ tagN (e.take m ++ o.drop m) % 2 = tagN e % 2) := by
  by_cases h56 : m ≤ 56
  · have : (e.take m ++ o.drop m).drop 56 = o.drop 56 := by
      rw [List.drop_append, List.drop_of_length_le (by simp; omega), List.nil_append, List.length_take, Nat.min_eq_left (by omega), List.drop_drop]
      congr 1; omega
    have e1 : tagN (e.take m ++ o.drop m) = tagN o := by unfold tagN; rw [this]
    rw [e1]
    exact ⟨by omega, fun h => by omega, .inl rfl⟩
  · obtain ⟨j, rfl⟩ : ∃ j, m = 56 + j := ⟨m - 56, by omega⟩
    have hd : (e.take (56 + j) ++ o.drop (56 + j)).drop 56 = (e.drop 56).take j ++ (o.drop 56).drop j := by
      rw [List.drop_append_of_le_length (by simp; omega), List.drop_take, List.drop_drop, show 56 + j - 56 = j by omega]
    have la : ((e.drop 56).take j).length = j := by simp; omega
    have lo : ((o.drop 56).take j).length = j := by simp; omega
    have hn : tagN e = leN ((e.drop 56).take j) + 2 ^ (8 * j) * leN ((e.drop 56).drop j) := by
      have := leN_cat ((e.drop 56).take j) ((e.drop 56).drop j)
      rw [List.take_append_drop, la] at this; exact this
    have ht : tagN o = leN ((o.drop 56).take j) + 2 ^ (8 * j) * leN ((o.drop 56).drop j) := by
      have := leN_cat ((o.drop 56).take j) ((o.drop 56).drop j)
      rw [List.take_append_drop, lo] at this; exact this
    have hM : tagN (e.take (56 + j) ++ o.drop (56 + j)) = leN ((e.drop 56).take j) + 2 ^ (8 * j) * leN ((o.drop 56).drop j) := by
      unfold tagN; rw [hd, leN_cat, la]
    have l1 := leN_lt ((e.drop 56).take j)
    have l2 := leN_lt ((o.drop 56).take j)
    rw [la] at l1; rw [lo] at l2
    generalize hA : leN ((e.drop 56).take j) = a at *
    generalize hB : leN ((e.drop 56).drop j) = b at *
    generalize hC : leN ((o.drop 56).take j) = c at *
    generalize hD : leN ((o.drop 56).drop j) = d at *
    obtain ⟨q, hq⟩ : ∃ q, 2 ^ (8 * j) = 2 * q := ⟨2 ^ (8 * (j - 1) + 7), by rw [show 8 * j = (8 * (j - 1) + 7) + 1 by omega, Nat.pow_succ, Nat.mul_comm]⟩
    rw [hq] at hn ht hM l1 l2
    have hdb : d ≤ b := by
      by_cases hh : d ≤ b
      · exact hh
      · have := Nat.mul_le_mul_left (2 * q) (show b + 1 ≤ d by omega)
        rw [Nat.mul_add, Nat.mul_one] at this
        omega
    have hle := Nat.mul_le_mul_left (2 * q) hdb
    refine ⟨by omega, fun h => ?_, .inr ?_⟩
    · have e1 : 2 * q * d = 2 * q * b := by omega
      have hq0 : 0 < 2 * q := by rw [← hq]; exact Nat.pow_pos (by decide)
      have e2 : d = b := Nat.eq_of_mul_eq_mul_left hq0 e1
      have e3 : (o.drop 56).drop j = (e.drop 56).drop j := leN_inj _ _ (by simp; omega) (by rw [hB, hD, e2])
      rw [List.drop_drop, List.drop_drop] at e3
      rw [e3, List.take_append_drop]
    · rw [hM, hn, Nat.mul_assoc, Nat.mul_assoc]; omega
/-- A disk behind a crash: what was read last, and nothing that is as new. -/
structure Calm (x : Dk) (last : Sp) : Prop where
  ok : x.ok 8
  off : x.off = false
  left : x.left = -1
  waits : x.waits = []
  plat : x.plat = x.now
  rng : 0 ≤ last.no ∧ last.no ≤ 4294967295
  low : (tagN (sec x.now (lane (last.no + 1))) : Int) < last.no + 1
  par : tagN (sec x.now (lane (last.no + 1))) = 0 ∨ (tagN (sec x.now (lane (last.no + 1))) : Int) % 2 = (last.no + 1) % 2
  top : (last.may ∧ sec x.now (lane last.no) = enc last) ∨ (last = spZ ∧ tagN (sec x.now (lane last.no)) = 0)
theorem lane_lt (k : Int) : lane k < 8 := by rcases lane_cases k with h | h <;> omega
theorem lane_ne (k : Int) : lane k ≠ lane (k + 1) := by rcases lane_cases k with h | h <;> omega
theorem Calm.new : Calm (Dk.new 8) spZ := by
  have e : ∀ k, lane k < 8 := lane_lt
  refine ⟨Dk.new_ok (by decide) (by decide), rfl, rfl, rfl, rfl, by decide, ?_, .inl ?_, .inr ⟨rfl, ?_⟩⟩
  · rw [new_sec 8 _ (e _), tag_zero]; decide
  · rw [new_sec 8 _ (e _), tag_zero]
  · rw [new_sec 8 _ (e _), tag_zero]
theorem tag0_dec {b : List UInt8} (h : tagN b = 0) : decS b = none := by
  cases hd : decS b with
  | none => rfl
  | some t => obtain ⟨h1, h2, _⟩ := tag_dec hd; have := h1.no; omega
theorem supR_lane {y : Dk} (ho : y.off = false) (k : Int) : supR y 8 = sup8 (sec y.now (lane k)) (sec y.now (lane (k + 1))) ∨ supR y 8 = sup8 (sec y.now (lane (k + 1))) (sec y.now (lane k)) := by
  rw [supR8 ho (by decide)]
  rcases lane_cases k with ⟨a, b, _, _⟩ | ⟨a, b, _, _⟩ <;> rw [a, b]
  · exact .inl rfl
  · exact .inr rfl
theorem sup8_zero {a b : List UInt8} (ha : tagN a = 0) (hb : tagN b = 0) : sup8 a b = (spZ, 0) := by
  unfold sup8
  rw [tag0_dec ha, tag0_dec hb, tagz_iff ha, tagz_iff hb, if_neg (fun h => by cases h.2)]; rfl
/-- One more superblock, and the power goes out: the new one is read, or the one ahead. -/
theorem Calm.step {x : Dk} {last s : Sp} (h : Calm x last) (hs : s.may) (hn : s.no = last.no + 1) {y : Dk} (ok : y.ok 8) (off : y.off = false) (left : y.left = -1) (waits : y.waits = []) (plat : y.plat = y.now) {m : Nat} (hm : m ≤ 64)
    (h1 : sec y.now (lane (last.no + 1)) = (enc s).take m ++ (sec x.now (lane (last.no + 1))).drop m) (h2 : sec y.now (lane last.no) = sec x.now (lane last.no)) :
    (supR y 8 = (s, 0) ∧ Calm y s) ∨ (m ≠ 64 ∧ supR y 8 = (last, 0) ∧ Calm y last) := by
  have hno := hs.no
  have te := tag_enc hs
  have lo : (sec x.now (lane (last.no + 1))).length = 64 := sec_len h.ok.ln (lane_lt _)
  have hrng := h.rng
  have hlow := h.low
  have hpar := h.par
  obtain ⟨m1, m2, m3⟩ := tag_mix lo (enc_len s) hm (by rw [te]; omega)
  rw [← h1] at m1 m2 m3
  have hl2 : lane (last.no + 1 + 1) = lane last.no := by
    have a := lane_cases last.no
    have b := lane_cases (last.no + 1)
    omega
  have hlt : ∀ t, decS (sec y.now (lane last.no)) = some t → t.no < s.no := fun t ht => by
    rw [h2] at ht
    rcases h.top with ⟨ha, hb⟩ | ⟨_, hb⟩
    · rw [hb, dec_enc ha] at ht; cases ht; omega
    · rw [tag0_dec hb] at ht; cases ht
  by_cases hM : tagN (sec y.now (lane (last.no + 1))) = tagN (enc s)
  · have e := m2 hM
    left
    refine ⟨?_, ok, off, left, waits, plat, by omega, ?_, ?_, .inl ⟨hs, ?_⟩⟩
    · have q := sup8_top (a := sec y.now (lane (last.no + 1))) (b := sec y.now (lane last.no)) hno.1 (by rw [e]; exact dec_enc hs) hlt
      rcases supR_lane off last.no with r | r
      · rw [r]; exact q.2
      · rw [r]; exact q.1
    · rw [hn, hl2, h2]
      rcases h.top with ⟨ha, hb⟩ | ⟨_, hb⟩
      · rw [hb, tag_enc ha]; omega
      · rw [hb]; omega
    · rw [hn, hl2, h2]
      rcases h.top with ⟨ha, hb⟩ | ⟨_, hb⟩
      · rw [hb, tag_enc ha]; right; omega
      · exact .inl hb
    · rw [hn]; exact e
  · right
    have hM2 : (tagN (sec y.now (lane (last.no + 1))) : Int) < last.no + 1 := by rw [te] at m1 hM; omega
    have hp2 : tagN (sec y.now (lane (last.no + 1))) = 0 ∨ (tagN (sec y.now (lane (last.no + 1))) : Int) % 2 = (last.no + 1) % 2 := by
      rcases m3 with q | q
      · rw [q]; exact hpar
      · right; rw [te] at q; omega
    have htop : (last.may ∧ sec y.now (lane last.no) = enc last) ∨ (last = spZ ∧ tagN (sec y.now (lane last.no)) = 0) := by rw [h2]; exact h.top
    refine ⟨fun e64 => ?_, ?_, ok, off, left, waits, plat, hrng, hM2, hp2, htop⟩
    · apply hM
      rw [h1, e64, List.take_of_length_le (by rw [enc_len]; exact Nat.le_refl _), List.drop_of_length_le (by omega), List.append_nil]
    · rcases htop with ⟨ha, hb⟩ | ⟨ha, hb⟩
      · have q := sup8_top (a := sec y.now (lane last.no)) (b := sec y.now (lane (last.no + 1))) ha.no.1 (by rw [hb]; exact dec_enc ha) (fun t ht => by
          obtain ⟨t1, t2, _⟩ := tag_dec ht
          have := t1.no
          omega)
        rcases supR_lane off last.no with r | r
        · rw [r]; exact q.1
        · rw [r]; exact q.2
      · subst ha
        have z : tagN (sec y.now (lane (spZ.no + 1))) = 0 := by have : spZ.no = 0 := rfl; omega
        rcases supR_lane off spZ.no with r | r
        · rw [r]; exact sup8_zero hb z
        · rw [r]; exact sup8_zero z hb

end Go.Hp
