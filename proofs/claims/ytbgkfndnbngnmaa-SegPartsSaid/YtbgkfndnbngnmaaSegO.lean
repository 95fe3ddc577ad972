import Derived.Test.YtbgkfndnbngnmaaSegN
set_option linter.unusedVariables false
set_option linter.unusedSimpArgs false
namespace Go.Hp
open Go Go.Proofs

structure CutOk (no place era : Int) (b : List UInt8) : Prop where
  len : b.length ≤ 12672
  m1 : 1 ≤ pmanyOf b
  m64 : pmanyOf b ≤ 64
  p0 : 0 ≤ place
  p1 : place + (pmanyOf b : Int) ≤ 1099511627777
  no : 1 ≤ no ∧ no ≤ 1099511627776
  era : 1 ≤ era ∧ era ≤ 4294967295
theorem cut_ok {no place era : Int} {b : List UInt8} (h : pcutE no place era b = 0) : CutOk no place era b := by
  unfold pcutE at h
  split at h
  · cases h
  · rename_i h1
    split at h
    · cases h
    · rename_i h2
      have h3 : ¬ pmanyOf b = 0 := fun e => h2 (.inl e)
      have h4 : ¬ place < 0 := fun e => h2 (.inr (.inl e))
      have h5 : ¬ 1099511627776 - (pmanyOf b : Int) + 1 < place := fun e => h2 (.inr (.inr (.inl e)))
      have h6 : (⟨0, no, 0, era, 1, [0]⟩ : Pt).may := Decidable.not_not.1 fun e => h2 (.inr (.inr (.inr e)))
      exact ⟨by omega, by omega, by unfold pmanyOf; omega, by omega, by omega, h6.no, h6.era⟩
theorem pcut_may {no place era : Int} {b : List UInt8} (h : CutOk no place era b) {i : Nat} (hi : i < pmanyOf b) : (pcut no place era b (pmanyOf b) i).may := by
  obtain ⟨h1, h2, h3, h4, h5, h6, h7⟩ := h
  refine ⟨⟨by simp only [pcut]; omega, by simp only [pcut]; omega⟩, h6, h7, ⟨by simp only [pcut]; omega, by simp only [pcut]; omega⟩, ⟨by simp only [pcut]; omega, by simp only [pcut]; omega⟩, ?_⟩
  have hl : (pcut no place era b (pmanyOf b) i).data.length = min 198 (b.length - i * 198) := by simp [pcut]
  rw [hl]
  have hm : pmanyOf b = (b.length + 197) / 198 := rfl
  by_cases he : i + 1 = pmanyOf b
  · right; exact ⟨by simp only [pcut]; omega, by omega, by omega⟩
  · left; omega
theorem cutL_is {no place era : Int} {b : List UInt8} (h : pcutE no place era b = 0) : pcutL no place era b = (List.range (pmanyOf b)).map (pcut no place era b (pmanyOf b)) := if_pos h
theorem cut_flat {no place era : Int} {b : List UInt8} {m : Nat} : ∀ k, ((List.range k).map (pcut no place era b m)).flatMap (·.data) = b.take (k * 198)
  | 0 => by simp
  | k + 1 => by
    rw [List.range_succ, List.map_append, List.flatMap_append, cut_flat k, show (k + 1) * 198 = k * 198 + 198 by omega, List.take_add]
    simp [pcut]
theorem pjoin_cut {no place era : Int} {b : List UInt8} (h : CutOk no place era b) : pjoin ((List.range (pmanyOf b)).map (pcut no place era b (pmanyOf b))) = (b, 0) := by
  have hf := cut_flat (no := no) (place := place) (era := era) (b := b) (m := pmanyOf b) (pmanyOf b)
  rw [List.take_of_length_le (by unfold pmanyOf; omega)] at hf
  have hm1 := h.m1
  refine (if_pos ⟨fun e => ?_, fun i hi => ?_⟩).trans (by rw [hf])
  · have := congrArg List.length e; simp at this; omega
  · rw [List.length_map, List.length_range] at hi ⊢
    have e1 : ((List.range (pmanyOf b)).map (pcut no place era b (pmanyOf b))).getD i ptZ = pcut no place era b (pmanyOf b) i := by simp [hi]
    have e2 : ((List.range (pmanyOf b)).map (pcut no place era b (pmanyOf b))).headD ptZ = pcut no place era b (pmanyOf b) 0 := by
      cases hm : pmanyOf b with
      | zero => omega
      | succ k => rw [List.range_succ_eq_map]; rfl
    rw [e1, e2]
    exact ⟨pcut_may h hi, rfl, rfl, rfl, rfl, by simp [pcut]⟩
def bg (P : Nat) : Sg := ⟨8, P / 8, P / 8 + 4⟩
theorem bg_ok {P : Nat} (h : P ≤ 34359738368) : (bg P).ok 264 := ⟨show 4 ≤ 8 by decide, show 8 * 32 + 8 ≤ 264 by decide, by show P / 8 ≤ P / 8 + 4; omega, by show P / 8 + 4 ≤ _; omega⟩
structure Bk (no : Int) (P : Nat) (era : Int) (b : List UInt8) (i : Nat) (x : Dk) : Prop where
  on : On x 264
  wl : x.waits.length ≤ 4 * i
  bl : ∀ k, k < i → bl x (jx 8 (P + k)) = penc (pcut no P era b (pmanyOf b) k)
theorem Bk.new (no : Int) (P : Nat) (era : Int) (b : List UInt8) : Bk no P era b 0 (Dk.new 264) := ⟨On.new (by decide) (by decide), Nat.zero_le _, fun k h => absurd h (Nat.not_lt_zero _)⟩
theorem Bk.write {no : Int} {P : Nat} {era : Int} {b : List UInt8} {i : Nat} {x : Dk} (h : Bk no P era b i x) (hP : P ≤ 34359738368) (hc : CutOk no P era b) (h20 : pmanyOf b ≤ 20) (hi : i < pmanyOf b) :
    ∃ y, pwrt x 264 (bg P) (pcut no P era b (pmanyOf b) i) = (y, 0) ∧ Bk no P era b (i + 1) y := by
  have hpl : (pcut no P era b (pmanyOf b) i).place = ((P + i : Nat) : Int) := by simp [pcut]
  obtain ⟨y, e1, o1, w1, b1⟩ := pwrt_on h.on (bg_ok hP) (pcut_may hc hi) (by rw [hpl]; unfold phas bg; simp only; omega)
  refine ⟨y, e1, o1, by have := h.wl; omega, fun k hk => ?_⟩
  rw [b1, hpl, Int.toNat_natCast]
  by_cases hki : k = i
  · subst hki; exact if_pos rfl
  · rw [if_neg (show jx 8 (P + k) ≠ jx (bg P).slots (P + i) from jx_ne' (s := 8) (by omega) (by omega)), h.bl k (by omega)]
theorem Bk.more {no : Int} {P : Nat} {era : Int} {b : List UInt8} {x : Dk} (h : Bk no P era b (pmanyOf b) x) (hP : P ≤ 34359738368) (h20 : pmanyOf b ≤ 20) {p : Pt} (hp : p.place = ((P + pmanyOf b : Nat) : Int)) :
    On (pwrt x 264 (bg P) p).1 264 ∧ ∀ k, k < pmanyOf b → Hp.bl (pwrt x 264 (bg P) p).1 (jx 8 (P + k)) = penc (pcut no P era b (pmanyOf b) k) := by
  by_cases hm : p.may
  · by_cases hh : phas (bg P) p.place
    · obtain ⟨y, e1, o1, w1, b1⟩ := pwrt_on h.on (bg_ok hP) hm hh
      rw [e1]
      refine ⟨o1, fun k hk => ?_⟩
      rw [b1, hp, Int.toNat_natCast, if_neg (show jx 8 (P + k) ≠ jx (bg P).slots (P + pmanyOf b) from jx_ne' (s := 8) (by omega) (by omega)), h.bl k hk]
    · have e : pwrt x 264 (bg P) p = (x, 1) := by unfold pwrt; rw [if_pos hm, if_neg hh]
      rw [e]; exact ⟨h.on, h.bl⟩
  · have e : pwrt x 264 (bg P) p = (x, 70) := by unfold pwrt; rw [if_neg hm]
    rw [e]; exact ⟨h.on, h.bl⟩
theorem back_scan {no : Int} {P : Nat} {era : Int} {b : List UInt8} {x : Dk} (on : On x 264) (hbl : ∀ k, k < pmanyOf b → bl x (jx 8 (P + k)) = penc (pcut no P era b (pmanyOf b) k)) (hP : P ≤ 34359738368) (hc : CutOk no P era b) (h20 : pmanyOf b ≤ 20) :
    ∃ r, scanL (fun q => pstand x 264 (bg P) q) (((bg P).first + (bg P).slots) * 8 - P) P [] = (List.range (pmanyOf b)).map (pcut no P era b (pmanyOf b)) ++ r := by
  have hlen : ((List.range (pmanyOf b)).map (pcut no P era b (pmanyOf b))).length = pmanyOf b := by simp
  have hfu : ((bg P).first + (bg P).slots) * 8 - P = ((List.range (pmanyOf b)).map (pcut no P era b (pmanyOf b))).length + (((bg P).first + (bg P).slots) * 8 - P - pmanyOf b) := by
    rw [hlen]; unfold bg; simp only; omega
  have hr := scanL_run (f := fun q => pstand x 264 (bg P) q) (e := era) ((List.range (pmanyOf b)).map (pcut no P era b (pmanyOf b))) (((bg P).first + (bg P).slots) * 8 - P - pmanyOf b) P [] (fun a ha => by cases ha) (fun i hi => by
    rw [hlen] at hi
    have e1 : ((List.range (pmanyOf b)).map (pcut no P era b (pmanyOf b)))[i]'(by rw [hlen]; exact hi) = pcut no P era b (pmanyOf b) i := by simp
    rw [e1]
    refine ⟨?_, rfl⟩
    show pstand x 264 (bg P) (P + i) = _
    rw [pstand_on on (bg_ok hP), show (bg P).slots = 8 from rfl, hbl i hi, pdec_enc (pcut_may hc hi)]
    exact if_pos (by simp [pcut]))
  rw [hfu, hr, List.nil_append]
  exact scanL_ext _ _ _
theorem RParts.take {J : Imm} {v : Value} {l : List (Pt × Value)} (h : RParts J v l) {m : Nat} (hm : m ≤ l.length) : RParts J (subSl 6 0 m v) (l.take m) := by
  have hl : (l.take m).length = m := by rw [List.length_take]; omega
  refine ⟨?_, fun e he => h.data e (List.mem_of_mem_take he)⟩
  have q := h.rd.sub (Nat.zero_le m) hm
  have e : (pcells l).take (m * 6) = pcells (l.take m) := by
    have e2 : pcells l = pcells (l.take m) ++ pcells (l.drop m) := by rw [← pcells_app, List.take_append_drop]
    rw [e2, List.take_append_of_le_length (by rw [pcells_len, hl]; exact Nat.le_refl _), List.take_of_length_le (by rw [pcells_len, hl]; exact Nat.le_refl _)]
  rw [Nat.zero_mul, List.drop_zero, Nat.sub_zero, e] at q
  rw [hl]; exact q
structure BX where
  i : Nat
  x : Dk
  J : Imm
  L : Chunks
structure BX.ok (J0 : Imm) (d : Nat) (no : Int) (P : Nat) (era : Int) (b : List UInt8) (t : BX) : Prop where
  le : t.i ≤ pmanyOf b
  hJ : J0.le t.J
  hd : IsDisk d 264 t.x t.L
  bk : Bk no P era b t.i t.x
theorem parts_at {no place era : Int} {b : List UInt8} {l : List (Pt × Value)} {m k : Nat} (h : l.map (·.1) = (List.range m).map (pcut no place era b k)) : l.length = m ∧ ∀ i (hi : i < l.length), l[i].1 = pcut no place era b k i := by
  have hl := congrArg List.length h
  simp only [List.length_map, List.length_range] at hl
  refine ⟨hl, fun i hi => ?_⟩
  have := congrArg (fun z => z[i]?) h
  simp [hi, show i < m by omega] at this
  exact this

end Go.Hp
