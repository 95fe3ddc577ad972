import Derived.Test.YtcnfcdlapbjgeaaSegB
set_option linter.unusedVariables false
set_option linter.unusedSimpArgs false
namespace Go.Hp
open Go Go.Proofs

theorem mark_mono {I J : Imm} (h : I.le J) {b T : Nat} {cs : Array Value} (hm : ∃ fr, I.blk b = some (.cells cs T fr)) : ∃ fr, J.blk b = some (.cells cs T fr) := by
 obtain ⟨fr, hm⟩ := hm; exact ⟨fr, h.2 _ _ hm⟩


set_option maxRecDepth 100000 in
theorem form_zr : zeroTy Try.prog 103 (bytesV (List.replicate 64 0)) := ⟨_, _, rfl, rfl, rfl⟩
theorem seg_cat {I : Imm} {p : Pt} {bx bz b5 b8 b12 b15 b18 b21 cv : Nat} {Av : Option Addr} (hmz : ∃ fr, I.blk bz = some (.cells (bytesV [80, 66]).toArray 5 fr)) (hb5 : I.blk b5 = some (row 5 (bytesV (leB p.parts.toNat 1)))) (hb8 : I.blk b8 = some (row 5 (bytesV (leB p.index.toNat 1)))) (hb12 : I.blk b12 = some (row 5 (bytesV (leB p.data.length 2)))) (hb15 : I.blk b15 = some (row 5 (bytesV (leB p.no.toNat 6)))) (hb18 : I.blk b18 = some (row 5 (bytesV (leB p.place.toNat 6)))) (hb21 : I.blk b21 = some (row 5 (bytesV (leB p.era.toNat 4)))) (hv : SlRd (Im I) (.slice Av p.data.length cv) p.data.length 1 (bytesV p.data)) (hl : p.data.length ≤ 198) :
  Spec Try.prog 68 [.slice (some ⟨bx, 0, none⟩) 8 8] I [(bx, row 46 (([(.slice (some ⟨bz, 0, none⟩) 2 2, [80, 66]), (.slice (some ⟨b5, 0, none⟩) 1 1, leB p.parts.toNat 1), (.slice (some ⟨b8, 0, none⟩) 1 1, leB p.index.toNat 1), (.slice (some ⟨b12, 0, none⟩) 2 2, leB p.data.length 2), (.slice (some ⟨b15, 0, none⟩) 6 6, leB p.no.toNat 6), (.slice (some ⟨b18, 0, none⟩) 6 6, leB p.place.toNat 6), (.slice (some ⟨b21, 0, none⟩) 4 4, leB p.era.toNat 4), (.slice Av p.data.length cv, p.data)] : List (Value × List UInt8)).map (·.1)))] (fun v J L => I = J ∧ Own 5 1 v (bytesV (phead p ++ p.data)) (22 + p.data.length) L) :=
 (slices_Concat (bx := bx) (ls := [(.slice (some ⟨bz, 0, none⟩) 2 2, [80, 66]), (.slice (some ⟨b5, 0, none⟩) 1 1, leB p.parts.toNat 1), (.slice (some ⟨b8, 0, none⟩) 1 1, leB p.index.toNat 1), (.slice (some ⟨b12, 0, none⟩) 2 2, leB p.data.length 2), (.slice (some ⟨b15, 0, none⟩) 6 6, leB p.no.toNat 6), (.slice (some ⟨b18, 0, none⟩) 6 6, leB p.place.toNat 6), (.slice (some ⟨b21, 0, none⟩) 4 4, leB p.era.toNat 4), (.slice Av p.data.length cv, p.data)]) (by
  intro e he
  simp only [List.mem_cons, List.not_mem_nil, or_false] at he
  rcases he with rfl | rfl | rfl | rfl | rfl | rfl | rfl | rfl
  ·exact Im_lit' hmz (Nat.le_refl _)
  ·exact (by have q := Im_lit (l := leB p.parts.toNat 1) (sp := []) (c := 1) (by rw [List.append_nil]; exact hb5) (by rw [leB_len]; exact Nat.le_refl _); simpa [leB_len] using q)
  ·exact (by have q := Im_lit (l := leB p.index.toNat 1) (sp := []) (c := 1) (by rw [List.append_nil]; exact hb8) (by rw [leB_len]; exact Nat.le_refl _); simpa [leB_len] using q)
  ·exact (by have q := Im_lit (l := leB p.data.length 2) (sp := []) (c := 2) (by rw [List.append_nil]; exact hb12) (by rw [leB_len]; exact Nat.le_refl _); simpa [leB_len] using q)
  ·exact (by have q := Im_lit (l := leB p.no.toNat 6) (sp := []) (c := 6) (by rw [List.append_nil]; exact hb15) (by rw [leB_len]; exact Nat.le_refl _); simpa [leB_len] using q)
  ·exact (by have q := Im_lit (l := leB p.place.toNat 6) (sp := []) (c := 6) (by rw [List.append_nil]; exact hb18) (by rw [leB_len]; exact Nat.le_refl _); simpa [leB_len] using q)
  ·exact (by have q := Im_lit (l := leB p.era.toNat 4) (sp := []) (c := 4) (by rw [List.append_nil]; exact hb21) (by rw [leB_len]; exact Nat.le_refl _); simpa [leB_len] using q)
  ·exact hv) (by simp [total, leB_len]) (by simp [total, leB_len]; omega) (Nat.le_of_ble_eq_true rfl)).mono (by
  rintro v J L _ ⟨h1, h⟩
  have e : ([(.slice (some ⟨bz, 0, none⟩) 2 2, [80, 66]), (.slice (some ⟨b5, 0, none⟩) 1 1, leB p.parts.toNat 1), (.slice (some ⟨b8, 0, none⟩) 1 1, leB p.index.toNat 1), (.slice (some ⟨b12, 0, none⟩) 2 2, leB p.data.length 2), (.slice (some ⟨b15, 0, none⟩) 6 6, leB p.no.toNat 6), (.slice (some ⟨b18, 0, none⟩) 6 6, leB p.place.toNat 6), (.slice (some ⟨b21, 0, none⟩) 4 4, leB p.era.toNat 4), (.slice Av p.data.length cv, p.data)] : List (Value × List UInt8)).flatMap (·.2) = phead p ++ p.data := by simp [phead]
  have e2 : total ([(.slice (some ⟨bz, 0, none⟩) 2 2, [80, 66]), (.slice (some ⟨b5, 0, none⟩) 1 1, leB p.parts.toNat 1), (.slice (some ⟨b8, 0, none⟩) 1 1, leB p.index.toNat 1), (.slice (some ⟨b12, 0, none⟩) 2 2, leB p.data.length 2), (.slice (some ⟨b15, 0, none⟩) 6 6, leB p.no.toNat 6), (.slice (some ⟨b18, 0, none⟩) 6 6, leB p.place.toNat 6), (.slice (some ⟨b21, 0, none⟩) 4 4, leB p.era.toNat 4), (.slice Av p.data.length cv, p.data)] : List (Value × List UInt8)) = 22 + p.data.length := by unfold total; rw [e, List.length_append, phead_len]
  rw [e, e2] at h
  exact ⟨h1, h⟩)
theorem pin_lay {p : Pt} (hl : p.data.length ≤ 198) : pin p = (List.replicate 220 (0 : UInt8)).take 0 ++ (phead p ++ p.data).take (22 + p.data.length) ++ (List.replicate 220 (0 : UInt8)).drop (0 + (22 + p.data.length)) := by
 rw [List.take_zero, List.nil_append, List.take_of_length_le (by rw [List.length_append, phead_len]; exact Nat.le_refl _), List.drop_replicate, pin, List.append_assoc]
 congr 3; omega
theorem own_lit {b k : Nat} {l : List UInt8} (h : l.length = k) : Own 5 1 (.slice (some ⟨b, 0, none⟩) k k) (bytesV l) k [(b, row 5 (bytesV l))] := by
 have q := Own.blk (T := 5) (sz := 1) (b := b) (cap := k) (n := k) (xs := bytesV l) (sp := []) (by rw [bytesV_len, h, Nat.mul_one]) (by simp [bytesV_len, h]) (Nat.le_refl _)
 rwa [List.append_nil] at q
theorem rd64 {V : Nat → Obj → Prop} {b T : Nat} {l : List UInt8} (hb : V b (row T (bytesV l))) (hl : l.length = 64) : SlRd V (subSl 1 0 64 (.slice (some ⟨b, 0, none⟩) 64 64)) l.length 1 (bytesV l) := by
 have h := ((SlAt.arr (b := b) (k := 0) (n := 64)).sub (sz := 1) (Nat.zero_le 64) (Nat.le_refl 64)).rdB (V := V) (T := T) (l := l) hb (by omega)
 rw [hl]
 simpa [List.take_of_length_le (show l.length ≤ 64 by omega)] using h
theorem sub_rd {V : Nat → Obj → Prop} {v : Value} {f : List UInt8} (h : SlRd V v f.length 1 (bytesV f)) {l k : Nat} (h1 : l ≤ k) (h2 : k ≤ f.length) : SlRd V (subSl 1 l k v) (k - l) 1 (bytesV (cut f l k)) := by
 have q := h.sub h1 h2
 rw [Nat.mul_one, Nat.mul_one, bytesV_drop, bytesV_take] at q
 exact q
theorem sec_lay1 {c : List UInt8} (hc : c.length = 56) : c ++ List.replicate 8 0 = (List.replicate 64 (0 : UInt8)).take 0 ++ c.take 56 ++ (List.replicate 64 (0 : UInt8)).drop (0 + 56) := by
 rw [List.take_zero, List.nil_append, List.take_of_length_le (by omega), List.drop_replicate]
theorem sec_lay2 {c t : List UInt8} (hc : c.length = 56) (ht : t.length = 8) : c ++ t = (c ++ List.replicate 8 (0 : UInt8)).take 56 ++ t.take 8 ++ (c ++ List.replicate 8 (0 : UInt8)).drop (56 + 8) := by
 rw [List.take_append_of_le_length (by omega), List.take_of_length_le (by omega), List.take_of_length_le (by omega), List.drop_of_length_le (by rw [List.length_append, hc, List.length_replicate]; exact Nat.le_refl _), List.append_nil]

end Go.Hp
