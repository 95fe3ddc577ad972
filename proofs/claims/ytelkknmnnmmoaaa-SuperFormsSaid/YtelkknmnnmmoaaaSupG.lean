import Derived.Test.YtelkknmnnmmoaaaSupF
set_option linter.unusedVariables false
set_option linter.unusedSimpArgs false
namespace Go.Hp
open Go Go.Proofs

theorem leN_mod (m : Nat) : ∀ k, leN (leB m k) = m % 2 ^ (8 * k)
  | 0 => by simp [leB, leN, Nat.mod_one]
  | k + 1 => by
    rw [leB, leN_app, leN_mod m k, leB_len, UInt8.toNat_ofNat', show 8 * (k + 1) = 8 * k + 8 by omega, Nat.pow_add, Nat.mod_mul]
    congr 1
    exact Nat.mul_comm _ _
theorem leN_leB {m k : Nat} (h : m < 2 ^ (8 * k)) : leN (leB m k) = m := by rw [leN_mod, Nat.mod_eq_of_lt h]
theorem cut_mid {a b c : List UInt8} {l h : Nat} (ha : a.length = l) (hb : l + b.length = h) : cut (a ++ (b ++ c)) l h = b := by
  unfold cut
  rw [List.drop_append_of_le_length (by omega), List.drop_of_length_le (by omega), List.nil_append, List.take_append_of_le_length (by omega), List.take_of_length_le (by omega)]
theorem enc_no (s : Sp) : cut (enc s) 2 6 = leB s.no.toNat 4 := by
  have e : enc s = [80, 83] ++ (leB s.no.toNat 4 ++ (leB s.place.toNat 6 ++ (leB s.first.toNat 5 ++ (leB s.era.toNat 4 ++ (leB s.upto.toNat 6 ++ (List.replicate 25 0 ++ (leB (crcOf (head s)).toNat 4 ++ leB s.no.toNat 8))))))) := by simp [enc, head, body]
  rw [e]; exact cut_mid rfl (by rw [leB_len])
theorem enc_place (s : Sp) : cut (enc s) 6 12 = leB s.place.toNat 6 := by
  have e : enc s = ([80, 83] ++ leB s.no.toNat 4) ++ (leB s.place.toNat 6 ++ (leB s.first.toNat 5 ++ (leB s.era.toNat 4 ++ (leB s.upto.toNat 6 ++ (List.replicate 25 0 ++ (leB (crcOf (head s)).toNat 4 ++ leB s.no.toNat 8)))))) := by simp [enc, head, body]
  rw [e]; exact cut_mid (by simp [leB_len]) (by rw [leB_len])
theorem enc_first (s : Sp) : cut (enc s) 12 17 = leB s.first.toNat 5 := by
  have e : enc s = ([80, 83] ++ (leB s.no.toNat 4 ++ leB s.place.toNat 6)) ++ (leB s.first.toNat 5 ++ (leB s.era.toNat 4 ++ (leB s.upto.toNat 6 ++ (List.replicate 25 0 ++ (leB (crcOf (head s)).toNat 4 ++ leB s.no.toNat 8))))) := by simp [enc, head, body]
  rw [e]; exact cut_mid (by simp [leB_len]) (by rw [leB_len])
theorem enc_era (s : Sp) : cut (enc s) 17 21 = leB s.era.toNat 4 := by
  have e : enc s = ([80, 83] ++ (leB s.no.toNat 4 ++ (leB s.place.toNat 6 ++ leB s.first.toNat 5))) ++ (leB s.era.toNat 4 ++ (leB s.upto.toNat 6 ++ (List.replicate 25 0 ++ (leB (crcOf (head s)).toNat 4 ++ leB s.no.toNat 8)))) := by simp [enc, head, body]
  rw [e]; exact cut_mid (by simp [leB_len]) (by rw [leB_len])
theorem enc_upto (s : Sp) : cut (enc s) 21 27 = leB s.upto.toNat 6 := by
  have e : enc s = ([80, 83] ++ (leB s.no.toNat 4 ++ (leB s.place.toNat 6 ++ (leB s.first.toNat 5 ++ leB s.era.toNat 4)))) ++ (leB s.upto.toNat 6 ++ (List.replicate 25 0 ++ (leB (crcOf (head s)).toNat 4 ++ leB s.no.toNat 8))) := by simp [enc, head, body]
  rw [e]; exact cut_mid (by simp [leB_len]) (by rw [leB_len])
theorem enc_tag (s : Sp) : (enc s).drop 56 = leB s.no.toNat 8 := by
  have e : enc s = (head s ++ leB (crcOf (head s)).toNat 4) ++ leB s.no.toNat 8 := by simp [enc]
  rw [e, List.drop_append_of_le_length (by simp [head_len, leB_len]), List.drop_of_length_le (by simp [head_len, leB_len]), List.nil_append]
theorem decF_enc {s : Sp} (h : s.may) : decF (enc s) = s := by
  obtain ⟨h1, h2, h3, h4, h5⟩ := h
  have e1 : (leN (cut (enc s) 2 6) : Int) = s.no := by rw [enc_no, leN_leB (by omega)]; omega
  have e2 : (leN (cut (enc s) 6 12) : Int) = s.place := by rw [enc_place, leN_leB (by omega)]; omega
  have e3 : (leN (cut (enc s) 12 17) : Int) = s.first := by rw [enc_first, leN_leB (by omega)]; omega
  have e4 : (leN (cut (enc s) 17 21) : Int) = s.era := by rw [enc_era, leN_leB (by omega)]; omega
  have e5 : (leN (cut (enc s) 21 27) : Int) = s.upto := by rw [enc_upto, leN_leB (by omega)]; omega
  unfold decF
  rw [e1, e2, e3, e4, e5]
/-- What was written is read. -/
theorem dec_enc {s : Sp} (h : s.may) : decS (enc s) = some s := by
  have := decF_enc h
  rw [decS_some ⟨enc_len s, by rw [this]; exact h, by rw [this]⟩, this]

end Go.Hp
