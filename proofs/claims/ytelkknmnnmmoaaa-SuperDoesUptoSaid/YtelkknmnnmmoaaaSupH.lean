import Derived.Test.YtelkknmnnmmoaaaSupF
set_option linter.unusedVariables false
set_option linter.unusedSimpArgs false
namespace Go.Hp
open Go Go.Proofs

theorem leN_mod (m : Nat) : ∀ k, leN (leB m k) = m % 2 ^ (8 * k)
  | 0 => by simp [leB, leN, Nat.mod_one]
  | k + 1 => by
    rw [leB, leN_app, leN_mod m k, leB_len, UInt8.toNat_ofNat', show 8 * (k + 1) = 8 * k + 8 by omega, Nat.pow_add, Nat.mod_mul]
    congr 1
    exact Nat.mul_comm _ _
theorem leN_leB {m k : Nat} (h : m < 2 ^ (8 * k)) : leN (leB m k) = m := by rw [leN_mod, Nat.mod_eq_of_lt h]
theorem cut_mid {a b c : List UInt8} {l h : Nat} (ha : a.length = l) (hb : l + b.length = h) : cut (a ++ (b ++ c)) l h = b := by
  unfold cut
  rw [List.drop_append_of_le_length (by omega), List.drop_of_length_le (by omega), List.nil_append, List.take_append_of_le_length (by omega), List.take_of_length_le (by omega)]
theorem enc_no (s : Sp) : cut (enc s) 2 6 = leB s.no.toNat 4 := by
  have e : enc s = [80, 83] ++ (leB s.no.toNat 4 ++ (leB s.place.toNat 6 ++ (leB s.first.toNat 5 ++ (leB s.era.toNat 4 ++ (leB s.upto.toNat 6 ++ (List.replicate 25 0 ++ (leB (crcOf (head s)).toNat 4 ++ leB s.no.toNat 8))))))) := by simp [enc, head, body]
  rw [e]; exact cut_mid rfl (by rw [leB_len])
theorem enc_place (s : Sp) : cut (enc s) 6 12 = leB s.place.toNat 6 := by
  have e : enc s = ([80, 83] ++ leB s.no.toNat 4) ++ (leB s.place.toNat 6 ++ (leB s.first.toNat 5 ++ (leB s.era.toNat 4 ++ (leB s.upto.toNat 6 ++ (List.replicate 25 0 ++ (leB (crcOf (head s)).toNat 4 ++ leB s.no.toNat 8)))))) := by simp [enc, head, body]
  rw [e]; exact cut_mid (by simp [leB_len]) (by rw [leB_len])
theorem enc_first (s : Sp) : cut (enc s) 12 17 = leB s.first.toNat 5 := by
  have e : enc s = ([80, 83] ++ (leB s.no.toNat 4 ++ leB s.place.toNat 6)) ++ (leB s.first.toNat 5 ++ (leB s.era.toNat 4 ++ (leB s.upto.toNat 6 ++ (List.replicate 25 0 ++ (leB (crcOf (head s)).toNat 4 ++ leB s.no.toNat 8))))) := by simp [enc, head, body]
  rw [e]; exact cut_mid (by simp [leB_len]) (by rw [leB_len])
theorem enc_era (s : Sp) : cut (enc s) 17 21 = leB s.era.toNat 4 := by
  have e : enc s = ([80, 83] ++ (leB s.no.toNat 4 ++ (leB s.place.toNat 6 ++ leB s.first.toNat 5))) ++ (leB s.era.toNat 4 ++ (leB s.upto.toNat 6 ++ (List.replicate 25 0 ++ (leB (crcOf (head s)).toNat 4 ++ leB s.no.toNat 8)))) := by simp [enc, head, body]
  rw [e]; exact cut_mid (by simp [leB_len]) (by rw [leB_len])
theorem enc_upto (s : Sp) : cut (enc s) 21 27 = leB s.upto.toNat 6 := by
  have e : enc s = ([80, 83] ++ (leB s.no.toNat 4 ++ (leB s.place.toNat 6 ++ (leB s.first.toNat 5 ++ leB s.era.toNat 4)))) ++ (leB s.upto.toNat 6 ++ (List.replicate 25 0 ++ (leB (crcOf (head s)).toNat 4 ++ leB s.no.toNat 8))) := by simp [enc, head, body]
  rw [e]; exact cut_mid (by simp [leB_len]) (by rw [leB_len])
theorem enc_tag (s : Sp) : (enc s).drop 56 = leB s.no.toNat 8 := by
  have e : enc s = (head s ++ leB (crcOf (head s)).toNat 4) ++ leB s.no.toNat 8 := by simp [enc]
  rw [e, List.drop_append_of_le_length (by simp [head_len, leB_len]), List.drop_of_length_le (by simp [head_len, leB_len]), List.nil_append]
theorem decF_enc {s : Sp} (h : s.may) : decF (enc s) = s := by
  obtain ⟨h1, h2, h3, h4, h5⟩ := h
  have e1 : (leN (cut (enc s) 2 6) : Int) = s.no := by rw [enc_no, leN_leB (by omega)]; omega
  have e2 : (leN (cut (enc s) 6 12) : Int) = s.place := by rw [enc_place, leN_leB (by omega)]; omega
  have e3 : (leN (cut (enc s) 12 17) : Int) = s.first := by rw [enc_first, leN_leB (by omega)]; omega
  have e4 : (leN (cut (enc s) 17 21) : Int) = s.era := by rw [enc_era, leN_leB (by omega)]; omega
  have e5 : (leN (cut (enc s) 21 27) : Int) = s.upto := by rw [enc_upto, leN_leB (by omega)]; omega
  unfold decF
  rw [e1, e2, e3, e4, e5]
/-- What was written is read. -/
theorem dec_enc {s : Sp} (h : s.may) : decS (enc s) = some s := by
  have := decF_enc h
  rw [decS_some ⟨enc_len s, by rw [this]; exact h, by rw [this]⟩, this]

def sec (p : List UInt8) (k : Nat) : List UInt8 := (p.drop (k * 64)).take 64
theorem sec_same {p s : List UInt8} {k : Nat} (hs : s.length = 64) (hp : k * 64 ≤ p.length) : sec (p.take (k * 64) ++ s ++ p.drop (k * 64 + 64)) k = s := by
  have h1 : (p.take (k * 64)).length = k * 64 := by simp; omega
  unfold sec
  rw [List.append_assoc, List.drop_append, List.drop_of_length_le (by omega), h1, Nat.sub_self, List.drop_zero, List.nil_append, List.take_append_of_le_length (by omega), List.take_of_length_le (by omega)]
theorem put_get {p s : List UInt8} {a m i : Nat} (hs : s.length = m) (hp : a + m ≤ p.length) (hi : i < a ∨ a + m ≤ i) : (p.take a ++ s ++ p.drop (a + m))[i]? = p[i]? := by
  have h1 : (p.take a).length = a := by simp; omega
  rcases hi with hi | hi
  · rw [List.append_assoc, List.getElem?_append_left (by omega), List.getElem?_take, if_pos hi]
  · rw [List.getElem?_append_right (by simp [hs]; omega), List.getElem?_drop]
    congr 1
    simp [hs]; omega
theorem sec_ne {p s : List UInt8} {k j m : Nat} (hs : s.length = m) (hm : m ≤ 64) (hp : k * 64 + m ≤ p.length) (hj : j ≠ k) : sec (p.take (k * 64) ++ s ++ p.drop (k * 64 + m)) j = sec p j := by
  unfold sec
  apply List.ext_getElem?
  intro i
  rw [List.getElem?_take, List.getElem?_take]
  split
  · rw [List.getElem?_drop, List.getElem?_drop, put_get hs hp (by omega)]
  · rfl
theorem sec_torn {p : List UInt8} {n j : Nat} {e : Nat × List UInt8} {k : Int} (hp : p.length = n * 64) (he : e.1 < n ∧ e.2.length = 64) (hj : j ≠ e.1) : sec (torn p e k) j = sec p j := by
  have := keepN_le k
  exact sec_ne (by simp [he.2]; omega) this (by omega) hj
theorem write_one {n : Nat} {x : Dk} {at_ : Int} {bs : List UInt8} (ho : x.off = false) (hl : x.left ≠ 0) (h0 : 0 ≤ at_) (h1 : at_ < n) (hb : bs.length = 64) : x.write n at_ bs = (x.write1 at_.toNat bs, 0) := by
  have e : ((bs.length / 64 : Nat) : Int) = 1 := by rw [hb]; rfl
  unfold Dk.write
  rw [if_neg (by simp [ho]), if_neg (by omega), if_neg (by rw [e]; omega), hb]
  show Dk.puts 1 x _ _ = _
  rw [Dk.puts, if_neg hl, Dk.puts, List.take_of_length_le (by omega)]
theorem read_one {n : Nat} {x : Dk} {at_ : Int} (ho : x.off = false) (h0 : 0 ≤ at_) (h1 : at_ < n) : x.read n at_ 1 = (sec x.now at_.toNat, 0) := by
  unfold Dk.read
  rw [if_neg (by simp [ho]), if_neg (by omega)]; rfl
theorem sec_len {p : List UInt8} {n k : Nat} (hp : p.length = n * 64) (hk : k < n) : (sec p k).length = 64 := by simp [sec, hp]; omega

def tagz (a : List UInt8) : Bool := decide ((BitVec.ofNat 64 (leN ((a).drop 56))).toInt = 0)
/-- What is read of the two sectors. -/
def sup8 (a b : List UInt8) : Sp × Int := if (upS (upS spZ (decS a)) (decS b)).ints = spZ.ints ∧ (tagz a && tagz b) = false then (spZ, 160) else (upS (upS spZ (decS a)) (decS b), 0)
theorem read8 {x : Dk} {n i : Nat} (ho : x.off = false) (hn : 4 * i < n) : x.read n (4 * (i : Int)) 1 = (sec x.now (4 * i), 0) := by
  unfold Dk.read
  rw [if_neg (by simp [ho]), if_neg (by omega)]
  have e : (4 * (i : Int)).toNat = 4 * i := by omega
  rw [e]; rfl
theorem supR8 {x : Dk} {n : Nat} (ho : x.off = false) (hn : 4 < n) : supR x n = sup8 (sec x.now 0) (sec x.now 4) := by
  have r0 : x.read n 0 1 = (sec x.now 0, 0) := by have := read8 (x := x) (n := n) (i := 0) ho (by omega); simpa using this
  have r1 : x.read n 4 1 = (sec x.now 4, 0) := by have := read8 (x := x) (n := n) (i := 1) ho (by omega); simpa using this
  have r0' : x.read n (4 * ((0 : Nat) : Int)) 1 = (sec x.now 0, 0) := by simpa using r0
  have r1' : x.read n (4 * ((1 : Nat) : Int)) 1 = (sec x.now 4, 0) := by simpa using r1
  unfold supR
  rw [r0, r1, if_neg (by simp), if_neg (by simp)]
  have e2 : rdS x n 2 = (upS (upS spZ (decS (sec x.now 0))) (decS (sec x.now 4)), tagz (sec x.now 0) && tagz (sec x.now 4)) := by
    simp only [rdS, r0', r1', Bool.true_and]; rfl
  rw [e2]; rfl
theorem zero_cut (n l h : Nat) (hn : h ≤ n) : cut (List.replicate n (0 : UInt8)) l h = List.replicate (h - l) 0 := by
  unfold cut; rw [List.drop_replicate, List.take_replicate]; congr 1; omega
theorem zero_leN : ∀ n, leN (List.replicate n (0 : UInt8)) = 0
  | 0 => rfl
  | n + 1 => by rw [List.replicate_succ, leN, zero_leN n]; rfl
theorem zero_dec : decS (List.replicate 64 0) = none := decS_none (fun h => by
  have h1 := h.2.1.no.1
  have : (decF (List.replicate 64 0)).no = 0 := by
    show (leN (cut (List.replicate 64 0) 2 6) : Int) = 0
    rw [zero_cut _ _ _ (by decide), zero_leN]; rfl
  omega)
theorem zero_tag : tagz (List.replicate 64 0) = true := by
  unfold tagz
  rw [List.drop_replicate, zero_leN]; rfl
theorem new_sec (n k : Nat) (h : k < n) : sec (Dk.new n).now k = List.replicate 64 0 := by
  unfold sec Dk.new
  rw [List.drop_replicate, List.take_replicate]; congr 1
  have : (k + 1) * 64 ≤ n * 64 := Nat.mul_le_mul_right _ h
  omega
theorem supR_new {n : Nat} (hn : 4 < n) : supR (Dk.new n) n = (spZ, 0) := by
  rw [supR8 rfl hn, new_sec n 0 (by omega), new_sec n 4 hn]
  unfold sup8
  rw [zero_dec, zero_tag, if_neg (fun h => by cases h.2)]; rfl

end Go.Hp
