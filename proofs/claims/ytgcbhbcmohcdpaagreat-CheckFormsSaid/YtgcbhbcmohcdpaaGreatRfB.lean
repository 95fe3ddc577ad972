import Derived.Test.YtgcbhbcmohcdpaaGreatRdB
set_option linter.unusedVariables false
set_option linter.unusedSimpArgs false
namespace Go.Hp
open Go Go.Proofs

section
variable {P : Program} {n : Nat} {E : Env} {V : Nat → Obj → Prop} {o : Oper}
theorem Yld.to {v u : Value} (h : v = u) (y : Yld P n E V o v) : Yld P n E V o u := h ▸ y
theorem Yld.mulU64N {X Y : Operand} {t t' : TypeId} (a b : Nat) (h : a * b < 18446744073709551616) (hop : o.op = .binOp .mul t X Y t') (hx : E.ev X = some (.int .u64 (a : Int))) (hy : E.ev Y = some (.int .u64 (b : Int))) : Yld P n E V o (.int .u64 ((a * b : Nat) : Int)) := by
 have := Yld.mul (P := P) (n := n) (V := V) hop hx hy
 rwa [show IntKind.u64.wrap ((a : Int) * (b : Int)) = ((a * b : Nat) : Int) from by rw [← Int.natCast_mul, wrap_u64, Nat.mod_eq_of_lt h]] at this
theorem Yld.remN {k : IntKind} {X Y : Operand} {t t' : TypeId} (a b : Nat) (h : 0 < b) (hop : o.op = .binOp .rem t X Y t') (hx : E.ev X = some (.int k (a : Int))) (hy : E.ev Y = some (.int k (b : Int))) : Yld P n E V o (.int k ((a % b : Nat) : Int)) := by
 have := Yld.rem (P := P) (n := n) (V := V) hop hx hy (by omega)
 rwa [show (a : Int).tmod (b : Int) = ((a % b : Nat) : Int) from (Int.ofNat_tmod _ _).symm] at this
end
theorem ofNat_add128 (n : Nat) : UInt8.ofNat (n % 128) + 128 = UInt8.ofNat (n % 128 + 128) := by
 apply UInt8.toNat_inj.1
 rw [UInt8.toNat_add, UInt8.toNat_ofNat', UInt8.toNat_ofNat']
 show (n % 128 % 256 + 128) % 256 = _
 omega
/-- The digits of a number. -/
def dgN : List UInt8 → Nat
 | [] => 0
 | x :: l => x.toNat % 128 + 128 * dgN l
theorem dgN_app (l : List UInt8) : ∀ m, dgN (l ++ m) = dgN l + 128 ^ l.length * dgN m := by
 induction l with
 | nil => intro m; simp [dgN]
 | cons x l ih =>
  intro m
  rw [List.cons_append, dgN, dgN, ih, List.length_cons, Nat.pow_succ, Nat.mul_add, Nat.mul_comm (128 ^ l.length) 128, Nat.mul_assoc, Nat.add_assoc]
theorem dgN_lt : ∀ l : List UInt8, dgN l < 128 ^ l.length
 | [] => by simp [dgN]
 | x :: l => by
  have := dgN_lt l
  rw [dgN, List.length_cons, Nat.pow_succ]; omega
theorem dgN_step {b : List UInt8} {n j : Nat} (hj : j ≤ n) (hn : n < b.length) : dgN ((b.drop j).take (n + 1 - j)) = dgN ((b.drop (j + 1)).take (n + 1 - (j + 1))) * 128 + (b.getD j 0).toNat % 128 := by
 have hjb : j < b.length := by omega
 rw [List.drop_eq_getElem_cons hjb, show n + 1 - j = (n + 1 - (j + 1)) + 1 by omega, List.take_succ_cons, dgN]
 simp only [List.getD_eq_getElem?_getD, List.getElem?_eq_getElem hjb, Option.getD_some]
 omega
theorem dgN_le {b : List UInt8} {n j : Nat} (hj : j ≤ n + 1) : dgN ((b.drop j).take (n + 1 - j)) ≤ dgN (b.take (n + 1)) := by
 have e : b.take (n + 1) = (b.take (n + 1)).take j ++ (b.drop j).take (n + 1 - j) := by
  rw [List.take_take, Nat.min_eq_left hj]
  conv => lhs; rw [← Nat.add_sub_cancel' hj, List.take_add]
 have h := dgN_app ((b.take (n + 1)).take j) ((b.drop j).take (n + 1 - j))
 rw [← e] at h
 have hp : 1 ≤ 128 ^ ((b.take (n + 1)).take j).length := Nat.pow_pos (by decide)
 have := Nat.mul_le_mul_right (dgN ((b.drop j).take (n + 1 - j))) hp
 omega
theorem dgN_fit {b : List UInt8} {n : Nat} (hn : n < b.length) (h9 : n ≤ 9) (h : n = 9 → (b.getD 9 0).toNat ≤ 1) : dgN (b.take (n + 1)) < 18446744073709551616 := by
 rcases Nat.lt_or_ge n 9 with h1 | h1
 ·have h2 := dgN_lt (b.take (n + 1))
  have h3 : (b.take (n + 1)).length ≤ 9 := by rw [List.length_take]; omega
  have h4 : 128 ^ (b.take (n + 1)).length ≤ 128 ^ 9 := Nat.pow_le_pow_right (by decide) h3
  omega
 ·obtain rfl : n = 9 := by omega
  have e : b.take 10 = b.take 9 ++ [b.getD 9 0] := by
   rw [show 10 = 9 + 1 from rfl, List.take_succ_eq_append_getElem hn]
   simp [List.getD_eq_getElem?_getD, hn]
  rw [e, dgN_app]
  have h2 := dgN_lt (b.take 9)
  have h3 : (b.take 9).length = 9 := by rw [List.length_take]; omega
  rw [h3] at h2 ⊢
  have h5 : dgN [b.getD 9 0] ≤ 1 := by simp only [dgN]; have := h rfl; omega
  have := Nat.mul_le_mul_left (128 ^ 9) h5
  omega
theorem rdN_ref (most : Nat) : ∀ (k i a : Nat) (l : List UInt8) (n : Nat), k = 10 - i → a < 128 ^ i → n ≤ k → n ≤ l.length → (∀ j, j < n → 128 ≤ (l.getD j 0).toNat) → (n = k ∨ n = l.length ∨ (l.getD n 0).toNat < 128) →
  rdN most k i a l = if n = k then (0, 0, 11) else if n = l.length then (0, 0, 10) else if 0 < i + n ∧ (l.getD n 0).toNat = 0 then (0, 0, 11) else if i + n = 9 ∧ 1 < (l.getD n 0).toNat then (0, 0, 12) else if most < a + 128 ^ i * dgN (l.take (n + 1)) then (0, 0, 12) else (a + 128 ^ i * dgN (l.take (n + 1)), i + n + 1, 0)
 | 0, i, a, l, n, hk, ha, h1, h2, h3, h4 => by rw [if_pos (by omega)]; rfl
 | k + 1, i, a, [], n, hk, ha, h1, h2, h3, h4 => by
  have h2' : n = 0 := by simpa using h2
  subst h2'
  rw [if_neg (by omega), if_pos (show 0 = ([] : List UInt8).length from rfl)]; rfl
 | k + 1, i, a, x :: l, n, hk, ha, h1, h2, h3, h4 => by
  have hx := x.toNat_lt
  rw [rdN]
  by_cases hc : 128 ≤ x.toNat
  ·rw [if_pos hc]
   have hn : n ≠ 0 := fun h => by
    subst h
    rcases h4 with h4 | h4 | h4
    ·omega
    ·simp at h4
    ·simp at h4; omega
   obtain ⟨m, rfl⟩ : ∃ m, n = m + 1 := ⟨n - 1, by omega⟩
   by_cases hi9 : i = 9
   ·have hk0 : k = 0 := by omega
    subst hk0
    rw [if_pos (by omega)]; rfl
   ·have hp8 : 128 ^ i ≤ 128 ^ 8 := Nat.pow_le_pow_right (by decide) (by omega)
    have hlt : (x.toNat - 128) * 128 ^ i + 128 ^ i ≤ 128 ^ (i + 1) := by
     rw [Nat.pow_succ, Nat.mul_comm (128 ^ i) 128, ← Nat.succ_mul]; exact Nat.mul_le_mul_right _ (by omega)
    have hp89 : 128 ^ (i + 1) ≤ 128 ^ 9 := Nat.pow_le_pow_right (by decide) (by omega)
    have eo := or_dig (x := x.toNat - 128) ha (by omega)
    have hg : (x :: l).getD (m + 1) 0 = l.getD m 0 := by simp [List.getD_eq_getElem?_getD]
    rw [eo, rdN_ref most k (i + 1) _ l m (by omega) (by omega) (by omega) (by simpa using h2) (fun j hj => by
     have := h3 (j + 1) (by omega); simpa [List.getD_eq_getElem?_getD] using this) (by
     rcases h4 with h4 | h4 | h4
     ·exact .inl (by omega)
     ·exact .inr (.inl (by simpa using h4))
     ·exact .inr (.inr (by rw [hg] at h4; exact h4)))]
    have ed : a + (x.toNat - 128) * 128 ^ i + 128 ^ (i + 1) * dgN (l.take (m + 1)) = a + 128 ^ i * dgN ((x :: l).take (m + 1 + 1)) := by
     rw [List.take_succ_cons, dgN, show x.toNat % 128 = x.toNat - 128 by omega, Nat.mul_add, Nat.pow_succ, Nat.mul_comm (x.toNat - 128), Nat.mul_assoc, Nat.add_assoc]
    rw [hg, ed, List.length_cons]
    simp only [show (m + 1 = k + 1) = (m = k) by simp, show (m + 1 = l.length + 1) = (m = l.length) by simp, show i + 1 + m = i + (m + 1) by omega]
  ·rw [if_neg hc]
   have hn : n = 0 := by
    rcases Nat.eq_zero_or_pos n with h | h
    ·exact h
    ·have := h3 0 h; simp at this; omega
   subst hn
   have hg : (x :: l).getD 0 0 = x := rfl
   rw [if_neg (show ¬ 0 = k + 1 by omega), if_neg (show ¬ 0 = (x :: l).length by simp), hg]
   simp only [Nat.add_zero]
   have ed : dgN ((x :: l).take (0 + 1)) = x.toNat := by simp [dgN]; omega
   rw [ed]
   by_cases h0 : x.toNat = 0 ∧ 0 < i
   ·rw [if_pos h0, if_pos ⟨h0.2, h0.1⟩]
   ·rw [if_neg h0, if_neg (show ¬ (0 < i ∧ x.toNat = 0) from fun h => h0 ⟨h.2, h.1⟩)]
    by_cases h9 : i = 9 ∧ 1 < x.toNat
    ·rw [if_pos h9, if_pos h9]
    ·rw [if_neg h9, if_neg h9]
     have hfit : a + x.toNat * 128 ^ i < 18446744073709551616 := by
      have hp9 : 128 ^ i ≤ 128 ^ 9 := Nat.pow_le_pow_right (by decide) (by omega)
      by_cases hi9 : i = 9
      ·subst hi9; have : x.toNat ≤ 1 := by omega
       have : x.toNat * 128 ^ 9 ≤ 1 * 128 ^ 9 := Nat.mul_le_mul_right _ this
       omega
      ·have hp8 : 128 ^ i ≤ 128 ^ 8 := Nat.pow_le_pow_right (by decide) (by omega)
       have : x.toNat * 128 ^ i ≤ 127 * 128 ^ 8 := Nat.mul_le_mul (by omega) hp8
       omega
     rw [or_dig ha hfit, Nat.mul_comm x.toNat]

theorem rdN_ref0 {most : Nat} {b : List UInt8} {n : Nat} (h1 : n ≤ 10) (h2 : n ≤ b.length) (h3 : ∀ j, j < n → 128 ≤ (b.getD j 0).toNat) (h4 : n = 10 ∨ n = b.length ∨ (b.getD n 0).toNat < 128) :
  rdN most 10 0 0 b = if n = 10 then (0, 0, 11) else if n = b.length then (0, 0, 10) else if 0 < n ∧ (b.getD n 0).toNat = 0 then (0, 0, 11) else if n = 9 ∧ 1 < (b.getD n 0).toNat then (0, 0, 12) else if most < dgN (b.take (n + 1)) then (0, 0, 12) else (dgN (b.take (n + 1)), n + 1, 0) := by
 have := rdN_ref most 10 0 0 b n rfl (by decide) h1 h2 h3 h4
 simpa using this
structure FmX where
 k : Nat
 bs : List UInt8
 v : Value
 L : Chunks
theorem ref1_Form {I : Imm} {n : Nat} (hn : n < 18446744073709551616) : Spec Tryz.prog 20 [.int .u64 (n : Int)] I [] (fun v J L => I = J ∧ Own 5 1 v (bytesV (numB n)) (numB n).length L) := by
 refine Spec.of Tryz.func20 rfl Tryz.ntmps20 (Nat.le_of_ble_eq_true rfl) (fun F => ?_)
 try simp only [nf]
 dsimp only [argsEnv]
 refine WP.seq ?_; refine WP.region [0] rfl ?_; refine WP.mv rfl rfl ?_; refine WP.nil (WP.next (WP.seq ?_))
 refine WP.region [0] rfl ?_; refine WP.mv rfl rfl ?_; refine WP.nil (WP.next (WP.seq (WP.block ?_)))
 refine WP.loop (X := FmX) (fun u : FmX => [(0, .int .u64 (u.k : Int)), (3, u.v)]) (fun _ => I) (fun u : FmX => u.L ++ F) (fun u : FmX => u.k < 18446744073709551616 ∧ Own 5 1 u.v (bytesV u.bs) u.bs.length u.L ∧ u.bs ++ numB u.k = numB n) (fun u => u.k) ⟨n, [], .slice none 0 0, []⟩ ⟨hn, .none0, rfl⟩ ⟨rfl, rfl, trivial⟩ rfl zA ?_; rintro ⟨k, bs, vo, Lo⟩ ⟨hk, ho, heq⟩; dsimp only at hk ho heq; obtain ⟨Ao, co, rfl, _⟩ := ho.slice; have h10 := numB_10 hn; have hbl : bs.length + 1 ≤ 10 := by have h1 := congrArg List.length heq; have h2 := numB_pos k; rw [List.length_append] at h1; omega
 try dsimp only
 try simp only [nf]
 refine WP.seq (WP.seq ?_)
 refine WP.region [0, 1] rfl ?_; refine WP.mv rfl rfl ?_; refine WP.split rfl rfl rfl rfl (Yld.gtr rfl rfl rfl) (fun hgt => ?_) (fun hgt => ?_)
 ·refine WP.nil ?_
  refine WP.sub [(0, _), (3, _), (5, _)] ?_ ⟨rfl, rfl, rfl, trivial⟩
  refine WP.next ?_; refine WP.condT rfl ?_; refine WP.skip (WP.next (WP.block (WP.seq ?_)))
  refine WP.region [0, 1, 2, 3, 4, 5, 6, 7] rfl ?_; iterate 2 refine WP.mv rfl rfl ?_
  refine WP.vl rfl (Yld.remN k 128 (by decide) rfl rfl rfl) ?_; refine WP.vl rfl (Yld.convN8 (k % 128) rfl ty_un_62 ty_ik_5 rfl) ?_; refine WP.vl rfl (Yld.add8 (UInt8.ofNat (k % 128)) 128 rfl rfl rfl) ?_; rw [ofNat_add128 k]
  refine WP.loud rfl rfl ?_; refine Op.buildSlice rfl ty_sl_25 ty_el2_25 rfl rfl rfl rfl (vs := [_]) rfl (segs := [(0, [_])]) (cs := bytesV [UInt8.ofNat (k % 128 + 128)]) rfl rfl zS (fun bq => ?_)
  refine WP.loud rfl rfl ?_; refine Op.append (m := 1) rfl ty_sl_25 ty_el_25 rfl rfl rfl rfl rfl ho (SlRd.lit (m := 1) zM rfl (Nat.le_refl _)) zT (bytesV_one _) (by omega) (by omega) (fun vu Lu hu => ?_)
  try simp only [nf]
  obtain ⟨Au, cu, rfl, _⟩ := hu.slice
  refine WP.mv rfl rfl ?_; refine WP.nil ?_; refine WP.sub [(0, _), (3, _), (5, _)] ?_ ⟨rfl, rfl, rfl, trivial⟩
  refine WP.next ?_; refine WP.region [0, 1, 2] rfl ?_; refine WP.mv rfl rfl ?_; refine WP.vl rfl (Yld.quoU64 (a := k) (b := 128) rfl rfl rfl ⟨hk, by decide⟩) ?_; refine WP.mv rfl rfl ?_; refine WP.nil ?_; refine WP.sub [(0, _), (3, _), (5, _)] ?_ ⟨rfl, rfl, rfl, trivial⟩
  refine WP.leave ?_; exact WP.again ⟨k / 128, bs ++ [UInt8.ofNat (k % 128 + 128)], .slice Au (bs.length + 1) cu, Lu⟩ ⟨(show k / 128 < 18446744073709551616 by omega), by rw [List.length_append, bytesV_app]; exact hu, by rw [List.append_assoc, ← heq, numB_hi (n := k) (by omega)]; rfl⟩ (show k / 128 < k by omega) ⟨rfl, rfl, trivial⟩ rfl zA
 ·refine WP.nil ?_
  refine WP.sub [(0, _), (3, _), (5, _)] ?_ ⟨rfl, rfl, rfl, trivial⟩
  refine WP.next ?_; refine WP.condF rfl ?_; refine WP.exit (WP.thenE (WP.thenE (WP.hit (WP.next (WP.seq ?_)))))
  refine WP.region [0, 1, 2, 3, 4, 5] rfl ?_; iterate 2 refine WP.mv rfl rfl ?_
  refine WP.vl rfl (Yld.convN8 k rfl ty_un_62 ty_ik_5 rfl) ?_; refine WP.loud rfl rfl ?_; refine Op.buildSlice rfl ty_sl_25 ty_el2_25 rfl rfl rfl rfl (vs := [_]) rfl (segs := [(0, [_])]) (cs := bytesV [UInt8.ofNat k]) rfl rfl zS (fun bq => ?_)
  refine WP.loud rfl rfl ?_; refine Op.append (m := 1) rfl ty_sl_25 ty_el_25 rfl rfl rfl rfl rfl ho (SlRd.lit (m := 1) zM rfl (Nat.le_refl _)) zT (bytesV_one _) (by omega) (by omega) (fun vu Lu hu => ?_)
  try simp only [nf]
  obtain ⟨Au, cu, rfl, _⟩ := hu.slice
  refine WP.mv rfl rfl ?_; refine WP.nil ?_; refine WP.sub [(0, _), (2, _), (3, _), (5, _)] ?_ ⟨rfl, rfl, rfl, rfl, trivial⟩
  refine WP.next (WP.ret ?_)
  refine WP.fn .ret (.inr rfl) (res1 rfl rfl) Lu (Imm.le_refl _) ?_; rw [numB_lo (n := k) (by omega)] at heq
  exact ⟨rfl, by rw [← heq, bytesV_app, List.length_append]; exact hu⟩


theorem byteV_getD {b : List UInt8} {i : Nat} (h : i < b.length) : byteV b[i] = .int .u8 ((b.getD i 0).toNat : Int) := by
 simp [byteV, List.getD_eq_getElem?_getD, h]
theorem ref1_number {I : Imm} {most : Nat} {b : List UInt8} {vb : Value} (hb : SlRd (Im I) vb b.length 1 (bytesV b)) (hl : b.length ≤ 140737488355328) : Spec Tryz.prog 36 [vb, .int .u64 (most : Int)] I [] (fun v J L => v = .tuple #[.int .u64 ((rdN most 10 0 0 b).1 : Int), .int .i64 ((rdN most 10 0 0 b).2.1 : Int), .int .i64 (rdN most 10 0 0 b).2.2] ∧ I = J ∧ L = []) := by
 obtain ⟨Ab, cb, rfl, _, _, _⟩ := id hb
 refine Spec.of Tryz.func36 rfl Tryz.ntmps36 (Nat.le_of_ble_eq_true rfl) (fun F => ?_)
 try simp only [nf]
 dsimp only [argsEnv]
 refine WP.seq ?_; refine WP.region [0, 1, 2] rfl ?_; iterate 3 refine WP.mv rfl rfl ?_
 refine WP.nil (WP.next (WP.seq ?_))
 refine WP.region [0] rfl ?_; refine WP.mv rfl rfl ?_; refine WP.nil (WP.next ?_)
 refine WP.cut (X := Nat) (fun n : Nat => [(0, .slice Ab b.length cb), (1, .int .u64 (most : Int)), (7, .int .i64 (n : Int))]) (fun _ => I) (fun _ : Nat => F) (fun n : Nat => (n ≤ 10 ∧ n ≤ b.length ∧ (∀ j, j < n → 128 ≤ (b.getD j 0).toNat) ∧ (n = 10 ∨ n = b.length ∨ (b.getD n 0).toNat < 128))) ?_ ?_
 ·skip
  refine WP.block ?_; refine WP.loop (X := Nat) (fun n : Nat => [(0, .slice Ab b.length cb), (1, .int .u64 (most : Int)), (7, .int .i64 (n : Int))]) (fun _ => I) (fun _ : Nat => F) (fun n : Nat => (n ≤ 10 ∧ n ≤ b.length ∧ (∀ j, j < n → 128 ≤ (b.getD j 0).toNat))) (fun n => 10 - n) 0 ⟨Nat.zero_le _, Nat.zero_le _, fun j hj => absurd hj (Nat.not_lt_zero _)⟩ ⟨rfl, rfl, rfl, trivial⟩ rfl zP ?_; rintro n ⟨h10, hnb, hall⟩
  try dsimp only
  try simp only [nf]
  refine WP.seq (WP.seq ?_)
  refine WP.region [0, 1, 2, 3, 4, 5, 6, 7, 8, 9, 10, 11, 12, 13, 14] rfl ?_; iterate 2 refine WP.mv rfl rfl ?_
  refine WP.vl rfl (Yld.len rfl ty_sl_25 rfl) ?_; refine WP.split rfl rfl rfl rfl (Yld.lss rfl rfl rfl) (fun hlt => ?_) (fun hlt => ?_)
  ·refine WP.mv rfl rfl ?_
   refine WP.valG rfl rfl rfl rfl rfl rfl rfl (Yld.move rfl rfl) ?_; refine WP.splitG rfl rfl rfl rfl rfl rfl rfl (Yld.lss rfl rfl rfl) (fun hlt10 => ?_) (fun hlt10 => ?_)
   ·obtain ⟨bb, kb, cb2, Tb, fb, arb, eb, hbb, hxb⟩ := hb.byte (i := n) (by omega)
    injection eb with eb1 _ eb2; subst eb1; subst eb2
    refine WP.vl rfl (Yld.pickT rfl rfl rfl) ?_; refine WP.mv rfl rfl ?_; iterate 2 refine WP.valG rfl rfl rfl rfl rfl rfl rfl (Yld.move rfl rfl) ?_
    refine WP.valG rfl rfl rfl rfl rfl rfl rfl (Yld.indexAddr (i := n) rfl ty_sl_25 rfl rfl (by omega)) ?_; refine WP.valG rfl rfl rfl rfl rfl rfl rfl (Yld.loadC (v := .int .u8 ((b.getD n 0).toNat : Int)) rfl ty_sc_5 rfl (There.i hbb) (hxb.trans (congrArg some (byteV_getD (by omega))))) ?_; refine WP.splitG rfl rfl rfl rfl rfl rfl rfl (Yld.geq rfl rfl rfl) (fun h128 => ?_) (fun h128 => ?_)
    ·refine WP.vl rfl (Yld.pickT rfl rfl rfl) ?_
     refine WP.nil ?_; refine WP.sub [(0, _), (1, _), (7, _), (24, _)] ?_ ⟨rfl, rfl, rfl, rfl, trivial⟩
     refine WP.next ?_; refine WP.condT rfl ?_; refine WP.skip (WP.next (WP.block ?_))
     refine WP.region [0, 1, 2] rfl ?_; refine WP.mv rfl rfl ?_; refine WP.vl rfl (Yld.add64 rfl rfl rfl (by omega)) ?_; refine WP.mv rfl rfl ?_; refine WP.nil ?_; refine WP.sub [(0, _), (1, _), (7, _), (24, _)] ?_ ⟨rfl, rfl, rfl, rfl, trivial⟩
     refine WP.leave ?_; exact WP.ag (n + 1) ⟨by omega, by omega, fun j hj => by rcases Nat.lt_succ_iff_lt_or_eq.1 hj with hj | hj; exact hall j hj; subst hj; omega⟩ (show 10 - (n + 1) < 10 - n by omega) ⟨rfl, rfl, rfl, trivial⟩ rfl
    ·refine WP.vl rfl (Yld.pickT rfl rfl rfl) ?_
     refine WP.nil ?_; refine WP.sub [(0, _), (1, _), (7, _), (24, _)] ?_ ⟨rfl, rfl, rfl, rfl, trivial⟩
     refine WP.next ?_; refine WP.condF rfl ?_; refine WP.exit (WP.thenE (WP.thenE (WP.hit ?_)))
     exact WP.mt n ⟨h10, hnb, hall, .inr (.inr (by omega))⟩ ⟨rfl, rfl, rfl, trivial⟩ rfl
   ·refine WP.vl rfl (Yld.pickT rfl rfl rfl) ?_
    refine WP.mv rfl rfl ?_; iterate 5 refine WP.passG rfl rfl rfl rfl rfl rfl rfl rfl ?_
    refine WP.vl rfl (Yld.pickF rfl rfl rfl) ?_; refine WP.nil ?_; refine WP.sub [(0, _), (1, _), (7, _), (24, _)] ?_ ⟨rfl, rfl, rfl, rfl, trivial⟩
    refine WP.next ?_; refine WP.condF rfl ?_; refine WP.exit (WP.thenE (WP.thenE (WP.hit ?_)))
    exact WP.mt n ⟨h10, hnb, hall, .inl (by omega)⟩ ⟨rfl, rfl, rfl, trivial⟩ rfl
  ·refine WP.mv rfl rfl ?_
   iterate 2 refine WP.passG rfl rfl rfl rfl rfl rfl rfl rfl ?_
   refine WP.vl rfl (Yld.pickF rfl rfl rfl) ?_; refine WP.mv rfl rfl ?_; iterate 5 refine WP.passG rfl rfl rfl rfl rfl rfl rfl rfl ?_
   refine WP.vl rfl (Yld.pickF rfl rfl rfl) ?_; refine WP.nil ?_; refine WP.sub [(0, _), (1, _), (7, _), (24, _)] ?_ ⟨rfl, rfl, rfl, rfl, trivial⟩
   refine WP.next ?_; refine WP.condF rfl ?_; refine WP.exit (WP.thenE (WP.thenE (WP.hit ?_)))
   exact WP.mt n ⟨h10, hnb, hall, .inr (.inl (by omega))⟩ ⟨rfl, rfl, rfl, trivial⟩ rfl
 ·rintro n ⟨h10, hnb, hall, hend⟩; have hr := rdN_ref0 (most := most) h10 hnb hall hend
  refine WP.seq (WP.seq ?_)
  refine WP.region [0, 1] rfl ?_; refine WP.mv rfl rfl ?_; refine WP.split rfl rfl rfl rfl (Yld.eql rfl rfl rfl) (fun h4 => ?_) (fun h4 => ?_)
  ·refine WP.nil ?_
   refine WP.sub [(0, _), (1, _), (7, _), (28, _)] ?_ ⟨rfl, rfl, rfl, rfl, trivial⟩
   refine WP.next ?_; refine WP.condT rfl ?_; refine WP.seq ?_; refine WP.region [0, 1, 2] rfl ?_; iterate 3 refine WP.mv rfl rfl ?_
   refine WP.nil (WP.next (WP.ret ?_))
   refine WP.fn .ret (.inr rfl) (res3 rfl rfl rfl rfl) [] (Imm.le_refl _) ?_; rw [hr, if_pos (by omega)]; exact ⟨rfl, rfl, rfl⟩
  ·refine WP.nil ?_
   refine WP.sub [(0, _), (1, _), (7, _), (28, _)] ?_ ⟨rfl, rfl, rfl, rfl, trivial⟩
   refine WP.next ?_; refine WP.condF rfl ?_; refine WP.skip (WP.next (WP.seq (WP.seq ?_)))
   refine WP.region [0, 1, 2, 3] rfl ?_; iterate 2 refine WP.mv rfl rfl ?_
   refine WP.vl rfl (Yld.len rfl ty_sl_25 rfl) ?_; refine WP.split rfl rfl rfl rfl (Yld.eql rfl rfl rfl) (fun h6 => ?_) (fun h6 => ?_)
   ·refine WP.nil ?_
    refine WP.sub [(0, _), (1, _), (7, _), (28, _), (32, _)] ?_ ⟨rfl, rfl, rfl, rfl, rfl, trivial⟩
    refine WP.next ?_; refine WP.condT rfl ?_; refine WP.seq ?_; refine WP.region [0, 1, 2] rfl ?_; iterate 3 refine WP.mv rfl rfl ?_
    refine WP.nil (WP.next (WP.ret ?_))
    refine WP.fn .ret (.inr rfl) (res3 rfl rfl rfl rfl) [] (Imm.le_refl _) ?_; rw [hr, if_neg (by omega), if_pos (by omega)]; exact ⟨rfl, rfl, rfl⟩
   ·obtain ⟨bb, kb, cb2, Tb, fb, arb, eb, hbb, hxb⟩ := hb.byte (i := n) (by omega)
    injection eb with eb1 _ eb2; subst eb1; subst eb2
    refine WP.nil ?_; refine WP.sub [(0, _), (1, _), (7, _), (28, _), (32, _)] ?_ ⟨rfl, rfl, rfl, rfl, rfl, trivial⟩
    refine WP.next ?_; refine WP.condF rfl ?_; refine WP.skip (WP.next ?_)
    refine WP.cut (X := Unit) (fun _ : Unit => [(0, .slice (some ⟨bb, kb, none⟩) b.length cb), (1, .int .u64 (most : Int)), (7, .int .i64 (n : Int))]) (fun _ => I) (fun _ : Unit => F) (fun _ : Unit => ¬ (0 < n ∧ (b.getD n 0).toNat = 0)) ?_ ?_
    ·skip
     refine WP.seq ?_; refine WP.region [0, 1, 2, 3, 4, 5, 6, 7, 8] rfl ?_; refine WP.mv rfl rfl ?_; refine WP.split rfl rfl rfl rfl (Yld.gtr rfl rfl rfl) (fun h81 => ?_) (fun h81 => ?_)
     ·refine WP.mv rfl rfl ?_
      iterate 2 refine WP.valG rfl rfl rfl rfl rfl rfl rfl (Yld.move rfl rfl) ?_
      refine WP.valG rfl rfl rfl rfl rfl rfl rfl (Yld.indexAddr (i := n) rfl ty_sl_25 rfl rfl (by omega)) ?_; refine WP.valG rfl rfl rfl rfl rfl rfl rfl (Yld.loadC (v := .int .u8 ((b.getD n 0).toNat : Int)) rfl ty_sc_5 rfl (There.i hbb) (hxb.trans (congrArg some (byteV_getD (by omega))))) ?_; refine WP.splitG rfl rfl rfl rfl rfl rfl rfl (Yld.eql rfl rfl rfl) (fun h87 => ?_) (fun h87 => ?_)
      ·refine WP.vl rfl (Yld.pickT rfl rfl rfl) ?_
       refine WP.nil ?_; refine WP.sub [(0, _), (1, _), (7, _), (28, _), (32, _), (41, _)] ?_ ⟨rfl, rfl, rfl, rfl, rfl, rfl, trivial⟩
       refine WP.next ?_; refine WP.condT rfl ?_; refine WP.seq ?_; refine WP.region [0, 1, 2] rfl ?_; iterate 3 refine WP.mv rfl rfl ?_
       refine WP.nil (WP.next (WP.ret ?_))
       refine WP.fn .ret (.inr rfl) (res3 rfl rfl rfl rfl) [] (Imm.le_refl _) ?_; rw [hr, if_neg (by omega), if_neg (by omega), if_pos ⟨by omega, by omega⟩]; exact ⟨rfl, rfl, rfl⟩
      ·refine WP.vl rfl (Yld.pickT rfl rfl rfl) ?_
       refine WP.nil ?_; refine WP.sub [(0, _), (1, _), (7, _), (28, _), (32, _), (41, _)] ?_ ⟨rfl, rfl, rfl, rfl, rfl, rfl, trivial⟩
       refine WP.next ?_; refine WP.condF rfl ?_; refine WP.skip ?_; exact WP.mt () (by omega) ⟨rfl, rfl, rfl, trivial⟩ rfl
     ·refine WP.mv rfl rfl ?_
      iterate 5 refine WP.passG rfl rfl rfl rfl rfl rfl rfl rfl ?_
      refine WP.vl rfl (Yld.pickF rfl rfl rfl) ?_; refine WP.nil ?_; refine WP.sub [(0, _), (1, _), (7, _), (28, _), (32, _), (41, _)] ?_ ⟨rfl, rfl, rfl, rfl, rfl, rfl, trivial⟩
      refine WP.next ?_; refine WP.condF rfl ?_; refine WP.skip ?_; exact WP.mt () (by omega) ⟨rfl, rfl, rfl, trivial⟩ rfl
    ·rintro _ h8n
     refine WP.cut (X := Unit) (fun _ : Unit => [(0, .slice (some ⟨bb, kb, none⟩) b.length cb), (1, .int .u64 (most : Int)), (7, .int .i64 (n : Int))]) (fun _ => I) (fun _ : Unit => F) (fun _ : Unit => ¬ (n = 9 ∧ 1 < (b.getD n 0).toNat)) ?_ ?_
     ·skip
      refine WP.seq ?_; refine WP.region [0, 1, 2, 3, 4, 5, 6, 7] rfl ?_; refine WP.mv rfl rfl ?_; refine WP.split rfl rfl rfl rfl (Yld.eql rfl rfl rfl) (fun h101 => ?_) (fun h101 => ?_)
      ·obtain rfl : n = 9 := by omega
       refine WP.mv rfl rfl ?_; refine WP.valG rfl rfl rfl rfl rfl rfl rfl (Yld.move rfl rfl) ?_; refine WP.valG rfl rfl rfl rfl rfl rfl rfl (Yld.indexAddr (i := 9) rfl ty_sl_25 rfl rfl (by omega)) ?_; refine WP.valG rfl rfl rfl rfl rfl rfl rfl (Yld.loadC (v := .int .u8 ((b.getD 9 0).toNat : Int)) rfl ty_sc_5 rfl (There.i hbb) (hxb.trans (congrArg some (byteV_getD (by omega))))) ?_; refine WP.splitG rfl rfl rfl rfl rfl rfl rfl (Yld.gtr rfl rfl rfl) (fun h106 => ?_) (fun h106 => ?_)
       ·refine WP.vl rfl (Yld.pickT rfl rfl rfl) ?_
        refine WP.nil ?_; refine WP.sub [(0, _), (1, _), (7, _), (49, _)] ?_ ⟨rfl, rfl, rfl, rfl, trivial⟩
        refine WP.next ?_; refine WP.condT rfl ?_; refine WP.seq ?_; refine WP.region [0, 1, 2] rfl ?_; iterate 3 refine WP.mv rfl rfl ?_
        refine WP.nil (WP.next (WP.ret ?_))
        refine WP.fn .ret (.inr rfl) (res3 rfl rfl rfl rfl) [] (Imm.le_refl _) ?_; rw [hr, if_neg (by omega), if_neg (by omega), if_neg (by omega), if_pos ⟨by omega, by omega⟩]; exact ⟨rfl, rfl, rfl⟩
       ·refine WP.vl rfl (Yld.pickT rfl rfl rfl) ?_
        refine WP.nil ?_; refine WP.sub [(0, _), (1, _), (7, _), (49, _)] ?_ ⟨rfl, rfl, rfl, rfl, trivial⟩
        refine WP.next ?_; refine WP.condF rfl ?_; refine WP.skip ?_; exact WP.mt () (by omega) ⟨rfl, rfl, rfl, trivial⟩ rfl
      ·refine WP.mv rfl rfl ?_
       iterate 4 refine WP.passG rfl rfl rfl rfl rfl rfl rfl rfl ?_
       refine WP.vl rfl (Yld.pickF rfl rfl rfl) ?_; refine WP.nil ?_; refine WP.sub [(0, _), (1, _), (7, _), (49, _)] ?_ ⟨rfl, rfl, rfl, rfl, trivial⟩
       refine WP.next ?_; refine WP.condF rfl ?_; refine WP.skip ?_; exact WP.mt () (by omega) ⟨rfl, rfl, rfl, trivial⟩ rfl
     ·rintro _ h10n
      refine WP.seq ?_; have hfit := dgN_fit (b := b) (n := n) (by omega) (by omega) (fun h => by subst h; omega)
      refine WP.region [0] rfl ?_; refine WP.mv rfl rfl ?_; refine WP.nil (WP.next (WP.seq (WP.seq ?_)))
      refine WP.region [0, 1] rfl ?_; iterate 2 refine WP.mv rfl rfl ?_
      refine WP.nil ?_; refine WP.sub [(0, _), (1, _), (7, _), (8, _), (9, _)] ?_ ⟨rfl, rfl, rfl, rfl, rfl, trivial⟩
      refine WP.next (WP.block ?_)
      refine WP.loop (X := Nat × Nat) (fun u : Nat × Nat => [(0, .slice (some ⟨bb, kb, none⟩) b.length cb), (1, .int .u64 (most : Int)), (7, .int .i64 (n : Int)), (8, .int .u64 (u.1 : Int)), (9, .int .i64 ((u.2 : Int) - 1))]) (fun _ => I) (fun _ : Nat × Nat => F) (fun u : Nat × Nat => u.2 ≤ n + 1 ∧ u.1 = dgN ((b.drop u.2).take (n + 1 - u.2))) (fun u => u.2) (0, n + 1) ⟨Nat.le_refl _, by simp [dgN]⟩ ⟨rfl, rfl, rfl, rfl, congrArg (fun z => some (Value.int .i64 z)) (show (n : Int) = ((n + 1 : Nat) : Int) - 1 by omega), trivial⟩ rfl zP ?_; rintro ⟨v, k⟩ ⟨hk, hv⟩; dsimp only at hk hv
      try dsimp only
      try simp only [nf]
      refine WP.seq (WP.seq ?_)
      refine WP.region [0, 1] rfl ?_; refine WP.mv rfl rfl ?_; refine WP.split rfl rfl rfl rfl (Yld.geq rfl rfl rfl) (fun hge => ?_) (fun hge => ?_)
      ·obtain ⟨j, rfl⟩ : ∃ j, k = j + 1 := ⟨k - 1, by omega⟩
       obtain ⟨bb2, kb2, cb2, Tb, fb, arb, eb, hbb, hxb⟩ := hb.byte (i := j) (by omega)
       cases eb
       have hst := dgN_step (b := b) (n := n) (j := j) (by omega) (by omega)
       rw [← hv] at hst
       have hle := dgN_le (b := b) (n := n) (j := j) (by omega)
       have hjb : j < b.length := by omega
       refine WP.nil ?_; refine WP.sub [(0, _), (1, _), (7, _), (8, _), (9, _), (52, _)] ?_ ⟨rfl, rfl, rfl, rfl, rfl, rfl, trivial⟩
       refine WP.next ?_; refine WP.condT rfl ?_; refine WP.skip (WP.next (WP.seq (WP.block ?_)))
       refine WP.region [0, 1, 2, 3, 4, 5, 6, 7, 8, 9] rfl ?_; refine WP.mv rfl rfl ?_; refine WP.vl rfl (Yld.mulU64N v 128 (by omega) rfl rfl rfl) ?_; iterate 2 refine WP.mv rfl rfl ?_
       refine WP.vl rfl (Yld.indexAddr (i := j) rfl ty_sl_25 rfl (congrArg (fun z => some (Value.int .i64 z)) (show ((j + 1 : Nat) : Int) - 1 = (j : Int) by omega)) hjb) ?_; refine WP.vl rfl (Yld.loadC (v := .int .u8 ((b.getD j 0).toNat : Int)) rfl ty_sc_5 rfl (There.i hbb) (hxb.trans (congrArg some (byteV_getD (by omega))))) ?_; refine WP.vl rfl (Yld.remN ((b.getD j 0).toNat) 128 (by decide) rfl rfl rfl) ?_; refine WP.vl rfl (Yld.conv64u ((b.getD j 0).toNat % 128) rfl ty_un_5 ty_ik_62 rfl (by omega)) ?_; refine WP.vl rfl (Yld.addU64N (v * 128) ((b.getD j 0).toNat % 128) (by omega) rfl rfl rfl) ?_; refine WP.mv rfl rfl ?_; refine WP.nil ?_; refine WP.sub [(0, _), (1, _), (7, _), (8, _), (9, _), (52, _)] ?_ ⟨rfl, rfl, rfl, rfl, rfl, rfl, trivial⟩
       refine WP.leave (WP.next ?_)
       refine WP.region [0, 1, 2] rfl ?_; refine WP.mv rfl rfl ?_; refine WP.vl rfl (Yld.to (congrArg (Value.int .i64) (show ((j + 1 : Nat) : Int) - 1 - 1 = (j : Int) - 1 by omega)) (Yld.sub64 rfl rfl rfl (by omega))) ?_; refine WP.mv rfl rfl ?_; refine WP.nil ?_; refine WP.sub [(0, _), (1, _), (7, _), (8, _), (9, _), (52, _)] ?_ ⟨rfl, rfl, rfl, rfl, rfl, rfl, trivial⟩
       exact WP.ag (v * 128 + (b.getD j 0).toNat % 128, j) ⟨by omega, by dsimp only; rw [hv]; exact (dgN_step (by omega) (by omega)).symm⟩ (show j < j + 1 by omega) ⟨rfl, rfl, rfl, rfl, rfl, trivial⟩ rfl
      ·obtain rfl : k = 0 := by omega
       rw [List.drop_zero, Nat.sub_zero] at hv
       refine WP.nil ?_; refine WP.sub [(0, _), (1, _), (7, _), (8, _), (9, _), (52, _)] ?_ ⟨rfl, rfl, rfl, rfl, rfl, rfl, trivial⟩
       refine WP.next ?_; refine WP.condF rfl ?_; refine WP.exit (WP.thenE (WP.thenE (WP.hit (WP.next (WP.seq (WP.seq ?_))))))
       refine WP.region [0, 1, 2] rfl ?_; iterate 2 refine WP.mv rfl rfl ?_
       refine WP.split rfl rfl rfl rfl (Yld.gtr rfl rfl rfl) (fun hbig => ?_) (fun hbig => ?_)
       ·refine WP.nil ?_
        refine WP.sub [(0, _), (1, _), (7, _), (8, _), (9, _), (52, _), (66, _)] ?_ ⟨rfl, rfl, rfl, rfl, rfl, rfl, rfl, trivial⟩
        refine WP.next ?_; refine WP.condT rfl ?_; refine WP.seq ?_; refine WP.region [0, 1, 2] rfl ?_; iterate 3 refine WP.mv rfl rfl ?_
        refine WP.nil (WP.next (WP.ret ?_))
        refine WP.fn .ret (.inr rfl) (res3 rfl rfl rfl rfl) [] (Imm.le_refl _) ?_; rw [hr, if_neg (by omega), if_neg (by omega), if_neg h8n, if_neg h10n, if_pos (by omega)]
        exact ⟨rfl, rfl, rfl⟩
       ·refine WP.nil ?_
        refine WP.sub [(0, _), (1, _), (7, _), (8, _), (9, _), (52, _), (66, _)] ?_ ⟨rfl, rfl, rfl, rfl, rfl, rfl, rfl, trivial⟩
        refine WP.next ?_; refine WP.condF rfl ?_; refine WP.skip (WP.next (WP.seq ?_))
        refine WP.region [0, 1, 2, 3, 4, 5] rfl ?_; iterate 2 refine WP.mv rfl rfl ?_
        refine WP.vl rfl (Yld.add64 rfl rfl rfl (by omega)) ?_; iterate 3 refine WP.mv rfl rfl ?_
        refine WP.nil ?_; refine WP.sub [(0, _), (1, _), (4, _), (5, _), (6, _), (7, _), (8, _), (9, _), (52, _), (66, _)] ?_ ⟨rfl, rfl, rfl, rfl, rfl, rfl, rfl, rfl, rfl, rfl, trivial⟩
        refine WP.next (WP.ret ?_)
        refine WP.fn .ret (.inr rfl) (res3 rfl rfl rfl rfl) [] (Imm.le_refl _) ?_; rw [hr, if_neg (by omega), if_neg (by omega), if_neg h8n, if_neg h10n, if_neg (by omega)]
        exact ⟨by rw [hv]; rfl, rfl, rfl⟩


/-- The document's Reader. -/
inductive IsRq (I : Imm) (q : Nat) (s : Rs) : Chunks → Prop
 | mk {v : Value} {bs : List UInt8} {at_ : Nat} (h : SlRd (Im I) v bs.length 1 (bytesV bs)) (hl : bs.length ≤ 140737488355328) (ha : at_ ≤ bs.length) (hs : s.bs = bs.drop at_) : IsRq I q s [(q, row 76 [v, .int .i64 (at_ : Int), .int .i64 s.e])]
theorem IsRq.mono {I J : Imm} {q : Nat} {s : Rs} {L : Chunks} (h : IsRq I q s L) (hJ : I.le J) : IsRq J q s L := by
 cases h with | mk h hl ha hs => exact .mk (h.mono fun b o k => hJ.2 b o k) hl ha hs
theorem ref1_Open {I : Imm} {b : List UInt8} {vb : Value} (hb : SlRd (Im I) vb b.length 1 (bytesV b)) (hl : b.length ≤ 140737488351232) : Spec Tryz.prog 25 [vb] I [] (fun v J L => ∃ q, v = .pointer (some ⟨q, 0, none⟩) ∧ IsRq J q ⟨b, 0⟩ L) := by
 obtain ⟨Ab, cb, rfl, _, _, _⟩ := id hb
 refine Spec.of Tryz.func25 rfl Tryz.ntmps25 (Nat.le_of_ble_eq_true rfl) (fun F => ?_)
 try simp only [nf]
 dsimp only [argsEnv]
 refine WP.seq ?_; refine WP.region [0] rfl ?_; refine WP.mv rfl rfl ?_; refine WP.nil (WP.next (WP.seq ?_))
 refine WP.region [0, 1, 2, 3, 4] rfl ?_; refine WP.mv rfl rfl ?_; refine WP.loud rfl rfl ?_; refine Op.append (m := b.length) rfl ty_sl_25 ty_el_25 rfl rfl rfl rfl rfl Own.none0 (hb.mono (fun b o h => .inr h)) Take.nil (bytesV_one _) (by omega) (by omega) (fun vc Lc hc => ?_)
 try simp only [nf]
 rw [List.nil_append, Nat.zero_add] at hc
 obtain ⟨Ac, cc, rfl, _⟩ := hc.slice
 refine WP.vl rfl (Yld.buildS (pl := [(0, 0, 1)]) rfl ty_zr_76 ty_zd_76 zK rfl (vs := [_]) rfl (segs := [(0, [_])]) rfl rfl (.seg (Nat.le_of_ble_eq_true rfl) rfl .nil)) ?_; refine WP.loud rfl rfl ?_; refine Op.box rfl rfl rfl rfl rfl (fun q => ?_)
 refine WP.mv rfl rfl ?_; refine WP.nil ?_; refine WP.sub [(0, _), (2, _)] ?_ ⟨rfl, rfl, trivial⟩
 refine WP.shO hc (fun J2 hJ2 hd => ?_)
 refine WP.next (WP.ret ?_)
 refine WP.fn .ret (.inr rfl) (res1 rfl rfl) [(q, row 76 [(.slice Ac b.length cc), .int .i64 0, .int .i64 0])] hJ2 ?_; exact ⟨q, rfl, .mk (s := ⟨b, 0⟩) (bs := b) (at_ := 0) hd (by omega) (Nat.zero_le _) rfl⟩

theorem ref1_Num {I : Imm} {q : Nat} {s : Rs} {L : Chunks} (hq : IsRq I q s L) {most : Nat} : Spec Tryz.prog 26 [.pointer (some ⟨q, 0, none⟩), .int .u64 (most : Int)] I L (fun v J L' => v = .int .u64 ((rNum most s).1 : Int) ∧ I = J ∧ IsRq I q (rNum most s).2 L') := by
 cases hq with
 | @mk v bs at_ hb hl ha hs =>
 obtain ⟨Av, cv, rfl, hcv, _, _⟩ := id hb
 have hd0 := hb.dropB ha
 rw [← hs] at hd0
 have hsl : s.bs.length = bs.length - at_ := by rw [hs, List.length_drop]
 refine Spec.of Tryz.func26 rfl Tryz.ntmps26 (Nat.le_of_ble_eq_true rfl) (fun F => ?_)
 try simp only [nf]
 dsimp only [argsEnv]
 refine WP.seq ?_; refine WP.region [0] rfl ?_; refine WP.mv rfl rfl ?_; refine WP.nil (WP.next (WP.seq (WP.seq ?_)))
 refine WP.region [0, 1, 2, 3, 4] rfl ?_; refine WP.mv rfl rfl ?_; refine WP.vl rfl (Yld.nilCheck rfl rfl) ?_; refine WP.vl rfl (Yld.fieldAddr rfl ty_fd_76_2 rfl) ?_; refine WP.vl rfl (Yld.ld (v := .int .i64 s.e) rfl ty_sc_27 rfl rfl) ?_; refine WP.split rfl rfl rfl rfl (Yld.neq rfl rfl rfl) (fun he => ?_) (fun he => ?_)
 ·refine WP.nil ?_
  refine WP.sub [(0, _), (1, _), (4, _), (12, _)] ?_ ⟨rfl, rfl, rfl, rfl, trivial⟩
  refine WP.next ?_; refine WP.condT rfl ?_; refine WP.seq ?_; refine WP.region [0] rfl ?_; refine WP.mv rfl rfl ?_; refine WP.nil (WP.next (WP.ret ?_))
  refine WP.fn .ret (.inr rfl) (res1 rfl rfl) [(q, row 76 [(.slice Av bs.length cv), .int .i64 (at_ : Int), .int .i64 s.e])] (Imm.le_refl _) ?_; have e : rNum most s = (0, s) := if_neg he
  rw [e]; exact ⟨rfl, rfl, .mk hb hl ha hs⟩
 ·refine WP.nil ?_
  refine WP.sub [(0, _), (1, _), (4, _), (12, _)] ?_ ⟨rfl, rfl, rfl, rfl, trivial⟩
  refine WP.next ?_; refine WP.condF rfl ?_; refine WP.skip (WP.next (WP.seq ?_))
  refine WD.start Tryzmixed 10 (There I _) (fun _ _ => False) (fun _ _ h => h) (fun _ _ h => h.elim) 18 [false, false, false, false, false, false, false, false, false, false, false, false, false, false, false, false, false, false] rfl rfl ?_; refine WD.vl (i := 0) rfl (Yld.move rfl rfl) ?_; refine WD.vl (i := 1) rfl (Yld.nilCheck rfl rfl) ?_; refine WD.vl (i := 2) rfl (Yld.fieldAddr rfl ty_fd_76_0 rfl) ?_; refine WD.val1 (i := 3) rfl rfl rfl rfl zK rfl zK (Yld.load (v := .slice Av bs.length cv) rfl ty_sc_25 rfl (.inl zM) rfl) ?_; refine WD.vl (i := 4) rfl (Yld.move rfl rfl) ?_; refine WD.vl (i := 5) rfl (Yld.nilCheck rfl rfl) ?_; refine WD.vl (i := 6) rfl (Yld.fieldAddr rfl ty_fd_76_1 rfl) ?_; refine WD.val1 (i := 7) rfl rfl rfl rfl zK rfl zK (Yld.load (v := .int .i64 (at_ : Int)) rfl ty_sc_3 rfl (.inl zM) rfl) ?_; refine WD.vl (i := 8) rfl (Yld.slice (l := at_) (h := bs.length) rfl ty_sl_25 rfl (Env.limS rfl) rfl ha (by omega)) ?_; refine WD.vl (i := 9) rfl (Yld.move rfl rfl) ?_; refine WD.loud (i := 10) zK rfl rfl rfl ?_; refine Op.cl (ref1_number (most := most) hd0 (by omega)) rfl Tryz.func36 rfl rfl rfl rfl ?_; rintro v J L1 - ⟨rfl, rfl, rfl⟩
  try simp only [nf]
  have hsz := rdN_bs (most := most) (l := s.bs)
  refine WD.go (.inl rfl) (fun _ _ h => h.elim) ?_; refine WD.vl (i := 11) rfl (Yld.move rfl rfl) ?_; refine WD.vl (i := 12) rfl (Yld.extract rfl rfl rfl) ?_; refine WD.vl (i := 13) rfl (Yld.extract rfl rfl rfl) ?_; refine WD.vl (i := 14) rfl (Yld.extract rfl rfl rfl) ?_; refine WD.vl (i := 15) rfl (Yld.assign rfl rfl) ?_; refine WD.vl (i := 16) rfl (Yld.assign rfl rfl) ?_; refine WD.vl (i := 17) rfl (Yld.assign rfl rfl) ?_; refine WD.done zK ?_; refine WP.sub [(0, _), (1, _), (4, _), (5, _), (6, _), (7, _), (12, _)] ?_ ⟨rfl, rfl, rfl, rfl, rfl, rfl, rfl, trivial⟩
  refine WP.next (WP.seq ?_)
  refine WP.region [0, 1, 2, 3, 4] rfl ?_; iterate 2 refine WP.mv rfl rfl ?_
  refine WP.vl rfl (Yld.nilCheck rfl rfl) ?_; refine WP.vl rfl (Yld.fieldAddr rfl ty_fd_76_2 rfl) ?_; refine WP.loud rfl rfl ?_; refine Op.s1 rfl rfl ty_sz_27 rfl rfl rfl ?_; refine WP.nil ?_; refine WP.sub [(0, _), (1, _), (4, _), (5, _), (6, _), (7, _), (12, _)] ?_ ⟨rfl, rfl, rfl, rfl, rfl, rfl, rfl, trivial⟩
  refine WP.next (WP.seq ?_)
  refine WP.region [0, 1, 2, 3, 4, 5, 6, 7, 8, 9] rfl ?_; iterate 2 refine WP.mv rfl rfl ?_
  refine WP.vl rfl (Yld.nilCheck rfl rfl) ?_; refine WP.vl rfl (Yld.fieldAddr rfl ty_fd_76_1 rfl) ?_; refine WP.vl rfl (Yld.ld (v := .int .i64 (at_ : Int)) rfl ty_sc_3 rfl rfl) ?_; refine WP.mv rfl rfl ?_; refine WP.vl rfl (Yld.to (congrArg (Value.int .i64) (show (at_ : Int) + ((rdN most 10 0 0 s.bs).2.1 : Int) = ((at_ + (rdN most 10 0 0 s.bs).2.1 : Nat) : Int) by omega)) (Yld.add64 rfl rfl rfl (by omega))) ?_; refine WP.vl rfl (Yld.nilCheck rfl rfl) ?_; refine WP.vl rfl (Yld.fieldAddr rfl ty_fd_76_1 rfl) ?_; refine WP.loud rfl rfl ?_; refine Op.s1 rfl rfl ty_sz_3 rfl rfl rfl ?_; refine WP.nil ?_; refine WP.sub [(0, _), (1, _), (4, _), (5, _), (6, _), (7, _), (12, _)] ?_ ⟨rfl, rfl, rfl, rfl, rfl, rfl, rfl, trivial⟩
  refine WP.next (WP.seq ?_)
  refine WP.region [0, 1] rfl ?_; iterate 2 refine WP.mv rfl rfl ?_
  refine WP.nil ?_; refine WP.sub [(0, _), (1, _), (4, _), (5, _), (6, _), (7, _), (12, _)] ?_ ⟨rfl, rfl, rfl, rfl, rfl, rfl, rfl, trivial⟩
  refine WP.next (WP.ret ?_)
  refine WP.fn .ret (.inr rfl) (res1 rfl rfl) [(q, row 76 [(.slice Av bs.length cv), .int .i64 ((at_ + (rdN most 10 0 0 s.bs).2.1 : Nat) : Int), .int .i64 (rdN most 10 0 0 s.bs).2.2])] (Imm.le_refl _) ?_; have e : rNum most s = _ := if_pos (by simpa using he)
  rw [e]; exact ⟨rfl, rfl, .mk (s := ⟨_, _⟩) hb hl (by omega) (by show s.bs.drop _ = _; rw [hs, List.drop_drop])⟩

theorem ref1_Done {I : Imm} {q : Nat} {s : Rs} {L : Chunks} (hq : IsRq I q s L) : Spec Tryz.prog 27 [.pointer (some ⟨q, 0, none⟩)] I L (fun v J L' => v = .int .i64 s.done ∧ I = J ∧ IsRq I q s L') := by
 cases hq with
 | @mk v bs at_ hb hl ha hs =>
 obtain ⟨Av, cv, rfl, hcv, _, _⟩ := id hb
 have hd0 := hb.dropB ha
 rw [← hs] at hd0
 have hsl : s.bs.length = bs.length - at_ := by rw [hs, List.length_drop]
 refine Spec.of Tryz.func27 rfl Tryz.ntmps27 (Nat.le_of_ble_eq_true rfl) (fun F => ?_)
 try simp only [nf]
 dsimp only [argsEnv]
 refine WP.seq ?_; refine WP.region [0] rfl ?_; refine WP.mv rfl rfl ?_; refine WP.nil (WP.next (WP.seq (WP.seq ?_)))
 refine WQ.startAll Tryzmixed zK _ rfl ?_; refine WQ.val rfl rfl rfl (Yld.move rfl rfl) ?_; refine WQ.val rfl rfl rfl (Yld.nilCheck rfl rfl) ?_; refine WQ.val rfl rfl rfl (Yld.fieldAddr rfl ty_fd_76_2 rfl) ?_; refine WQ.val rfl rfl rfl (Yld.ld (v := .int .i64 s.e) rfl ty_sc_27 rfl rfl) ?_; refine WQ.split rfl rfl rfl (Yld.eql rfl rfl rfl) (fun he => ?_) (fun he => ?_)
 ·refine WQ.val rfl rfl rfl (Yld.move rfl rfl) ?_
  refine WQ.valG rfl rfl rfl rfl rfl rfl (Yld.move rfl rfl) ?_; refine WQ.valG rfl rfl rfl rfl rfl rfl (Yld.nilCheck rfl rfl) ?_; refine WQ.valG rfl rfl rfl rfl rfl rfl (Yld.fieldAddr rfl ty_fd_76_1 rfl) ?_; refine WQ.valG rfl rfl rfl rfl rfl rfl (Yld.ld (v := .int .i64 (at_ : Int)) rfl ty_sc_3 rfl rfl) ?_; refine WQ.valG rfl rfl rfl rfl rfl rfl (Yld.move rfl rfl) ?_; refine WQ.valG rfl rfl rfl rfl rfl rfl (Yld.nilCheck rfl rfl) ?_; refine WQ.valG rfl rfl rfl rfl rfl rfl (Yld.fieldAddr rfl ty_fd_76_0 rfl) ?_; refine WQ.valG rfl rfl rfl rfl rfl rfl (Yld.ld (v := .slice Av bs.length cv) rfl ty_sc_25 rfl rfl) ?_; refine WQ.valG rfl rfl rfl rfl rfl rfl (Yld.len rfl ty_sl_25 rfl) ?_; refine WQ.splitG rfl rfl rfl rfl rfl rfl (Yld.lss rfl rfl rfl) (fun hlen => ?_) (fun hlen => ?_)
  ·refine WQ.val rfl rfl rfl (Yld.pickT rfl rfl rfl) ?_
   refine WQ.nil ?_; refine WP.sub [(0, _), (2, _), (19, _)] ?_ ⟨rfl, rfl, rfl, trivial⟩
   refine WP.next ?_; refine WP.condT rfl ?_; refine WP.seq ?_; refine WP.region [0] rfl ?_; refine WP.mv rfl rfl ?_; refine WP.nil (WP.next (WP.ret ?_))
   refine WP.fn .ret (.inr rfl) (res1 rfl rfl) [(q, row 76 [(.slice Av bs.length cv), .int .i64 (at_ : Int), .int .i64 s.e])] (Imm.le_refl _) ?_; have e : s.done = 13 := if_pos ⟨he, by omega⟩
   rw [e]; exact ⟨rfl, rfl, .mk hb hl ha hs⟩
  ·refine WQ.val rfl rfl rfl (Yld.pickT rfl rfl rfl) ?_
   refine WQ.nil ?_; refine WP.sub [(0, _), (2, _), (19, _)] ?_ ⟨rfl, rfl, rfl, trivial⟩
   refine WP.next ?_; refine WP.condF rfl ?_; refine WP.skip (WP.next (WP.seq ?_))
   refine WP.region [0, 1, 2, 3, 4] rfl ?_; refine WP.mv rfl rfl ?_; refine WP.vl rfl (Yld.nilCheck rfl rfl) ?_; refine WP.vl rfl (Yld.fieldAddr rfl ty_fd_76_2 rfl) ?_; refine WP.vl rfl (Yld.ld (v := .int .i64 s.e) rfl ty_sc_27 rfl rfl) ?_; refine WP.mv rfl rfl ?_; refine WP.nil ?_; refine WP.sub [(0, _), (2, _), (19, _)] ?_ ⟨rfl, rfl, rfl, trivial⟩
   refine WP.next (WP.ret ?_)
   refine WP.fn .ret (.inr rfl) (res1 rfl rfl) [(q, row 76 [(.slice Av bs.length cv), .int .i64 (at_ : Int), .int .i64 s.e])] (Imm.le_refl _) ?_; have e : s.done = s.e := if_neg (fun h => by have h1 := h.1; have h2 := h.2; first | exact he h1 | omega)
   rw [e]; exact ⟨rfl, rfl, .mk hb hl ha hs⟩
 ·refine WQ.val rfl rfl rfl (Yld.move rfl rfl) ?_
  iterate 10 refine WQ.passG rfl rfl rfl rfl rfl rfl rfl ?_
  refine WQ.val rfl rfl rfl (Yld.pickF rfl rfl rfl) ?_; refine WQ.nil ?_; refine WP.sub [(0, _), (2, _), (19, _)] ?_ ⟨rfl, rfl, rfl, trivial⟩
  refine WP.next ?_; refine WP.condF rfl ?_; refine WP.skip (WP.next (WP.seq ?_))
  refine WP.region [0, 1, 2, 3, 4] rfl ?_; refine WP.mv rfl rfl ?_; refine WP.vl rfl (Yld.nilCheck rfl rfl) ?_; refine WP.vl rfl (Yld.fieldAddr rfl ty_fd_76_2 rfl) ?_; refine WP.vl rfl (Yld.ld (v := .int .i64 s.e) rfl ty_sc_27 rfl rfl) ?_; refine WP.mv rfl rfl ?_; refine WP.nil ?_; refine WP.sub [(0, _), (2, _), (19, _)] ?_ ⟨rfl, rfl, rfl, trivial⟩
  refine WP.next (WP.ret ?_)
  refine WP.fn .ret (.inr rfl) (res1 rfl rfl) [(q, row 76 [(.slice Av bs.length cv), .int .i64 (at_ : Int), .int .i64 s.e])] (Imm.le_refl _) ?_; have e : s.done = s.e := if_neg (fun h => by have h1 := h.1; have h2 := h.2; first | exact he h1 | omega)
  rw [e]; exact ⟨rfl, rfl, .mk hb hl ha hs⟩


end Go.Hp
