import Derived.Test.YtgcbhbcmohcdpaaGreatSegL
import Derived.Test.YtgcbhbcmohcdpaaGreatHpMap
set_option linter.unusedVariables false
set_option linter.unusedSimpArgs false
namespace Go.Hp
open Go Go.Proofs

theorem WP.shareParts {n : Nat} {K : Act → World → Prop} {E : Env} {I : Imm} {L L1 Lo Ld : Chunks} {v : Value} {l : List (Pt × Value)} (ho : Own 223 6 v (pcells l) l.length Lo) (hd : OData l Ld) (hr : Take L (Lo ++ (Ld ++ [])) L1) (h : ∀ J : Imm, I.le J → RParts J v l → WP n K E J L1) : WP n K E I L :=
 WP.shareAll (Lo ++ Ld) (by have := hr.perm; simpa using this) fun J hJ hall => h J hJ (RParts.own ho hd hall)
structure CutOk (no place era : Int) (b : List UInt8) : Prop where
 len : b.length ≤ 12672
 m1 : 1 ≤ pmanyOf b
 m64 : pmanyOf b ≤ 64
 p0 : 0 ≤ place
 p1 : place + (pmanyOf b : Int) ≤ 1099511627777
 no : 1 ≤ no ∧ no ≤ 1099511627776
 era : 1 ≤ era ∧ era ≤ 4294967295
theorem cut_ok {no place era : Int} {b : List UInt8} (h : pcutE no place era b = 0) : CutOk no place era b := by
 unfold pcutE at h
 split at h
 ·cases h
 ·rename_i h1
  split at h
  ·cases h
  ·rename_i h2
   have h3 : ¬ pmanyOf b = 0 := fun e => h2 (.inl e)
   have h4 : ¬ place < 0 := fun e => h2 (.inr (.inl e))
   have h5 : ¬ 1099511627776 - (pmanyOf b : Int) + 1 < place := fun e => h2 (.inr (.inr (.inl e)))
   have h6 : (⟨0, no, 0, era, 1, [0]⟩ : Pt).may := Decidable.not_not.1 fun e => h2 (.inr (.inr (.inr e)))
   exact ⟨by omega, by omega, by unfold pmanyOf; omega, by omega, by omega, h6.no, h6.era⟩
theorem pcut_may {no place era : Int} {b : List UInt8} (h : CutOk no place era b) {i : Nat} (hi : i < pmanyOf b) : (pcut no place era b (pmanyOf b) i).may := by
 obtain ⟨h1, h2, h3, h4, h5, h6, h7⟩ := h
 refine ⟨⟨by simp only [pcut]; omega, by simp only [pcut]; omega⟩, h6, h7, ⟨by simp only [pcut]; omega, by simp only [pcut]; omega⟩, ⟨by simp only [pcut]; omega, by simp only [pcut]; omega⟩, ?_⟩
 have hl : (pcut no place era b (pmanyOf b) i).data.length = min 198 (b.length - i * 198) := by simp [pcut]
 rw [hl]
 have hm : pmanyOf b = (b.length + 197) / 198 := rfl
 by_cases he : i + 1 = pmanyOf b
 ·right; exact ⟨by simp only [pcut]; omega, by omega, by omega⟩
 ·left; omega
theorem cutL_is {no place era : Int} {b : List UInt8} (h : pcutE no place era b = 0) : pcutL no place era b = (List.range (pmanyOf b)).map (pcut no place era b (pmanyOf b)) := if_pos h
theorem RParts.take {J : Imm} {v : Value} {l : List (Pt × Value)} (h : RParts J v l) {m : Nat} (hm : m ≤ l.length) : RParts J (subSl 6 0 m v) (l.take m) := by
 have hl : (l.take m).length = m := by rw [List.length_take]; omega
 refine ⟨?_, fun e he => h.data e (List.mem_of_mem_take he)⟩
 have q := h.rd.sub (Nat.zero_le m) hm
 have e : (pcells l).take (m * 6) = pcells (l.take m) := by
  have e2 : pcells l = pcells (l.take m) ++ pcells (l.drop m) := by rw [← pcells_app, List.take_append_drop]
  rw [e2, List.take_append_of_le_length (by rw [pcells_len, hl]; exact Nat.le_refl _), List.take_of_length_le (by rw [pcells_len, hl]; exact Nat.le_refl _)]
 rw [Nat.zero_mul, List.drop_zero, Nat.sub_zero, e] at q
 rw [hl]; exact q


theorem parts_at {no place era : Int} {b : List UInt8} {l : List (Pt × Value)} {m k : Nat} (h : l.map (·.1) = (List.range m).map (pcut no place era b k)) : l.length = m ∧ ∀ i (hi : i < l.length), l[i].1 = pcut no place era b k i := by
 have hl := congrArg List.length h
 simp only [List.length_map, List.length_range] at hl
 refine ⟨hl, fun i hi => ?_⟩
 have := congrArg (fun z => z[i]?) h
 simp [hi, show i < m by omega] at this
 exact this


/-- A record in memory. -/
structure Rc where
 kind : Int
 b : List UInt8
 blk : Nat
 vb : Value
 vp : Value
 lp : List (Pt × Value)
def kbody (k : Int) (b : List UInt8) : List UInt8 := UInt8.ofNat k.toNat :: b
def kmany (b : List UInt8) : Nat := (b.length + 198) / 198
def Rc.n (r : Rc) : Nat := kmany r.b
theorem kmany_eq (k : Int) (b : List UInt8) : pmanyOf (kbody k b) = kmany b := by unfold pmanyOf kbody kmany; rw [List.length_cons]
theorem kmany_pos (b : List UInt8) : 1 ≤ kmany b := by unfold kmany; omega
theorem Rc.pos (r : Rc) : 1 ≤ r.n := kmany_pos r.b
def rcV (no place : Nat) (r : Rc) : List Value := [.int .i64 (no : Int), .int .i64 r.kind, .int .i64 (place : Int), r.vb, r.vp]
structure RcOk (J : Imm) (era : Int) (no place : Nat) (r : Rc) : Prop where
 hb : J.blk r.blk = some (row 219 (rcV no place r))
 vb : SlRd (Im J) r.vb r.b.length 1 (bytesV r.b)
 vp : RParts J r.vp r.lp
 cut : r.lp.map (·.1) = (List.range r.n).map (pcut no place era (kbody r.kind r.b) r.n)
 ok : CutOk no place era (kbody r.kind r.b)
 kd : 1 ≤ r.kind ∧ r.kind ≤ 5
theorem RcOk.mono {I J : Imm} {era : Int} {no place : Nat} {r : Rc} (h : RcOk I era no place r) (hJ : I.le J) : RcOk J era no place r :=
 ⟨hJ.2 _ _ h.hb, h.vb.mono fun b o q => hJ.2 b o q, h.vp.mono hJ, h.cut, h.ok, h.kd⟩
theorem RcOk.len {J : Imm} {era : Int} {no place : Nat} {r : Rc} (h : RcOk J era no place r) : r.lp.length = r.n := (parts_at h.cut).1
theorem RcOk.n64 {J : Imm} {era : Int} {no place : Nat} {r : Rc} (h : RcOk J era no place r) : r.n ≤ 64 := by have := h.ok.m64; rw [kmany_eq] at this; exact this
theorem RcOk.at_ {J : Imm} {era : Int} {no place : Nat} {r : Rc} (h : RcOk J era no place r) {i : Nat} (hi : i < r.lp.length) : (r.lp[i]).1 = pcut no place era (kbody r.kind r.b) r.n i := (parts_at h.cut).2 i hi
def blocksN : List Rc → Nat
 | [] => 0
 | r :: l => r.n + blocksN l
theorem blocksN_app (l m : List Rc) : blocksN (l ++ m) = blocksN l + blocksN m := by
 induction l with
 | nil => simp [blocksN]
 | cons r l ih => simp only [List.cons_append, blocksN, ih]; omega
/-- A log. -/
structure Lg where
 era : Int
 g : Sg
 base : Nat
 p0 : Nat
 rs : List Rc
 mno : Nat
 wr : Nat
 sent : Nat
def Lg.no (x : Lg) : Nat := x.base + x.rs.length
def Lg.endP (x : Lg) (k : Nat) : Nat := x.p0 + blocksN (x.rs.take k)
def Lg.pl (x : Lg) : Nat := x.p0 + blocksN x.rs
def Lg.mpl (x : Lg) : Nat := x.endP (x.mno - x.base)
def Lg.lo (x : Lg) : Nat := min x.mno x.wr
def Lg.push (x : Lg) (r : Rc) : Lg := { x with rs := x.rs ++ [r] }
theorem Lg.endP_len (x : Lg) : x.endP x.rs.length = x.pl := by unfold Lg.endP Lg.pl; rw [List.take_length]
theorem Lg.endP_succ (x : Lg) {k : Nat} (h : k < x.rs.length) : x.endP (k + 1) = x.endP k + x.rs[k].n := by
 unfold Lg.endP
 rw [List.take_succ_eq_append_getElem h, blocksN_app]
 simp only [blocksN]; omega
theorem Lg.endP_add (x : Lg) (k j : Nat) : x.endP k ≤ x.endP (k + j) := by
 unfold Lg.endP
 rw [List.take_add, blocksN_app]; omega
theorem Lg.endP_mono (x : Lg) {k j : Nat} (h : k ≤ j) : x.endP k ≤ x.endP j := by
 obtain ⟨i, rfl⟩ := Nat.exists_eq_add_of_le h
 exact x.endP_add k i
theorem Lg.endP_pl (x : Lg) (k : Nat) : x.endP k ≤ x.pl := by
 unfold Lg.endP Lg.pl
 have : blocksN x.rs = blocksN (x.rs.take k) + blocksN (x.rs.drop k) := by rw [← blocksN_app, List.take_append_drop]
 omega
theorem Lg.endP_lt (x : Lg) {k j : Nat} (h : k < j) (hk : k < x.rs.length) : x.endP k + x.rs[k].n ≤ x.endP j := by
 rw [← x.endP_succ hk]; exact x.endP_mono h
theorem Lg.endP_push (x : Lg) (r : Rc) {k : Nat} (h : k ≤ x.rs.length) : (x.push r).endP k = x.endP k := by unfold Lg.endP Lg.push; rw [List.take_append_of_le_length h]
theorem Lg.pl_push (x : Lg) (r : Rc) : (x.push r).pl = x.pl + r.n := by
 unfold Lg.pl Lg.push; rw [blocksN_app]; simp only [blocksN]; omega
theorem Lg.no_push (x : Lg) (r : Rc) : (x.push r).no = x.no + 1 := by unfold Lg.no Lg.push; simp only [List.length_append, List.length_cons, List.length_nil]; omega
/-- Where a place lies. -/
theorem find_rec : ∀ (l : List Rc) (q : Nat), q < blocksN l → ∃ k, ∃ h : k < l.length, blocksN (l.take k) ≤ q ∧ q < blocksN (l.take k) + l[k].n
 | [], q, h => absurd h (Nat.not_lt_zero _)
 | r :: l, q, h => by
  by_cases hq : q < r.n
  ·exact ⟨0, Nat.zero_lt_succ _, Nat.zero_le _, by simpa [blocksN] using hq⟩
  ·obtain ⟨k, hk, h1, h2⟩ := find_rec l (q - r.n) (by simp only [blocksN] at h; omega)
   refine ⟨k + 1, by simpa using hk, ?_, ?_⟩
   ·simp only [List.take_succ_cons, blocksN]; omega
   ·simp only [List.take_succ_cons, blocksN, List.getElem_cons_succ]; omega
theorem Lg.find (x : Lg) {q : Nat} (h0 : x.p0 ≤ q) (h1 : q < x.pl) : ∃ k, ∃ h : k < x.rs.length, x.endP k ≤ q ∧ q < x.endP k + x.rs[k].n := by
 obtain ⟨k, hk, h2, h3⟩ := find_rec x.rs (q - x.p0) (by unfold Lg.pl at h1; omega)
 exact ⟨k, hk, by unfold Lg.endP; omega, by unfold Lg.endP; omega⟩
def partAt (era : Int) : List Rc → Nat → Nat → Nat → Pt
 | [], _, _, _ => ptZ
 | r :: l, no, p, q => if q < p + r.n then pcut ((no + 1 : Nat) : Int) (p : Int) era (kbody r.kind r.b) r.n (q - p) else partAt era l (no + 1) (p + r.n) q
def Lg.part (x : Lg) (q : Nat) : Pt := partAt x.era x.rs x.base x.p0 q
theorem partAt_at (era : Int) : ∀ (l : List Rc) (no p k j : Nat) (hk : k < l.length), j < l[k].n → partAt era l no p (p + blocksN (l.take k) + j) = pcut ((no + k + 1 : Nat) : Int) ((p + blocksN (l.take k) : Nat) : Int) era (kbody l[k].kind l[k].b) l[k].n j
 | [], _, _, _, _, hk, _ => absurd hk (Nat.not_lt_zero _)
 | r :: l, no, p, 0, j, hk, hj => by
  simp only [List.getElem_cons_zero] at hj ⊢
  simp only [List.take_zero, blocksN, Nat.add_zero, partAt]
  rw [if_pos (by omega), Nat.add_sub_cancel_left]
 | r :: l, no, p, k + 1, j, hk, hj => by
  simp only [List.getElem_cons_succ] at hj ⊢
  have h := partAt_at era l (no + 1) (p + r.n) k j (by simpa using hk) hj
  simp only [List.take_succ_cons, blocksN, partAt]
  rw [if_neg (by omega), show p + (r.n + blocksN (l.take k)) + j = p + r.n + blocksN (l.take k) + j by omega, h, show no + 1 + k + 1 = no + (k + 1) + 1 by omega, show p + r.n + blocksN (l.take k) = p + (r.n + blocksN (l.take k)) by omega]
theorem Lg.part_at (x : Lg) {k j : Nat} (hk : k < x.rs.length) (hj : j < x.rs[k].n) : x.part (x.endP k + j) = pcut ((x.base + k + 1 : Nat) : Int) (x.endP k : Int) x.era (kbody x.rs[k].kind x.rs[k].b) x.rs[k].n j := partAt_at x.era x.rs x.base x.p0 k j hk hj
theorem Lg.part_push (x : Lg) (r : Rc) {q : Nat} (h0 : x.p0 ≤ q) (h1 : q < x.pl) : (x.push r).part q = x.part q := by
 obtain ⟨k, hk, h2, h3⟩ := x.find h0 h1
 obtain ⟨j, rfl⟩ := Nat.exists_eq_add_of_le h2
 have hk2 : k < (x.push r).rs.length := by show k < (x.rs ++ [r]).length; rw [List.length_append]; omega
 have e : (x.push r).rs[k] = x.rs[k] := List.getElem_append_left hk
 rw [x.part_at hk (by omega)]
 have h4 := (x.push r).part_at (k := k) (j := j) hk2 (by rw [e]; omega)
 rw [x.endP_push r (Nat.le_of_lt hk)] at h4
 rw [h4, e]; rfl
structure Lg.ok (n : Nat) (x : Lg) : Prop where
 g : x.g.ok n
 fb : x.g.first ≤ 68719476736
 st : x.g.stop ≤ x.g.first + x.g.slots
 era : 1 ≤ x.era ∧ x.era ≤ 4294967295
 m1 : x.base ≤ x.mno
 m2 : x.mno ≤ x.no
 w1 : x.base ≤ x.wr
 w2 : x.wr ≤ x.no
 nb : x.no ≤ 1099511627776
 pb : x.pl ≤ (x.g.first + x.g.slots) * 8
 s1 : x.endP (x.wr - x.base) ≤ x.sent
 s2 : x.sent ≤ x.pl
def Lg.ptrAt (x : Lg) (a : Int) : Value := .pointer (some ⟨((x.rs[(a - (x.base : Int) - 1).toNat]?).map Rc.blk).getD 0, 0, none⟩)
structure IMap (x : Lg) (lo : Nat) (li : List (Int × Value)) : Prop where
 at_ : ∀ a : Int, aget li a = if (lo : Int) < a ∧ a ≤ (x.no : Int) then some (x.ptrAt a) else none
 nd : (li.map (·.1)).Nodup
 ln : li.length = x.no - lo
structure AMap (x : Lg) (lo : Nat) (la : List (Int × Value)) : Prop where
 at1 : ∀ k (h : k < x.rs.length), lo ≤ x.base + k → ∀ j, j < x.rs[k].n → aget la ((x.endP k + j : Nat) : Int) = some (.pointer (some ⟨x.rs[k].blk, 0, none⟩))
 at0 : ∀ a : Int, a < (x.endP (lo - x.base) : Int) ∨ (x.pl : Int) ≤ a → aget la a = none
 nd : (la.map (·.1)).Nodup
/-- While a record's blocks are put in, or taken out. -/
structure AMapP (x : Lg) (lo : Nat) (r : Rc) (i : Nat) (la : List (Int × Value)) : Prop where
 at1 : ∀ k (h : k < x.rs.length), lo ≤ x.base + k → ∀ j, j < x.rs[k].n → aget la ((x.endP k + j : Nat) : Int) = some (.pointer (some ⟨x.rs[k].blk, 0, none⟩))
 atr : ∀ j, j < i → aget la ((x.pl + j : Nat) : Int) = some (.pointer (some ⟨r.blk, 0, none⟩))
 at0 : ∀ a : Int, a < (x.endP (lo - x.base) : Int) ∨ ((x.pl + i : Nat) : Int) ≤ a → aget la a = none
 nd : (la.map (·.1)).Nodup
structure AMapD (x : Lg) (k0 : Nat) (i : Nat) (la : List (Int × Value)) : Prop where
 at1 : ∀ k (h : k < x.rs.length), k0 + 1 ≤ k → ∀ j, j < x.rs[k].n → aget la ((x.endP k + j : Nat) : Int) = some (.pointer (some ⟨x.rs[k].blk, 0, none⟩))
 at0 : ∀ a : Int, a < ((x.endP k0 + i : Nat) : Int) ∨ (x.pl : Int) ≤ a → aget la a = none
 nd : (la.map (·.1)).Nodup
theorem Lg.ptrAt_rec (x : Lg) {k : Nat} (h : k < x.rs.length) : x.ptrAt ((x.base + k + 1 : Nat) : Int) = .pointer (some ⟨x.rs[k].blk, 0, none⟩) := by
 unfold Lg.ptrAt
 rw [show (((x.base + k + 1 : Nat) : Int) - (x.base : Int) - 1).toNat = k by omega, List.getElem?_eq_getElem h]; rfl
theorem IMap.new (x : Lg) (h : x.rs = []) : IMap x x.base [] := ⟨fun a => by rw [if_neg]; rfl; unfold Lg.no; rw [h, List.length_nil]; omega, List.nodup_nil, by unfold Lg.no; rw [h]; simp⟩
theorem AMap.new (x : Lg) (lo : Nat) (h : x.rs = []) : AMap x lo [] := ⟨fun k hk => by rw [h] at hk; exact absurd hk (Nat.not_lt_zero _), fun a _ => rfl, List.nodup_nil⟩
theorem IMap.push {x : Lg} {lo : Nat} {li : List (Int × Value)} (h : IMap x lo li) (r : Rc) (hb0 : x.base ≤ lo) (hlo : lo ≤ x.no) : IMap (x.push r) lo (aput li ((x.no + 1 : Nat) : Int) (.pointer (some ⟨r.blk, 0, none⟩))) := by
 refine ⟨fun a => ?_, nodup_put h.nd _ _, ?_⟩
 ·rw [aget_put, x.no_push r]
  by_cases ha : a = ((x.no + 1 : Nat) : Int)
  ·subst ha
   rw [if_pos rfl, if_pos (by omega)]
   unfold Lg.ptrAt Lg.push Lg.no
   simp only
   rw [show (((x.base + x.rs.length + 1 : Nat) : Int) - (x.base : Int) - 1).toNat = x.rs.length by omega, List.getElem?_append_right (Nat.le_refl _), Nat.sub_self]; rfl
  ·rw [if_neg ha, h.at_ a]
   by_cases hc : (lo : Int) < a ∧ a ≤ (x.no : Int)
   ·rw [if_pos hc, if_pos (by omega)]
    unfold Lg.ptrAt Lg.push
    by_cases hb : (a - (x.base : Int) - 1).toNat < x.rs.length
    ·rw [List.getElem?_append_left hb]
    ·exfalso; unfold Lg.no at hc; omega
   ·rw [if_neg hc, if_neg (by omega)]
 ·have e : aget li ((x.no + 1 : Nat) : Int) = none := by rw [h.at_, if_neg (by omega)]
  rw [len_put, e, x.no_push r, h.ln]
  simp only [Option.isSome_none, Bool.false_eq_true, if_false]; omega
theorem IMap.del {x : Lg} {lo : Nat} {li : List (Int × Value)} (h : IMap x lo li) (hlo : lo < x.no) : IMap x (lo + 1) (adel li ((lo + 1 : Nat) : Int)) := by
 refine ⟨fun a => ?_, nodup_del h.nd _, ?_⟩
 ·rw [aget_del h.nd, h.at_ a]
  by_cases ha : a = ((lo + 1 : Nat) : Int)
  ·subst ha; rw [if_pos rfl, if_neg (by omega)]
  ·rw [if_neg ha]
   by_cases hc : (lo : Int) < a ∧ a ≤ (x.no : Int)
   ·rw [if_pos hc, if_pos (by omega)]
   ·rw [if_neg hc, if_neg (by omega)]
 ·have e : aget li ((lo + 1 : Nat) : Int) = some (x.ptrAt ((lo + 1 : Nat) : Int)) := by rw [h.at_, if_pos (by omega)]
  rw [len_del, e, h.ln]; simp only [Option.isSome_some, if_true]; omega
theorem AMap.begin {x : Lg} {lo : Nat} {la : List (Int × Value)} (h : AMap x lo la) (r : Rc) : AMapP x lo r 0 la := ⟨h.at1, fun j hj => absurd hj (Nat.not_lt_zero _), h.at0, h.nd⟩
theorem AMapP.put {x : Lg} {lo : Nat} {r : Rc} {i : Nat} {la : List (Int × Value)} (h : AMapP x lo r i la) : AMapP x lo r (i + 1) (aput la ((x.pl + i : Nat) : Int) (.pointer (some ⟨r.blk, 0, none⟩))) := by
 refine ⟨fun k hk hl j hj => ?_, fun j hj => ?_, fun a ha => ?_, nodup_put h.nd _ _⟩
 ·have h1 := x.endP_succ hk
  have h2 := x.endP_pl (k + 1)
  rw [aget_put, if_neg (by omega)]; exact h.at1 k hk hl j hj
 ·rw [aget_put]
  by_cases e : j = i
  ·subst e; rw [if_pos rfl]
  ·rw [if_neg (by omega)]; exact h.atr j (by omega)
 ·have h2 := x.endP_pl (lo - x.base)
  rw [aget_put, if_neg (by omega)]; exact h.at0 a (by omega)
theorem AMapP.done {x : Lg} {lo : Nat} {r : Rc} {la : List (Int × Value)} (h : AMapP x lo r r.n la) (hlo : lo ≤ x.no) : AMap (x.push r) lo la := by
 refine ⟨fun k hk hl j hj => ?_, fun a ha => ?_, h.nd⟩
 ·by_cases e : k < x.rs.length
  ·have e1 : (x.push r).rs[k] = x.rs[k] := List.getElem_append_left e
   rw [x.endP_push r (Nat.le_of_lt e), e1]
   rw [e1] at hj
   exact h.at1 k e hl j hj
  ·have e0 : k = x.rs.length := by have : k < (x.rs ++ [r]).length := hk; rw [List.length_append] at this; simp at this; omega
   subst e0
   have e1 : (x.push r).rs[x.rs.length]'hk = r := by simp [Lg.push]
   rw [x.endP_push r (Nat.le_refl _), x.endP_len, e1]
   rw [e1] at hj
   exact h.atr j hj
 ·refine h.at0 a ?_
  have e2 : (x.push r).base = x.base := rfl
  rw [x.pl_push, e2, x.endP_push r (by unfold Lg.no at hlo; omega)] at ha
  exact ha
theorem AMap.beginD {x : Lg} {k0 : Nat} {la : List (Int × Value)} (h : AMap x (x.base + k0) la) : AMapD x k0 0 la := ⟨fun k hk hl => h.at1 k hk (by omega), fun a ha => h.at0 a (by rw [Nat.add_sub_cancel_left]; exact ha), h.nd⟩
theorem AMapD.del {x : Lg} {k0 : Nat} {i : Nat} {la : List (Int × Value)} (h : AMapD x k0 i la) (hk : k0 < x.rs.length) (hi : i < x.rs[k0].n) : AMapD x k0 (i + 1) (adel la ((x.endP k0 + i : Nat) : Int)) := by
 refine ⟨fun k hk2 hl j hj => ?_, fun a ha => ?_, nodup_del h.nd _⟩
 ·have h1 := x.endP_lt (show k0 < k by omega) hk
  rw [aget_del h.nd, if_neg (by omega)]; exact h.at1 k hk2 hl j hj
 ·rw [aget_del h.nd]
  by_cases e : a = ((x.endP k0 + i : Nat) : Int)
  ·rw [if_pos e]
  ·rw [if_neg e]; exact h.at0 a (by omega)
theorem AMapD.done {x : Lg} {k0 : Nat} {la : List (Int × Value)} (hk : k0 < x.rs.length) (h : AMapD x k0 x.rs[k0].n la) : AMap x (x.base + k0 + 1) la := by
 refine ⟨fun k hk2 hl => h.at1 k hk2 (by omega), fun a ha => h.at0 a ?_, h.nd⟩
 rw [show x.base + k0 + 1 - x.base = k0 + 1 by omega, x.endP_succ hk] at ha
 exact ha
theorem IMap.to {x x' : Lg} {lo : Nat} {li : List (Int × Value)} (h1 : x'.base = x.base) (h2 : x'.rs = x.rs) (h : IMap x lo li) : IMap x' lo li := by
 cases x; cases x'
 simp only at h1 h2
 subst h1; subst h2
 exact ⟨h.at_, h.nd, h.ln⟩
theorem AMap.to {x x' : Lg} {lo : Nat} {la : List (Int × Value)} (h1 : x'.base = x.base) (h2 : x'.rs = x.rs) (h3 : x'.p0 = x.p0) (h : AMap x lo la) : AMap x' lo la := by
 cases x; cases x'
 simp only at h1 h2 h3
 subst h1; subst h2; subst h3
 exact ⟨h.at1, h.at0, h.nd⟩
def lgV (d s bi ba : Nat) (x : Lg) : List Value := [.pointer (some ⟨d, 0, none⟩), .pointer (some ⟨s, 0, none⟩), .int .i64 x.era, .map (some bi), .map (some ba), .int .i64 (x.no : Int), .int .i64 (x.pl : Int), .int .i64 (x.mno : Int), .int .i64 (x.mpl : Int), .int .i64 (x.wr : Int), .int .i64 (x.sent : Int)]
def Recs (J : Imm) (x : Lg) : Prop := ∀ k (h : k < x.rs.length), RcOk J x.era (x.base + k + 1) (x.endP k) x.rs[k]
theorem Recs.mono {I J : Imm} {x : Lg} (h : Recs I x) (hJ : I.le J) : Recs J x := fun k hk => (h k hk).mono hJ
theorem Recs.to {J : Imm} {x x' : Lg} (h1 : x'.base = x.base) (h2 : x'.rs = x.rs) (h3 : x'.p0 = x.p0) (h4 : x'.era = x.era) (h : Recs J x) : Recs J x' := by
 cases x; cases x'
 simp only at h1 h2 h3 h4
 subst h1; subst h2; subst h3; subst h4
 exact h
theorem Recs.push {J : Imm} {x : Lg} {r : Rc} (h : Recs J x) (hr : RcOk J x.era (x.no + 1) x.pl r) : Recs J (x.push r) := fun k hk => by
 by_cases e : k < x.rs.length
 ·have e1 : (x.push r).rs[k] = x.rs[k] := List.getElem_append_left e
  rw [x.endP_push r (Nat.le_of_lt e), e1]
  exact h k e
 ·have e0 : k = x.rs.length := by have : k < (x.rs ++ [r]).length := hk; rw [List.length_append] at this; simp at this; omega
  subst e0
  have e1 : (x.push r).rs[x.rs.length]'hk = r := by simp [Lg.push]
  rw [x.endP_push r (Nat.le_refl _), x.endP_len, e1]
  exact hr
/-- A log with its segments and its disk. -/
inductive IsLog (J : Imm) (l s d n : Nat) (x : Lg) (y : Dk) : Chunks → Prop
 | mk {bi ba : Nat} {oi oa : Obj} {li la : List (Int × Value)} {Ld : Chunks} (ok : x.ok n) (rk : Recs J x) (mi : MapObj li oi) (ma : MapObj la oa) (im : IMap x x.lo li) (am : AMap x x.lo la) (hd : IsDisk d n y Ld) :
  IsLog J l s d n x y ((l, row 128 (lgV d s bi ba x)) :: (bi, oi) :: (ba, oa) :: (s, row 122 (sgV d x.g)) :: Ld)
theorem IsLog.mono {I J : Imm} {l s d n : Nat} {x : Lg} {y : Dk} {L : Chunks} (h : IsLog I l s d n x y L) (hJ : I.le J) : IsLog J l s d n x y L := by
 cases h with
 | mk ok rk mi ma im am hd => exact .mk ok (rk.mono hJ) mi ma im am hd
theorem IsLog.ok {J : Imm} {l s d n : Nat} {x : Lg} {y : Dk} {L : Chunks} (h : IsLog J l s d n x y L) : x.ok n := by cases h with | mk ok _ _ _ _ _ _ => exact ok
theorem IsLog.recs {J : Imm} {l s d n : Nat} {x : Lg} {y : Dk} {L : Chunks} (h : IsLog J l s d n x y L) : Recs J x := by cases h with | mk _ rk _ _ _ _ _ => exact rk
/-- The disk, and what stands beside it. -/
theorem IsLog.disk {J : Imm} {l s d n : Nat} {x : Lg} {y : Dk} {L : Chunks} (h : IsLog J l s d n x y L) : ∃ Lr Ld, L = Lr ++ ((s, row 122 (sgV d x.g)) :: Ld) ∧ IsDisk d n y Ld ∧ ∀ (J2 : Imm) (y' : Dk) (Ld' : Chunks), J.le J2 → IsDisk d n y' Ld' → IsLog J2 l s d n x y' (Lr ++ ((s, row 122 (sgV d x.g)) :: Ld')) := by
 cases h with
 | @mk bi ba oi oa li la Ld ok rk mi ma im am hd => exact ⟨[(l, _), (bi, oi), (ba, oa)], Ld, rfl, hd, fun J2 y' Ld' hJ hd' => .mk ok (rk.mono hJ) mi ma im am hd'⟩

theorem WP.share1 {n : Nat} {K : Act → World → Prop} {E : Env} {I : Imm} {L L1 : Chunks} {b : Nat} {o : Obj} (hr : Take L [(b, o)] L1) (h : ∀ J : Imm, I.le J → J.blk b = some o → WP n K E J L1) : WP n K E I L :=
 WP.perm _ hr.perm (WP.share h)
theorem Op.mapUpdateR {P : Program} {n : Nat} {E : Env} {I : Imm} {L L1 : Chunks} {Q : Exit → Act → World → Prop} {K : Act → World → Prop} {o : Oper} {t k e : TypeId} {x y z : Operand} {b : Nat} {ob : Obj} {l : List (Int × Value)} {a : Int} {v : Value} (hop : o.op = .mapUpdate t x y z) (ht : mapTy P t k e = true) (hd : o.dst = none) (hx : E.ev x = some (.map (some b))) (hy : E.ev y = some (.int .i64 a)) (hz : E.ev z = some v) (hm : MapObj l ob)
  (hr : Take L [(b, ob)] L1) (h : ∀ o', MapObj (aput l a v) o' → WP n K E I ((b, o') :: L1)) : WP n (fun a w => o.wp P a w K Q) E I L :=
 WP.perm _ hr.perm (Op.mapUpdate (L' := fun o' => (b, o') :: L1) hop ht hd hx hy hz hm (fun o' => Upd.head) h)
theorem Op.deleteR {P : Program} {n : Nat} {E : Env} {I : Imm} {L L1 : Chunks} {Q : Exit → Act → World → Prop} {K : Act → World → Prop} {o : Oper} {t k e : TypeId} {x y : Operand} {b : Nat} {ob : Obj} {l : List (Int × Value)} {a : Int} (hop : o.op = .call { callee := .builtin .delete, args := #[x, y], argTypes := #[t, k] }) (ht : mapTy P t k e = true) (hd : o.dst = none) (hx : E.ev x = some (.map (some b))) (hy : E.ev y = some (.int .i64 a)) (hm : MapObj l ob)
  (hr : Take L [(b, ob)] L1) (h : ∀ o', MapObj (adel l a) o' → WP n K E I ((b, o') :: L1)) : WP n (fun a w => o.wp P a w K Q) E I L :=
 WP.perm _ hr.perm (Op.delete (L' := fun o' => (b, o') :: L1) hop ht hd hx hy hm (fun o' => Upd.head) h)
theorem log_Head {I : Imm} {l s d n : Nat} {x : Lg} {y : Dk} {L : Chunks} (hl : IsLog I l s d n x y L) : Spec Tryz.prog 81 [.pointer (some ⟨l, 0, none⟩)] I L (fun v J L' => v = .agg #[.int .i64 (x.no : Int), .int .i64 (x.pl : Int)] ∧ I = J ∧ L = L') := by
 cases hl with
 | @mk bi ba oi oa li la Ld ok rk mi ma im am hd =>
 refine Spec.of Tryz.func81 rfl Tryz.ntmps81 (Nat.le_of_ble_eq_true rfl) (fun F => ?_)
 try simp only [nf]
 dsimp only [argsEnv]
 refine WP.seq ?_; refine WP.region [0] rfl ?_; refine WP.loud rfl rfl ?_; refine Op.alloc rfl rfl rfl ty_zr_80 (fun b2 => ?_)
 refine WP.nil (WP.next (WP.seq ?_))
 refine WP.region [0, 1, 2, 3, 4] rfl ?_; refine WP.mv rfl rfl ?_; refine WP.vl rfl (Yld.nilCheck rfl rfl) ?_; refine WP.vl rfl (Yld.fieldAddr rfl ty_fd_128_5 rfl) ?_; refine WP.vl rfl (Yld.ldg (vs := [.int .i64 (x.no : Int), .int .i64 (x.pl : Int)]) rfl ty_ag_80 rfl rfl rfl) ?_; refine WP.loud rfl rfl ?_; refine Op.sA rfl rfl ty_sz_80 rfl rfl rfl rfl rfl ?_; refine WP.nil ?_; refine WP.sub [(0, _), (2, _)] ?_ ⟨rfl, rfl, trivial⟩
 refine WP.next (WP.ret ?_)
 refine WP.fn .ret (.inr rfl) (resC rfl ty_ag_80 rfl zM rfl) ((l, row 128 (lgV d s bi ba x)) :: (bi, oi) :: (ba, oa) :: (s, row 122 (sgV d x.g)) :: Ld) (Imm.le_refl _) ?_; exact ⟨rfl, rfl, rfl⟩

theorem log_Mark {I : Imm} {l s d n : Nat} {x : Lg} {y : Dk} {L : Chunks} (hl : IsLog I l s d n x y L) : Spec Tryz.prog 45 [.pointer (some ⟨l, 0, none⟩)] I L (fun v J L' => v = .agg #[.int .i64 (x.mno : Int), .int .i64 (x.mpl : Int)] ∧ I = J ∧ L = L') := by
 cases hl with
 | @mk bi ba oi oa li la Ld ok rk mi ma im am hd =>
 refine Spec.of Tryz.func45 rfl Tryz.ntmps45 (Nat.le_of_ble_eq_true rfl) (fun F => ?_)
 try simp only [nf]
 dsimp only [argsEnv]
 refine WP.seq ?_; refine WP.region [0] rfl ?_; refine WP.loud rfl rfl ?_; refine Op.alloc rfl rfl rfl ty_zr_80 (fun b2 => ?_)
 refine WP.nil (WP.next (WP.seq ?_))
 refine WP.region [0, 1, 2, 3, 4] rfl ?_; refine WP.mv rfl rfl ?_; refine WP.vl rfl (Yld.nilCheck rfl rfl) ?_; refine WP.vl rfl (Yld.fieldAddr rfl ty_fd_128_6 rfl) ?_; refine WP.vl rfl (Yld.ldg (vs := [.int .i64 (x.mno : Int), .int .i64 (x.mpl : Int)]) rfl ty_ag_80 rfl rfl rfl) ?_; refine WP.loud rfl rfl ?_; refine Op.sA rfl rfl ty_sz_80 rfl rfl rfl rfl rfl ?_; refine WP.nil ?_; refine WP.sub [(0, _), (2, _)] ?_ ⟨rfl, rfl, trivial⟩
 refine WP.next (WP.ret ?_)
 refine WP.fn .ret (.inr rfl) (resC rfl ty_ag_80 rfl zM rfl) ((l, row 128 (lgV d s bi ba x)) :: (bi, oi) :: (ba, oa) :: (s, row 122 (sgV d x.g)) :: Ld) (Imm.le_refl _) ?_; exact ⟨rfl, rfl, rfl⟩

theorem rec_end {I : Imm} {era : Int} {no place : Nat} {r : Rc} (hr : RcOk I era no place r) (hpl : place ≤ 1152921504606846976) : Spec Tryz.prog 106 [.pointer (some ⟨r.blk, 0, none⟩)] I [] (fun v J L' => v = .agg #[.int .i64 (no : Int), .int .i64 ((place + r.n : Nat) : Int)] ∧ I = J ∧ L' = []) := by
 refine Spec.of Tryz.func106 rfl Tryz.ntmps106 (Nat.le_of_ble_eq_true rfl) (fun F => ?_)
 try simp only [nf]
 dsimp only [argsEnv]
 refine WP.seq ?_; refine WP.region [0] rfl ?_; refine WP.loud rfl rfl ?_; refine Op.alloc rfl rfl rfl ty_zr_80 (fun b2 => ?_)
 refine WP.nil (WP.next (WP.seq ?_))
 refine WQ.start Tryzmixed 15 zK _ rfl [15] rfl ?_; refine WQ.val rfl rfl rfl (Yld.move rfl rfl) ?_; refine WQ.val rfl rfl rfl (Yld.nilCheck rfl rfl) ?_; refine WQ.val rfl rfl rfl (Yld.fieldAddr rfl ty_fd_219_0 rfl) ?_; refine WQ.val rfl rfl rfl (Yld.load (v := .int .i64 (no : Int)) rfl ty_sc_3 rfl (There.i hr.hb) rfl) ?_; refine WQ.val rfl rfl rfl (Yld.move rfl rfl) ?_; refine WQ.val rfl rfl rfl (Yld.nilCheck rfl rfl) ?_; refine WQ.val rfl rfl rfl (Yld.fieldAddr rfl ty_fd_219_2 rfl) ?_; refine WQ.val rfl rfl rfl (Yld.load (v := .int .i64 (place : Int)) rfl ty_sc_3 rfl (There.i hr.hb) rfl) ?_; refine WQ.val rfl rfl rfl (Yld.move rfl rfl) ?_; refine WQ.val rfl rfl rfl (Yld.nilCheck rfl rfl) ?_; refine WQ.val rfl rfl rfl (Yld.fieldAddr rfl ty_fd_219_4 rfl) ?_; refine WQ.val rfl rfl rfl (Yld.load (v := r.vp) rfl ty_sc_217 rfl (There.i hr.hb) rfl) ?_; refine WQ.val rfl rfl rfl (Yld.lenR hr.vp.rd rfl ty_sl_217 rfl) ?_; refine WQ.val rfl rfl rfl (Yld.add64 rfl rfl rfl (by have := hr.len; have := hr.n64; omega)) ?_; rw [hr.len, show (place : Int) + (r.n : Int) = ((place + r.n : Nat) : Int) by omega]
 refine WQ.val rfl rfl rfl (Yld.buildS (pl := [(0, 0, 1), (1, 1, 1)]) rfl ty_zr_80 ty_zd_80 zK rfl (vs := [_, _]) rfl (segs := [(0, [_]), (1, [_])]) rfl rfl zS) ?_; refine WQ.nil ?_; refine WP.loud rfl rfl ?_; refine Op.sA rfl rfl ty_sz_80 rfl rfl rfl rfl rfl ?_; refine WP.nil ?_; refine WP.sub [(0, _), (2, _)] ?_ ⟨rfl, rfl, trivial⟩
 refine WP.next (WP.ret ?_)
 refine WP.fn .ret (.inr rfl) (resC rfl ty_ag_80 rfl zM rfl) [] (Imm.le_refl _) ?_; exact ⟨rfl, rfl, rfl⟩


def Lg.ende (x : Lg) : Int := (((x.g.first + x.g.slots) * 8 : Nat) : Int)
def Lg.room (x : Lg) (k : Int) : Int := if k = 4 ∨ k = 5 then x.ende else if k = 1 then x.ende - 40 else x.ende - 16
theorem Lg.room_le (x : Lg) (k : Int) : x.room k ≤ x.ende := by unfold Lg.room; split; omega; split <;> omega
theorem log_room {I : Imm} {l s d n bi ba : Nat} {x : Lg} {k : Int} (ok : x.ok n) (hn8 : n ≤ 8192) : Spec Tryz.prog 107 [.pointer (some ⟨l, 0, none⟩), .int .i64 k] I [(l, row 128 (lgV d s bi ba x)), (s, row 122 (sgV d x.g))] (fun v J L' => v = .int .i64 (x.room k) ∧ I = J ∧ L' = [(l, row 128 (lgV d s bi ba x)), (s, row 122 (sgV d x.g))]) := by
 refine Spec.of Tryz.func107 rfl Tryz.ntmps107 (Nat.le_of_ble_eq_true rfl) (fun F => ?_)
 try simp only [nf]
 dsimp only [argsEnv]
 refine WP.seq ?_; refine WP.region [0] rfl ?_; refine WP.mv rfl rfl ?_; refine WP.nil (WP.next (WP.seq ?_))
 refine WQ.startAll Tryzmixed zK _ rfl ?_; refine WQ.val rfl rfl rfl (Yld.move rfl rfl) ?_; refine WQ.val rfl rfl rfl (Yld.nilCheck rfl rfl) ?_; refine WQ.val rfl rfl rfl (Yld.fieldAddr rfl ty_fd_128_1 rfl) ?_; refine WQ.val rfl rfl rfl (Yld.ld (v := .pointer (some ⟨s, 0, none⟩)) rfl ty_sc_41 rfl rfl) ?_; refine WQ.call (seg_First (d := d) (n := n) (g := x.g)) (by rintro v' J L1 ⟨rfl, rfl, rfl⟩; exact ⟨rfl, rfl, rfl⟩) rfl Tryz.func51 rfl rfl rfl rfl rfl zT ?_; refine WQ.val rfl rfl rfl (Yld.move rfl rfl) ?_; refine WQ.val rfl rfl rfl (Yld.nilCheck rfl rfl) ?_; refine WQ.val rfl rfl rfl (Yld.fieldAddr rfl ty_fd_128_1 rfl) ?_; refine WQ.val rfl rfl rfl (Yld.ld (v := .pointer (some ⟨s, 0, none⟩)) rfl ty_sc_41 rfl rfl) ?_; refine WQ.call (seg_Slots (d := d) (n := n) (g := x.g)) (by rintro v' J L1 ⟨rfl, rfl, rfl⟩; exact ⟨rfl, rfl, rfl⟩) rfl Tryz.func52 rfl rfl rfl rfl rfl zT ?_; refine WQ.val rfl rfl rfl (Yld.add64 rfl rfl rfl (by have := ok.fb; have := ok.st; have := ok.g.fs; have := ok.g.sn; have := ok.g.sb; omega)) ?_; refine WQ.val rfl rfl rfl (Yld.mul64 rfl rfl rfl (by have := ok.fb; have := ok.st; have := ok.g.fs; have := ok.g.sn; have := ok.g.sb; omega)) ?_; refine WQ.val rfl rfl rfl (Yld.assign rfl rfl) ?_; refine WQ.nil ?_; refine WP.sub [(0, _), (1, _), (4, _), (5, _)] ?_ ⟨rfl, rfl, rfl, rfl, trivial⟩
 refine WP.next (WP.seq (WP.seq ?_))
 refine WP.region [0] rfl ?_; refine WP.mv rfl rfl ?_; refine WP.nil (WP.next (WP.block (WP.seq (WP.seq ?_))))
 refine WP.region [0, 1] rfl ?_; refine WP.split rfl rfl rfl rfl (Yld.eql rfl rfl rfl) (fun h4 => ?_) (fun h4 => ?_)
 ·refine WP.mv rfl rfl ?_
  refine WP.nil ?_; refine WP.sub [(0, _), (1, _), (4, _), (5, _), (18, _), (19, _)] ?_ ⟨rfl, rfl, rfl, rfl, rfl, rfl, trivial⟩
  refine WP.next ?_; refine WP.condT rfl ?_; refine WP.skip (WP.next ?_)
  refine WP.condT rfl ?_; refine WP.seq ?_; refine WP.region [0, 1] rfl ?_; iterate 2 refine WP.mv rfl rfl ?_
  refine WP.nil ?_; refine WP.sub [(0, _), (1, _), (4, _), (5, _), (18, _), (19, _)] ?_ ⟨rfl, rfl, rfl, rfl, rfl, rfl, trivial⟩
  refine WP.next (WP.ret ?_)
  refine WP.fn .ret (.inr rfl) (res1 rfl rfl) [(l, row 128 (lgV d s bi ba x)), (s, row 122 (sgV d x.g))] (Imm.le_refl _) ?_; have e : x.room k = _ := if_pos (.inl (by omega))
  rw [e]; exact ⟨congrArg (fun z : Int => Value.int .i64 z) (by unfold Lg.ende; omega), rfl, rfl⟩
 ·refine WP.mv rfl rfl ?_
  refine WP.nil ?_; refine WP.sub [(0, _), (1, _), (4, _), (5, _), (18, _), (19, _)] ?_ ⟨rfl, rfl, rfl, rfl, rfl, rfl, trivial⟩
  refine WP.next ?_; refine WP.condF rfl ?_; refine WP.region [0, 1] rfl ?_; refine WP.split rfl rfl rfl rfl (Yld.eql rfl rfl rfl) (fun h5 => ?_) (fun h5 => ?_)
  ·refine WP.mv rfl rfl ?_
   refine WP.nil ?_; refine WP.sub [(0, _), (1, _), (4, _), (5, _), (18, _), (19, _)] ?_ ⟨rfl, rfl, rfl, rfl, rfl, rfl, trivial⟩
   refine WP.next ?_; refine WP.condT rfl ?_; refine WP.seq ?_; refine WP.region [0, 1] rfl ?_; iterate 2 refine WP.mv rfl rfl ?_
   refine WP.nil ?_; refine WP.sub [(0, _), (1, _), (4, _), (5, _), (18, _), (19, _)] ?_ ⟨rfl, rfl, rfl, rfl, rfl, rfl, trivial⟩
   refine WP.next (WP.ret ?_)
   refine WP.fn .ret (.inr rfl) (res1 rfl rfl) [(l, row 128 (lgV d s bi ba x)), (s, row 122 (sgV d x.g))] (Imm.le_refl _) ?_; have e : x.room k = _ := if_pos (.inr (by omega))
   rw [e]; exact ⟨congrArg (fun z : Int => Value.int .i64 z) (by unfold Lg.ende; omega), rfl, rfl⟩
  ·refine WP.mv rfl rfl ?_
   refine WP.nil ?_; refine WP.sub [(0, _), (1, _), (4, _), (5, _), (18, _), (19, _)] ?_ ⟨rfl, rfl, rfl, rfl, rfl, rfl, trivial⟩
   refine WP.next ?_; refine WP.condF rfl ?_; refine WP.seq ?_; refine WP.region [0, 1] rfl ?_; refine WP.split rfl rfl rfl rfl (Yld.eql rfl rfl rfl) (fun h1 => ?_) (fun h1 => ?_)
   ·refine WP.mv rfl rfl ?_
    refine WP.nil ?_; refine WP.sub [(0, _), (1, _), (4, _), (5, _), (18, _), (19, _), (23, _)] ?_ ⟨rfl, rfl, rfl, rfl, rfl, rfl, rfl, trivial⟩
    refine WP.next ?_; refine WP.condT rfl ?_; refine WP.seq ?_; refine WP.region [0, 1, 2, 3] rfl ?_; refine WP.mv rfl rfl ?_; iterate 2 refine WP.vl rfl (Yld.sub64 rfl rfl rfl (by have := ok.fb; have := ok.st; have := ok.g.fs; have := ok.g.sn; have := ok.g.sb; omega)) ?_
    refine WP.mv rfl rfl ?_; refine WP.nil ?_; refine WP.sub [(0, _), (1, _), (4, _), (5, _), (18, _), (19, _), (23, _)] ?_ ⟨rfl, rfl, rfl, rfl, rfl, rfl, rfl, trivial⟩
    refine WP.next (WP.ret ?_)
    refine WP.fn .ret (.inr rfl) (res1 rfl rfl) [(l, row 128 (lgV d s bi ba x)), (s, row 122 (sgV d x.g))] (Imm.le_refl _) ?_; have e : x.room k = _ := (if_neg (by omega)).trans (if_pos (by omega))
    rw [e]; exact ⟨congrArg (fun z : Int => Value.int .i64 z) (by unfold Lg.ende; omega), rfl, rfl⟩
   ·refine WP.mv rfl rfl ?_
    refine WP.nil ?_; refine WP.sub [(0, _), (1, _), (4, _), (5, _), (18, _), (19, _), (23, _)] ?_ ⟨rfl, rfl, rfl, rfl, rfl, rfl, rfl, trivial⟩
    refine WP.next ?_; refine WP.condF rfl ?_; refine WP.skip (WP.leave (WP.next (WP.seq ?_)))
    refine WP.region [0, 1, 2] rfl ?_; refine WP.mv rfl rfl ?_; refine WP.vl rfl (Yld.sub64 rfl rfl rfl (by have := ok.fb; have := ok.st; have := ok.g.fs; have := ok.g.sn; have := ok.g.sb; omega)) ?_; refine WP.mv rfl rfl ?_; refine WP.nil ?_; refine WP.sub [(0, _), (1, _), (4, _), (5, _), (18, _), (19, _), (23, _)] ?_ ⟨rfl, rfl, rfl, rfl, rfl, rfl, rfl, trivial⟩
    refine WP.next (WP.ret ?_)
    refine WP.fn .ret (.inr rfl) (res1 rfl rfl) [(l, row 128 (lgV d s bi ba x)), (s, row 122 (sgV d x.g))] (Imm.le_refl _) ?_; have e : x.room k = _ := (if_neg (by omega)).trans (if_neg (by omega))
    rw [e]; exact ⟨congrArg (fun z : Int => Value.int .i64 z) (by unfold Lg.ende; omega), rfl, rfl⟩

theorem log_block {I : Imm} {l s d n bi ba p : Nat} {x : Lg} {oa : Obj} {la : List (Int × Value)} (ok : x.ok n) (hn8 : n ≤ 8192) (rk : Recs I x) (ma : MapObj la oa) (am : AMap x x.lo la) (h1 : x.endP (x.lo - x.base) ≤ p) (h2 : p < x.pl) : Spec Tryz.prog 135 [.pointer (some ⟨l, 0, none⟩), .int .i64 (p : Int)] I [(l, row 128 (lgV d s bi ba x)), (ba, oa)] (fun v J L' => ∃ cs, v = .agg cs.toArray ∧ RPt J (x.part p) cs ∧ I = J ∧ L' = [(l, row 128 (lgV d s bi ba x)), (ba, oa)]) := by
 obtain ⟨k, hk, hk1, hk2⟩ := x.find (by unfold Lg.endP at h1; omega) h2
 have hlk : x.lo ≤ x.base + k := by
  by_cases hc : k < x.lo - x.base
  ·have := x.endP_lt hc hk; omega
  ·omega
 obtain ⟨j, rfl⟩ := Nat.exists_eq_add_of_le hk1
 have hr := rk k hk
 have hj : j < x.rs[k].lp.length := by rw [hr.len]; omega
 obtain ⟨bp, kp, cp, Tp, fp, arp, hvp, hbp, hsg, _⟩ := hr.vp.cells hj
 have hdt := hr.vp.data _ (List.getElem_mem hj)
 refine Spec.of Tryz.func135 rfl Tryz.ntmps135 (Nat.le_of_ble_eq_true rfl) (fun F => ?_)
 try simp only [nf]
 dsimp only [argsEnv]
 refine WP.seq ?_; refine WP.region [0] rfl ?_; refine WP.loud rfl rfl ?_; refine Op.alloc rfl rfl rfl ty_zr_223 (fun b4 => ?_)
 refine WP.nil (WP.next (WP.seq ?_))
 refine WP.region [0, 1, 2, 3, 4, 5, 6] rfl ?_; refine WP.mv rfl rfl ?_; refine WP.vl rfl (Yld.nilCheck rfl rfl) ?_; refine WP.vl rfl (Yld.fieldAddr rfl ty_fd_128_4 rfl) ?_; refine WP.vl rfl (Yld.ld (v := .map (some ba)) rfl ty_sc_126 rfl rfl) ?_; refine WP.mv rfl rfl ?_; refine WP.vl rfl (Yld.lookup rfl ty_mp_126 ty_ez_216 rfl rfl zM ma) ?_; rw [am.at1 k hk hlk j (by omega), Option.getD_some]
 refine WP.mv rfl rfl ?_; refine WP.nil ?_; refine WP.sub [(0, _), (1, _), (4, _), (5, _)] ?_ ⟨rfl, rfl, rfl, rfl, trivial⟩
 refine WP.next (WP.seq ?_)
 refine WQ.start Tryzmixed 12 zK _ rfl [12] rfl ?_; refine WQ.val rfl rfl rfl (Yld.move rfl rfl) ?_; refine WQ.val rfl rfl rfl (Yld.nilCheck rfl rfl) ?_; refine WQ.val rfl rfl rfl (Yld.fieldAddr rfl ty_fd_219_4 rfl) ?_; refine WQ.val rfl rfl rfl (Yld.load (v := x.rs[k].vp) rfl ty_sc_217 rfl (There.i hr.hb) rfl) ?_; iterate 2 refine WQ.val rfl rfl rfl (Yld.move rfl rfl) ?_
 refine WQ.val rfl rfl rfl (Yld.nilCheck rfl rfl) ?_; refine WQ.val rfl rfl rfl (Yld.fieldAddr rfl ty_fd_219_2 rfl) ?_; refine WQ.val rfl rfl rfl (Yld.load (v := .int .i64 (x.endP k : Int)) rfl ty_sc_3 rfl (There.i hr.hb) rfl) ?_; refine WQ.val rfl rfl rfl (Yld.sub64 rfl rfl rfl (by have := ok.pb; have := ok.fb; have := ok.g.sn; have := x.endP_pl k; omega)) ?_; rw [show ((x.endP k + j : Nat) : Int) - (x.endP k : Int) = (j : Int) by omega, hvp]
 refine WQ.val rfl rfl rfl (Yld.indexAddr (i := j) rfl ty_sl_217 rfl rfl hj) ?_; refine WQ.val rfl rfl rfl (Yld.loadAggC rfl ty_ag_223 rfl (There.i hbp) hsg rfl) ?_; refine WQ.nil ?_; refine WP.loud rfl rfl ?_; refine Op.sA rfl rfl ty_sz_223 rfl rfl rfl (ptV_one (by obtain ⟨A', c', e, _⟩ := hdt; exact ⟨_, _, _, e⟩)) rfl ?_; refine WP.nil ?_; refine WP.sub [(0, _), (1, _), (4, _), (5, _)] ?_ ⟨rfl, rfl, rfl, rfl, trivial⟩
 refine WP.next (WP.ret ?_)
 refine WP.fn .ret (.inr rfl) (resC rfl ty_ag_223 rfl zM rfl) [(l, row 128 (lgV d s bi ba x)), (ba, oa)] (Imm.le_refl _) ?_; rw [x.part_at hk (by omega), ← hr.at_ hj]
 exact ⟨_, rfl, ⟨_, rfl, hdt⟩, rfl, rfl⟩


end Go.Hp
