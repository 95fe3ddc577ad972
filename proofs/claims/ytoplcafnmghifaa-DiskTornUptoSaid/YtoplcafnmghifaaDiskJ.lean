import Derived.Test.YtoplcafnmghifaaDiskH
set_option linter.unusedVariables false
set_option linter.unusedSimpArgs false
namespace Go.Hp
open Go Go.Proofs

def put (p : List UInt8) (e : Nat × List UInt8) : List UInt8 := p.take (e.1 * 64) ++ e.2 ++ p.drop (e.1 * 64 + 64)
def full (p : List UInt8) (ws : List (Nat × List UInt8)) : List UInt8 := ws.foldl put p
theorem torn_all {p : List UInt8} {e : Nat × List UInt8} {k : Int} (h : e.2.length = 64) (hk : 64 ≤ k) : torn p e k = put p e := by
  simp only [torn, put, keepN, if_pos hk]
  rw [List.take_of_length_le (l := e.2) (by omega)]
theorem torn_none {p : List UInt8} {e : Nat × List UInt8} {k : Int} (hk : k ≤ 0) : torn p e k = p := by
  simp only [torn, keepN]
  rw [if_neg (by omega), if_pos hk]
  simp
theorem tear_all {n : Nat} : ∀ (ws : List (Nat × List UInt8)) (hw : ∀ e ∈ ws, e.1 < n ∧ e.2.length = 64) (p : List UInt8) (ks : List Int), ws.length ≤ ks.length → (∀ j (h : j < ks.length), j < ws.length → 64 ≤ ks[j]) → tear p ws ks = full p ws
  | [], _, _, _, _, _ => rfl
  | e :: ws, hw, p, k :: ks, hl, h => by
    rw [tear, List.headD_cons, torn_all (hw e (by simp)).2 (show 64 ≤ k from h 0 (by simp) (by simp)), List.tail_cons]
    exact tear_all ws (fun x hx => hw x (by simp [hx])) _ ks (by simpa using hl) (fun j h1 h2 => h (j + 1) (by simpa using h1) (by simpa using h2))
theorem tear_none : ∀ (ws : List (Nat × List UInt8)) (p : List UInt8) (ks : List Int), (∀ j (h : j < ks.length), j < ws.length → ks[j] ≤ 0) → tear p ws ks = p
  | [], _, _, _ => rfl
  | e :: ws, p, [], h => by
    rw [tear, torn_none (by simp)]
    exact tear_none ws p [] (by simp)
  | e :: ws, p, k :: ks, h => by
    rw [tear, List.headD_cons, torn_none (show k ≤ 0 from h 0 (by simp) (by simp)), List.tail_cons]
    exact tear_none ws p ks (fun j h1 h2 => h (j + 1) (by simpa using h1) (by simpa using h2))
theorem torn_get {n : Nat} {p : List UInt8} {e : Nat × List UInt8} {k : Int} {i : Nat} (hp : p.length = n * 64) (he : e.1 < n ∧ e.2.length = 64) : (torn p e k)[i]? = p[i]? ∨ (e.1 * 64 ≤ i ∧ i < e.1 * 64 + 64 ∧ (torn p e k)[i]? = e.2[i - e.1 * 64]?) := by
  have hk := keepN_le k
  by_cases h : i < e.1 * 64 ∨ e.1 * 64 + keepN k ≤ i
  · exact .inl (put_get (by simp [he.2]; omega) (by omega) h)
  · right
    refine ⟨by omega, by omega, ?_⟩
    have h1 : (p.take (e.1 * 64)).length = e.1 * 64 := by simp; omega
    have h2 : (e.2.take (keepN k)).length = keepN k := by simp [he.2]; omega
    unfold torn
    rw [List.append_assoc, List.getElem?_append_right (by omega), h1, List.getElem?_append_left (by omega), List.getElem?_take, if_pos (by omega)]
theorem tear_get {n : Nat} : ∀ (ws : List (Nat × List UInt8)) (hw : ∀ e ∈ ws, e.1 < n ∧ e.2.length = 64) (p : List UInt8) (ks : List Int) (i : Nat), p.length = n * 64 → (tear p ws ks)[i]? = p[i]? ∨ ∃ e ∈ ws, e.1 * 64 ≤ i ∧ i < e.1 * 64 + 64 ∧ (tear p ws ks)[i]? = e.2[i - e.1 * 64]?
  | [], _, _, _, _, _ => .inl rfl
  | e :: ws, hw, p, ks, i, hp => by
    have he := hw e (by simp)
    rcases tear_get ws (fun x hx => hw x (by simp [hx])) (torn p e (ks.headD 0)) ks.tail i (torn_len hp he) with h | ⟨f, hf, h1, h2, h3⟩
    · rcases torn_get (k := ks.headD 0) (i := i) hp he with g | ⟨g1, g2, g3⟩
      · exact .inl (by rw [tear, h, g])
      · exact .inr ⟨e, by simp, g1, g2, by rw [tear, h, g3]⟩
    · exact .inr ⟨f, by simp [hf], h1, h2, by rw [tear, h3]⟩
/-- A write that nothing cuts. -/
theorem puts_free : ∀ (k : Nat) (x : Dk) (at_ : Nat) (b : List UInt8), x.left = -1 → (Dk.puts k x at_ b).2 = 0 ∧ (Dk.puts k x at_ b).1.left = -1 ∧ (Dk.puts k x at_ b).1.off = x.off ∧ (Dk.puts k x at_ b).1.plat = x.plat
  | 0, x, at_, b, h => ⟨rfl, h, rfl, rfl⟩
  | k + 1, x, at_, b, h => by
    rw [Dk.puts, if_neg (by omega)]
    exact puts_free k (x.write1 at_ (b.take 64)) (at_ + 1) (b.drop 64) (by simp [Dk.write1, dec, h])
theorem puts_keep (base : List UInt8) (S : Nat × List UInt8 → Prop) : ∀ (k : Nat) (x : Dk) (at_ : Nat) (b : List UInt8), x.left = -1 → x.now = full base x.waits → (∀ e ∈ x.waits, S e) → (∀ j, j < k → S (at_ + j, (b.drop (64 * j)).take 64)) →
    (Dk.puts k x at_ b).1.now = full base (Dk.puts k x at_ b).1.waits ∧ ∀ e ∈ (Dk.puts k x at_ b).1.waits, S e
  | 0, x, at_, b, _, h2, h3, _ => ⟨h2, h3⟩
  | k + 1, x, at_, b, h1, h2, h3, h4 => by
    rw [Dk.puts, if_neg (by omega)]
    refine puts_keep base S k (x.write1 at_ (b.take 64)) (at_ + 1) (b.drop 64) (by simp [Dk.write1, dec, h1]) ?_ ?_ ?_
    · show put x.now (at_, b.take 64) = (x.waits ++ [(at_, b.take 64)]).foldl put base
      rw [List.foldl_append, h2]; rfl
    · intro e he
      rcases List.mem_append.1 he with he | he
      · exact h3 e he
      · rw [List.mem_singleton.1 he]
        have := h4 0 (by omega)
        simpa using this
    · intro j hj
      have := h4 (j + 1) (by omega)
      rw [List.drop_drop]
      rw [show at_ + 1 + j = at_ + (j + 1) by omega, show 64 + 64 * j = 64 * (j + 1) by omega]
      exact this
/-- An op that was taken up. -/
structure KOp where
  o : DOp
  vb : Value
  vs : Value
def kcell (k : KOp) : List Value := [.int .i64 k.o.kind, .int .i64 k.o.at_, .int .i64 k.o.many, k.vb, k.vs]
def kcells (l : List KOp) : List Value := l.flatMap kcell
theorem kcells_at : ∀ (l : List KOp) (i j : Nat) (hi : i < l.length) (sp : List Value) (v : Value), (kcell l[i])[j]? = some v → (kcells l ++ sp)[0 + i * 5 + j]? = some v
  | [], _, _, hi, _, _, _ => by simp at hi
  | k :: l, 0, j, _, sp, v, h => by
    have : j < 5 := by have := (List.getElem?_eq_some_iff.1 h).1; simpa [kcell] using this
    simp only [kcells, List.flatMap_cons, List.append_assoc, List.getElem_cons_zero] at h ⊢
    rw [List.getElem?_append_left (by simp [kcell]; omega)]
    simpa using h
  | k :: l, i + 1, j, hi, sp, v, h => by
    have ih := kcells_at l i j (by simpa using hi) sp v (by simpa using h)
    rw [← ih]
    simp only [kcells, List.flatMap_cons, List.append_assoc]
    rw [List.getElem?_append_right (by simp [kcell]; omega)]
    congr 1
    simp [kcell]; omega
structure TW (base : List UInt8) (x : Dk) (ks : List KOp) : Prop where
  off : x.off = false
  left : x.left = -1
  plat : x.plat = base
  now : x.now = full base x.waits
  fr : ∀ e ∈ x.waits, ∃ k ∈ ks, ∃ j : Nat, 0 ≤ k.o.at_ ∧ j < k.o.b.length / 64 ∧ (e.1 : Int) = k.o.at_ + j ∧ e.2 = (k.o.b.drop (64 * j)).take 64
theorem write_free {x : Dk} {at_ : Int} {b : List UInt8} (ho : x.off = false) (hl : x.left = -1) : (x.write 8 at_ b).1.off = false ∧ (x.write 8 at_ b).1.left = -1 := by
  unfold Dk.write
  rw [if_neg (by simp [ho])]
  split
  · exact ⟨ho, hl⟩
  split
  · exact ⟨ho, hl⟩
  · have := puts_free (b.length / 64) x at_.toNat b hl
    exact ⟨this.2.2.1.trans ho, this.2.1⟩
theorem TW.write {base : List UInt8} {x : Dk} {ks : List KOp} (h : TW base x ks) (k : KOp) :
    (((x.write 8 k.o.at_ k.o.b).2 = 0) → TW base (x.write 8 k.o.at_ k.o.b).1 (ks ++ [k])) ∧ (¬ ((x.write 8 k.o.at_ k.o.b).2 = 0) → TW base (x.write 8 k.o.at_ k.o.b).1 ks) := by
  have hoff := h.off
  unfold Dk.write
  rw [if_neg (by simp [hoff])]
  split
  · exact ⟨fun hh => absurd (show (1 : Int) = 0 from hh) (by decide), fun _ => h⟩
  split
  · exact ⟨fun hh => absurd (show (3 : Int) = 0 from hh) (by decide), fun _ => h⟩
  · rename_i h1 h2
    have g := puts_free (k.o.b.length / 64) x k.o.at_.toNat k.o.b h.left
    have g2 := puts_keep base (fun e => ∃ q ∈ ks ++ [k], ∃ j : Nat, 0 ≤ q.o.at_ ∧ j < q.o.b.length / 64 ∧ (e.1 : Int) = q.o.at_ + j ∧ e.2 = (q.o.b.drop (64 * j)).take 64) (k.o.b.length / 64) x k.o.at_.toNat k.o.b h.left h.now
      (fun e he => by obtain ⟨q, hq, r⟩ := h.fr e he; exact ⟨q, by simp [hq], r⟩) (fun j hj => ⟨k, by simp, j, by omega, hj, by simp only; omega, rfl⟩)
    exact ⟨fun _ => ⟨g.2.2.1.trans hoff, g.2.1, g.2.2.2.trans h.plat, g2.1, g2.2⟩, fun hn => absurd g.1 hn⟩
theorem read_all {x : Dk} (ho : x.off = false) (hl : x.now.length = 8 * 64) : x.read 8 0 8 = (x.now, 0) := by
  unfold Dk.read
  rw [if_neg (by simp [ho]), if_neg (by omega)]
  simp only [Int.toNat_zero, Nat.zero_mul, List.drop_zero]
  rw [List.take_of_length_le (by rw [hl]; exact Nat.le_refl _)]
/-- Does the op k say the byte c at the place q? -/
def hit (q : Nat) (c : UInt8) (k : KOp) : Prop := 0 ≤ IntKind.i64.wrap ((q : Int) - IntKind.i64.wrap (64 * k.o.at_)) ∧ IntKind.i64.wrap ((q : Int) - IntKind.i64.wrap (64 * k.o.at_)) < k.o.b.length ∧ k.o.b[(IntKind.i64.wrap ((q : Int) - IntKind.i64.wrap (64 * k.o.at_))).toNat]? = some c
theorem TW.byte {base : List UInt8} {x : Dk} {ks : List KOp} (h : TW base x ks) (ok : x.ok 8) {st : List Int} {q : Nat} (hq : q < 512) {c c0 : UInt8} (hc : (tear x.plat x.waits st)[q]? = some c) (hc0 : base[q]? = some c0) : c = c0 ∨ ∃ k ∈ ks, hit q c k := by
  rcases tear_get x.waits ok.hw x.plat st q ok.lp with g | ⟨e, he, g1, g2, g3⟩
  · left
    rw [g, h.plat, hc0] at hc
    exact (Option.some.inj hc).symm
  · right
    obtain ⟨k, hk, j, j0, j1, j2, j3⟩ := h.fr e he
    have hw := ok.hw e he
    refine ⟨k, hk, ?_⟩
    have e1 : IntKind.i64.wrap (64 * k.o.at_) = 64 * k.o.at_ := wrap64_id (by omega)
    have e2 : IntKind.i64.wrap ((q : Int) - 64 * k.o.at_) = (q : Int) - 64 * k.o.at_ := wrap64_id (by omega)
    unfold hit
    rw [e1, e2]
    refine ⟨by omega, by omega, ?_⟩
    rw [hc, j3, List.getElem?_take, if_pos (by omega), List.getElem?_drop] at g3
    rw [show ((q : Int) - 64 * k.o.at_).toNat = 64 * j + (q - e.1 * 64) by omega]
    exact g3.symm

end Go.Hp
