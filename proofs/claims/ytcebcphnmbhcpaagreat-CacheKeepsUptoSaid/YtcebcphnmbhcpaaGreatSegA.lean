import Derived.Test.YtcebcphnmbhcpaaGreatHpBits
import Derived.Test.YtcebcphnmbhcpaaGreatTy
import Derived.Test.YtcebcphnmbhcpaaGreatHpBytes
import Derived.Test.YtcebcphnmbhcpaaGreatHpNum
set_option linter.unusedVariables false
set_option linter.unusedSimpArgs false
namespace Go.Hp
open Go Go.Proofs

/-- One bit of a sum, one half of a byte, a byte. -/
def bit (x : BitVec 32) : BitVec 32 := if x &&& 1#32 = 1#32 then (x >>> 1) ^^^ 2197175160#32 else x >>> 1
def bits : Nat → BitVec 32 → BitVec 32
 | 0, x => x
 | k + 1, x => bits k (bit x)
def tab (i : Nat) : BitVec 32 := bits 4 (BitVec.ofNat 32 i)
/-- The table up to i. -/
def part (i : Nat) : List (BitVec 32) := (List.range i).map tab ++ List.replicate (16 - i) 0#32
theorem bytes0' (n : Nat) : (List.replicate n (Value.int .u8 0).cells.toList).flatten = bytesV (List.replicate n (0 : UInt8)) := by
 induction n with
 | zero => rfl
 | succ n ih => rw [List.replicate_succ, List.flatten_cons, ih]; simp [Value.cells, List.replicate_succ, bytesV, byteV]
def total (ls : List (Value × List UInt8)) : Nat := (ls.flatMap (·.2)).length
structure CX where
 i : Nat
 v : Value
 L : Chunks
structure CX.ok (ls : List (Value × List UInt8)) (t : CX) : Prop where
 le : t.i ≤ ls.length
 ow : Own 5 1 t.v (bytesV ((ls.take t.i).flatMap (·.2))) (total (ls.take t.i)) t.L
/-- A disk. -/
structure Dk where
 plat : List UInt8
 now : List UInt8
 waits : List (Nat × List UInt8)
 left : Int
 off : Bool
 writes : Int
 syncs : Int
def wcell (x : Nat × List UInt8) : List Value := .int .i64 (x.1 : Int) :: bytesV x.2
def wcells (l : List (Nat × List UInt8)) : List Value := l.flatMap wcell
structure Dk.ok (n : Nat) (x : Dk) : Prop where
 n1 : 1 ≤ n
 n2 : n ≤ 8192
 lp : x.plat.length = n * 64
 ln : x.now.length = n * 64
 hw : ∀ e ∈ x.waits, e.1 < n ∧ e.2.length = 64
 hl : -1 ≤ x.left ∧ x.left ≤ 9223372036854775807
inductive IsDisk (d n : Nat) (x : Dk) : Chunks → Prop
 | mk {bp bn : Nat} {vw : Value} {Lw : Chunks} (ok : x.ok n) (ow : Own 278 65 vw (wcells x.waits) x.waits.length Lw) :
  IsDisk d n x ((d, row 125 [.slice (some ⟨bp, 0, none⟩) (n * 64) (n * 64), .slice (some ⟨bn, 0, none⟩) (n * 64) (n * 64), vw, .int .i64 x.left, .bool x.off, .int .i64 x.writes, .int .i64 x.syncs]) :: (bp, row 5 (bytesV x.plat)) :: (bn, row 5 (bytesV x.now)) :: Lw)
def Im (I : Imm) : Nat → Obj → Prop := fun b o => I.blk b = some o
theorem Im.there {I : Imm} {L : Chunks} (b : Nat) (o : Obj) (h : Im I b o) : There I L b o := There.i h
theorem wcells_app (l m : List (Nat × List UInt8)) : wcells (l ++ m) = wcells l ++ wcells m := by simp [wcells]
theorem bytes0 (n : Nat) : (List.replicate n (Value.int .u8 0).cells.toList).flatten = bytesV (List.replicate n (0 : UInt8)) := by
 induction n with
 | zero => rfl
 | succ n ih => rw [List.replicate_succ, List.flatten_cons, ih]; simp [Value.cells, List.replicate_succ, bytesV, byteV]

def Dk.new (n : Nat) : Dk := ⟨List.replicate (n * 64) 0, List.replicate (n * 64) 0, [], -1, false, 0, 0⟩
theorem Dk.new_ok {n : Nat} (h1 : 1 ≤ n) (h2 : n ≤ 8192) : (Dk.new n).ok n := ⟨h1, h2, by simp [Dk.new], by simp [Dk.new], by simp [Dk.new], by simp [Dk.new]⟩
theorem disk_New {I : Imm} {n : Nat} (h1 : 1 ≤ n) (h2 : n ≤ 8192) : Spec Tryz.prog 24 [.int .i64 (n : Int)] I [] (fun v' J L => I = J ∧ ∃ d, v' = .tuple #[.pointer (some ⟨d, 0, none⟩), .int .i64 0] ∧ IsDisk d n (Dk.new n) L) := by
 refine Spec.of Tryz.func24 rfl Tryz.ntmps24 (Nat.le_of_ble_eq_true rfl) (fun F => ?_)
 try simp only [nf]
 dsimp only [argsEnv]
 refine WP.seq ?_; refine WP.region [0, 1] rfl ?_; iterate 2 refine WP.mv rfl rfl ?_
 refine WP.nil (WP.next (WP.seq (WP.seq ?_)))
 refine WP.region [0, 1, 2, 3, 4, 5] rfl ?_; refine WP.mv rfl rfl ?_; refine WP.vl rfl (Yld.lss rfl rfl rfl false (decide_eq_false (by omega))) ?_; refine WP.mv rfl rfl ?_; refine WP.valG rfl rfl rfl rfl rfl rfl rfl (Yld.move rfl rfl) ?_; refine WP.valG rfl rfl rfl rfl rfl rfl rfl (Yld.gtr rfl rfl rfl false (decide_eq_false (by omega))) ?_; refine WP.vl rfl (Yld.pickF rfl rfl rfl) ?_; refine WP.nil ?_; refine WP.sub [(0, _), (2, _), (3, _), (10, _)] ?_ ⟨rfl, rfl, rfl, rfl, trivial⟩
 refine WP.next ?_; refine WP.condF rfl ?_; refine WP.skip (WP.next (WP.seq ?_))
 refine WP.region [0, 1, 2] rfl ?_; refine WP.mv rfl rfl ?_; refine WP.vl rfl (Yld.mul64 rfl rfl rfl (by omega)) ?_; refine WP.mv rfl rfl ?_; refine WP.nil ?_; refine WP.sub [(0, _), (2, _), (3, _), (4, _), (10, _)] ?_ ⟨rfl, rfl, rfl, rfl, rfl, trivial⟩
 refine WP.next (WP.seq ?_)
 refine WD.start Tryzmixed 5 (fun _ _ => False) (fun _ _ => False) (fun _ _ h => h.elim) (fun _ _ h => h.elim) 8 [false, false, false, false, false, false, false, false] rfl rfl ?_; refine WD.vl (i := 0) rfl (Yld.move rfl rfl) ?_; refine WD.vl (i := 2) rfl (Yld.move rfl rfl) ?_; refine WD.both (i := 1) (j := 3) zK rfl rfl ?_ ?_
 ·refine WP.oper rfl rfl ?_
  refine Op.make (l := n * 64) (c := n * 64) rfl ty_sl_47 ty_el_47 rfl rfl rfl (congrArg (fun z => some (Value.int .i64 z)) (by omega)) (congrArg (fun z => some (Value.int .i64 z)) (by omega)) (Nat.le_refl _) (by omega) (by omega) (fun bp => ?_)
  rw [bytes0]
  refine WD.go (.inr (fun _ _ h => h.elim)) (fun _ _ h => h.elim) ?_; refine WD.loud (i := 3) zK rfl rfl rfl ?_; refine Op.make (l := n * 64) (c := n * 64) rfl ty_sl_47 ty_el_47 rfl rfl rfl (congrArg (fun z => some (Value.int .i64 z)) (by omega)) (congrArg (fun z => some (Value.int .i64 z)) (by omega)) (Nat.le_refl _) (by omega) (by omega) (fun bn => ?_)
  rw [bytes0]
  refine WD.go (.inr (fun _ _ h => h.elim)) (fun _ _ h => h.elim) ?_; refine WD.vl (i := 4) rfl (Yld.buildS (pl := [(0, 0, 1), (1, 1, 1), (3, 3, 1)]) rfl ty_zr_125 ty_zd_125 zK rfl (vs := [_, _, _]) rfl (segs := [(0, [_]), (1, [_]), (3, [_])]) rfl rfl zS) ?_; refine WD.loud (i := 5) zK rfl rfl rfl ?_; refine Op.box rfl rfl rfl rfl rfl (fun d => ?_)
  refine WD.go (.inl rfl) (fun _ _ h => h.elim) ?_; refine WD.vl (i := 6) rfl (Yld.assign rfl rfl) ?_; refine WD.vl (i := 7) rfl (Yld.assign rfl rfl) ?_; refine WD.done zK ?_; refine WP.sub [(0, _), (2, _), (3, _), (4, _), (10, _)] ?_ ⟨rfl, rfl, rfl, rfl, rfl, trivial⟩
  refine WP.next (WP.ret ?_)
  refine WP.fn .ret (.inr rfl) (res2 rfl rfl rfl) [(d, row 125 _), (bp, row 5 _), (bn, row 5 _)] (Imm.le_refl _) ?_; exact ⟨rfl, d, rfl, .mk (vw := .slice none 0 0) (Lw := []) (Dk.new_ok h1 h2) .none0⟩
 ·refine WP.oper rfl rfl ?_
  refine Op.make (l := n * 64) (c := n * 64) rfl ty_sl_47 ty_el_47 rfl rfl rfl (congrArg (fun z => some (Value.int .i64 z)) (by omega)) (congrArg (fun z => some (Value.int .i64 z)) (by omega)) (Nat.le_refl _) (by omega) (by omega) (fun bn => ?_)
  rw [bytes0]
  refine WD.go (.inr (fun _ _ h => h.elim)) (fun _ _ h => h.elim) ?_; refine WD.loud (i := 1) zK rfl rfl rfl ?_; refine Op.make (l := n * 64) (c := n * 64) rfl ty_sl_47 ty_el_47 rfl rfl rfl (congrArg (fun z => some (Value.int .i64 z)) (by omega)) (congrArg (fun z => some (Value.int .i64 z)) (by omega)) (Nat.le_refl _) (by omega) (by omega) (fun bp => ?_)
  rw [bytes0]
  refine WD.go (.inr (fun _ _ h => h.elim)) (fun _ _ h => h.elim) ?_; refine WD.vl (i := 4) rfl (Yld.buildS (pl := [(0, 0, 1), (1, 1, 1), (3, 3, 1)]) rfl ty_zr_125 ty_zd_125 zK rfl (vs := [_, _, _]) rfl (segs := [(0, [_]), (1, [_]), (3, [_])]) rfl rfl zS) ?_; refine WD.loud (i := 5) zK rfl rfl rfl ?_; refine Op.box rfl rfl rfl rfl rfl (fun d => ?_)
  refine WD.go (.inl rfl) (fun _ _ h => h.elim) ?_; refine WD.vl (i := 6) rfl (Yld.assign rfl rfl) ?_; refine WD.vl (i := 7) rfl (Yld.assign rfl rfl) ?_; refine WD.done zK ?_; refine WP.sub [(0, _), (2, _), (3, _), (4, _), (10, _)] ?_ ⟨rfl, rfl, rfl, rfl, rfl, trivial⟩
  refine WP.next (WP.ret ?_)
  refine WP.fn .ret (.inr rfl) (res2 rfl rfl rfl) [(d, row 125 _), (bp, row 5 _), (bn, row 5 _)] (Imm.le_refl _) ?_; exact ⟨rfl, d, rfl, .mk (vw := .slice none 0 0) (Lw := []) (Dk.new_ok h1 h2) .none0⟩

theorem disk_Sectors {I : Imm} {d n : Nat} {x : Dk} {L : Chunks} (hd : IsDisk d n x L) : Spec Tryz.prog 48 [.pointer (some ⟨d, 0, none⟩)] I L (fun v' J L' => v' = .int .i64 (n : Int) ∧ I = J ∧ L = L') := by
 cases hd with
 | @mk bp bn vw Lw ok ow =>
 obtain ⟨n1, n2, lp, ln, hw, hl⟩ := id ok
 obtain ⟨Aw, cw, rfl, hcw⟩ := ow.slice
 refine Spec.of Tryz.func48 rfl Tryz.ntmps48 (Nat.le_of_ble_eq_true rfl) (fun F => ?_)
 try simp only [nf]
 dsimp only [argsEnv]
 refine WP.seq ?_; refine WP.region [0] rfl ?_; refine WP.mv rfl rfl ?_; refine WP.nil (WP.next (WP.seq ?_))
 refine WP.region [0, 1, 2, 3, 4, 5, 6] rfl ?_; refine WP.mv rfl rfl ?_; refine WP.vl rfl (Yld.nilCheck rfl rfl) ?_; refine WP.vl rfl (Yld.fieldAddr rfl ty_fd_125_0 rfl) ?_; refine WP.vl rfl (Yld.ld rfl ty_sc_47 rfl rfl) ?_; refine WP.vl rfl (Yld.len rfl ty_sl_47 rfl) ?_; refine WP.vl rfl (Yld.quo64 rfl rfl rfl (by omega)) ?_; refine WP.mv rfl rfl ?_; refine WP.nil ?_; refine WP.sub [(0, _), (2, _)] ?_ ⟨rfl, rfl, trivial⟩
 refine WP.next (WP.ret ?_)
 refine WP.fn .ret (.inr rfl) (res1 rfl rfl) ((d, row 125 [.slice (some ⟨bp, 0, none⟩) (n * 64) (n * 64), .slice (some ⟨bn, 0, none⟩) (n * 64) (n * 64), _, .int .i64 x.left, .bool x.off, .int .i64 x.writes, .int .i64 x.syncs]) :: (bp, row 5 (bytesV x.plat)) :: (bn, row 5 (bytesV x.now)) :: Lw) (Imm.le_refl _) ?_; exact ⟨congrArg (Value.int .i64) (by omega), rfl, rfl⟩

def Dk.cut (x : Dk) (a : Int) : Dk := { x with left := if -1 < a then a else -1 }
theorem Dk.cut_ok {n : Nat} {x : Dk} (h : x.ok n) {a : Int} (ha : a ≤ 9223372036854775807) : (x.cut a).ok n := ⟨h.n1, h.n2, h.lp, h.ln, h.hw, by simp only [Dk.cut]; split <;> omega⟩
def Dk.read (x : Dk) (n : Nat) (at_ many : Int) : List UInt8 × Int :=
 if x.off then ([], 4) else if at_ < 0 ∨ many < 0 ∨ ¬ (many = 0 ∨ (at_ ≤ n ∧ many ≤ n - at_)) then ([], 1) else ((x.now.drop (at_.toNat * 64)).take (many.toNat * 64), 0)
theorem SlRd.dropB {V : Nat → Obj → Prop} {v : Value} {bs : List UInt8} {l : Nat} (h : SlRd V v bs.length 1 (bytesV bs)) (hl : l ≤ bs.length) : SlRd V (subSl 1 l bs.length v) (bs.drop l).length 1 (bytesV (bs.drop l)) := by
 have := h.sub hl (Nat.le_refl _)
 rw [bytesV_drop, bytesV_take, Nat.mul_one, Nat.mul_one, List.take_of_length_le (by simp)] at this
 rw [List.length_drop]; exact this
def dec (l : Int) : Int := if 0 < l then l - 1 else l
def Dk.write1 (x : Dk) (at_ : Nat) (s : List UInt8) : Dk := { x with left := dec x.left, writes := IntKind.i64.wrap (x.writes + 1), waits := x.waits ++ [(at_, s)], now := x.now.take (at_ * 64) ++ s ++ x.now.drop (at_ * 64 + 64) }
def Dk.puts : Nat → Dk → Nat → List UInt8 → Dk × Int
 | 0, x, _, _ => (x, 0)
 | k + 1, x, at_, b => if x.left = 0 then ({ x with off := true, left := -1 }, 4) else Dk.puts k (x.write1 at_ (b.take 64)) (at_ + 1) (b.drop 64)
def Dk.write (x : Dk) (n : Nat) (at_ : Int) (bs : List UInt8) : Dk × Int :=
 if x.off then (x, 4) else if at_ < 0 ∨ bs.length % 64 ≠ 0 then (x, 1)
 else if ¬ (((bs.length / 64 : Nat) : Int) = 0 ∨ (at_ ≤ n ∧ ((bs.length / 64 : Nat) : Int) ≤ n - at_)) then (x, 3) else Dk.puts (bs.length / 64) x at_.toNat bs
theorem Dk.write1_ok {n at_ : Nat} {x : Dk} {s : List UInt8} (h : x.ok n) (hs : s.length = 64) (ha : at_ < n) : (x.write1 at_ s).ok n := by
 obtain ⟨n1, n2, lp, ln, hw, hl⟩ := h
 refine ⟨n1, n2, lp, by simp [Dk.write1, ln, hs]; omega, ?_, ?_⟩
 ·intro e he
  simp only [Dk.write1, List.mem_append, List.mem_singleton] at he
  rcases he with he | rfl
  ·exact hw e he
  ·exact ⟨ha, hs⟩
 ·simp only [Dk.write1, dec]; split <;> omega
structure WX where
 y : Dk
 at_ : Nat
 bs : List UInt8
 v : Value
 vw : Value
 Lw : Chunks
structure WX.ok (I : Imm) (n : Nat) (r : Dk × Int) (t : WX) : Prop where
 ok : t.y.ok n
 sl : SlRd (Im I) t.v t.bs.length 1 (bytesV t.bs)
 md : t.bs.length % 64 = 0
 rm : t.bs.length = 0 ∨ t.at_ + t.bs.length / 64 ≤ n
 ow : Own 278 65 t.vw (wcells t.y.waits) t.y.waits.length t.Lw
 eq : Dk.puts (t.bs.length / 64) t.y t.at_ t.bs = r
 wl : t.y.waits.length + t.bs.length / 64 ≤ 1954687338000
 bl : t.bs.length ≤ 1152921504606846976
theorem WX.next {I : Imm} {n : Nat} {r : Dk × Int} {y : Dk} {at_ : Nat} {bs : List UInt8} {v vw vw' : Value} {Lw Lw' : Chunks} (h : (⟨y, at_, bs, v, vw, Lw⟩ : WX).ok I n r) (hp : 0 < bs.length) (hz : ¬ y.left = 0)
  (ho : Own 278 65 vw' (wcells y.waits ++ wcell (at_, bs.take 64)) (y.waits.length + 1) Lw') : (⟨y.write1 at_ (bs.take 64), at_ + 1, bs.drop 64, subSl 1 64 bs.length v, vw', Lw'⟩ : WX).ok I n r := by
 obtain ⟨g1, g2, g3, g4, g5, g6, g7, g8⟩ := h
 simp only at g1 g2 g3 g4 g5 g6 g7 g8
 have hk : bs.length / 64 = (bs.drop 64).length / 64 + 1 := by rw [List.length_drop]; omega
 have ht : (bs.take 64).length = 64 := by rw [List.length_take]; omega
 refine ⟨Dk.write1_ok g1 ht (by omega), g2.dropB (by omega), by rw [List.length_drop]; omega, ?_, ?_, ?_, ?_, ?_⟩
 ·simp only [List.length_drop]; omega
 ·simp only [Dk.write1, wcells_app, List.length_append, List.length_cons, List.length_nil]
  simpa [wcells] using ho
 ·rw [hk, Dk.puts, if_neg hz] at g6; exact g6
 ·simp only [Dk.write1, List.length_append, List.length_cons, List.length_nil, List.length_drop]; omega
 ·simp only [List.length_drop]; omega

def keepN (k : Int) : Nat := if 64 ≤ k then 64 else if k ≤ 0 then 0 else k.toNat
theorem keepN_le (k : Int) : keepN k ≤ 64 := by unfold keepN; split <;> (try split) <;> omega
def torn (p : List UInt8) (e : Nat × List UInt8) (k : Int) : List UInt8 := p.take (e.1 * 64) ++ e.2.take (keepN k) ++ p.drop (e.1 * 64 + keepN k)
def tear : List UInt8 → List (Nat × List UInt8) → List Int → List UInt8
 | p, [], _ => p
 | p, e :: es, ks => tear (torn p e (ks.headD 0)) es ks.tail
theorem torn_len {n : Nat} {p : List UInt8} {e : Nat × List UInt8} {k : Int} (hp : p.length = n * 64) (he : e.1 < n ∧ e.2.length = 64) : (torn p e k).length = n * 64 := by
 have := keepN_le k
 obtain ⟨h1, h2⟩ := he
 simp only [torn, List.length_append, List.length_take, List.length_drop, hp, h2]
 omega
def kept (m : Nat) (ks : List Int) : List Int := ks.take m ++ List.replicate (m - ks.length) 0
structure UX where
 i : Nat
 p : List UInt8
structure UX.ok (n : Nat) (x : Dk) (ks : List Int) (t : UX) : Prop where
 le : t.i ≤ x.waits.length
 lp : t.p.length = n * 64
 eq : tear t.p (x.waits.drop t.i) (ks.drop t.i) = tear x.plat x.waits ks
theorem UX.next {n : Nat} {x : Dk} {ks : List Int} {i : Nat} {p : List UInt8} (h : (⟨i, p⟩ : UX).ok n x ks) (hx : x.ok n) (hi : i < x.waits.length) : (⟨i + 1, torn p x.waits[i] ((ks.drop i).headD 0)⟩ : UX).ok n x ks := by
 obtain ⟨h1, h2, h3⟩ := h
 simp only at h1 h2 h3
 refine ⟨hi, torn_len h2 (hx.hw _ (List.getElem_mem hi)), ?_⟩
 rw [← h3, List.drop_eq_getElem_cons hi, tear, List.tail_drop]

theorem super_in {I : Imm} {a lo hi : Int} : Spec Tryz.prog 111 [.int .i64 a, .int .i64 lo, .int .i64 hi] I [] (fun v J L => v = .bool (decide (lo ≤ a ∧ a ≤ hi)) ∧ I = J ∧ L = []) := by
 refine Spec.of Tryz.func111 rfl Tryz.ntmps111 (Nat.le_of_ble_eq_true rfl) (fun F => ?_)
 try simp only [nf]
 dsimp only [argsEnv]
 refine WP.seq ?_; refine WP.region [0] rfl ?_; refine WP.mv rfl rfl ?_; refine WP.nil (WP.next (WP.seq ?_))
 refine WP.region [0, 1, 2, 3, 4, 5, 6, 7, 8] rfl ?_; iterate 2 refine WP.mv rfl rfl ?_
 refine WP.split rfl rfl rfl rfl (Yld.geq rfl rfl rfl) (fun h1 => ?_) (fun h1 => ?_)
 ·refine WP.mv rfl rfl ?_
  iterate 2 refine WP.valG rfl rfl rfl rfl rfl rfl rfl (Yld.move rfl rfl) ?_
  refine WP.splitG rfl rfl rfl rfl rfl rfl rfl (Yld.leq rfl rfl rfl) (fun h2 => ?_) (fun h2 => ?_)
  ·refine WP.vl rfl (Yld.pickT rfl rfl rfl) ?_
   refine WP.mv rfl rfl ?_; refine WP.nil ?_; refine WP.sub [(0, _), (1, _), (2, _), (6, _)] ?_ ⟨rfl, rfl, rfl, rfl, trivial⟩
   refine WP.next (WP.ret ?_)
   refine WP.fn .ret (.inr rfl) (res1 rfl rfl) [] (Imm.le_refl _) ?_; exact ⟨congrArg Value.bool (by simp; omega), rfl, rfl⟩
  ·refine WP.vl rfl (Yld.pickT rfl rfl rfl) ?_
   refine WP.mv rfl rfl ?_; refine WP.nil ?_; refine WP.sub [(0, _), (1, _), (2, _), (6, _)] ?_ ⟨rfl, rfl, rfl, rfl, trivial⟩
   refine WP.next (WP.ret ?_)
   refine WP.fn .ret (.inr rfl) (res1 rfl rfl) [] (Imm.le_refl _) ?_; exact ⟨congrArg Value.bool (by simp; omega), rfl, rfl⟩
 ·refine WP.mv rfl rfl ?_
  iterate 3 refine WP.passG rfl rfl rfl rfl rfl rfl rfl rfl ?_
  refine WP.vl rfl (Yld.pickF rfl rfl rfl) ?_; refine WP.mv rfl rfl ?_; refine WP.nil ?_; refine WP.sub [(0, _), (1, _), (2, _), (6, _)] ?_ ⟨rfl, rfl, rfl, rfl, trivial⟩
  refine WP.next (WP.ret ?_)
  refine WP.fn .ret (.inr rfl) (res1 rfl rfl) [] (Imm.le_refl _) ?_; exact ⟨congrArg Value.bool (by simp; omega), rfl, rfl⟩


def cut (bs : List UInt8) (l h : Nat) : List UInt8 := (bs.drop l).take (h - l)


/-- A part. -/
structure Pt where
 place : Int
 no : Int
 index : Int
 era : Int
 parts : Int
 data : List UInt8
def ptV (p : Pt) (v : Value) : List Value := [.int .i64 p.place, .int .i64 p.no, .int .i64 p.index, .int .i64 p.era, .int .i64 p.parts, v]
def ptZ : Pt := ⟨0, 0, 0, 0, 0, []⟩
structure Pt.may (p : Pt) : Prop where
 place : 0 ≤ p.place ∧ p.place ≤ 1099511627776
 no : 1 ≤ p.no ∧ p.no ≤ 1099511627776
 era : 1 ≤ p.era ∧ p.era ≤ 4294967295
 parts : 1 ≤ p.parts ∧ p.parts ≤ 64
 index : 0 ≤ p.index ∧ p.index ≤ p.parts - 1
 data : p.data.length = 198 ∨ (p.index = p.parts - 1 ∧ 1 ≤ p.data.length ∧ p.data.length ≤ 198)
instance (p : Pt) : Decidable p.may := decidable_of_iff ((0 ≤ p.place ∧ p.place ≤ 1099511627776) ∧ (1 ≤ p.no ∧ p.no ≤ 1099511627776) ∧ (1 ≤ p.era ∧ p.era ≤ 4294967295) ∧ (1 ≤ p.parts ∧ p.parts ≤ 64) ∧ (0 ≤ p.index ∧ p.index ≤ p.parts - 1) ∧ (p.data.length = 198 ∨ (p.index = p.parts - 1 ∧ 1 ≤ p.data.length ∧ p.data.length ≤ 198))) ⟨fun h => ⟨h.1, h.2.1, h.2.2.1, h.2.2.2.1, h.2.2.2.2.1, h.2.2.2.2.2⟩, fun h => ⟨h.place, h.no, h.era, h.parts, h.index, h.data⟩⟩
theorem Pt.may.len {p : Pt} (h : p.may) : 1 ≤ p.data.length ∧ p.data.length ≤ 198 := by rcases h.data with h | h <;> omega
end Go.Hp
