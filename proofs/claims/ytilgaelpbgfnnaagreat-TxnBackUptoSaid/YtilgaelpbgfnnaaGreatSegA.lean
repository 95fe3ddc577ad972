import Derived.Test.YtilgaelpbgfnnaaGreatHpBits
import Derived.Test.YtilgaelpbgfnnaaGreatTy
import Derived.Test.YtilgaelpbgfnnaaGreatHpBytes
import Derived.Test.YtilgaelpbgfnnaaGreatHpNum
set_option linter.unusedVariables false
set_option linter.unusedSimpArgs false
namespace Go.Hp
open Go Go.Proofs

/-- One bit of a sum, one half of a byte, a byte. -/
def bit (x : BitVec 32) : BitVec 32 := if x &&& 1#32 = 1#32 then (x >>> 1) ^^^ 2197175160#32 else x >>> 1
def bits : Nat → BitVec 32 → BitVec 32
 | 0, x => x
 | k + 1, x => bits k (bit x)
def tab (i : Nat) : BitVec 32 := bits 4 (BitVec.ofNat 32 i)
def tabs : List (BitVec 32) := (List.range 16).map tab
def nib (x : BitVec 32) : BitVec 32 := tab (x &&& 15#32).toNat ^^^ (x >>> 4)
def byteStep (x : BitVec 32) (c : UInt8) : BitVec 32 := nib (nib (x ^^^ c.toBitVec.setWidth 32))
def crcAdd (s : BitVec 32) (b : List UInt8) : BitVec 32 := ~~~(b.foldl byteStep (~~~s))
def crcOf (b : List UInt8) : BitVec 32 := crcAdd 0#32 b
def u32s (l : List (BitVec 32)) : List Value := l.map fun x => .int .u32 (x.toNat : Int)
theorem bits_succ (k : Nat) (x : BitVec 32) : bits (k + 1) x = bit (bits k x) := by
 induction k generalizing x with
 | zero => rfl
 | succ k ih => rw [bits, ih]; rfl
theorem u32_inj {x y : BitVec 32} (h : (x.toNat : Int) = (y.toNat : Int)) : x = y := BitVec.eq_of_toNat_eq (by omega)
theorem tabs_at {i : Nat} (h : i < 16) : (u32s tabs)[0 + i * 1]? = some (.int .u32 ((tab i).toNat : Int)) := by
 simp [u32s, tabs, h]
theorem and15 (x : BitVec 32) : (x &&& 15#32).toNat < 16 := by
 rw [BitVec.toNat_and]
 exact Nat.lt_of_le_of_lt Nat.and_le_right (by decide)
theorem u32s_len (l : List (BitVec 32)) : (u32s l).length = l.length := List.length_map _
theorem u32s_one (l : List (BitVec 32)) : (u32s l).all (·.oneCell') = true := by simp [u32s, List.all_eq_true, Value.oneCell']
theorem u32_0 (n : Nat) : List.replicate n (Value.int .u32 0) = u32s (List.replicate n 0#32) := by simp [u32s]
/-- The table up to i. -/
def part (i : Nat) : List (BitVec 32) := (List.range i).map tab ++ List.replicate (16 - i) 0#32
theorem part_len {i : Nat} (h : i ≤ 16) : (part i).length = 16 := by simp [part]; omega
theorem part_set {i : Nat} (h : i < 16) : SetAt (u32s (part i)) (0 + i * 1) (.int .u32 ((tab i).toNat : Int)) (u32s (part (i + 1))) := by
 have hs := SetAt.sym (l := u32s (part i)) (k := 0 + i * 1) (v := .int .u32 ((tab i).toNat : Int)) (by rw [u32s_len, part_len (by omega)]; omega)
 have e : (u32s (part i)).set (0 + i * 1) (.int .u32 ((tab i).toNat : Int)) = u32s (part (i + 1)) := by
  rw [Nat.zero_add, Nat.mul_one, u32s, ← List.map_set, u32s]
  congr 1
  unfold part
  rw [List.range_succ, List.map_append, List.set_append_right _ _ (by simp)]
  rw [show 16 - i = (16 - (i + 1)) + 1 by omega, List.replicate_succ]
  simp
 rwa [e] at hs
theorem part_16 : part 16 = tabs := rfl
theorem part_0 : u32s (part 0) = [.int .u32 0, .int .u32 0, .int .u32 0, .int .u32 0, .int .u32 0, .int .u32 0, .int .u32 0, .int .u32 0, .int .u32 0, .int .u32 0, .int .u32 0, .int .u32 0, .int .u32 0, .int .u32 0, .int .u32 0, .int .u32 0] := rfl

def four (x : BitVec 32) : List UInt8 := [⟨x.setWidth 8⟩, ⟨(x >>> 8).setWidth 8⟩, ⟨(x >>> 16).setWidth 8⟩, ⟨(x >>> 24).setWidth 8⟩]
def word (l : List UInt8) : BitVec 32 := (l.getD 0 0).toBitVec.setWidth 32 ||| (l.getD 1 0).toBitVec.setWidth 32 <<< 8 ||| (l.getD 2 0).toBitVec.setWidth 32 <<< 16 ||| (l.getD 3 0).toBitVec.setWidth 32 <<< 24

theorem bytes0' (n : Nat) : (List.replicate n (Value.int .u8 0).cells.toList).flatten = bytesV (List.replicate n (0 : UInt8)) := by
 induction n with
 | zero => rfl
 | succ n ih => rw [List.replicate_succ, List.flatten_cons, ih]; simp [Value.cells, List.replicate_succ, bytesV, byteV]

theorem fst_at {ls : List (Value × List UInt8)} {i : Nat} (h : i < ls.length) : (ls.map (·.1))[0 + i * 1]? = some ls[i].1 := by simp [h]
def total (ls : List (Value × List UInt8)) : Nat := (ls.flatMap (·.2)).length
theorem total_take_le (ls : List (Value × List UInt8)) (i : Nat) : total (ls.take i) ≤ total ls := by
 unfold total
 conv => rhs; rw [← List.take_append_drop i ls, List.flatMap_append, List.length_append]
 exact Nat.le_add_right _ _
theorem total_succ {ls : List (Value × List UInt8)} {i : Nat} (h : i < ls.length) : total (ls.take (i + 1)) = total (ls.take i) + ls[i].2.length := by
 unfold total
 rw [List.take_succ_eq_append_getElem h, List.flatMap_append, List.length_append]; simp
structure CX where
 i : Nat
 v : Value
 L : Chunks
structure CX.ok (ls : List (Value × List UInt8)) (t : CX) : Prop where
 le : t.i ≤ ls.length
 ow : Own 5 1 t.v (bytesV ((ls.take t.i).flatMap (·.2))) (total (ls.take t.i)) t.L

/-- A disk. -/
structure Dk where
 plat : List UInt8
 now : List UInt8
 waits : List (Nat × List UInt8)
 left : Int
 off : Bool
 writes : Int
 syncs : Int
def wcell (x : Nat × List UInt8) : List Value := .int .i64 (x.1 : Int) :: bytesV x.2
def wcells (l : List (Nat × List UInt8)) : List Value := l.flatMap wcell
structure Dk.ok (n : Nat) (x : Dk) : Prop where
 n1 : 1 ≤ n
 n2 : n ≤ 8192
 lp : x.plat.length = n * 64
 ln : x.now.length = n * 64
 hw : ∀ e ∈ x.waits, e.1 < n ∧ e.2.length = 64
 hl : -1 ≤ x.left ∧ x.left ≤ 9223372036854775807
def sl64 (b n : Nat) : Value := .slice (some ⟨b, 0, none⟩) (n * 64) (n * 64)
def dkRow (bp bn n : Nat) (vw : Value) (x : Dk) : List Value := [.slice (some ⟨bp, 0, none⟩) (n * 64) (n * 64), .slice (some ⟨bn, 0, none⟩) (n * 64) (n * 64), vw, .int .i64 x.left, .bool x.off, .int .i64 x.writes, .int .i64 x.syncs]
inductive IsDisk (d n : Nat) (x : Dk) : Chunks → Prop
 | mk {bp bn : Nat} {vw : Value} {Lw : Chunks} (ok : x.ok n) (ow : Own 299 65 vw (wcells x.waits) x.waits.length Lw) :
  IsDisk d n x ((d, row 178 [.slice (some ⟨bp, 0, none⟩) (n * 64) (n * 64), .slice (some ⟨bn, 0, none⟩) (n * 64) (n * 64), vw, .int .i64 x.left, .bool x.off, .int .i64 x.writes, .int .i64 x.syncs]) :: (bp, row 5 (bytesV x.plat)) :: (bn, row 5 (bytesV x.now)) :: Lw)
def Im (I : Imm) : Nat → Obj → Prop := fun b o => I.blk b = some o
theorem Im.there {I : Imm} {L : Chunks} (b : Nat) (o : Obj) (h : Im I b o) : There I L b o := There.i h
theorem wcell_len {e : Nat × List UInt8} (h : e.2.length = 64) : (wcell e).length = 65 := by simp [wcell, bytesV_len, h]
theorem wcell_one (e : Nat × List UInt8) : (wcell e).all (·.oneCell') = true := by
 simp only [wcell, List.all_cons, bytesV_one, Bool.and_true]; rfl
theorem wcells_app (l m : List (Nat × List UInt8)) : wcells (l ++ m) = wcells l ++ wcells m := by simp [wcells]
theorem wcells_one' (l : List (Nat × List UInt8)) : (wcells l).all (·.oneCell') = true := by
 induction l with
 | nil => rfl
 | cons e l ih => simp only [wcells, List.flatMap_cons, List.all_append, wcell_one, Bool.true_and]; exact ih
theorem wcells_at {n : Nat} : ∀ {l : List (Nat × List UInt8)} (h : ∀ e ∈ l, e.1 < n ∧ e.2.length = 64) {i : Nat} (hi : i < l.length) (sp : List Value), ((wcells l ++ sp).drop (0 + i * 65)).take 65 = wcell l[i]
 | [], _, _, hi, _ => by simp at hi
 | e :: l, h, 0, _, sp => by
  have := wcell_len (h e (by simp)).2
  simp [wcells, this]
 | e :: l, h, i + 1, hi, sp => by
  have h1 := wcell_len (h e (by simp)).2
  have h2 := wcells_at (l := l) (fun x hx => h x (by simp [hx])) (i := i) (by simpa using hi) sp
  rw [List.getElem_cons_succ, ← h2]
  simp only [wcells, List.flatMap_cons, List.append_assoc]
  rw [List.drop_append, List.drop_of_length_le (by omega), List.nil_append]
  congr 2
  omega
theorem bytes0 (n : Nat) : (List.replicate n (Value.int .u8 0).cells.toList).flatten = bytesV (List.replicate n (0 : UInt8)) := by
 induction n with
 | zero => rfl
 | succ n ih => rw [List.replicate_succ, List.flatten_cons, ih]; simp [Value.cells, List.replicate_succ, bytesV, byteV]

def Dk.new (n : Nat) : Dk := ⟨List.replicate (n * 64) 0, List.replicate (n * 64) 0, [], -1, false, 0, 0⟩
theorem Dk.new_ok {n : Nat} (h1 : 1 ≤ n) (h2 : n ≤ 8192) : (Dk.new n).ok n := ⟨h1, h2, by simp [Dk.new], by simp [Dk.new], by simp [Dk.new], by simp [Dk.new]⟩
theorem disk_New_bad {I : Imm} {v : Int} (hb : v < 1 ∨ 8192 < v) : Spec Tryz.prog 40 [.int .i64 v] I [] (fun v' J L => v' = .tuple #[.pointer none, .int .i64 1] ∧ I = J ∧ L = []) := by
 refine Spec.of Tryz.func40 rfl Tryz.ntmps40 (Nat.le_of_ble_eq_true rfl) (fun F => ?_)
 try simp only [nf]
 dsimp only [argsEnv]
 refine WP.seq ?_
 refine WP.region [0, 1] rfl ?_
 iterate 2 refine WP.mv rfl rfl ?_
 refine WP.nil ?_
 refine WP.next ?_
 refine WP.seq ?_
 refine WP.seq ?_
 refine WP.region [0, 1, 2, 3, 4, 5] rfl ?_
 refine WP.mv rfl rfl ?_
 refine WP.split rfl rfl rfl rfl (Yld.lss rfl rfl rfl) (fun h1 => ?_) (fun h1 => ?_)
 ·refine WP.mv rfl rfl ?_
  refine WP.passG rfl rfl rfl rfl rfl rfl rfl rfl ?_
  refine WP.passG rfl rfl rfl rfl rfl rfl rfl rfl ?_
  refine WP.vl rfl (Yld.pickT rfl rfl rfl) ?_
  refine WP.nil ?_
  refine WP.sub [(0, _), (2, _), (3, _), (10, _)] ?_ ⟨rfl, rfl, rfl, rfl, trivial⟩
  refine WP.next ?_
  refine WP.condT rfl ?_
  refine WP.seq ?_
  refine WP.region [0, 1] rfl ?_
  iterate 2 refine WP.mv rfl rfl ?_
  refine WP.nil ?_
  refine WP.next ?_
  refine WP.ret ?_
  refine WP.fn .ret (.inr rfl) (res2 rfl rfl rfl) [] (Imm.le_refl _) ?_
  exact ⟨rfl, rfl, rfl⟩
 ·refine WP.mv rfl rfl ?_
  refine WP.valG rfl rfl rfl rfl rfl rfl rfl (Yld.move rfl rfl) ?_
  refine WP.splitG rfl rfl rfl rfl rfl rfl rfl (Yld.gtr rfl rfl rfl) (fun h2 => ?_) (fun h2 => ?_)
  ·refine WP.vl rfl (Yld.pickF rfl rfl rfl) ?_
   refine WP.nil ?_
   refine WP.sub [(0, _), (2, _), (3, _), (10, _)] ?_ ⟨rfl, rfl, rfl, rfl, trivial⟩
   refine WP.next ?_
   refine WP.condT rfl ?_
   refine WP.seq ?_
   refine WP.region [0, 1] rfl ?_
   iterate 2 refine WP.mv rfl rfl ?_
   refine WP.nil ?_
   refine WP.next ?_
   refine WP.ret ?_
   refine WP.fn .ret (.inr rfl) (res2 rfl rfl rfl) [] (Imm.le_refl _) ?_
   exact ⟨rfl, rfl, rfl⟩
  ·exact absurd hb (by omega)

theorem disk_New {I : Imm} {n : Nat} (h1 : 1 ≤ n) (h2 : n ≤ 8192) : Spec Tryz.prog 40 [.int .i64 (n : Int)] I [] (fun v' J L => I = J ∧ ∃ d, v' = .tuple #[.pointer (some ⟨d, 0, none⟩), .int .i64 0] ∧ IsDisk d n (Dk.new n) L) := by
 refine Spec.of Tryz.func40 rfl Tryz.ntmps40 (Nat.le_of_ble_eq_true rfl) (fun F => ?_)
 try simp only [nf]
 dsimp only [argsEnv]
 refine WP.seq ?_
 refine WP.region [0, 1] rfl ?_
 iterate 2 refine WP.mv rfl rfl ?_
 refine WP.nil ?_
 refine WP.next ?_
 refine WP.seq ?_
 refine WP.seq ?_
 refine WP.region [0, 1, 2, 3, 4, 5] rfl ?_
 refine WP.mv rfl rfl ?_
 refine WP.vl rfl (Yld.lss rfl rfl rfl false (decide_eq_false (by omega))) ?_
 refine WP.mv rfl rfl ?_
 refine WP.valG rfl rfl rfl rfl rfl rfl rfl (Yld.move rfl rfl) ?_
 refine WP.valG rfl rfl rfl rfl rfl rfl rfl (Yld.gtr rfl rfl rfl false (decide_eq_false (by omega))) ?_
 refine WP.vl rfl (Yld.pickF rfl rfl rfl) ?_
 refine WP.nil ?_
 refine WP.sub [(0, _), (2, _), (3, _), (10, _)] ?_ ⟨rfl, rfl, rfl, rfl, trivial⟩
 refine WP.next ?_
 refine WP.condF rfl ?_
 refine WP.skip ?_
 refine WP.next ?_
 refine WP.seq ?_
 refine WP.region [0, 1, 2] rfl ?_
 refine WP.mv rfl rfl ?_
 refine WP.vl rfl (Yld.mul64 rfl rfl rfl (by omega)) ?_
 refine WP.mv rfl rfl ?_
 refine WP.nil ?_
 refine WP.sub [(0, _), (2, _), (3, _), (4, _), (10, _)] ?_ ⟨rfl, rfl, rfl, rfl, rfl, trivial⟩
 refine WP.next ?_
 refine WP.seq ?_
 refine WD.start Tryzmixed 5 (fun _ _ => False) (fun _ _ => False) (fun _ _ h => h.elim) (fun _ _ h => h.elim) 8 [false, false, false, false, false, false, false, false] rfl rfl ?_
 refine WD.val (i := 0) rfl rfl rfl rfl (by kernel_rfl) rfl (Yld.move rfl rfl) ?_
 refine WD.val (i := 2) rfl rfl rfl rfl (by kernel_rfl) rfl (Yld.move rfl rfl) ?_
 refine WD.both (i := 1) (j := 3) (by kernel_rfl) rfl rfl ?_ ?_
 ·refine WP.oper rfl rfl ?_
  refine Op.make (l := n * 64) (c := n * 64) rfl ty_sl_49 ty_el_49 rfl rfl rfl (congrArg (fun z => some (Value.int .i64 z)) (by omega)) (congrArg (fun z => some (Value.int .i64 z)) (by omega)) (Nat.le_refl _) (by omega) (by omega) (fun bp => ?_)
  rw [bytes0]
  refine WD.go (.inr (fun _ _ h => h.elim)) (fun _ _ h => h.elim) ?_
  refine WD.loud (i := 3) (by kernel_rfl) rfl rfl rfl ?_
  refine Op.make (l := n * 64) (c := n * 64) rfl ty_sl_49 ty_el_49 rfl rfl rfl (congrArg (fun z => some (Value.int .i64 z)) (by omega)) (congrArg (fun z => some (Value.int .i64 z)) (by omega)) (Nat.le_refl _) (by omega) (by omega) (fun bn => ?_)
  rw [bytes0]
  refine WD.go (.inr (fun _ _ h => h.elim)) (fun _ _ h => h.elim) ?_
  refine WD.val (i := 4) rfl rfl rfl rfl (by kernel_rfl) rfl (Yld.buildS (pl := [(0, 0, 1), (1, 1, 1), (3, 3, 1)]) rfl ty_zr_178 ty_zd_178 (by kernel_rfl) rfl (vs := [_, _, _]) rfl (segs := [(0, [_]), (1, [_]), (3, [_])]) rfl rfl (by repeat (first | exact SetSeg.nil | apply SetSeg.one | exact SetAt.zero | apply SetAt.succ))) ?_
  refine WD.loud (i := 5) (by kernel_rfl) rfl rfl rfl ?_
  refine Op.box rfl rfl rfl rfl rfl (fun d => ?_)
  refine WD.go (.inl rfl) (fun _ _ h => h.elim) ?_
  refine WD.val (i := 6) rfl rfl rfl rfl (by kernel_rfl) rfl (Yld.assign rfl rfl) ?_
  refine WD.val (i := 7) rfl rfl rfl rfl (by kernel_rfl) rfl (Yld.assign rfl rfl) ?_
  refine WD.done (by kernel_rfl) ?_
  refine WP.sub [(0, _), (2, _), (3, _), (4, _), (10, _)] ?_ ⟨rfl, rfl, rfl, rfl, rfl, trivial⟩
  refine WP.next ?_
  refine WP.ret ?_
  refine WP.fn .ret (.inr rfl) (res2 rfl rfl rfl) [(d, row 178 _), (bp, row 5 _), (bn, row 5 _)] (Imm.le_refl _) ?_
  exact ⟨rfl, d, rfl, .mk (vw := .slice none 0 0) (Lw := []) (Dk.new_ok h1 h2) .none0⟩
 ·refine WP.oper rfl rfl ?_
  refine Op.make (l := n * 64) (c := n * 64) rfl ty_sl_49 ty_el_49 rfl rfl rfl (congrArg (fun z => some (Value.int .i64 z)) (by omega)) (congrArg (fun z => some (Value.int .i64 z)) (by omega)) (Nat.le_refl _) (by omega) (by omega) (fun bn => ?_)
  rw [bytes0]
  refine WD.go (.inr (fun _ _ h => h.elim)) (fun _ _ h => h.elim) ?_
  refine WD.loud (i := 1) (by kernel_rfl) rfl rfl rfl ?_
  refine Op.make (l := n * 64) (c := n * 64) rfl ty_sl_49 ty_el_49 rfl rfl rfl (congrArg (fun z => some (Value.int .i64 z)) (by omega)) (congrArg (fun z => some (Value.int .i64 z)) (by omega)) (Nat.le_refl _) (by omega) (by omega) (fun bp => ?_)
  rw [bytes0]
  refine WD.go (.inr (fun _ _ h => h.elim)) (fun _ _ h => h.elim) ?_
  refine WD.val (i := 4) rfl rfl rfl rfl (by kernel_rfl) rfl (Yld.buildS (pl := [(0, 0, 1), (1, 1, 1), (3, 3, 1)]) rfl ty_zr_178 ty_zd_178 (by kernel_rfl) rfl (vs := [_, _, _]) rfl (segs := [(0, [_]), (1, [_]), (3, [_])]) rfl rfl (by repeat (first | exact SetSeg.nil | apply SetSeg.one | exact SetAt.zero | apply SetAt.succ))) ?_
  refine WD.loud (i := 5) (by kernel_rfl) rfl rfl rfl ?_
  refine Op.box rfl rfl rfl rfl rfl (fun d => ?_)
  refine WD.go (.inl rfl) (fun _ _ h => h.elim) ?_
  refine WD.val (i := 6) rfl rfl rfl rfl (by kernel_rfl) rfl (Yld.assign rfl rfl) ?_
  refine WD.val (i := 7) rfl rfl rfl rfl (by kernel_rfl) rfl (Yld.assign rfl rfl) ?_
  refine WD.done (by kernel_rfl) ?_
  refine WP.sub [(0, _), (2, _), (3, _), (4, _), (10, _)] ?_ ⟨rfl, rfl, rfl, rfl, rfl, trivial⟩
  refine WP.next ?_
  refine WP.ret ?_
  refine WP.fn .ret (.inr rfl) (res2 rfl rfl rfl) [(d, row 178 _), (bp, row 5 _), (bn, row 5 _)] (Imm.le_refl _) ?_
  exact ⟨rfl, d, rfl, .mk (vw := .slice none 0 0) (Lw := []) (Dk.new_ok h1 h2) .none0⟩

theorem disk_Writes {I : Imm} {d n : Nat} {x : Dk} {L : Chunks} (hd : IsDisk d n x L) : Spec Tryz.prog 93 [.pointer (some ⟨d, 0, none⟩)] I L (fun v' J L' => v' = .int .i64 x.writes ∧ I = J ∧ L = L') := by
 cases hd with
 | @mk bp bn vw Lw ok ow =>
 obtain ⟨n1, n2, lp, ln, hw, hl⟩ := id ok
 obtain ⟨Aw, cw, rfl, hcw⟩ := ow.slice
 refine Spec.of Tryz.func93 rfl Tryz.ntmps93 (Nat.le_of_ble_eq_true rfl) (fun F => ?_)
 try simp only [nf]
 dsimp only [argsEnv]
 refine WP.seq ?_
 refine WP.region [0] rfl ?_
 refine WP.mv rfl rfl ?_
 refine WP.nil ?_
 refine WP.next ?_
 refine WP.seq ?_
 refine WP.region [0, 1, 2, 3, 4] rfl ?_
 refine WP.mv rfl rfl ?_
 refine WP.vl rfl (Yld.nilCheck rfl rfl) ?_
 refine WP.vl rfl (Yld.fieldAddr rfl ty_fd_178_5 rfl) ?_
 refine WP.vl rfl (Yld.ld rfl ty_sc_3 rfl rfl) ?_
 refine WP.mv rfl rfl ?_
 refine WP.nil ?_
 refine WP.sub [(0, _), (2, _)] ?_ ⟨rfl, rfl, trivial⟩
 refine WP.next ?_
 refine WP.ret ?_
 refine WP.fn .ret (.inr rfl) (res1 rfl rfl) ((d, row 178 [.slice (some ⟨bp, 0, none⟩) (n * 64) (n * 64), .slice (some ⟨bn, 0, none⟩) (n * 64) (n * 64), _, .int .i64 x.left, .bool x.off, .int .i64 x.writes, .int .i64 x.syncs]) :: (bp, row 5 (bytesV x.plat)) :: (bn, row 5 (bytesV x.now)) :: Lw) (Imm.le_refl _) ?_
 exact ⟨rfl, rfl, rfl⟩

theorem disk_Syncs {I : Imm} {d n : Nat} {x : Dk} {L : Chunks} (hd : IsDisk d n x L) : Spec Tryz.prog 94 [.pointer (some ⟨d, 0, none⟩)] I L (fun v' J L' => v' = .int .i64 x.syncs ∧ I = J ∧ L = L') := by
 cases hd with
 | @mk bp bn vw Lw ok ow =>
 obtain ⟨n1, n2, lp, ln, hw, hl⟩ := id ok
 obtain ⟨Aw, cw, rfl, hcw⟩ := ow.slice
 refine Spec.of Tryz.func94 rfl Tryz.ntmps94 (Nat.le_of_ble_eq_true rfl) (fun F => ?_)
 try simp only [nf]
 dsimp only [argsEnv]
 refine WP.seq ?_
 refine WP.region [0] rfl ?_
 refine WP.mv rfl rfl ?_
 refine WP.nil ?_
 refine WP.next ?_
 refine WP.seq ?_
 refine WP.region [0, 1, 2, 3, 4] rfl ?_
 refine WP.mv rfl rfl ?_
 refine WP.vl rfl (Yld.nilCheck rfl rfl) ?_
 refine WP.vl rfl (Yld.fieldAddr rfl ty_fd_178_6 rfl) ?_
 refine WP.vl rfl (Yld.ld rfl ty_sc_3 rfl rfl) ?_
 refine WP.mv rfl rfl ?_
 refine WP.nil ?_
 refine WP.sub [(0, _), (2, _)] ?_ ⟨rfl, rfl, trivial⟩
 refine WP.next ?_
 refine WP.ret ?_
 refine WP.fn .ret (.inr rfl) (res1 rfl rfl) ((d, row 178 [.slice (some ⟨bp, 0, none⟩) (n * 64) (n * 64), .slice (some ⟨bn, 0, none⟩) (n * 64) (n * 64), _, .int .i64 x.left, .bool x.off, .int .i64 x.writes, .int .i64 x.syncs]) :: (bp, row 5 (bytesV x.plat)) :: (bn, row 5 (bytesV x.now)) :: Lw) (Imm.le_refl _) ?_
 exact ⟨rfl, rfl, rfl⟩

theorem disk_Sectors {I : Imm} {d n : Nat} {x : Dk} {L : Chunks} (hd : IsDisk d n x L) : Spec Tryz.prog 99 [.pointer (some ⟨d, 0, none⟩)] I L (fun v' J L' => v' = .int .i64 (n : Int) ∧ I = J ∧ L = L') := by
 cases hd with
 | @mk bp bn vw Lw ok ow =>
 obtain ⟨n1, n2, lp, ln, hw, hl⟩ := id ok
 obtain ⟨Aw, cw, rfl, hcw⟩ := ow.slice
 refine Spec.of Tryz.func99 rfl Tryz.ntmps99 (Nat.le_of_ble_eq_true rfl) (fun F => ?_)
 try simp only [nf]
 dsimp only [argsEnv]
 refine WP.seq ?_
 refine WP.region [0] rfl ?_
 refine WP.mv rfl rfl ?_
 refine WP.nil ?_
 refine WP.next ?_
 refine WP.seq ?_
 refine WP.region [0, 1, 2, 3, 4, 5, 6] rfl ?_
 refine WP.mv rfl rfl ?_
 refine WP.vl rfl (Yld.nilCheck rfl rfl) ?_
 refine WP.vl rfl (Yld.fieldAddr rfl ty_fd_178_0 rfl) ?_
 refine WP.vl rfl (Yld.ld rfl ty_sc_49 rfl rfl) ?_
 refine WP.vl rfl (Yld.len rfl ty_sl_49 rfl) ?_
 refine WP.vl rfl (Yld.quo64 rfl rfl rfl (by omega)) ?_
 refine WP.mv rfl rfl ?_
 refine WP.nil ?_
 refine WP.sub [(0, _), (2, _)] ?_ ⟨rfl, rfl, trivial⟩
 refine WP.next ?_
 refine WP.ret ?_
 refine WP.fn .ret (.inr rfl) (res1 rfl rfl) ((d, row 178 [.slice (some ⟨bp, 0, none⟩) (n * 64) (n * 64), .slice (some ⟨bn, 0, none⟩) (n * 64) (n * 64), _, .int .i64 x.left, .bool x.off, .int .i64 x.writes, .int .i64 x.syncs]) :: (bp, row 5 (bytesV x.plat)) :: (bn, row 5 (bytesV x.now)) :: Lw) (Imm.le_refl _) ?_
 exact ⟨congrArg (Value.int .i64) (by omega), rfl, rfl⟩


def Dk.cut (x : Dk) (a : Int) : Dk := { x with left := if -1 < a then a else -1 }
theorem Dk.cut_ok {n : Nat} {x : Dk} (h : x.ok n) {a : Int} (ha : a ≤ 9223372036854775807) : (x.cut a).ok n := ⟨h.n1, h.n2, h.lp, h.ln, h.hw, by simp only [Dk.cut]; split <;> omega⟩
def Dk.sync (x : Dk) : Dk := if x.off then x else { x with plat := x.now, waits := [], syncs := IntKind.i64.wrap (x.syncs + 1) }
theorem Dk.sync_ok {n : Nat} {x : Dk} (h : x.ok n) : x.sync.ok n := by
 unfold Dk.sync
 split
 ·exact h
 ·exact ⟨h.n1, h.n2, h.ln, h.ln, by simp, h.hl⟩
def Dk.read (x : Dk) (n : Nat) (at_ many : Int) : List UInt8 × Int :=
 if x.off then ([], 4) else if at_ < 0 ∨ many < 0 ∨ ¬ (many = 0 ∨ (at_ ≤ n ∧ many ≤ n - at_)) then ([], 1) else ((x.now.drop (at_.toNat * 64)).take (many.toNat * 64), 0)

theorem wcell_rd {V : Nat → Obj → Prop} {b T h : Nat} {e : Nat × List UInt8} (hs : e.2.length = 64) (hb : V b (row T (wcell e))) (hh : h ≤ 64) : SlRd V (subSl 1 0 h (.slice (some ⟨b, 1, none⟩) 64 64)) (h - 0) 1 (bytesV (e.2.take h)) := by
 have := SlAt.rd (sz := 1) (SlAt.sub (sz := 1) (l := 0) (h := h) (SlAt.arr (b := b) (k := 1) (n := 64)) (Nat.zero_le _) hh) hb (by rw [wcell_len hs]; omega)
 simpa [wcell, bytesV_take] using this
theorem SlRd.dropB {V : Nat → Obj → Prop} {v : Value} {bs : List UInt8} {l : Nat} (h : SlRd V v bs.length 1 (bytesV bs)) (hl : l ≤ bs.length) : SlRd V (subSl 1 l bs.length v) (bs.drop l).length 1 (bytesV (bs.drop l)) := by
 have := h.sub hl (Nat.le_refl _)
 rw [bytesV_drop, bytesV_take, Nat.mul_one, Nat.mul_one, List.take_of_length_le (by simp)] at this
 rw [List.length_drop]; exact this
def dec (l : Int) : Int := if 0 < l then l - 1 else l
def Dk.write1 (x : Dk) (at_ : Nat) (s : List UInt8) : Dk := { x with left := dec x.left, writes := IntKind.i64.wrap (x.writes + 1), waits := x.waits ++ [(at_, s)], now := x.now.take (at_ * 64) ++ s ++ x.now.drop (at_ * 64 + 64) }
def Dk.puts : Nat → Dk → Nat → List UInt8 → Dk × Int
 | 0, x, _, _ => (x, 0)
 | k + 1, x, at_, b => if x.left = 0 then ({ x with off := true, left := -1 }, 4) else Dk.puts k (x.write1 at_ (b.take 64)) (at_ + 1) (b.drop 64)
def Dk.write (x : Dk) (n : Nat) (at_ : Int) (bs : List UInt8) : Dk × Int :=
 if x.off then (x, 4) else if at_ < 0 ∨ bs.length % 64 ≠ 0 then (x, 1)
 else if ¬ (((bs.length / 64 : Nat) : Int) = 0 ∨ (at_ ≤ n ∧ ((bs.length / 64 : Nat) : Int) ≤ n - at_)) then (x, 3) else Dk.puts (bs.length / 64) x at_.toNat bs
theorem Dk.write1_ok {n at_ : Nat} {x : Dk} {s : List UInt8} (h : x.ok n) (hs : s.length = 64) (ha : at_ < n) : (x.write1 at_ s).ok n := by
 obtain ⟨n1, n2, lp, ln, hw, hl⟩ := h
 refine ⟨n1, n2, lp, by simp [Dk.write1, ln, hs]; omega, ?_, ?_⟩
 ·intro e he
  simp only [Dk.write1, List.mem_append, List.mem_singleton] at he
  rcases he with he | rfl
  ·exact hw e he
  ·exact ⟨ha, hs⟩
 ·simp only [Dk.write1, dec]; split <;> omega
structure WX where
 y : Dk
 at_ : Nat
 bs : List UInt8
 v : Value
 vw : Value
 Lw : Chunks
structure WX.ok (I : Imm) (n : Nat) (r : Dk × Int) (t : WX) : Prop where
 ok : t.y.ok n
 sl : SlRd (Im I) t.v t.bs.length 1 (bytesV t.bs)
 md : t.bs.length % 64 = 0
 rm : t.bs.length = 0 ∨ t.at_ + t.bs.length / 64 ≤ n
 ow : Own 299 65 t.vw (wcells t.y.waits) t.y.waits.length t.Lw
 eq : Dk.puts (t.bs.length / 64) t.y t.at_ t.bs = r
 wl : t.y.waits.length + t.bs.length / 64 ≤ 1954687338000
 bl : t.bs.length ≤ 1152921504606846976
theorem WX.next {I : Imm} {n : Nat} {r : Dk × Int} {y : Dk} {at_ : Nat} {bs : List UInt8} {v vw vw' : Value} {Lw Lw' : Chunks} (h : (⟨y, at_, bs, v, vw, Lw⟩ : WX).ok I n r) (hp : 0 < bs.length) (hz : ¬ y.left = 0)
  (ho : Own 299 65 vw' (wcells y.waits ++ wcell (at_, bs.take 64)) (y.waits.length + 1) Lw') : (⟨y.write1 at_ (bs.take 64), at_ + 1, bs.drop 64, subSl 1 64 bs.length v, vw', Lw'⟩ : WX).ok I n r := by
 obtain ⟨g1, g2, g3, g4, g5, g6, g7, g8⟩ := h
 simp only at g1 g2 g3 g4 g5 g6 g7 g8
 have hk : bs.length / 64 = (bs.drop 64).length / 64 + 1 := by rw [List.length_drop]; omega
 have ht : (bs.take 64).length = 64 := by rw [List.length_take]; omega
 refine ⟨Dk.write1_ok g1 ht (by omega), g2.dropB (by omega), by rw [List.length_drop]; omega, ?_, ?_, ?_, ?_, ?_⟩
 ·simp only [List.length_drop]; omega
 ·simp only [Dk.write1, wcells_app, List.length_append, List.length_cons, List.length_nil]
  simpa [wcells] using ho
 ·rw [hk, Dk.puts, if_neg hz] at g6; exact g6
 ·simp only [Dk.write1, List.length_append, List.length_cons, List.length_nil, List.length_drop]; omega
 ·simp only [List.length_drop]; omega

def keepN (k : Int) : Nat := if 64 ≤ k then 64 else if k ≤ 0 then 0 else k.toNat
theorem keepN_le (k : Int) : keepN k ≤ 64 := by unfold keepN; split <;> (try split) <;> omega
def torn (p : List UInt8) (e : Nat × List UInt8) (k : Int) : List UInt8 := p.take (e.1 * 64) ++ e.2.take (keepN k) ++ p.drop (e.1 * 64 + keepN k)
def tear : List UInt8 → List (Nat × List UInt8) → List Int → List UInt8
 | p, [], _ => p
 | p, e :: es, ks => tear (torn p e (ks.headD 0)) es ks.tail
theorem torn_len {n : Nat} {p : List UInt8} {e : Nat × List UInt8} {k : Int} (hp : p.length = n * 64) (he : e.1 < n ∧ e.2.length = 64) : (torn p e k).length = n * 64 := by
 have := keepN_le k
 obtain ⟨h1, h2⟩ := he
 simp only [torn, List.length_append, List.length_take, List.length_drop, hp, h2]
 omega
theorem tear_len {n : Nat} : ∀ (l : List (Nat × List UInt8)) (h : ∀ e ∈ l, e.1 < n ∧ e.2.length = 64) (p : List UInt8) (ks : List Int), p.length = n * 64 → (tear p l ks).length = n * 64
 | [], _, _, _, hp => hp
 | e :: l, h, p, ks, hp => tear_len l (fun x hx => h x (by simp [hx])) _ _ (torn_len hp (h e (by simp)))
def Dk.up (x : Dk) (ks : List Int) : Dk := { plat := tear x.plat x.waits ks, now := tear x.plat x.waits ks, waits := [], left := -1, off := false, writes := x.writes, syncs := x.syncs }
theorem Dk.up_ok {n : Nat} {x : Dk} (h : x.ok n) (ks : List Int) : (x.up ks).ok n := ⟨h.n1, h.n2, tear_len _ h.hw _ _ h.lp, tear_len _ h.hw _ _ h.lp, by simp [Dk.up], by simp [Dk.up]⟩
def kept (m : Nat) (ks : List Int) : List Int := ks.take m ++ List.replicate (m - ks.length) 0
theorem kept_len (m : Nat) (ks : List Int) : (kept m ks).length = m := by simp [kept]; omega
theorem kept_at {m : Nat} {ks : List Int} {i : Nat} (h : i < m) : ((kept m ks).map (Value.int .i64))[0 + i * 1]? = some (.int .i64 ((ks.drop i).headD 0)) := by
 rw [Nat.zero_add, Nat.mul_one, List.getElem?_map]
 have : (kept m ks)[i]? = some ((ks.drop i).headD 0) := by
  unfold kept
  by_cases hi : i < ks.length
  ·rw [List.getElem?_append_left (by simp; omega), List.getElem?_take, if_pos h, List.headD_eq_head?_getD, List.head?_drop]; simp [hi]
  ·rw [List.getElem?_append_right (by simp; omega), List.drop_of_length_le (by omega)]
   simp only [List.length_take, List.headD_nil]
   rw [List.getElem?_replicate, if_pos (by omega)]
 rw [this]; rfl
theorem ints0 (n : Nat) : (List.replicate n (Value.int .i64 0).cells.toList).flatten = (List.replicate n (0 : Int)).map (Value.int .i64) := by
 induction n with
 | zero => rfl
 | succ n ih => rw [List.replicate_succ, List.flatten_cons, ih]; simp [Value.cells, List.replicate_succ]
theorem kept_new (m : Nat) (ks : List Int) : (kept m ks).map (Value.int .i64) = splice ((List.replicate m (0 : Int)).map (Value.int .i64)) 0 ((ks.map (Value.int .i64)).take (Nat.min ks.length m * 1)) := by
 have e : Nat.min ks.length m = min ks.length m := rfl
 simp only [splice, kept, List.take_zero, List.nil_append, Nat.mul_one, e, List.map_append, List.map_take, Nat.zero_add, List.length_take, List.length_map]
 congr 1
 ·rcases Nat.le_total ks.length m with h | h
  ·rw [Nat.min_eq_left h, List.take_of_length_le (by simpa using h), List.take_of_length_le (by simp)]
  ·rw [Nat.min_eq_right h]
 ·rw [List.map_replicate, List.map_replicate, List.drop_replicate]
  congr 1; omega
structure UX where
 i : Nat
 p : List UInt8
structure UX.ok (n : Nat) (x : Dk) (ks : List Int) (t : UX) : Prop where
 le : t.i ≤ x.waits.length
 lp : t.p.length = n * 64
 eq : tear t.p (x.waits.drop t.i) (ks.drop t.i) = tear x.plat x.waits ks
theorem UX.next {n : Nat} {x : Dk} {ks : List Int} {i : Nat} {p : List UInt8} (h : (⟨i, p⟩ : UX).ok n x ks) (hx : x.ok n) (hi : i < x.waits.length) : (⟨i + 1, torn p x.waits[i] ((ks.drop i).headD 0)⟩ : UX).ok n x ks := by
 obtain ⟨h1, h2, h3⟩ := h
 simp only at h1 h2 h3
 refine ⟨hi, torn_len h2 (hx.hw _ (List.getElem_mem hi)), ?_⟩
 rw [← h3, List.drop_eq_getElem_cons hi, tear, List.tail_drop]

def leP (m k i : Nat) : List UInt8 := leB m i ++ List.replicate (k - i) 0
theorem leP_len {m k i : Nat} (h : i ≤ k) : (leP m k i).length = k := by simp [leP, leB_len]; omega
theorem leP_set {m k i : Nat} (h : i < k) : SetAt (bytesV (leP m k i)) (0 + i * 1) (byteV (UInt8.ofNat (m / 2 ^ (8 * i)))) (bytesV (leP m k (i + 1))) := by
 have hs := set_byte (l := leP m k i) (k := i) (UInt8.ofNat (m / 2 ^ (8 * i))) (by rw [leP_len (by omega)]; exact h)
 have e : (leP m k i).set i (UInt8.ofNat (m / 2 ^ (8 * i))) = leP m k (i + 1) := by
  unfold leP
  rw [List.set_append_right _ _ (by rw [leB_len]; omega), leB_len, Nat.sub_self, show k - i = (k - (i + 1)) + 1 by omega, List.replicate_succ, List.set_cons_zero]
  simp [leB]
 rwa [e] at hs
theorem leP_full (m k : Nat) : leP m k k = leB m k := by simp [leP]
theorem super_in {I : Imm} {a lo hi : Int} : Spec Tryz.prog 186 [.int .i64 a, .int .i64 lo, .int .i64 hi] I [] (fun v J L => v = .bool (decide (lo ≤ a ∧ a ≤ hi)) ∧ I = J ∧ L = []) := by
 refine Spec.of Tryz.func186 rfl Tryz.ntmps186 (Nat.le_of_ble_eq_true rfl) (fun F => ?_)
 try simp only [nf]
 dsimp only [argsEnv]
 refine WP.seq ?_
 refine WP.region [0] rfl ?_
 refine WP.mv rfl rfl ?_
 refine WP.nil ?_
 refine WP.next ?_
 refine WP.seq ?_
 refine WP.region [0, 1, 2, 3, 4, 5, 6, 7, 8] rfl ?_
 iterate 2 refine WP.mv rfl rfl ?_
 refine WP.split rfl rfl rfl rfl (Yld.geq rfl rfl rfl) (fun h1 => ?_) (fun h1 => ?_)
 ·refine WP.mv rfl rfl ?_
  refine WP.valG rfl rfl rfl rfl rfl rfl rfl (Yld.move rfl rfl) ?_
  refine WP.valG rfl rfl rfl rfl rfl rfl rfl (Yld.move rfl rfl) ?_
  refine WP.splitG rfl rfl rfl rfl rfl rfl rfl (Yld.leq rfl rfl rfl) (fun h2 => ?_) (fun h2 => ?_)
  ·refine WP.vl rfl (Yld.pickT rfl rfl rfl) ?_
   refine WP.mv rfl rfl ?_
   refine WP.nil ?_
   refine WP.sub [(0, _), (1, _), (2, _), (6, _)] ?_ ⟨rfl, rfl, rfl, rfl, trivial⟩
   refine WP.next ?_
   refine WP.ret ?_
   refine WP.fn .ret (.inr rfl) (res1 rfl rfl) [] (Imm.le_refl _) ?_
   exact ⟨congrArg Value.bool (by simp; omega), rfl, rfl⟩
  ·refine WP.vl rfl (Yld.pickT rfl rfl rfl) ?_
   refine WP.mv rfl rfl ?_
   refine WP.nil ?_
   refine WP.sub [(0, _), (1, _), (2, _), (6, _)] ?_ ⟨rfl, rfl, rfl, rfl, trivial⟩
   refine WP.next ?_
   refine WP.ret ?_
   refine WP.fn .ret (.inr rfl) (res1 rfl rfl) [] (Imm.le_refl _) ?_
   exact ⟨congrArg Value.bool (by simp; omega), rfl, rfl⟩
 ·refine WP.mv rfl rfl ?_
  refine WP.passG rfl rfl rfl rfl rfl rfl rfl rfl ?_
  refine WP.passG rfl rfl rfl rfl rfl rfl rfl rfl ?_
  refine WP.passG rfl rfl rfl rfl rfl rfl rfl rfl ?_
  refine WP.vl rfl (Yld.pickF rfl rfl rfl) ?_
  refine WP.mv rfl rfl ?_
  refine WP.nil ?_
  refine WP.sub [(0, _), (1, _), (2, _), (6, _)] ?_ ⟨rfl, rfl, rfl, rfl, trivial⟩
  refine WP.next ?_
  refine WP.ret ?_
  refine WP.fn .ret (.inr rfl) (res1 rfl rfl) [] (Imm.le_refl _) ?_
  exact ⟨congrArg Value.bool (by simp; omega), rfl, rfl⟩


theorem leN_mod (m : Nat) : ∀ k, leN (leB m k) = m % 2 ^ (8 * k)
 | 0 => by simp [leB, leN, Nat.mod_one]
 | k + 1 => by
  rw [leB, leN_app, leN_mod m k, leB_len, UInt8.toNat_ofNat', show 8 * (k + 1) = 8 * k + 8 by omega, Nat.pow_add, Nat.mod_mul]
  congr 1
  exact Nat.mul_comm _ _
theorem leN_leB {m k : Nat} (h : m < 2 ^ (8 * k)) : leN (leB m k) = m := by rw [leN_mod, Nat.mod_eq_of_lt h]


def cut (bs : List UInt8) (l h : Nat) : List UInt8 := (bs.drop l).take (h - l)


theorem cut_mid {a b c : List UInt8} {l h : Nat} (ha : a.length = l) (hb : l + b.length = h) : cut (a ++ (b ++ c)) l h = b := by
 unfold cut
 rw [List.drop_append_of_le_length (by omega), List.drop_of_length_le (by omega), List.nil_append, List.take_append_of_le_length (by omega), List.take_of_length_le (by omega)]


theorem cut_len {bs : List UInt8} {l h : Nat} (hh : h ≤ bs.length) : (cut bs l h).length = h - l := by simp [cut]; omega


theorem leN_cat : ∀ (a b : List UInt8), leN (a ++ b) = leN a + 2 ^ (8 * a.length) * leN b
 | [], b => by simp [leN]
 | x :: a, b => by
  simp only [List.cons_append, leN, leN_cat a b, List.length_cons]
  rw [show 8 * (a.length + 1) = 8 * a.length + 8 by omega, Nat.pow_add, Nat.mul_add, Nat.add_assoc]
  congr 2
  rw [Nat.mul_comm (2 ^ (8 * a.length)) (2 ^ 8), Nat.mul_assoc]
theorem leN_inj : ∀ (a b : List UInt8), a.length = b.length → leN a = leN b → a = b
 | [], [], _, _ => rfl
 | x :: a, y :: b, hl, h => by
  simp only [leN] at h
  have hx := x.toNat_lt
  have hy := y.toNat_lt
  have e1 : x.toNat = y.toNat := by omega
  have e2 : leN a = leN b := by omega
  rw [UInt8.toNat_inj.1 e1, leN_inj a b (by simpa using hl) e2]


/-- A part. -/
structure Pt where
 place : Int
 no : Int
 index : Int
 era : Int
 parts : Int
 data : List UInt8
def ptV (p : Pt) (v : Value) : List Value := [.int .i64 p.place, .int .i64 p.no, .int .i64 p.index, .int .i64 p.era, .int .i64 p.parts, v]
def ptZ : Pt := ⟨0, 0, 0, 0, 0, []⟩
structure Pt.may (p : Pt) : Prop where
 place : 0 ≤ p.place ∧ p.place ≤ 1099511627776
 no : 1 ≤ p.no ∧ p.no ≤ 1099511627776
 era : 1 ≤ p.era ∧ p.era ≤ 4294967295
 parts : 1 ≤ p.parts ∧ p.parts ≤ 64
 index : 0 ≤ p.index ∧ p.index ≤ p.parts - 1
 data : p.data.length = 198 ∨ (p.index = p.parts - 1 ∧ 1 ≤ p.data.length ∧ p.data.length ≤ 198)
instance (p : Pt) : Decidable p.may := decidable_of_iff ((0 ≤ p.place ∧ p.place ≤ 1099511627776) ∧ (1 ≤ p.no ∧ p.no ≤ 1099511627776) ∧ (1 ≤ p.era ∧ p.era ≤ 4294967295) ∧ (1 ≤ p.parts ∧ p.parts ≤ 64) ∧ (0 ≤ p.index ∧ p.index ≤ p.parts - 1) ∧ (p.data.length = 198 ∨ (p.index = p.parts - 1 ∧ 1 ≤ p.data.length ∧ p.data.length ≤ 198))) ⟨fun h => ⟨h.1, h.2.1, h.2.2.1, h.2.2.2.1, h.2.2.2.2.1, h.2.2.2.2.2⟩, fun h => ⟨h.place, h.no, h.era, h.parts, h.index, h.data⟩⟩
theorem Pt.may.len {p : Pt} (h : p.may) : 1 ≤ p.data.length ∧ p.data.length ≤ 198 := by rcases h.data with h | h <;> omega
def phead (p : Pt) : List UInt8 := [80, 66] ++ (leB p.parts.toNat 1 ++ (leB p.index.toNat 1 ++ (leB p.data.length 2 ++ (leB p.no.toNat 6 ++ (leB p.place.toNat 6 ++ leB p.era.toNat 4)))))
theorem phead_len (p : Pt) : (phead p).length = 22 := by simp [phead, leB_len]
/-- What is summed. -/
def pin (p : Pt) : List UInt8 := phead p ++ (p.data ++ List.replicate (198 - p.data.length) 0)
theorem pin_len {p : Pt} (h : p.data.length ≤ 198) : (pin p).length = 220 := by simp [pin, phead_len]; omega
def pfull (p : Pt) : List UInt8 := pin p ++ leB (crcOf (pin p)).toNat 4
theorem pfull_len {p : Pt} (h : p.data.length ≤ 198) : (pfull p).length = 224 := by simp [pfull, pin_len h, leB_len]
def ptag (p : Pt) : List UInt8 := leB p.place.toNat 4 ++ leB p.era.toNat 4
theorem ptag_len (p : Pt) : (ptag p).length = 8 := by simp [ptag, leB_len]
def psecs (f t : List UInt8) : Nat → List UInt8
 | 0 => []
 | i + 1 => psecs f t i ++ (cut f (i * 56) ((i + 1) * 56) ++ t)
/-- A block's bytes. -/
def penc (p : Pt) : List UInt8 := psecs (pfull p) (ptag p) 4
theorem cutf_len {f : List UInt8} (hf : f.length = 224) {i : Nat} (hi : i < 4) : (cut f (i * 56) ((i + 1) * 56)).length = 56 := by rw [cut_len (by omega)]; omega
theorem psecs_len {f t : List UInt8} (hf : f.length = 224) (ht : t.length = 8) : ∀ i, i ≤ 4 → (psecs f t i).length = i * 64
 | 0, _ => by simp [psecs]
 | i + 1, h => by rw [psecs, List.length_append, List.length_append, psecs_len hf ht i (by omega), cutf_len hf (by omega), ht]; omega
theorem penc_len {p : Pt} (h : p.data.length ≤ 198) : (penc p).length = 256 := psecs_len (pfull_len h) (ptag_len p) 4 (by omega)
def strip (b : List UInt8) : Nat → List UInt8
 | 0 => []
 | i + 1 => strip b i ++ (cut b (i * 64) ((i + 1) * 64)).take 56
theorem strip_len {b : List UInt8} (hb : b.length = 256) : ∀ i, i ≤ 4 → (strip b i).length = i * 56
 | 0, _ => by simp [strip]
 | i + 1, h => by rw [strip, List.length_append, List.length_take, cut_len (by omega), strip_len hb i (by omega)]; omega
theorem cut_app {a b c : List UInt8} {l h : Nat} (ha : a.length = l) (hb : l + b.length = h) : cut ((a ++ b) ++ c) l h = b := by rw [List.append_assoc]; exact cut_mid ha hb
theorem penc_four (f t : List UInt8) : psecs f t 4 = (cut f 0 56 ++ t) ++ ((cut f 56 112 ++ t) ++ ((cut f 112 168 ++ t) ++ (cut f 168 224 ++ t))) := by simp [psecs]
theorem penc_sec {f t : List UInt8} (hf : f.length = 224) (ht : t.length = 8) {i : Nat} (hi : i < 4) : cut (psecs f t 4) (i * 64) ((i + 1) * 64) = cut f (i * 56) ((i + 1) * 56) ++ t := by
 have c : ∀ i, i < 4 → (cut f (i * 56) ((i + 1) * 56) ++ t).length = 64 := fun i hi => by rw [List.length_append, cutf_len hf hi, ht]
 have c0 : (cut f 0 56 ++ t).length = 64 := c 0 (by omega)
 have c1 : (cut f 56 112 ++ t).length = 64 := c 1 (by omega)
 have c2 : (cut f 112 168 ++ t).length = 64 := c 2 (by omega)
 have c3 : (cut f 168 224 ++ t).length = 64 := c 3 (by omega)
 rw [penc_four]
 match i, hi with
 | 0, _ => exact cut_mid (a := []) rfl (by rw [c0])
 | 1, _ => exact cut_mid c0 (by rw [c1])
 | 2, _ => rw [← List.append_assoc]; exact cut_mid (by rw [List.length_append, c0, c1]) (by rw [c2])
 | 3, _ =>
  have e : (cut f 0 56 ++ t) ++ ((cut f 56 112 ++ t) ++ ((cut f 112 168 ++ t) ++ (cut f 168 224 ++ t))) = ((cut f 0 56 ++ t) ++ ((cut f 56 112 ++ t) ++ (cut f 112 168 ++ t))) ++ ((cut f 168 224 ++ t) ++ []) := by simp
  rw [e]; exact cut_mid (by simp only [List.length_append] at c0 c1 c2 ⊢; omega) (by rw [c3])
theorem take_cut (f : List UInt8) (i : Nat) : f.take (i * 56) ++ cut f (i * 56) ((i + 1) * 56) = f.take ((i + 1) * 56) := by
 unfold cut
 rw [show (i + 1) * 56 - i * 56 = 56 by omega, show (i + 1) * 56 = i * 56 + 56 by omega, List.take_add]
theorem strip_penc {f t : List UInt8} (hf : f.length = 224) (ht : t.length = 8) : ∀ i, i ≤ 4 → strip (psecs f t 4) i = f.take (i * 56)
 | 0, _ => by simp [strip]
 | i + 1, h => by rw [strip, strip_penc hf ht i (by omega), penc_sec hf ht (by omega), List.take_append_of_le_length (by rw [cutf_len hf (by omega)]; exact Nat.le_refl _), List.take_of_length_le (l := cut f _ _) (by rw [cutf_len hf (by omega)]; exact Nat.le_refl _), take_cut]
theorem strip_full {p : Pt} (h : p.data.length ≤ 198) : strip (penc p) 4 = pfull p := by
 unfold penc
 rw [strip_penc (pfull_len h) (ptag_len p) 4 (by omega), List.take_of_length_le (by rw [pfull_len h]; decide)]
def pmany (c : List UInt8) : Nat := leN (cut c 4 6)
def byteN (c : List UInt8) (i : Nat) : Nat := (c.getD i 0).toNat
def decP (c : List UInt8) : Pt := ⟨leN (cut c 12 18), leN (cut c 6 12), byteN c 3, leN (cut c 18 22), byteN c 2, cut c 22 (22 + pmany c)⟩
/-- What a block's bytes say. -/
def pdec (b : List UInt8) : Option Pt := if b.length = 256 ∧ pmany (strip b 4) ≤ 198 ∧ (decP (strip b 4)).may ∧ penc (decP (strip b 4)) = b then some (decP (strip b 4)) else none
theorem pdec_some {b : List UInt8} (h : b.length = 256 ∧ pmany (strip b 4) ≤ 198 ∧ (decP (strip b 4)).may ∧ penc (decP (strip b 4)) = b) : pdec b = some (decP (strip b 4)) := if_pos h
theorem pdec_none {b : List UInt8} (h : ¬ (b.length = 256 ∧ pmany (strip b 4) ≤ 198 ∧ (decP (strip b 4)).may ∧ penc (decP (strip b 4)) = b)) : pdec b = none := if_neg h
theorem pdec_is {b : List UInt8} {p : Pt} (h : pdec b = some p) : p.may ∧ penc p = b ∧ b.length = 256 := by
 unfold pdec at h
 split at h
 ·rename_i hh; cases h; exact ⟨hh.2.2.1, hh.2.2.2, hh.1⟩
 ·cases h
theorem leB1 {m : Nat} (h : m < 256) : leB m 1 = [UInt8.ofNat m] := by simp [leB]
theorem full_dec {p : Pt} (h : p.may) : pmany (pfull p) = p.data.length ∧ decP (pfull p) = p := by
 obtain ⟨h1, h2, h3, h4, h5, h6⟩ := id h
 have hl := h.len
 have k1 : (leB p.parts.toNat 1).length = 1 := leB_len _ _
 have k2 : (leB p.index.toNat 1).length = 1 := leB_len _ _
 have k3 : (leB p.data.length 2).length = 2 := leB_len _ _
 have k4 : (leB p.no.toNat 6).length = 6 := leB_len _ _
 have k5 : (leB p.place.toNat 6).length = 6 := leB_len _ _
 have k6 : (leB p.era.toNat 4).length = 4 := leB_len _ _
 generalize hr : p.data ++ List.replicate (198 - p.data.length) 0 ++ leB (crcOf (pin p)).toNat 4 = r
 have e : pfull p = [80, 66] ++ (leB p.parts.toNat 1 ++ (leB p.index.toNat 1 ++ (leB p.data.length 2 ++ (leB p.no.toNat 6 ++ (leB p.place.toNat 6 ++ (leB p.era.toNat 4 ++ r)))))) := by rw [← hr]; simp [pfull, pin, phead]
 have c1 : cut (pfull p) 4 6 = leB p.data.length 2 := by
  rw [e, ← List.append_assoc, ← List.append_assoc]; exact cut_mid (by simp [k1, k2]) (by rw [k3])
 have c2 : cut (pfull p) 6 12 = leB p.no.toNat 6 := by
  rw [e, ← List.append_assoc, ← List.append_assoc, ← List.append_assoc]; exact cut_mid (by simp [k1, k2, k3]) (by rw [k4])
 have c3 : cut (pfull p) 12 18 = leB p.place.toNat 6 := by
  rw [e, ← List.append_assoc, ← List.append_assoc, ← List.append_assoc, ← List.append_assoc]; exact cut_mid (by simp [k1, k2, k3, k4]) (by rw [k5])
 have c4 : cut (pfull p) 18 22 = leB p.era.toNat 4 := by
  rw [e, ← List.append_assoc, ← List.append_assoc, ← List.append_assoc, ← List.append_assoc, ← List.append_assoc]; exact cut_mid (by simp [k1, k2, k3, k4, k5]) (by rw [k6])
 have hm : pmany (pfull p) = p.data.length := by unfold pmany; rw [c1, leN_leB (by omega)]
 have c5 : cut (pfull p) 22 (22 + p.data.length) = p.data := by
  have e2 : pfull p = phead p ++ (p.data ++ (List.replicate (198 - p.data.length) 0 ++ leB (crcOf (pin p)).toNat 4)) := by simp [pfull, pin]
  rw [e2]; exact cut_mid (phead_len p) rfl
 have c6 : byteN (pfull p) 2 = p.parts.toNat := by
  rw [leB1 (m := p.parts.toNat) (by omega)] at e
  unfold byteN
  rw [e]
  show (UInt8.ofNat p.parts.toNat).toNat = _
  rw [UInt8.toNat_ofNat']; omega
 have c7 : byteN (pfull p) 3 = p.index.toNat := by
  rw [leB1 (m := p.parts.toNat) (by omega), leB1 (m := p.index.toNat) (by omega)] at e
  unfold byteN
  rw [e]
  show (UInt8.ofNat p.index.toNat).toNat = _
  rw [UInt8.toNat_ofNat']; omega
 refine ⟨hm, ?_⟩
 unfold decP
 rw [hm, c2, c3, c4, c5, c6, c7, leN_leB (by omega), leN_leB (by omega), leN_leB (by omega)]
 cases p
 simp only [Pt.mk.injEq] at *
 refine ⟨?_, ?_, ?_, ?_, ?_, trivial⟩ <;> omega
/-- What was written is read. -/
theorem pdec_enc {p : Pt} (h : p.may) : pdec (penc p) = some p := by
 obtain ⟨h1, h2⟩ := full_dec h
 have e := strip_full h.len.2
 rw [pdec_some (by rw [e, h1, h2]; exact ⟨penc_len h.len.2, h.len.2, h, rfl⟩), e, h2]

end Go.Hp
