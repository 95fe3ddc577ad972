import Derived.Test.YtcnfcdlapbjgeaaHpBytes
import Derived.Test.YtcnfcdlapbjgeaaTy
set_option linter.unusedVariables false
set_option linter.unusedSimpArgs false
namespace Go.Hp
open Go Go.Proofs

/-- A disk. -/
structure Dk where
 plat : List UInt8
 now : List UInt8
 waits : List (Nat × List UInt8)
 left : Int
 off : Bool
 writes : Int
 syncs : Int
def wcell (x : Nat × List UInt8) : List Value := .int .i64 (x.1 : Int) :: bytesV x.2
def wcells (l : List (Nat × List UInt8)) : List Value := l.flatMap wcell
structure Dk.ok (n : Nat) (x : Dk) : Prop where
 n1 : 1 ≤ n
 n2 : n ≤ 8192
 lp : x.plat.length = n * 64
 ln : x.now.length = n * 64
 hw : ∀ e ∈ x.waits, e.1 < n ∧ e.2.length = 64
 hl : -1 ≤ x.left ∧ x.left ≤ 9223372036854775807
def sl64 (b n : Nat) : Value := .slice (some ⟨b, 0, none⟩) (n * 64) (n * 64)
def dkRow (bp bn n : Nat) (vw : Value) (x : Dk) : List Value := [.slice (some ⟨bp, 0, none⟩) (n * 64) (n * 64), .slice (some ⟨bn, 0, none⟩) (n * 64) (n * 64), vw, .int .i64 x.left, .bool x.off, .int .i64 x.writes, .int .i64 x.syncs]
inductive IsDisk (d n : Nat) (x : Dk) : Chunks → Prop
 | mk {bp bn : Nat} {vw : Value} {Lw : Chunks} (ok : x.ok n) (ow : Own 105 65 vw (wcells x.waits) x.waits.length Lw) :
  IsDisk d n x ((d, row 101 [.slice (some ⟨bp, 0, none⟩) (n * 64) (n * 64), .slice (some ⟨bn, 0, none⟩) (n * 64) (n * 64), vw, .int .i64 x.left, .bool x.off, .int .i64 x.writes, .int .i64 x.syncs]) :: (bp, row 5 (bytesV x.plat)) :: (bn, row 5 (bytesV x.now)) :: Lw)
def Im (I : Imm) : Nat → Obj → Prop := fun b o => I.blk b = some o
theorem Im.there {I : Imm} {L : Chunks} (b : Nat) (o : Obj) (h : Im I b o) : There I L b o := There.i h
theorem wcell_len {e : Nat × List UInt8} (h : e.2.length = 64) : (wcell e).length = 65 := by simp [wcell, bytesV_len, h]
theorem wcell_one (e : Nat × List UInt8) : (wcell e).all (·.oneCell') = true := by
 simp only [wcell, List.all_cons, bytesV_one, Bool.and_true]; rfl
theorem wcells_app (l m : List (Nat × List UInt8)) : wcells (l ++ m) = wcells l ++ wcells m := by simp [wcells]
theorem wcells_one' (l : List (Nat × List UInt8)) : (wcells l).all (·.oneCell') = true := by
 induction l with
 | nil => rfl
 | cons e l ih => simp only [wcells, List.flatMap_cons, List.all_append, wcell_one, Bool.true_and]; exact ih
theorem wcells_at {n : Nat} : ∀ {l : List (Nat × List UInt8)} (h : ∀ e ∈ l, e.1 < n ∧ e.2.length = 64) {i : Nat} (hi : i < l.length) (sp : List Value), ((wcells l ++ sp).drop (0 + i * 65)).take 65 = wcell l[i]
 | [], _, _, hi, _ => by simp at hi
 | e :: l, h, 0, _, sp => by
  have := wcell_len (h e (by simp)).2
  simp [wcells, this]
 | e :: l, h, i + 1, hi, sp => by
  have h1 := wcell_len (h e (by simp)).2
  have h2 := wcells_at (l := l) (fun x hx => h x (by simp [hx])) (i := i) (by simpa using hi) sp
  rw [List.getElem_cons_succ, ← h2]
  simp only [wcells, List.flatMap_cons, List.append_assoc]
  rw [List.drop_append, List.drop_of_length_le (by omega), List.nil_append]
  congr 2
  omega
theorem bytes0 (n : Nat) : (List.replicate n (Value.int .u8 0).cells.toList).flatten = bytesV (List.replicate n (0 : UInt8)) := by
 induction n with
 | zero => rfl
 | succ n ih => rw [List.replicate_succ, List.flatten_cons, ih]; simp [Value.cells, List.replicate_succ, bytesV, byteV]

def Dk.new (n : Nat) : Dk := ⟨List.replicate (n * 64) 0, List.replicate (n * 64) 0, [], -1, false, 0, 0⟩
theorem Dk.new_ok {n : Nat} (h1 : 1 ≤ n) (h2 : n ≤ 8192) : (Dk.new n).ok n := ⟨h1, h2, by simp [Dk.new], by simp [Dk.new], by simp [Dk.new], by simp [Dk.new]⟩
theorem disk_New_bad {I : Imm} {v : Int} (hb : v < 1 ∨ 8192 < v) : Spec Try.prog 32 [.int .i64 v] I [] (fun v' J L => v' = .tuple #[.pointer none, .int .i64 1] ∧ I = J ∧ L = []) := by
 refine Spec.of Try.func32 rfl Try.ntmps32 (Nat.le_of_ble_eq_true rfl) (fun F => ?_)
 try simp only [nf]
 dsimp only [argsEnv]
 refine WP.seq ?_
 refine WP.region [0, 1] rfl ?_
 iterate 2 refine WP.mv rfl rfl ?_
 refine WP.nil ?_
 refine WP.next ?_
 refine WP.seq ?_
 refine WP.seq ?_
 refine WP.region [0, 1, 2, 3, 4, 5] rfl ?_
 refine WP.mv rfl rfl ?_
 refine WP.split rfl rfl rfl rfl (Yld.lss rfl rfl rfl) (fun h1 => ?_) (fun h1 => ?_)
 ·refine WP.mv rfl rfl ?_
  refine WP.passG rfl rfl rfl rfl rfl rfl rfl rfl ?_
  refine WP.passG rfl rfl rfl rfl rfl rfl rfl rfl ?_
  refine WP.vl rfl (Yld.pickT rfl rfl rfl) ?_
  refine WP.nil ?_
  refine WP.sub [(0, _), (2, _), (3, _), (10, _)] ?_ ⟨rfl, rfl, rfl, rfl, trivial⟩
  refine WP.next ?_
  refine WP.condT rfl ?_
  refine WP.seq ?_
  refine WP.region [0, 1] rfl ?_
  iterate 2 refine WP.mv rfl rfl ?_
  refine WP.nil ?_
  refine WP.next ?_
  refine WP.ret ?_
  refine WP.fn .ret (.inr rfl) (res2 rfl rfl rfl) [] (Imm.le_refl _) ?_
  exact ⟨rfl, rfl, rfl⟩
 ·refine WP.mv rfl rfl ?_
  refine WP.valG rfl rfl rfl rfl rfl rfl rfl (Yld.move rfl rfl) ?_
  refine WP.splitG rfl rfl rfl rfl rfl rfl rfl (Yld.gtr rfl rfl rfl) (fun h2 => ?_) (fun h2 => ?_)
  ·refine WP.vl rfl (Yld.pickF rfl rfl rfl) ?_
   refine WP.nil ?_
   refine WP.sub [(0, _), (2, _), (3, _), (10, _)] ?_ ⟨rfl, rfl, rfl, rfl, trivial⟩
   refine WP.next ?_
   refine WP.condT rfl ?_
   refine WP.seq ?_
   refine WP.region [0, 1] rfl ?_
   iterate 2 refine WP.mv rfl rfl ?_
   refine WP.nil ?_
   refine WP.next ?_
   refine WP.ret ?_
   refine WP.fn .ret (.inr rfl) (res2 rfl rfl rfl) [] (Imm.le_refl _) ?_
   exact ⟨rfl, rfl, rfl⟩
  ·exact absurd hb (by omega)

theorem disk_New {I : Imm} {n : Nat} (h1 : 1 ≤ n) (h2 : n ≤ 8192) : Spec Try.prog 32 [.int .i64 (n : Int)] I [] (fun v' J L => I = J ∧ ∃ d, v' = .tuple #[.pointer (some ⟨d, 0, none⟩), .int .i64 0] ∧ IsDisk d n (Dk.new n) L) := by
 refine Spec.of Try.func32 rfl Try.ntmps32 (Nat.le_of_ble_eq_true rfl) (fun F => ?_)
 try simp only [nf]
 dsimp only [argsEnv]
 refine WP.seq ?_
 refine WP.region [0, 1] rfl ?_
 iterate 2 refine WP.mv rfl rfl ?_
 refine WP.nil ?_
 refine WP.next ?_
 refine WP.seq ?_
 refine WP.seq ?_
 refine WP.region [0, 1, 2, 3, 4, 5] rfl ?_
 refine WP.mv rfl rfl ?_
 refine WP.vl rfl (Yld.lss rfl rfl rfl false (decide_eq_false (by omega))) ?_
 refine WP.mv rfl rfl ?_
 refine WP.valG rfl rfl rfl rfl rfl rfl rfl (Yld.move rfl rfl) ?_
 refine WP.valG rfl rfl rfl rfl rfl rfl rfl (Yld.gtr rfl rfl rfl false (decide_eq_false (by omega))) ?_
 refine WP.vl rfl (Yld.pickF rfl rfl rfl) ?_
 refine WP.nil ?_
 refine WP.sub [(0, _), (2, _), (3, _), (10, _)] ?_ ⟨rfl, rfl, rfl, rfl, trivial⟩
 refine WP.next ?_
 refine WP.condF rfl ?_
 refine WP.skip ?_
 refine WP.next ?_
 refine WP.seq ?_
 refine WP.region [0, 1, 2] rfl ?_
 refine WP.mv rfl rfl ?_
 refine WP.vl rfl (Yld.mul64 rfl rfl rfl (by omega)) ?_
 refine WP.mv rfl rfl ?_
 refine WP.nil ?_
 refine WP.sub [(0, _), (2, _), (3, _), (4, _), (10, _)] ?_ ⟨rfl, rfl, rfl, rfl, rfl, trivial⟩
 refine WP.next ?_
 refine WP.seq ?_
 refine WD.start Trymixed 5 (fun _ _ => False) (fun _ _ => False) (fun _ _ h => h.elim) (fun _ _ h => h.elim) 8 [false, false, false, false, false, false, false, false] rfl rfl ?_
 refine WD.val (i := 0) rfl rfl rfl rfl (by kernel_rfl) rfl (Yld.move rfl rfl) ?_
 refine WD.val (i := 2) rfl rfl rfl rfl (by kernel_rfl) rfl (Yld.move rfl rfl) ?_
 refine WD.both (i := 1) (j := 3) (by kernel_rfl) rfl rfl ?_ ?_
 ·refine WP.oper rfl rfl ?_
  refine Op.make (l := n * 64) (c := n * 64) rfl ty_sl_46 ty_el_46 rfl rfl rfl (congrArg (fun z => some (Value.int .i64 z)) (by omega)) (congrArg (fun z => some (Value.int .i64 z)) (by omega)) (Nat.le_refl _) (by omega) (by omega) (fun bp => ?_)
  rw [bytes0]
  refine WD.go (.inr (fun _ _ h => h.elim)) (fun _ _ h => h.elim) ?_
  refine WD.loud (i := 3) (by kernel_rfl) rfl rfl rfl ?_
  refine Op.make (l := n * 64) (c := n * 64) rfl ty_sl_46 ty_el_46 rfl rfl rfl (congrArg (fun z => some (Value.int .i64 z)) (by omega)) (congrArg (fun z => some (Value.int .i64 z)) (by omega)) (Nat.le_refl _) (by omega) (by omega) (fun bn => ?_)
  rw [bytes0]
  refine WD.go (.inr (fun _ _ h => h.elim)) (fun _ _ h => h.elim) ?_
  refine WD.val (i := 4) rfl rfl rfl rfl (by kernel_rfl) rfl (Yld.buildS (pl := [(0, 0, 1), (1, 1, 1), (3, 3, 1)]) rfl ty_zr_101 ty_zd_101 (by kernel_rfl) rfl (vs := [_, _, _]) rfl (segs := [(0, [_]), (1, [_]), (3, [_])]) rfl rfl (by repeat (first | exact SetSeg.nil | apply SetSeg.one | exact SetAt.zero | apply SetAt.succ))) ?_
  refine WD.loud (i := 5) (by kernel_rfl) rfl rfl rfl ?_
  refine Op.box rfl rfl rfl rfl rfl (fun d => ?_)
  refine WD.go (.inl rfl) (fun _ _ h => h.elim) ?_
  refine WD.val (i := 6) rfl rfl rfl rfl (by kernel_rfl) rfl (Yld.assign rfl rfl) ?_
  refine WD.val (i := 7) rfl rfl rfl rfl (by kernel_rfl) rfl (Yld.assign rfl rfl) ?_
  refine WD.done (by kernel_rfl) ?_
  refine WP.sub [(0, _), (2, _), (3, _), (4, _), (10, _)] ?_ ⟨rfl, rfl, rfl, rfl, rfl, trivial⟩
  refine WP.next ?_
  refine WP.ret ?_
  refine WP.fn .ret (.inr rfl) (res2 rfl rfl rfl) [(d, row 101 _), (bp, row 5 _), (bn, row 5 _)] (Imm.le_refl _) ?_
  exact ⟨rfl, d, rfl, .mk (vw := .slice none 0 0) (Lw := []) (Dk.new_ok h1 h2) .none0⟩
 ·refine WP.oper rfl rfl ?_
  refine Op.make (l := n * 64) (c := n * 64) rfl ty_sl_46 ty_el_46 rfl rfl rfl (congrArg (fun z => some (Value.int .i64 z)) (by omega)) (congrArg (fun z => some (Value.int .i64 z)) (by omega)) (Nat.le_refl _) (by omega) (by omega) (fun bn => ?_)
  rw [bytes0]
  refine WD.go (.inr (fun _ _ h => h.elim)) (fun _ _ h => h.elim) ?_
  refine WD.loud (i := 1) (by kernel_rfl) rfl rfl rfl ?_
  refine Op.make (l := n * 64) (c := n * 64) rfl ty_sl_46 ty_el_46 rfl rfl rfl (congrArg (fun z => some (Value.int .i64 z)) (by omega)) (congrArg (fun z => some (Value.int .i64 z)) (by omega)) (Nat.le_refl _) (by omega) (by omega) (fun bp => ?_)
  rw [bytes0]
  refine WD.go (.inr (fun _ _ h => h.elim)) (fun _ _ h => h.elim) ?_
  refine WD.val (i := 4) rfl rfl rfl rfl (by kernel_rfl) rfl (Yld.buildS (pl := [(0, 0, 1), (1, 1, 1), (3, 3, 1)]) rfl ty_zr_101 ty_zd_101 (by kernel_rfl) rfl (vs := [_, _, _]) rfl (segs := [(0, [_]), (1, [_]), (3, [_])]) rfl rfl (by repeat (first | exact SetSeg.nil | apply SetSeg.one | exact SetAt.zero | apply SetAt.succ))) ?_
  refine WD.loud (i := 5) (by kernel_rfl) rfl rfl rfl ?_
  refine Op.box rfl rfl rfl rfl rfl (fun d => ?_)
  refine WD.go (.inl rfl) (fun _ _ h => h.elim) ?_
  refine WD.val (i := 6) rfl rfl rfl rfl (by kernel_rfl) rfl (Yld.assign rfl rfl) ?_
  refine WD.val (i := 7) rfl rfl rfl rfl (by kernel_rfl) rfl (Yld.assign rfl rfl) ?_
  refine WD.done (by kernel_rfl) ?_
  refine WP.sub [(0, _), (2, _), (3, _), (4, _), (10, _)] ?_ ⟨rfl, rfl, rfl, rfl, rfl, trivial⟩
  refine WP.next ?_
  refine WP.ret ?_
  refine WP.fn .ret (.inr rfl) (res2 rfl rfl rfl) [(d, row 101 _), (bp, row 5 _), (bn, row 5 _)] (Imm.le_refl _) ?_
  exact ⟨rfl, d, rfl, .mk (vw := .slice none 0 0) (Lw := []) (Dk.new_ok h1 h2) .none0⟩

theorem disk_Writes {I : Imm} {d n : Nat} {x : Dk} {L : Chunks} (hd : IsDisk d n x L) : Spec Try.prog 16 [.pointer (some ⟨d, 0, none⟩)] I L (fun v' J L' => v' = .int .i64 x.writes ∧ I = J ∧ L = L') := by
 cases hd with
 | @mk bp bn vw Lw ok ow =>
 obtain ⟨n1, n2, lp, ln, hw, hl⟩ := id ok
 obtain ⟨Aw, cw, rfl, hcw⟩ := ow.slice
 refine Spec.of Try.func16 rfl Try.ntmps16 (Nat.le_of_ble_eq_true rfl) (fun F => ?_)
 try simp only [nf]
 dsimp only [argsEnv]
 refine WP.seq ?_
 refine WP.region [0] rfl ?_
 refine WP.mv rfl rfl ?_
 refine WP.nil ?_
 refine WP.next ?_
 refine WP.seq ?_
 refine WP.region [0, 1, 2, 3, 4] rfl ?_
 refine WP.mv rfl rfl ?_
 refine WP.vl rfl (Yld.nilCheck rfl rfl) ?_
 refine WP.vl rfl (Yld.fieldAddr rfl ty_fd_101_5 rfl) ?_
 refine WP.vl rfl (Yld.ld rfl ty_sc_3 rfl rfl) ?_
 refine WP.mv rfl rfl ?_
 refine WP.nil ?_
 refine WP.sub [(0, _), (2, _)] ?_ ⟨rfl, rfl, trivial⟩
 refine WP.next ?_
 refine WP.ret ?_
 refine WP.fn .ret (.inr rfl) (res1 rfl rfl) ((d, row 101 [.slice (some ⟨bp, 0, none⟩) (n * 64) (n * 64), .slice (some ⟨bn, 0, none⟩) (n * 64) (n * 64), _, .int .i64 x.left, .bool x.off, .int .i64 x.writes, .int .i64 x.syncs]) :: (bp, row 5 (bytesV x.plat)) :: (bn, row 5 (bytesV x.now)) :: Lw) (Imm.le_refl _) ?_
 exact ⟨rfl, rfl, rfl⟩

theorem disk_Sectors {I : Imm} {d n : Nat} {x : Dk} {L : Chunks} (hd : IsDisk d n x L) : Spec Try.prog 43 [.pointer (some ⟨d, 0, none⟩)] I L (fun v' J L' => v' = .int .i64 (n : Int) ∧ I = J ∧ L = L') := by
 cases hd with
 | @mk bp bn vw Lw ok ow =>
 obtain ⟨n1, n2, lp, ln, hw, hl⟩ := id ok
 obtain ⟨Aw, cw, rfl, hcw⟩ := ow.slice
 refine Spec.of Try.func43 rfl Try.ntmps43 (Nat.le_of_ble_eq_true rfl) (fun F => ?_)
 try simp only [nf]
 dsimp only [argsEnv]
 refine WP.seq ?_
 refine WP.region [0] rfl ?_
 refine WP.mv rfl rfl ?_
 refine WP.nil ?_
 refine WP.next ?_
 refine WP.seq ?_
 refine WP.region [0, 1, 2, 3, 4, 5, 6] rfl ?_
 refine WP.mv rfl rfl ?_
 refine WP.vl rfl (Yld.nilCheck rfl rfl) ?_
 refine WP.vl rfl (Yld.fieldAddr rfl ty_fd_101_0 rfl) ?_
 refine WP.vl rfl (Yld.ld rfl ty_sc_46 rfl rfl) ?_
 refine WP.vl rfl (Yld.len rfl ty_sl_46 rfl) ?_
 refine WP.vl rfl (Yld.quo64 rfl rfl rfl (by omega)) ?_
 refine WP.mv rfl rfl ?_
 refine WP.nil ?_
 refine WP.sub [(0, _), (2, _)] ?_ ⟨rfl, rfl, trivial⟩
 refine WP.next ?_
 refine WP.ret ?_
 refine WP.fn .ret (.inr rfl) (res1 rfl rfl) ((d, row 101 [.slice (some ⟨bp, 0, none⟩) (n * 64) (n * 64), .slice (some ⟨bn, 0, none⟩) (n * 64) (n * 64), _, .int .i64 x.left, .bool x.off, .int .i64 x.writes, .int .i64 x.syncs]) :: (bp, row 5 (bytesV x.plat)) :: (bn, row 5 (bytesV x.now)) :: Lw) (Imm.le_refl _) ?_
 exact ⟨congrArg (Value.int .i64) (by omega), rfl, rfl⟩

theorem disk_has {I : Imm} {d n : Nat} {x : Dk} {L : Chunks} (hd : IsDisk d n x L) {at_ many : Int} (h0 : 0 ≤ at_) : Spec Try.prog 62 [.pointer (some ⟨d, 0, none⟩), .int .i64 at_, .int .i64 many] I L (fun v' J L' => v' = .bool (decide (many = 0 ∨ (at_ ≤ n ∧ many ≤ n - at_))) ∧ I = J ∧ L = L') := by
 cases hd with
 | @mk bp bn vw Lw ok ow =>
 obtain ⟨n1, n2, lp, ln, hw, hl⟩ := id ok
 obtain ⟨Aw, cw, rfl, hcw⟩ := ow.slice
 refine Spec.of Try.func62 rfl Try.ntmps62 (Nat.le_of_ble_eq_true rfl) (fun F => ?_)
 try simp only [nf]
 dsimp only [argsEnv]
 refine WP.seq ?_
 refine WP.region [0] rfl ?_
 refine WP.mv rfl rfl ?_
 refine WP.nil ?_
 refine WP.next ?_
 refine WP.seq ?_
 refine WP.region [0, 1, 2, 3, 4, 5, 6, 7, 8, 9, 10, 11, 12, 13, 14, 15, 16] rfl ?_
 refine WP.mv rfl rfl ?_
 refine WP.split rfl rfl rfl rfl (Yld.eql rfl rfl rfl) (fun h1 => ?_) (fun h1 => ?_)
 ·refine WP.mv rfl rfl ?_
  refine WP.passG rfl rfl rfl rfl rfl rfl rfl rfl ?_
  refine WP.passG rfl rfl rfl rfl rfl rfl rfl rfl ?_
  refine WP.passG rfl rfl rfl rfl rfl rfl rfl rfl ?_
  refine WP.passG rfl rfl rfl rfl rfl rfl rfl rfl ?_
  refine WP.passG rfl rfl rfl rfl rfl rfl rfl rfl ?_
  refine WP.passG rfl rfl rfl rfl rfl rfl rfl rfl ?_
  refine WP.passG rfl rfl rfl rfl rfl rfl rfl rfl ?_
  refine WP.passG rfl rfl rfl rfl rfl rfl rfl rfl ?_
  refine WP.passG rfl rfl rfl rfl rfl rfl rfl rfl ?_
  refine WP.passG rfl rfl rfl rfl rfl rfl rfl rfl ?_
  refine WP.passG rfl rfl rfl rfl rfl rfl rfl rfl ?_
  refine WP.passG rfl rfl rfl rfl rfl rfl rfl rfl ?_
  refine WP.vl rfl (Yld.pickT rfl rfl rfl) ?_
  refine WP.mv rfl rfl ?_
  refine WP.nil ?_
  refine WP.sub [(0, _), (1, _), (2, _), (6, _)] ?_ ⟨rfl, rfl, rfl, rfl, trivial⟩
  refine WP.next ?_
  refine WP.ret ?_
  refine WP.fn .ret (.inr rfl) (res1 rfl rfl) ((d, row 101 [.slice (some ⟨bp, 0, none⟩) (n * 64) (n * 64), .slice (some ⟨bn, 0, none⟩) (n * 64) (n * 64), _, .int .i64 x.left, .bool x.off, .int .i64 x.writes, .int .i64 x.syncs]) :: (bp, row 5 (bytesV x.plat)) :: (bn, row 5 (bytesV x.now)) :: Lw) (Imm.le_refl _) ?_
  exact ⟨congrArg Value.bool (by simp; omega), rfl, rfl⟩
 ·refine WP.mv rfl rfl ?_
  refine WP.valG rfl rfl rfl rfl rfl rfl rfl (Yld.move rfl rfl) ?_
  refine WP.valG rfl rfl rfl rfl rfl rfl rfl (Yld.move rfl rfl) ?_
  refine WP.loudG rfl rfl rfl rfl rfl ?_
  refine Op.cl (disk_Sectors (.mk ok ow)) rfl Try.func43 rfl rfl rfl rfl ?_
  rintro v J L1 - ⟨rfl, rfl, rfl⟩
  try simp only [nf]
  refine WP.splitG rfl rfl rfl rfl rfl rfl rfl (Yld.leq rfl rfl rfl) (fun h2 => ?_) (fun h2 => ?_)
  ·refine WP.valG rfl rfl rfl rfl rfl rfl rfl (Yld.move rfl rfl) ?_
   refine WP.valG rfl rfl rfl rfl rfl rfl rfl (Yld.move rfl rfl) ?_
   refine WP.valG rfl rfl rfl rfl rfl rfl rfl (Yld.move rfl rfl) ?_
   refine WP.loudG rfl rfl rfl rfl rfl ?_
   refine Op.cl (disk_Sectors (.mk ok ow)) rfl Try.func43 rfl rfl rfl rfl ?_
   rintro v J L1 - ⟨rfl, rfl, rfl⟩
   try simp only [nf]
   refine WP.valG rfl rfl rfl rfl rfl rfl rfl (Yld.move rfl rfl) ?_
   refine WP.valG rfl rfl rfl rfl rfl rfl rfl (Yld.sub64 rfl rfl rfl (by omega)) ?_
   refine WP.splitG rfl rfl rfl rfl rfl rfl rfl (Yld.leq rfl rfl rfl) (fun h3 => ?_) (fun h3 => ?_)
   ·refine WP.valG rfl rfl rfl rfl rfl rfl rfl (Yld.pickT rfl rfl rfl) ?_
    refine WP.vl rfl (Yld.pickF rfl rfl rfl) ?_
    refine WP.mv rfl rfl ?_
    refine WP.nil ?_
    refine WP.sub [(0, _), (1, _), (2, _), (6, _)] ?_ ⟨rfl, rfl, rfl, rfl, trivial⟩
    refine WP.next ?_
    refine WP.ret ?_
    refine WP.fn .ret (.inr rfl) (res1 rfl rfl) ((d, row 101 [.slice (some ⟨bp, 0, none⟩) (n * 64) (n * 64), .slice (some ⟨bn, 0, none⟩) (n * 64) (n * 64), _, .int .i64 x.left, .bool x.off, .int .i64 x.writes, .int .i64 x.syncs]) :: (bp, row 5 (bytesV x.plat)) :: (bn, row 5 (bytesV x.now)) :: Lw) (Imm.le_refl _) ?_
    exact ⟨congrArg Value.bool (by simp; omega), rfl, rfl⟩
   ·refine WP.valG rfl rfl rfl rfl rfl rfl rfl (Yld.pickT rfl rfl rfl) ?_
    refine WP.vl rfl (Yld.pickF rfl rfl rfl) ?_
    refine WP.mv rfl rfl ?_
    refine WP.nil ?_
    refine WP.sub [(0, _), (1, _), (2, _), (6, _)] ?_ ⟨rfl, rfl, rfl, rfl, trivial⟩
    refine WP.next ?_
    refine WP.ret ?_
    refine WP.fn .ret (.inr rfl) (res1 rfl rfl) ((d, row 101 [.slice (some ⟨bp, 0, none⟩) (n * 64) (n * 64), .slice (some ⟨bn, 0, none⟩) (n * 64) (n * 64), _, .int .i64 x.left, .bool x.off, .int .i64 x.writes, .int .i64 x.syncs]) :: (bp, row 5 (bytesV x.plat)) :: (bn, row 5 (bytesV x.now)) :: Lw) (Imm.le_refl _) ?_
    exact ⟨congrArg Value.bool (by simp; omega), rfl, rfl⟩
  ·refine WP.valG rfl rfl rfl rfl rfl rfl rfl (Yld.move rfl rfl) ?_
   refine WP.passG rfl rfl rfl rfl rfl rfl rfl rfl ?_
   refine WP.passG rfl rfl rfl rfl rfl rfl rfl rfl ?_
   refine WP.passG rfl rfl rfl rfl rfl rfl rfl rfl ?_
   refine WP.passG rfl rfl rfl rfl rfl rfl rfl rfl ?_
   refine WP.passG rfl rfl rfl rfl rfl rfl rfl rfl ?_
   refine WP.passG rfl rfl rfl rfl rfl rfl rfl rfl ?_
   refine WP.valG rfl rfl rfl rfl rfl rfl rfl (Yld.pickF rfl rfl rfl) ?_
   refine WP.vl rfl (Yld.pickF rfl rfl rfl) ?_
   refine WP.mv rfl rfl ?_
   refine WP.nil ?_
   refine WP.sub [(0, _), (1, _), (2, _), (6, _)] ?_ ⟨rfl, rfl, rfl, rfl, trivial⟩
   refine WP.next ?_
   refine WP.ret ?_
   refine WP.fn .ret (.inr rfl) (res1 rfl rfl) ((d, row 101 [.slice (some ⟨bp, 0, none⟩) (n * 64) (n * 64), .slice (some ⟨bn, 0, none⟩) (n * 64) (n * 64), _, .int .i64 x.left, .bool x.off, .int .i64 x.writes, .int .i64 x.syncs]) :: (bp, row 5 (bytesV x.plat)) :: (bn, row 5 (bytesV x.now)) :: Lw) (Imm.le_refl _) ?_
   exact ⟨congrArg Value.bool (by simp; omega), rfl, rfl⟩


end Go.Hp
