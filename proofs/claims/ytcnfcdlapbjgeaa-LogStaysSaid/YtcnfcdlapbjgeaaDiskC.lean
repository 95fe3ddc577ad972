import Derived.Test.YtcnfcdlapbjgeaaDiskB
set_option linter.unusedVariables false
set_option linter.unusedSimpArgs false
namespace Go.Hp
open Go Go.Proofs

theorem wcell_rd {V : Nat → Obj → Prop} {b T h : Nat} {e : Nat × List UInt8} (hs : e.2.length = 64) (hb : V b (row T (wcell e))) (hh : h ≤ 64) : SlRd V (subSl 1 0 h (.slice (some ⟨b, 1, none⟩) 64 64)) (h - 0) 1 (bytesV (e.2.take h)) := by
 have := SlAt.rd (sz := 1) (SlAt.sub (sz := 1) (l := 0) (h := h) (SlAt.arr (b := b) (k := 1) (n := 64)) (Nat.zero_le _) hh) hb (by rw [wcell_len hs]; omega)
 simpa [wcell, bytesV_take] using this
theorem SlRd.dropB {V : Nat → Obj → Prop} {v : Value} {bs : List UInt8} {l : Nat} (h : SlRd V v bs.length 1 (bytesV bs)) (hl : l ≤ bs.length) : SlRd V (subSl 1 l bs.length v) (bs.drop l).length 1 (bytesV (bs.drop l)) := by
 have := h.sub hl (Nat.le_refl _)
 rw [bytesV_drop, bytesV_take, Nat.mul_one, Nat.mul_one, List.take_of_length_le (by simp)] at this
 rw [List.length_drop]; exact this
def dec (l : Int) : Int := if 0 < l then l - 1 else l
def Dk.write1 (x : Dk) (at_ : Nat) (s : List UInt8) : Dk := { x with left := dec x.left, writes := IntKind.i64.wrap (x.writes + 1), waits := x.waits ++ [(at_, s)], now := x.now.take (at_ * 64) ++ s ++ x.now.drop (at_ * 64 + 64) }
def Dk.puts : Nat → Dk → Nat → List UInt8 → Dk × Int
 | 0, x, _, _ => (x, 0)
 | k + 1, x, at_, b => if x.left = 0 then ({ x with off := true, left := -1 }, 4) else Dk.puts k (x.write1 at_ (b.take 64)) (at_ + 1) (b.drop 64)
def Dk.write (x : Dk) (n : Nat) (at_ : Int) (bs : List UInt8) : Dk × Int :=
 if x.off then (x, 4) else if at_ < 0 ∨ bs.length % 64 ≠ 0 then (x, 1)
 else if ¬ (((bs.length / 64 : Nat) : Int) = 0 ∨ (at_ ≤ n ∧ ((bs.length / 64 : Nat) : Int) ≤ n - at_)) then (x, 3) else Dk.puts (bs.length / 64) x at_.toNat bs
theorem Dk.write1_ok {n at_ : Nat} {x : Dk} {s : List UInt8} (h : x.ok n) (hs : s.length = 64) (ha : at_ < n) : (x.write1 at_ s).ok n := by
 obtain ⟨n1, n2, lp, ln, hw, hl⟩ := h
 refine ⟨n1, n2, lp, by simp [Dk.write1, ln, hs]; omega, ?_, ?_⟩
 ·intro e he
  simp only [Dk.write1, List.mem_append, List.mem_singleton] at he
  rcases he with he | rfl
  ·exact hw e he
  ·exact ⟨ha, hs⟩
 ·simp only [Dk.write1, dec]; split <;> omega
structure WX where
 y : Dk
 at_ : Nat
 bs : List UInt8
 v : Value
 vw : Value
 Lw : Chunks
structure WX.ok (I : Imm) (n : Nat) (r : Dk × Int) (t : WX) : Prop where
 ok : t.y.ok n
 sl : SlRd (Im I) t.v t.bs.length 1 (bytesV t.bs)
 md : t.bs.length % 64 = 0
 rm : t.bs.length = 0 ∨ t.at_ + t.bs.length / 64 ≤ n
 ow : Own 105 65 t.vw (wcells t.y.waits) t.y.waits.length t.Lw
 eq : Dk.puts (t.bs.length / 64) t.y t.at_ t.bs = r
 wl : t.y.waits.length + t.bs.length / 64 ≤ 1954687338000
 bl : t.bs.length ≤ 1152921504606846976
theorem WX.next {I : Imm} {n : Nat} {r : Dk × Int} {y : Dk} {at_ : Nat} {bs : List UInt8} {v vw vw' : Value} {Lw Lw' : Chunks} (h : (⟨y, at_, bs, v, vw, Lw⟩ : WX).ok I n r) (hp : 0 < bs.length) (hz : ¬ y.left = 0)
  (ho : Own 105 65 vw' (wcells y.waits ++ wcell (at_, bs.take 64)) (y.waits.length + 1) Lw') : (⟨y.write1 at_ (bs.take 64), at_ + 1, bs.drop 64, subSl 1 64 bs.length v, vw', Lw'⟩ : WX).ok I n r := by
 obtain ⟨g1, g2, g3, g4, g5, g6, g7, g8⟩ := h
 simp only at g1 g2 g3 g4 g5 g6 g7 g8
 have hk : bs.length / 64 = (bs.drop 64).length / 64 + 1 := by rw [List.length_drop]; omega
 have ht : (bs.take 64).length = 64 := by rw [List.length_take]; omega
 refine ⟨Dk.write1_ok g1 ht (by omega), g2.dropB (by omega), by rw [List.length_drop]; omega, ?_, ?_, ?_, ?_, ?_⟩
 ·simp only [List.length_drop]; omega
 ·simp only [Dk.write1, wcells_app, List.length_append, List.length_cons, List.length_nil]
  simpa [wcells] using ho
 ·rw [hk, Dk.puts, if_neg hz] at g6; exact g6
 ·simp only [Dk.write1, List.length_append, List.length_cons, List.length_nil, List.length_drop]; omega
 ·simp only [List.length_drop]; omega
theorem disk_Write {I : Imm} {d n : Nat} {x : Dk} {L : Chunks} (hd : IsDisk d n x L) {at_0 : Int} {bs0 : List UInt8} {vb : Value} (hbs : SlRd (Im I) vb bs0.length 1 (bytesV bs0)) (hwb : x.waits.length + 8192 ≤ 1954687338000) (hbl : bs0.length ≤ 1152921504606846976) : Spec Try.prog 67 [.pointer (some ⟨d, 0, none⟩), .int .i64 at_0, vb] I L (fun v' J L' => v' = .int .i64 (x.write n at_0 bs0).2 ∧ I = J ∧ IsDisk d n (x.write n at_0 bs0).1 L') := by
 cases hd with
 | @mk bp bn vw Lw ok ow =>
 obtain ⟨n1, n2, lp, ln, hw, hl⟩ := id ok
 obtain ⟨Aw, cw, rfl, hcw⟩ := ow.slice
 refine Spec.of Try.func67 rfl Try.ntmps67 (Nat.le_of_ble_eq_true rfl) (fun F => ?_)
 try simp only [nf]
 dsimp only [argsEnv]
 refine WP.seq ?_
 refine WP.region [0] rfl ?_
 refine WP.mv rfl rfl ?_
 refine WP.nil ?_
 refine WP.next ?_
 refine WP.seq ?_
 refine WP.block ?_
 refine WP.seq ?_
 refine WP.region [0, 1, 2, 3, 4] rfl ?_
 refine WP.mv rfl rfl ?_
 refine WP.vl rfl (Yld.nilCheck rfl rfl) ?_
 refine WP.vl rfl (Yld.fieldAddr rfl ty_fd_101_4 rfl) ?_
 refine WP.splitB rfl rfl rfl rfl (Yld.ld rfl ty_sc_4 rfl rfl) (fun hb => ?_) (fun hb => ?_)
 ·refine WP.mv rfl rfl ?_
  refine WP.nil ?_
  refine WP.sub [(0, _), (1, _), (2, _), (6, _), (8, _)] ?_ ⟨rfl, rfl, rfl, rfl, rfl, trivial⟩
  refine WP.next ?_
  refine WP.condT rfl ?_
  refine WP.seq ?_
  refine WP.region [0] rfl ?_
  refine WP.mv rfl rfl ?_
  refine WP.nil ?_
  refine WP.next ?_
  refine WP.ret ?_
  refine WP.fn .ret (.inr rfl) (res1 rfl rfl) ((d, row 101 _) :: (bp, row 5 _) :: (bn, row 5 _) :: Lw) (Imm.le_refl _) ?_
  have hr : x.write n at_0 bs0 = (x, 4) := by simp [Dk.write, hb]
  rw [hr]; exact ⟨rfl, rfl, .mk ok ow⟩
 ·refine WP.mv rfl rfl ?_
  refine WP.nil ?_
  refine WP.sub [(0, _), (1, _), (2, _), (6, _), (8, _)] ?_ ⟨rfl, rfl, rfl, rfl, rfl, trivial⟩
  refine WP.next ?_
  refine WP.condF rfl ?_
  refine WP.seq ?_
  refine WP.region [0, 1, 2, 3, 4, 5, 6, 7, 8] rfl ?_
  refine WP.mv rfl rfl ?_
  refine WP.split rfl rfl rfl rfl (Yld.lss rfl rfl rfl) (fun h1 => ?_) (fun h1 => ?_)
  ·refine WP.mv rfl rfl ?_
   refine WP.passG rfl rfl rfl rfl rfl rfl rfl rfl ?_
   refine WP.passG rfl rfl rfl rfl rfl rfl rfl rfl ?_
   refine WP.passG rfl rfl rfl rfl rfl rfl rfl rfl ?_
   refine WP.passG rfl rfl rfl rfl rfl rfl rfl rfl ?_
   refine WP.vl rfl (Yld.pickT rfl rfl rfl) ?_
   refine WP.mv rfl rfl ?_
   refine WP.nil ?_
   refine WP.sub [(0, _), (1, _), (2, _), (6, _), (8, _), (13, _)] ?_ ⟨rfl, rfl, rfl, rfl, rfl, rfl, trivial⟩
   refine WP.next ?_
   refine WP.condT rfl ?_
   refine WP.seq ?_
   refine WP.region [0] rfl ?_
   refine WP.mv rfl rfl ?_
   refine WP.nil ?_
   refine WP.next ?_
   refine WP.ret ?_
   refine WP.fn .ret (.inr rfl) (res1 rfl rfl) ((d, row 101 _) :: (bp, row 5 _) :: (bn, row 5 _) :: Lw) (Imm.le_refl _) ?_
   have hr : x.write n at_0 bs0 = (x, 1) := by simp [Dk.write, hb, h1]
   rw [hr]; exact ⟨rfl, rfl, .mk ok ow⟩
  ·refine WP.mv rfl rfl ?_
   refine WP.valG rfl rfl rfl rfl rfl rfl rfl (Yld.move rfl rfl) ?_
   refine WP.valG rfl rfl rfl rfl rfl rfl rfl (Yld.lenR hbs rfl ty_sl_46 rfl) ?_
   refine WP.valG rfl rfl rfl rfl rfl rfl rfl (Yld.rem64 rfl rfl rfl (by omega)) ?_
   refine WP.splitG rfl rfl rfl rfl rfl rfl rfl (Yld.neq rfl rfl rfl) (fun h3 => ?_) (fun h3 => ?_)
   ·refine WP.vl rfl (Yld.pickF rfl rfl rfl) ?_
    refine WP.mv rfl rfl ?_
    refine WP.nil ?_
    refine WP.sub [(0, _), (1, _), (2, _), (6, _), (8, _), (13, _)] ?_ ⟨rfl, rfl, rfl, rfl, rfl, rfl, trivial⟩
    refine WP.next ?_
    refine WP.condT rfl ?_
    refine WP.seq ?_
    refine WP.region [0] rfl ?_
    refine WP.mv rfl rfl ?_
    refine WP.nil ?_
    refine WP.next ?_
    refine WP.ret ?_
    refine WP.fn .ret (.inr rfl) (res1 rfl rfl) ((d, row 101 _) :: (bp, row 5 _) :: (bn, row 5 _) :: Lw) (Imm.le_refl _) ?_
    have hr : x.write n at_0 bs0 = (x, 1) := by simp only [Dk.write, hb, Bool.false_eq_true, if_false]; rw [if_pos (Or.inr (by omega))]
    rw [hr]; exact ⟨rfl, rfl, .mk ok ow⟩
   ·refine WP.vl rfl (Yld.pickF rfl rfl rfl) ?_
    refine WP.mv rfl rfl ?_
    refine WP.nil ?_
    refine WP.sub [(0, _), (1, _), (2, _), (6, _), (8, _), (13, _)] ?_ ⟨rfl, rfl, rfl, rfl, rfl, rfl, trivial⟩
    refine WP.next ?_
    refine WP.condF rfl ?_
    refine WP.seq ?_
    refine WP.region [0, 1, 2, 3, 4, 5, 6, 7] rfl ?_
    iterate 3 refine WP.mv rfl rfl ?_
    refine WP.vl rfl (Yld.lenR hbs rfl ty_sl_46 rfl) ?_
    refine WP.vl rfl (Yld.quo64 rfl rfl rfl (by omega)) ?_
    refine WP.loud rfl rfl ?_
    refine Op.cl (disk_has (.mk ok ow) (by omega)) rfl Try.func62 rfl rfl rfl rfl ?_
    rintro v J L1 - ⟨rfl, rfl, rfl⟩
    try simp only [nf]
    refine WP.vl rfl (Yld.not rfl rfl) ?_
    refine WP.mv rfl rfl ?_
    refine WP.nil ?_
    refine WP.sub [(0, _), (1, _), (2, _), (6, _), (8, _), (13, _), (22, _)] ?_ ⟨rfl, rfl, rfl, rfl, rfl, rfl, rfl, trivial⟩
    refine WP.next ?_
    refine WP.cond rfl (fun ht => ?_) (fun ht => ?_)
    ·refine WP.seq ?_
     refine WP.region [0] rfl ?_
     refine WP.mv rfl rfl ?_
     refine WP.nil ?_
     refine WP.next ?_
     refine WP.ret ?_
     refine WP.fn .ret (.inr rfl) (res1 rfl rfl) ((d, row 101 _) :: (bp, row 5 _) :: (bn, row 5 _) :: Lw) (Imm.le_refl _) ?_
     have hr : x.write n at_0 bs0 = (x, 3) := by have hh : ¬ (((bs0.length / 64 : Nat) : Int) = 0 ∨ (at_0 ≤ n ∧ ((bs0.length / 64 : Nat) : Int) ≤ n - at_0)) := (fun h => by rw [decide_eq_true (show (bs0.length : Int) / 64 = 0 ∨ (at_0 ≤ n ∧ (bs0.length : Int) / 64 ≤ n - at_0) by omega)] at ht; cases ht); simp only [Dk.write, hb, Bool.false_eq_true, if_false]; rw [if_neg (by omega), if_pos hh]
     rw [hr]; exact ⟨rfl, rfl, .mk ok ow⟩
    ·refine WP.skip ?_
     refine WP.leave ?_
     refine WP.next ?_
     refine WP.seq ?_
     refine WP.block ?_
     have hh : ((bs0.length / 64 : Nat) : Int) = 0 ∨ (at_0 ≤ n ∧ ((bs0.length / 64 : Nat) : Int) ≤ n - at_0) := Classical.byContradiction fun h => by rw [decide_eq_false (show ¬ ((bs0.length : Int) / 64 = 0 ∨ (at_0 ≤ n ∧ (bs0.length : Int) / 64 ≤ n - at_0)) by omega)] at ht; cases ht
     have hr0 : x.write n at_0 bs0 = Dk.puts (bs0.length / 64) x at_0.toNat bs0 := by simp only [Dk.write, hb, Bool.false_eq_true, if_false]; rw [if_neg (by omega), if_neg (fun h => h hh)]
     refine WP.loop (X := WX) (fun t : WX => [(0, .pointer (some ⟨d, 0, none⟩)), (1, .int .i64 (t.at_ : Int)), (2, t.v), (6, .int .i64 0)]) (fun _ => I) (fun t : WX => (d, row 101 [.slice (some ⟨bp, 0, none⟩) (n * 64) (n * 64), .slice (some ⟨bn, 0, none⟩) (n * 64) (n * 64), t.vw, .int .i64 t.y.left, .bool t.y.off, .int .i64 t.y.writes, .int .i64 t.y.syncs]) :: (bp, row 5 (bytesV t.y.plat)) :: (bn, row 5 (bytesV t.y.now)) :: (t.Lw ++ F)) (fun t => t.ok I n (x.write n at_0 bs0)) (fun t => t.bs.length) ⟨x, at_0.toNat, bs0, vb, .slice Aw x.waits.length cw, Lw⟩ ⟨ok, hbs, by simp only; omega, by simp only; omega, ow, hr0.symm, by simp only; omega, hbl⟩ ⟨rfl, (congrArg (fun z => some (Value.int .i64 z)) (by simp only; omega)), rfl, rfl, trivial⟩ rfl (by (try dsimp only); repeat (first | exact Rm.chunk | exact Rm.here | exact Rm.nil0 | apply Rm.skip | apply Rm.skipS | apply PX.cons | (apply PX.done; (repeat (first | exact Leave.done | apply Leave.drop | apply Leave.dropS)); done) | apply PX.app)) ?_
     rintro ⟨y, at_, bs, v, vw, Lw'⟩ hx
     try dsimp only
     try simp only [nf]
     refine WP.seq ?_
     refine WP.seq ?_
     refine WP.region [0, 1, 2] rfl ?_
     refine WP.mv rfl rfl ?_
     refine WP.vl rfl (Yld.lenR hx.sl rfl ty_sl_46 rfl) ?_
     refine WP.split rfl rfl rfl rfl (Yld.gtr rfl rfl rfl) (fun hgt => ?_) (fun hgt => ?_)
     ·obtain ⟨g1, g2, g3, g4, g5, g6, g7, g8⟩ := id hx
      simp only at g1 g2 g3 g4 g5 g6 g7 g8
      have hgt' : 0 < bs.length := by simp only at hgt; omega
      have gl := g1.ln
      refine WP.nil ?_
      refine WP.sub [(0, _), (1, _), (2, _), (6, _), (32, _)] ?_ ⟨rfl, rfl, rfl, rfl, rfl, trivial⟩
      refine WP.next ?_
      refine WP.condT rfl ?_
      refine WP.skip ?_
      refine WP.next ?_
      refine WP.seq ?_
      refine WP.block ?_
      refine WP.seq ?_
      refine WP.seq ?_
      refine WP.region [0, 1, 2, 3, 4] rfl ?_
      refine WP.mv rfl rfl ?_
      refine WP.vl rfl (Yld.nilCheck rfl rfl) ?_
      refine WP.vl rfl (Yld.fieldAddr rfl ty_fd_101_3 rfl) ?_
      refine WP.vl rfl (Yld.ld rfl ty_sc_3 rfl rfl) ?_
      refine WP.split rfl rfl rfl rfl (Yld.eql rfl rfl rfl) (fun hz => ?_) (fun hz => ?_)
      ·refine WP.nil ?_
       refine WP.sub [(0, _), (1, _), (2, _), (6, _), (32, _), (41, _)] ?_ ⟨rfl, rfl, rfl, rfl, rfl, rfl, trivial⟩
       refine WP.next ?_
       refine WP.condT rfl ?_
       refine WP.seq ?_
       refine WP.region [0, 1, 2, 3, 4, 5, 6, 7] rfl ?_
       iterate 2 refine WP.mv rfl rfl ?_
       refine WP.vl rfl (Yld.nilCheck rfl rfl) ?_
       refine WP.vl rfl (Yld.fieldAddr rfl ty_fd_101_4 rfl) ?_
       refine WP.loud rfl rfl ?_
       refine Op.s1 rfl rfl ty_sz_4 rfl rfl rfl ?_
       refine WP.vl rfl (Yld.nilCheck rfl rfl) ?_
       refine WP.vl rfl (Yld.fieldAddr rfl ty_fd_101_3 rfl) ?_
       refine WP.loud rfl rfl ?_
       refine Op.s1 rfl rfl ty_sz_3 rfl rfl rfl ?_
       refine WP.nil ?_
       refine WP.sub [(0, _), (1, _), (2, _), (6, _), (32, _), (41, _)] ?_ ⟨rfl, rfl, rfl, rfl, rfl, rfl, trivial⟩
       refine WP.next ?_
       refine WP.seq ?_
       refine WP.region [0] rfl ?_
       refine WP.mv rfl rfl ?_
       refine WP.nil ?_
       refine WP.next ?_
       refine WP.ret ?_
       refine WP.fn .ret (.inr rfl) (res1 rfl rfl) ((d, row 101 _) :: (bp, row 5 _) :: (bn, row 5 _) :: Lw') (Imm.le_refl _) ?_
       have hr : x.write n at_0 bs0 = ({ y with off := true, left := -1 }, 4) := by rw [← g6, show bs.length / 64 = (bs.length / 64 - 1) + 1 by omega, Dk.puts, if_pos hz]
       rw [hr]; exact ⟨rfl, rfl, .mk (x := { y with off := true, left := -1 }) ⟨g1.n1, g1.n2, g1.lp, g1.ln, g1.hw, by simp⟩ g5⟩
      ·refine WP.nil ?_
       refine WP.sub [(0, _), (1, _), (2, _), (6, _), (32, _), (41, _)] ?_ ⟨rfl, rfl, rfl, rfl, rfl, rfl, trivial⟩
       refine WP.next ?_
       refine WP.condF rfl ?_
       refine WP.skip ?_
       refine WP.next ?_
       refine WP.cut (X := Int) (fun _ => [(0, .pointer (some ⟨d, 0, none⟩)), (1, .int .i64 (at_ : Int)), (2, v), (6, .int .i64 0)]) (fun _ => I) (fun l => (d, row 101 [.slice (some ⟨bp, 0, none⟩) (n * 64) (n * 64), .slice (some ⟨bn, 0, none⟩) (n * 64) (n * 64), vw, .int .i64 l, .bool y.off, .int .i64 y.writes, .int .i64 y.syncs]) :: (bp, row 5 (bytesV y.plat)) :: (bn, row 5 (bytesV y.now)) :: (Lw' ++ F)) (fun l => l = dec y.left) ?_ ?_
       ·skip
        refine WP.seq ?_
        refine WP.region [0, 1, 2, 3, 4] rfl ?_
        refine WP.mv rfl rfl ?_
        refine WP.vl rfl (Yld.nilCheck rfl rfl) ?_
        refine WP.vl rfl (Yld.fieldAddr rfl ty_fd_101_3 rfl) ?_
        refine WP.vl rfl (Yld.ld rfl ty_sc_3 rfl rfl) ?_
        refine WP.split rfl rfl rfl rfl (Yld.gtr rfl rfl rfl) (fun hp => ?_) (fun hp => ?_)
        ·refine WP.nil ?_
         refine WP.sub [(0, _), (1, _), (2, _), (6, _), (32, _), (41, _), (52, _)] ?_ ⟨rfl, rfl, rfl, rfl, rfl, rfl, rfl, trivial⟩
         refine WP.next ?_
         refine WP.condT rfl ?_
         refine WP.region [0, 1, 2, 3, 4, 5, 6, 7] rfl ?_
         refine WP.mv rfl rfl ?_
         refine WP.vl rfl (Yld.nilCheck rfl rfl) ?_
         refine WP.vl rfl (Yld.fieldAddr rfl ty_fd_101_3 rfl) ?_
         refine WP.vl rfl (Yld.ld rfl ty_sc_3 rfl rfl) ?_
         refine WP.vl rfl (Yld.sub64 rfl rfl rfl (by have := g1.hl; omega)) ?_
         refine WP.vl rfl (Yld.nilCheck rfl rfl) ?_
         refine WP.vl rfl (Yld.fieldAddr rfl ty_fd_101_3 rfl) ?_
         refine WP.loud rfl rfl ?_
         refine Op.s1 rfl rfl ty_sz_3 rfl rfl rfl ?_
         refine WP.nil ?_
         refine WP.sub [(0, _), (1, _), (2, _), (6, _), (32, _), (41, _), (52, _)] ?_ ⟨rfl, rfl, rfl, rfl, rfl, rfl, rfl, trivial⟩
         exact WP.mt (y.left - 1) (by simp [dec, hp]) ⟨rfl, rfl, rfl, rfl, trivial⟩ rfl
        ·refine WP.nil ?_
         refine WP.sub [(0, _), (1, _), (2, _), (6, _), (32, _), (41, _), (52, _)] ?_ ⟨rfl, rfl, rfl, rfl, rfl, rfl, rfl, trivial⟩
         refine WP.next ?_
         refine WP.condF rfl ?_
         refine WP.skip ?_
         exact WP.mt (y.left) (by simp [dec, hp]) ⟨rfl, rfl, rfl, rfl, trivial⟩ rfl
       ·rintro l rfl
        refine WP.seq ?_
        refine WP.region [0, 1, 2, 3, 4, 5, 6, 7] rfl ?_
        refine WP.mv rfl rfl ?_
        refine WP.vl rfl (Yld.nilCheck rfl rfl) ?_
        refine WP.vl rfl (Yld.fieldAddr rfl ty_fd_101_5 rfl) ?_
        refine WP.vl rfl (Yld.ld rfl ty_sc_3 rfl rfl) ?_
        refine WP.vl rfl (Yld.add rfl rfl rfl) ?_
        refine WP.vl rfl (Yld.nilCheck rfl rfl) ?_
        refine WP.vl rfl (Yld.fieldAddr rfl ty_fd_101_5 rfl) ?_
        refine WP.loud rfl rfl ?_
        refine Op.s1 rfl rfl ty_sz_3 rfl rfl rfl ?_
        refine WP.nil ?_
        refine WP.sub [(0, _), (1, _), (2, _), (6, _)] ?_ ⟨rfl, rfl, rfl, rfl, trivial⟩
        refine WP.next ?_
        refine WP.seq ?_
        obtain ⟨b, kk, c, T, fr, arr, hv, hc, hbb, hv4⟩ := g2.get hgt'
        subst hv
        have hs64 : (bs.take 64).length = 64 := by rw [List.length_take]; omega
        have hv64 : (arr.toList.drop kk).take 64 = bytesV (bs.take 64) := by rw [← bytesV_take, ← hv4, List.take_take, bytesV_len]; congr 1; omega
        refine WP.region [0, 1, 2, 3, 4, 5, 6] rfl ?_
        iterate 2 refine WP.mv rfl rfl ?_
        refine WP.vl rfl (Yld.toArr rfl ty_ar_103 rfl (by omega)) ?_
        refine WP.vl rfl (Yld.loadAggC rfl ty_ag_103 rfl (There.i hbb) hv64 (by rw [bytesV_len]; exact hs64)) ?_
        refine WP.vl rfl (Yld.buildS (pl := [(0, 0, 1), (1, 1, 64)]) rfl ty_zr_105 ty_zd_105 (by kernel_rfl) rfl (vs := [_, _]) rfl (segs := [(0, [_]), (1, bytesV (bs.take 64))]) (by simp only [List.map_cons, List.map_nil, bytesV_len, hs64]; rfl) rfl (.one .zero (.seg (l1 := wcell (at_, bs.take 64)) (Nat.le_of_eq (by rw [bytesV_len, hs64]; rfl)) (by rw [bytesV_len, hs64]; exact (List.append_nil _).symm) .nil))) ?_
        refine WP.loud rfl rfl ?_
        refine Op.alloc rfl rfl rfl ty_zr_105 (fun b7 => ?_)
        refine WP.loud rfl rfl ?_
        refine Op.sA rfl rfl ty_sz_105 rfl rfl (wcell_len hs64) (wcell_one _) rfl ?_
        refine WP.nil ?_
        refine WP.sub [(0, _), (1, _), (2, _), (6, _), (7, _)] ?_ ⟨rfl, rfl, rfl, rfl, rfl, trivial⟩
        refine WP.next ?_
        refine WP.seq ?_
        refine WD.start Trymixed 10 (There I [(d, row 101 [.slice (some ⟨bp, 0, none⟩) (n * 64) (n * 64), .slice (some ⟨bn, 0, none⟩) (n * 64) (n * 64), vw, .int .i64 (dec y.left), .bool y.off, .int .i64 (IntKind.i64.wrap (y.writes + 1)), .int .i64 y.syncs]), (b7, row 105 (wcell (at_, bs.take 64)))]) (fun _ _ => False) (.cons (by repeat (first | exact There.h | exact There.i (by assumption) | apply There.t | apply There.s)) (.cons (by repeat (first | exact There.h | exact There.i (by assumption) | apply There.t | apply There.s)) .nil)) (fun _ _ h => h.elim) 11 [false, false, false, false, false, false, false, false, false, false, false] rfl rfl ?_
        refine WD.val (i := 0) rfl rfl rfl rfl (by kernel_rfl) rfl (Yld.move rfl rfl) ?_
        refine WD.val (i := 1) rfl rfl rfl rfl (by kernel_rfl) rfl (Yld.move rfl rfl) ?_
        refine WD.val (i := 2) rfl rfl rfl rfl (by kernel_rfl) rfl (Yld.nilCheck rfl rfl) ?_
        refine WD.val (i := 3) rfl rfl rfl rfl (by kernel_rfl) rfl (Yld.fieldAddr rfl ty_fd_101_2 rfl) ?_
        refine WD.val1 (i := 4) rfl rfl rfl rfl (by kernel_rfl) rfl (by kernel_rfl) (Yld.load rfl ty_sc_99 rfl (.inl (by repeat (first | exact There.h | exact There.i (by assumption) | apply There.t | apply There.s))) rfl) ?_
        refine WD.val1 (i := 5) rfl rfl rfl rfl (by kernel_rfl) rfl (by kernel_rfl) (Yld.loadAll rfl ty_ag_105 rfl (.inl (by repeat (first | exact There.h | exact There.i (by assumption) | apply There.t | apply There.s))) (wcell_len hs64)) ?_
        refine WD.loud (i := 6) (by kernel_rfl) rfl rfl rfl ?_
        refine Op.buildSlice rfl ty_sl_99 ty_el2_99 rfl rfl rfl rfl (vs := [_]) rfl (segs := [(0, wcell (at_, bs.take 64))]) (cs := wcell (at_, bs.take 64)) (by simp only [List.map_cons, List.map_nil, wcell_len (e := (at_, bs.take 64)) hs64]) rfl (.seg (Nat.le_of_eq (by rw [wcell_len hs64]; rfl)) (by rw [wcell_len hs64]; exact (List.append_nil _).symm) .nil) (fun bs8 => ?_)
        refine WD.go (.inr (.cons (by repeat (first | exact There.h | exact There.i (by assumption) | apply There.t | apply There.s)) (.cons (by repeat (first | exact There.h | exact There.i (by assumption) | apply There.t | apply There.s)) .nil))) (fun _ _ h => h.elim) ?_
        refine WD.loud (i := 7) (by kernel_rfl) rfl rfl rfl ?_
        refine Op.append rfl ty_sl_99 ty_el_99 rfl rfl rfl rfl rfl g5 (SlRd.lit (by repeat (first | exact There.h | exact There.i (by assumption) | apply There.t | apply There.s)) (wcell_len hs64) (by omega)) (by repeat (first | exact Take.nil | with_reducible apply Take.cons | apply Take.app | exact Rm.chunk | exact Rm.here | exact Rm.nil0 | apply Rm.skip | apply Rm.skipS | (focus (apply Take.all; (repeat (first | exact Rm.chunk | exact Rm.here | exact Rm.nil0 | apply Rm.skip | apply Rm.skipS)); done)) | apply Take.cons)) (wcell_one _) (by omega) (by omega) (fun v' Lo' hown => ?_)
        obtain ⟨A9, c9, rfl, _⟩ := hown.slice
        try simp only [nf]
        refine WD.go (.inr (.cons (by repeat (first | exact There.h | exact There.i (by assumption) | apply There.t | apply There.s)) (.cons (by repeat (first | exact There.h | exact There.i (by assumption) | apply There.t | apply There.s)) .nil))) (fun _ _ h => h.elim) ?_
        refine WD.val (i := 8) rfl rfl rfl rfl (by kernel_rfl) rfl (Yld.nilCheck rfl rfl) ?_
        refine WD.val (i := 9) rfl rfl rfl rfl (by kernel_rfl) rfl (Yld.fieldAddr rfl ty_fd_101_2 rfl) ?_
        refine WD.loud (i := 10) (by kernel_rfl) rfl rfl rfl ?_
        refine Op.s1 rfl rfl ty_sz_99 rfl rfl rfl ?_
        refine WD.go (.inl rfl) (fun _ _ h => h.elim) ?_
        refine WD.done (by kernel_rfl) ?_
        refine WP.sub [(0, _), (1, _), (2, _), (6, _), (7, _)] ?_ ⟨rfl, rfl, rfl, rfl, rfl, trivial⟩
        refine WP.next ?_
        refine WQ.start Trymixed 9 (by kernel_rfl) _ rfl [9] rfl ?_
        refine WQ.val rfl rfl rfl (Yld.move rfl rfl) ?_
        refine WQ.val rfl rfl rfl (Yld.nilCheck rfl rfl) ?_
        refine WQ.val rfl rfl rfl (Yld.fieldAddr rfl ty_fd_101_1 rfl) ?_
        refine WQ.val rfl rfl rfl (Yld.ld rfl ty_sc_46 rfl rfl) ?_
        refine WQ.val rfl rfl rfl (Yld.move rfl rfl) ?_
        refine WQ.val rfl rfl rfl (Yld.mul64 rfl rfl rfl (by omega)) ?_
        refine WQ.val rfl rfl rfl (Yld.slice rfl ty_sl_46 rfl (Env.limS (n := at_ * 64) (congrArg (fun z => some (Value.int .i64 z)) (by omega))) Env.lim0 (by omega) (by omega)) ?_
        refine WQ.val rfl rfl rfl (Yld.fieldAddr rfl ty_fd_105_1 rfl) ?_
        refine WQ.val rfl rfl rfl (Yld.sliceA rfl ty_ar_103 rfl Env.lim0 Env.lim0 (Nat.zero_le _) (Nat.le_refl _)) ?_
        refine WQ.nil ?_
        refine WP.loud rfl rfl ?_
        refine Op.copyB (k := 0 + at_ * 64 * 1) (m := n * 64 - at_ * 64) (m2 := 64 - 0) (q := 64) (old := y.now) (new := y.now.take (at_ * 64) ++ bs.take 64 ++ y.now.drop (at_ * 64 + 64)) (s := (bs.take 64).take 64) rfl ty_sl_46 rfl rfl rfl rfl (SlAt.sub (SlAt.blk (Nat.le_refl _)) (by omega) (by omega)) (wcell_rd (e := (at_, bs.take 64)) hs64 (by repeat (first | exact There.h | exact There.i (by assumption) | apply There.t | apply There.s)) (Nat.le_refl _)) (Nat.min_eq_left (by omega)) (by omega) (by simp [List.take_take]) (by repeat (first | exact Upd.head | apply Upd.tail | apply Upd.tailS)) ?_
        refine WP.nil ?_
        refine WP.sub [(0, _), (1, _), (2, _), (6, _), (7, _)] ?_ ⟨rfl, rfl, rfl, rfl, rfl, trivial⟩
        refine WP.leave ?_
        refine WP.next ?_
        refine WQ.startAll Trymixed (by kernel_rfl) _ rfl ?_
        refine WQ.val rfl rfl rfl (Yld.move rfl rfl) ?_
        refine WQ.val rfl rfl rfl (Yld.add64 rfl rfl rfl (by omega)) ?_
        refine WQ.val rfl rfl rfl (Yld.move rfl rfl) ?_
        refine WQ.val rfl rfl rfl (Yld.sliceR g2 rfl ty_sl_46 rfl (Env.limS (n := 64) rfl) Env.lim0 (by omega) (Nat.le_refl _)) ?_
        refine WQ.val rfl rfl rfl (Yld.assign rfl rfl) ?_
        refine WQ.val rfl rfl rfl (Yld.assign rfl rfl) ?_
        refine WQ.nil ?_
        refine WP.sub [(0, _), (1, _), (2, _), (6, _), (7, _)] ?_ ⟨rfl, rfl, rfl, rfl, rfl, trivial⟩
        exact WP.ag ⟨y.write1 at_ (bs.take 64), at_ + 1, bs.drop 64, subSl 1 64 bs.length (.slice (some ⟨b, kk, none⟩) bs.length c), .slice A9 (y.waits.length + 1) c9, Lo'⟩ (WX.next hx hgt' hz hown) (by simp only [List.length_drop]; omega) ⟨rfl, rfl, rfl, rfl, trivial⟩ rfl
     ·obtain ⟨g1, g2, g3, g4, g5, g6, g7, g8⟩ := id hx
      simp only at g1 g2 g3 g4 g5 g6 g7 g8 hgt
      have hgt' : bs.length = 0 := by omega
      refine WP.nil ?_
      refine WP.sub [(0, _), (1, _), (2, _), (6, _), (32, _)] ?_ ⟨rfl, rfl, rfl, rfl, rfl, trivial⟩
      refine WP.next ?_
      refine WP.condF rfl ?_
      refine WP.exit ?_
      refine WP.thenE ?_
      refine WP.thenE ?_
      refine WP.hit ?_
      refine WP.next ?_
      refine WP.seq ?_
      refine WP.region [0] rfl ?_
      refine WP.mv rfl rfl ?_
      refine WP.nil ?_
      refine WP.next ?_
      refine WP.ret ?_
      refine WP.fn .ret (.inr rfl) (res1 rfl rfl) ((d, row 101 _) :: (bp, row 5 _) :: (bn, row 5 _) :: Lw') (Imm.le_refl _) ?_
      have hr : x.write n at_0 bs0 = (y, 0) := by rw [← g6, show bs.length / 64 = 0 by omega, Dk.puts]
      rw [hr]; exact ⟨rfl, rfl, .mk g1 g5⟩


end Go.Hp
