import Derived.Test.YtelkknmnnmmoaaaDiskN
set_option linter.unusedVariables false
set_option linter.unusedSimpArgs false
namespace Go.Hp
open Go Go.Proofs
theorem ref_Cut {I : Imm} {r n : Nat} {x : Dk} {L : Chunks} (hd : IsRef I r n x L) {a : Int} (ha : a ≤ 9223372036854775807) : Spec Try.prog 27 [.pointer (some ⟨r, 0, none⟩), .int .i64 a] I L (fun v' J L' => v' = .tuple #[] ∧ I = J ∧ IsRef I r n (x.cut a) L') := by
  cases hd with
  | @mk vp vw ps ws Lp Lw ok fit op hp ow hw =>
  obtain ⟨n1, n2, lp, ln, hww, hl⟩ := id ok
  obtain ⟨Aw, cw, rfl, hcw⟩ := ow.slice
  obtain ⟨bp, cp, sp, rfl, rfl, hqp, hrp⟩ := op.get (by omega)
  have hwl := hw.len
  have hpl := hp.len
  refine Spec.of Try.func27 rfl Try.ntmps27 (Nat.le_of_ble_eq_true rfl) (fun F => ?_)
  try simp only [List.cons_append, List.nil_append, List.append_assoc]
  dsimp only [argsEnv]
  refine WP.seq ?_
  refine WP.region [0, 1, 2, 3, 4] rfl ?_
  refine WP.val rfl rfl rfl rfl (Yld.move rfl rfl) ?_
  refine WP.val rfl rfl rfl rfl (Yld.move rfl rfl) ?_
  refine WP.val rfl rfl rfl rfl (Yld.nilCheck rfl rfl) ?_
  refine WP.val rfl rfl rfl rfl (Yld.fieldAddr rfl ty_fd_59_2 rfl) ?_
  refine WP.loud rfl rfl ?_
  refine Op.store1 rfl rfl ty_sz_3 rfl rfl rfl (by repeat (first | exact Upd.head | apply Upd.tail | apply Upd.tailS)) (by repeat (first | exact SetAt.zero | apply SetAt.succ)) ?_
  refine WP.nil ?_
  refine WP.sub [(0, _), (1, _)] ?_ ⟨rfl, rfl, trivial⟩
  refine WP.next ?_
  refine WP.seq ?_
  refine WP.region [0, 1] rfl ?_
  refine WP.val rfl rfl rfl rfl (Yld.move rfl rfl) ?_
  refine WP.split rfl rfl rfl rfl (Yld.lss rfl rfl rfl) (fun hlt => ?_) (fun hlt => ?_)
  · refine WP.nil ?_
    refine WP.sub [(0, _), (1, _), (9, _)] ?_ ⟨rfl, rfl, rfl, trivial⟩
    refine WP.next ?_
    refine WP.condT rfl ?_
    refine WP.region [0, 1, 2, 3] rfl ?_
    refine WP.val rfl rfl rfl rfl (Yld.move rfl rfl) ?_
    refine WP.val rfl rfl rfl rfl (Yld.nilCheck rfl rfl) ?_
    refine WP.val rfl rfl rfl rfl (Yld.fieldAddr rfl ty_fd_59_2 rfl) ?_
    refine WP.loud rfl rfl ?_
    refine Op.store1 rfl rfl ty_sz_3 rfl rfl rfl (by repeat (first | exact Upd.head | apply Upd.tail | apply Upd.tailS)) (by repeat (first | exact SetAt.zero | apply SetAt.succ)) ?_
    refine WP.nil ?_
    refine WP.sub [(0, _), (1, _), (9, _)] ?_ ⟨rfl, rfl, rfl, trivial⟩
    refine WP.fin .normal (.inl rfl) (res0 rfl) ((r, row 59 _) :: ((bp, row 24 _) :: Lw)) (by repeat (first | exact Take.nil | with_reducible apply Take.cons | apply Take.app | exact Rm.chunk | exact Rm.here | exact Rm.nil0 | apply Rm.skip | apply Rm.skipS | (focus (apply Take.all; (repeat (first | exact Rm.chunk | exact Rm.here | exact Rm.nil0 | apply Rm.skip | apply Rm.skipS)); done)) | apply Take.cons)) (by repeat (first | exact Leave.done | apply Leave.drop | apply Leave.dropS)) (Imm.le_refl _) ?_
    have hl' : -1 = (x.cut a).left := by simp only [Dk.cut]; split <;> omega
    have hk := IsRef.mk (J := I) (r := r) (x := x.cut a) (Dk.cut_ok ok ha) fit op hp ow hw
    rw [← hl'] at hk
    exact ⟨rfl, rfl, hk⟩
  · refine WP.nil ?_
    refine WP.sub [(0, _), (1, _), (9, _)] ?_ ⟨rfl, rfl, rfl, trivial⟩
    refine WP.next ?_
    refine WP.condF rfl ?_
    refine WP.skip ?_
    refine WP.fin .normal (.inl rfl) (res0 rfl) ((r, row 59 _) :: ((bp, row 24 _) :: Lw)) (by repeat (first | exact Take.nil | with_reducible apply Take.cons | apply Take.app | exact Rm.chunk | exact Rm.here | exact Rm.nil0 | apply Rm.skip | apply Rm.skipS | (focus (apply Take.all; (repeat (first | exact Rm.chunk | exact Rm.here | exact Rm.nil0 | apply Rm.skip | apply Rm.skipS)); done)) | apply Take.cons)) (by repeat (first | exact Leave.done | apply Leave.drop | apply Leave.dropS)) (Imm.le_refl _) ?_
    have hl' : a = (x.cut a).left := by simp only [Dk.cut]; split <;> omega
    have hk := IsRef.mk (J := I) (r := r) (x := x.cut a) (Dk.cut_ok ok ha) fit op hp ow hw
    rw [← hl'] at hk
    exact ⟨rfl, rfl, hk⟩


structure RW where
  j : Nat
  y : Dk
  J : Imm
  ws : List (Nat × Value)
  vw : Value
  Lw : Chunks
structure RW.ok (I : Imm) (n m a : Nat) (bs : List UInt8) (x : Dk) (r : Dk × Int) (t : RW) : Prop where
  le : t.j ≤ m
  ok : t.y.ok n
  fit : t.y.now = full t.y.plat t.y.waits
  hJ : I.le t.J
  ow : Own 77 2 t.vw (wv t.ws) t.y.waits.length t.Lw
  hw : WaitsOk t.J t.ws t.y.waits
  eq : Dk.puts (m - t.j) t.y (a + t.j) (bs.drop (t.j * 64)) = r
  pl : t.y.plat = x.plat
  wl : t.y.waits.length = x.waits.length + t.j
theorem wv_one (l : List (Nat × Value)) : wv l = l.flatMap fun e => [.int .i64 (e.1 : Int), e.2] := rfl
theorem RW.next {I J : Imm} {n m a j : Nat} {bs : List UInt8} {x y : Dk} {r : Dk × Int} {ws : List (Nat × Value)} {vw v vw' : Value} {Lw Lw' : Chunks} (h : (⟨j, y, J, ws, vw, Lw⟩ : RW).ok I n m a bs x r) (hj : j < m) (hm : bs.length = m * 64) (ha : a + m ≤ n) (hz : ¬ y.left = 0) {J2 : Imm} (hJ2 : J.le J2)
    (hv : rsec J2 v ((bs.drop (j * 64)).take 64)) (ho : Own 77 2 vw' (wv ws ++ [.int .i64 ((a + j : Nat) : Int), v]) (y.waits.length + 1) Lw') : (⟨j + 1, y.write1 (a + j) ((bs.drop (j * 64)).take 64), J2, ws ++ [(a + j, v)], vw', Lw'⟩ : RW).ok I n m a bs x r := by
  obtain ⟨g1, g2, g3, g4, g5, g6, g7, g8, g9⟩ := h
  simp only at g1 g2 g3 g4 g5 g6 g7 g8 g9
  have hk : m - j = (m - (j + 1)) + 1 := by omega
  have hv1 := hv.1
  have hwl : (y.write1 (a + j) ((bs.drop (j * 64)).take 64)).waits = y.waits ++ [(a + j, (bs.drop (j * 64)).take 64)] := rfl
  have hll : (y.waits ++ [(a + j, (bs.drop (j * 64)).take 64)]).length = y.waits.length + 1 := by rw [List.length_append]; rfl
  generalize hS : (bs.drop (j * 64)).take 64 = S at *
  refine ⟨hj, Dk.write1_ok g2 hv1 (by omega), ?_, Imm.le_trans g4 hJ2, ?_, ⟨?_, ?_⟩, ?_, g8, ?_⟩
  · show putS y.now (a + j, S) = full y.plat (y.waits ++ [(a + j, S)])
    rw [full_app, ← g3]
  · show Own _ 2 vw' (wv (ws ++ [(a + j, v)])) (y.waits ++ [(a + j, S)]).length Lw'
    rw [wv_app, hll]; exact ho
  · show (ws ++ [(a + j, v)]).length = (y.waits ++ [(a + j, S)]).length
    rw [hll, List.length_append, g6.len]; rfl
  · intro i e he
    show ∃ s, (y.waits ++ [(a + j, S)])[i]? = some (e.1, s) ∧ _
    by_cases hi : i < ws.length
    · rw [List.getElem?_append_left hi] at he
      obtain ⟨s, h1, h2⟩ := g6.at_ i e he
      exact ⟨s, by rw [List.getElem?_append_left (by rw [← g6.len]; exact hi)]; exact h1, h2.mono hJ2⟩
    · have hil : i = ws.length := by
        have := (List.getElem?_eq_some_iff.1 he).1
        simp only [List.length_append, List.length_cons, List.length_nil] at this; omega
      subst hil
      rw [List.getElem?_append_right (Nat.le_refl _), Nat.sub_self] at he
      have he := Option.some.inj he
      subst he
      exact ⟨S, by rw [g6.len, List.getElem?_append_right (Nat.le_refl _), Nat.sub_self]; rfl, hv⟩
  · rw [hk, Dk.puts, if_neg hz, List.drop_drop, hS] at g7
    rw [show (j + 1) * 64 = j * 64 + 64 by omega, ← Nat.add_assoc]; exact g7
  · show (y.waits ++ [(a + j, S)]).length = x.waits.length + (j + 1)
    rw [hll]; show y.waits.length + 1 = x.waits.length + (j + 1); omega
theorem ref_Write {I : Imm} {r n : Nat} {x : Dk} {L : Chunks} (hd : IsRef I r n x L) {at_ : Int} {bs : List UInt8} {vb : Value} (hbs : SlRd (Im I) vb bs.length 1 (bytesV bs)) (hwb : x.waits.length + 8192 ≤ 1954687338000) (hbl : bs.length ≤ 1152921504606846976) : Spec Try.prog 28 [.pointer (some ⟨r, 0, none⟩), .int .i64 at_, vb] I L (fun v' J L' => v' = .int .i64 (x.write n at_ bs).2 ∧ IsRef J r n (x.write n at_ bs).1 L') := by
  cases hd with
  | @mk vp vw ps ws Lp Lw ok fit op hp ow hw =>
  obtain ⟨n1, n2, lp, ln, hww, hl⟩ := id ok
  obtain ⟨Aw, cw, rfl, hcw⟩ := ow.slice
  obtain ⟨bp, cp, sp, rfl, rfl, hqp, hrp⟩ := op.get (by omega)
  have hwl := hw.len
  have hpl := hp.len
  refine Spec.of Try.func28 rfl Try.ntmps28 (Nat.le_of_ble_eq_true rfl) (fun F => ?_)
  try simp only [List.cons_append, List.nil_append, List.append_assoc]
  dsimp only [argsEnv]
  refine WP.seq ?_
  refine WP.region [0] rfl ?_
  refine WP.val rfl rfl rfl rfl (Yld.assign rfl rfl) ?_
  refine WP.nil ?_
  refine WP.next ?_
  refine WP.seq ?_
  refine WP.seq ?_
  refine WP.region [0, 1, 2, 3] rfl ?_
  refine WP.val rfl rfl rfl rfl (Yld.move rfl rfl) ?_
  refine WP.val rfl rfl rfl rfl (Yld.nilCheck rfl rfl) ?_
  refine WP.val rfl rfl rfl rfl (Yld.fieldAddr rfl ty_fd_59_3 rfl) ?_
  refine WP.splitB rfl rfl rfl rfl (Yld.load rfl ty_sc_4 rfl (by repeat (first | exact There.h | exact There.i (by assumption) | apply There.t | apply There.s)) rfl) (fun hb => ?_) (fun hb => ?_)
  · refine WP.nil ?_
    refine WP.sub [(0, _), (1, _), (2, _), (6, _), (13, _)] ?_ ⟨rfl, rfl, rfl, rfl, rfl, trivial⟩
    refine WP.next ?_
    refine WP.condT rfl ?_
    refine WP.seq ?_
    refine WP.region [0] rfl ?_
    refine WP.val rfl rfl rfl rfl (Yld.assign rfl rfl) ?_
    refine WP.nil ?_
    refine WP.next ?_
    refine WP.ret ?_
    refine WP.fin .ret (.inr rfl) (res1 rfl rfl) ((r, row 59 _) :: ((bp, row 24 _) :: Lw)) (by repeat (first | exact Take.nil | with_reducible apply Take.cons | apply Take.app | exact Rm.chunk | exact Rm.here | exact Rm.nil0 | apply Rm.skip | apply Rm.skipS | (focus (apply Take.all; (repeat (first | exact Rm.chunk | exact Rm.here | exact Rm.nil0 | apply Rm.skip | apply Rm.skipS)); done)) | apply Take.cons)) (by repeat (first | exact Leave.done | apply Leave.drop | apply Leave.dropS)) (Imm.le_refl _) ?_
    have hr : x.write n at_ bs = (x, 4) := by simp only [Dk.write, hb, if_true]
    rw [hr]; exact ⟨rfl, .mk ok fit op hp ow hw⟩
  · refine WP.nil ?_
    refine WP.sub [(0, _), (1, _), (2, _), (6, _), (13, _)] ?_ ⟨rfl, rfl, rfl, rfl, rfl, trivial⟩
    refine WP.next ?_
    refine WP.condF rfl ?_
    refine WP.skip ?_
    refine WP.next ?_
    refine WP.seq ?_
    refine WP.seq ?_
    refine WP.region [0, 1, 2, 3, 4, 5, 6, 7] rfl ?_
    refine WP.val rfl rfl rfl rfl (Yld.move rfl rfl) ?_
    refine WP.split rfl rfl rfl rfl (Yld.lss rfl rfl rfl) (fun h1 => ?_) (fun h1 => ?_)
    · refine WP.val rfl rfl rfl rfl (Yld.move rfl rfl) ?_
      refine WP.passG rfl rfl rfl rfl rfl rfl rfl rfl ?_
      refine WP.passG rfl rfl rfl rfl rfl rfl rfl rfl ?_
      refine WP.passG rfl rfl rfl rfl rfl rfl rfl rfl ?_
      refine WP.passG rfl rfl rfl rfl rfl rfl rfl rfl ?_
      refine WP.val rfl rfl rfl rfl (Yld.pickT rfl rfl rfl) ?_
      refine WP.nil ?_
      refine WP.sub [(0, _), (1, _), (2, _), (6, _), (13, _), (21, _)] ?_ ⟨rfl, rfl, rfl, rfl, rfl, rfl, trivial⟩
      refine WP.next ?_
      refine WP.condT rfl ?_
      refine WP.seq ?_
      refine WP.region [0] rfl ?_
      refine WP.val rfl rfl rfl rfl (Yld.assign rfl rfl) ?_
      refine WP.nil ?_
      refine WP.next ?_
      refine WP.ret ?_
      refine WP.fin .ret (.inr rfl) (res1 rfl rfl) ((r, row 59 _) :: ((bp, row 24 _) :: Lw)) (by repeat (first | exact Take.nil | with_reducible apply Take.cons | apply Take.app | exact Rm.chunk | exact Rm.here | exact Rm.nil0 | apply Rm.skip | apply Rm.skipS | (focus (apply Take.all; (repeat (first | exact Rm.chunk | exact Rm.here | exact Rm.nil0 | apply Rm.skip | apply Rm.skipS)); done)) | apply Take.cons)) (by repeat (first | exact Leave.done | apply Leave.drop | apply Leave.dropS)) (Imm.le_refl _) ?_
      have hr : x.write n at_ bs = (x, 1) := by simp only [Dk.write, hb, Bool.false_eq_true, if_false]; rw [if_pos (by omega)]
      rw [hr]; exact ⟨rfl, .mk ok fit op hp ow hw⟩
    · refine WP.val rfl rfl rfl rfl (Yld.move rfl rfl) ?_
      refine WP.valG rfl rfl rfl rfl rfl rfl rfl (Yld.move rfl rfl) ?_
      refine WP.valG rfl rfl rfl rfl rfl rfl rfl (Yld.lenR hbs rfl ty_sl_24 rfl) ?_
      refine WP.valG rfl rfl rfl rfl rfl rfl rfl (Yld.rem64 rfl rfl rfl (by omega)) ?_
      refine WP.splitG rfl rfl rfl rfl rfl rfl rfl (Yld.neq rfl rfl rfl) (fun h3 => ?_) (fun h3 => ?_)
      · refine WP.val rfl rfl rfl rfl (Yld.pickF rfl rfl rfl) ?_
        refine WP.nil ?_
        refine WP.sub [(0, _), (1, _), (2, _), (6, _), (13, _), (21, _)] ?_ ⟨rfl, rfl, rfl, rfl, rfl, rfl, trivial⟩
        refine WP.next ?_
        refine WP.condT rfl ?_
        refine WP.seq ?_
        refine WP.region [0] rfl ?_
        refine WP.val rfl rfl rfl rfl (Yld.assign rfl rfl) ?_
        refine WP.nil ?_
        refine WP.next ?_
        refine WP.ret ?_
        refine WP.fin .ret (.inr rfl) (res1 rfl rfl) ((r, row 59 _) :: ((bp, row 24 _) :: Lw)) (by repeat (first | exact Take.nil | with_reducible apply Take.cons | apply Take.app | exact Rm.chunk | exact Rm.here | exact Rm.nil0 | apply Rm.skip | apply Rm.skipS | (focus (apply Take.all; (repeat (first | exact Rm.chunk | exact Rm.here | exact Rm.nil0 | apply Rm.skip | apply Rm.skipS)); done)) | apply Take.cons)) (by repeat (first | exact Leave.done | apply Leave.drop | apply Leave.dropS)) (Imm.le_refl _) ?_
        have hr : x.write n at_ bs = (x, 1) := by simp only [Dk.write, hb, Bool.false_eq_true, if_false]; rw [if_pos (by omega)]
        rw [hr]; exact ⟨rfl, .mk ok fit op hp ow hw⟩
      · refine WP.val rfl rfl rfl rfl (Yld.pickF rfl rfl rfl) ?_
        refine WP.nil ?_
        refine WP.sub [(0, _), (1, _), (2, _), (6, _), (13, _), (21, _)] ?_ ⟨rfl, rfl, rfl, rfl, rfl, rfl, trivial⟩
        refine WP.next ?_
        refine WP.condF rfl ?_
        refine WP.skip ?_
        refine WP.next ?_
        refine WP.seq ?_
        refine WP.region [0, 1, 2, 3, 4, 5] rfl ?_
        refine WP.val rfl rfl rfl rfl (Yld.move rfl rfl) ?_
        refine WP.val rfl rfl rfl rfl (Yld.nilCheck rfl rfl) ?_
        refine WP.val rfl rfl rfl rfl (Yld.fieldAddr rfl ty_fd_59_0 rfl) ?_
        refine WP.val rfl rfl rfl rfl (Yld.load rfl ty_sc_56 rfl (by repeat (first | exact There.h | exact There.i (by assumption) | apply There.t | apply There.s)) rfl) ?_
        refine WP.val rfl rfl rfl rfl (Yld.len rfl ty_sl_56 rfl) ?_
        refine WP.val rfl rfl rfl rfl (Yld.assign rfl rfl) ?_
        refine WP.nil ?_
        refine WP.sub [(0, _), (1, _), (2, _), (6, _), (7, _), (13, _), (21, _)] ?_ ⟨rfl, rfl, rfl, rfl, rfl, rfl, rfl, trivial⟩
        refine WP.next ?_
        refine WP.cut (X := Unit) (fun _ => [(0, .pointer (some ⟨r, 0, none⟩)), (1, .int .i64 at_), (2, vb)]) (fun _ => I) (fun _ => (r, row 59 [.slice (some ⟨bp, 0, none⟩) n cp, .slice Aw x.waits.length cw, .int .i64 x.left, .bool x.off, .int .i64 x.writes, .int .i64 x.syncs]) :: (bp, row 24 (ps ++ sp)) :: (Lw ++ F)) (fun _ => ((bs.length / 64 : Nat) : Int) = 0 ∨ (at_ ≤ n ∧ ((bs.length / 64 : Nat) : Int) ≤ n - at_)) ?_ ?_
        · skip
          refine WP.seq ?_
          refine WP.region [0, 1, 2, 3, 4, 5, 6, 7, 8, 9, 10, 11, 12, 13, 14, 15, 16] rfl ?_
          refine WP.val rfl rfl rfl rfl (Yld.move rfl rfl) ?_
          refine WP.val rfl rfl rfl rfl (Yld.lenR hbs rfl ty_sl_24 rfl) ?_
          refine WP.split rfl rfl rfl rfl (Yld.gtr rfl rfl rfl) (fun h4 => ?_) (fun h4 => ?_)
          · refine WP.val rfl rfl rfl rfl (Yld.move rfl rfl) ?_
            refine WP.valG rfl rfl rfl rfl rfl rfl rfl (Yld.move rfl rfl) ?_
            refine WP.valG rfl rfl rfl rfl rfl rfl rfl (Yld.move rfl rfl) ?_
            refine WP.splitG rfl rfl rfl rfl rfl rfl rfl (Yld.gtr rfl rfl rfl) (fun h5 => ?_) (fun h5 => ?_)
            · refine WP.valG rfl rfl rfl rfl rfl rfl rfl (Yld.move rfl rfl) ?_
              refine WP.passG rfl rfl rfl rfl rfl rfl rfl rfl ?_
              refine WP.passG rfl rfl rfl rfl rfl rfl rfl rfl ?_
              refine WP.passG rfl rfl rfl rfl rfl rfl rfl rfl ?_
              refine WP.passG rfl rfl rfl rfl rfl rfl rfl rfl ?_
              refine WP.passG rfl rfl rfl rfl rfl rfl rfl rfl ?_
              refine WP.passG rfl rfl rfl rfl rfl rfl rfl rfl ?_
              refine WP.passG rfl rfl rfl rfl rfl rfl rfl rfl ?_
              refine WP.valG rfl rfl rfl rfl rfl rfl rfl (Yld.pickT rfl rfl rfl) ?_
              refine WP.val rfl rfl rfl rfl (Yld.pickT rfl rfl rfl) ?_
              refine WP.nil ?_
              refine WP.sub [(0, _), (1, _), (2, _), (6, _), (7, _), (13, _), (21, _), (43, _)] ?_ ⟨rfl, rfl, rfl, rfl, rfl, rfl, rfl, rfl, trivial⟩
              refine WP.next ?_
              refine WP.condT rfl ?_
              refine WP.seq ?_
              refine WP.region [0] rfl ?_
              refine WP.val rfl rfl rfl rfl (Yld.assign rfl rfl) ?_
              refine WP.nil ?_
              refine WP.next ?_
              refine WP.ret ?_
              refine WP.fin .ret (.inr rfl) (res1 rfl rfl) ((r, row 59 _) :: ((bp, row 24 _) :: Lw)) (by repeat (first | exact Take.nil | with_reducible apply Take.cons | apply Take.app | exact Rm.chunk | exact Rm.here | exact Rm.nil0 | apply Rm.skip | apply Rm.skipS | (focus (apply Take.all; (repeat (first | exact Rm.chunk | exact Rm.here | exact Rm.nil0 | apply Rm.skip | apply Rm.skipS)); done)) | apply Take.cons)) (by repeat (first | exact Leave.done | apply Leave.drop | apply Leave.dropS)) (Imm.le_refl _) ?_
              have hr : x.write n at_ bs = (x, 3) := by simp only [Dk.write, hb, Bool.false_eq_true, if_false]; rw [if_neg (by omega), if_pos (by omega)]
              rw [hr]; exact ⟨rfl, .mk ok fit op hp ow hw⟩
            · refine WP.valG rfl rfl rfl rfl rfl rfl rfl (Yld.move rfl rfl) ?_
              refine WP.valG rfl rfl rfl rfl rfl rfl rfl (Yld.move rfl rfl) ?_
              refine WP.valG rfl rfl rfl rfl rfl rfl rfl (Yld.lenR hbs rfl ty_sl_24 rfl) ?_
              refine WP.valG rfl rfl rfl rfl rfl rfl rfl (Yld.quo64 rfl rfl rfl (by omega)) ?_
              refine WP.valG rfl rfl rfl rfl rfl rfl rfl (Yld.move rfl rfl) ?_
              refine WP.valG rfl rfl rfl rfl rfl rfl rfl (Yld.move rfl rfl) ?_
              refine WP.valG rfl rfl rfl rfl rfl rfl rfl (Yld.sub64 rfl rfl rfl (by omega)) ?_
              refine WP.splitG rfl rfl rfl rfl rfl rfl rfl (Yld.gtr rfl rfl rfl) (fun h6 => ?_) (fun h6 => ?_)
              · refine WP.valG rfl rfl rfl rfl rfl rfl rfl (Yld.pickF rfl rfl rfl) ?_
                refine WP.val rfl rfl rfl rfl (Yld.pickT rfl rfl rfl) ?_
                refine WP.nil ?_
                refine WP.sub [(0, _), (1, _), (2, _), (6, _), (7, _), (13, _), (21, _), (43, _)] ?_ ⟨rfl, rfl, rfl, rfl, rfl, rfl, rfl, rfl, trivial⟩
                refine WP.next ?_
                refine WP.condT rfl ?_
                refine WP.seq ?_
                refine WP.region [0] rfl ?_
                refine WP.val rfl rfl rfl rfl (Yld.assign rfl rfl) ?_
                refine WP.nil ?_
                refine WP.next ?_
                refine WP.ret ?_
                refine WP.fin .ret (.inr rfl) (res1 rfl rfl) ((r, row 59 _) :: ((bp, row 24 _) :: Lw)) (by repeat (first | exact Take.nil | with_reducible apply Take.cons | apply Take.app | exact Rm.chunk | exact Rm.here | exact Rm.nil0 | apply Rm.skip | apply Rm.skipS | (focus (apply Take.all; (repeat (first | exact Rm.chunk | exact Rm.here | exact Rm.nil0 | apply Rm.skip | apply Rm.skipS)); done)) | apply Take.cons)) (by repeat (first | exact Leave.done | apply Leave.drop | apply Leave.dropS)) (Imm.le_refl _) ?_
                have hr : x.write n at_ bs = (x, 3) := by simp only [Dk.write, hb, Bool.false_eq_true, if_false]; rw [if_neg (by omega), if_pos (by omega)]
                rw [hr]; exact ⟨rfl, .mk ok fit op hp ow hw⟩
              · refine WP.valG rfl rfl rfl rfl rfl rfl rfl (Yld.pickF rfl rfl rfl) ?_
                refine WP.val rfl rfl rfl rfl (Yld.pickT rfl rfl rfl) ?_
                refine WP.nil ?_
                refine WP.sub [(0, _), (1, _), (2, _), (6, _), (7, _), (13, _), (21, _), (43, _)] ?_ ⟨rfl, rfl, rfl, rfl, rfl, rfl, rfl, rfl, trivial⟩
                refine WP.next ?_
                refine WP.condF rfl ?_
                refine WP.skip ?_
                exact WP.meet () (by omega) ⟨rfl, rfl, rfl, trivial⟩ rfl (by (try dsimp only); repeat (first | exact Rm.chunk | exact Rm.here | exact Rm.nil0 | apply Rm.skip | apply Rm.skipS | apply PX.cons | (apply PX.done; (repeat (first | exact Leave.done | apply Leave.drop | apply Leave.dropS)); done) | apply PX.app))
          · refine WP.val rfl rfl rfl rfl (Yld.move rfl rfl) ?_
            refine WP.passG rfl rfl rfl rfl rfl rfl rfl rfl ?_
            refine WP.passG rfl rfl rfl rfl rfl rfl rfl rfl ?_
            refine WP.passG rfl rfl rfl rfl rfl rfl rfl rfl ?_
            refine WP.passG rfl rfl rfl rfl rfl rfl rfl rfl ?_
            refine WP.passG rfl rfl rfl rfl rfl rfl rfl rfl ?_
            refine WP.passG rfl rfl rfl rfl rfl rfl rfl rfl ?_
            refine WP.passG rfl rfl rfl rfl rfl rfl rfl rfl ?_
            refine WP.passG rfl rfl rfl rfl rfl rfl rfl rfl ?_
            refine WP.passG rfl rfl rfl rfl rfl rfl rfl rfl ?_
            refine WP.passG rfl rfl rfl rfl rfl rfl rfl rfl ?_
            refine WP.passG rfl rfl rfl rfl rfl rfl rfl rfl ?_
            refine WP.passG rfl rfl rfl rfl rfl rfl rfl rfl ?_
            refine WP.val rfl rfl rfl rfl (Yld.pickF rfl rfl rfl) ?_
            refine WP.nil ?_
            refine WP.sub [(0, _), (1, _), (2, _), (6, _), (7, _), (13, _), (21, _), (43, _)] ?_ ⟨rfl, rfl, rfl, rfl, rfl, rfl, rfl, rfl, trivial⟩
            refine WP.next ?_
            refine WP.condF rfl ?_
            refine WP.skip ?_
            exact WP.meet () (by omega) ⟨rfl, rfl, rfl, trivial⟩ rfl (by (try dsimp only); repeat (first | exact Rm.chunk | exact Rm.here | exact Rm.nil0 | apply Rm.skip | apply Rm.skipS | apply PX.cons | (apply PX.done; (repeat (first | exact Leave.done | apply Leave.drop | apply Leave.dropS)); done) | apply PX.app))
        · intro _ hh
          refine WP.seq ?_
          refine WP.seq ?_
          refine WP.region [0] rfl ?_
          refine WP.val rfl rfl rfl rfl (Yld.assign rfl rfl) ?_
          refine WP.nil ?_
          refine WP.next ?_
          refine WP.block ?_
          have hr0 : x.write n at_ bs = Dk.puts (bs.length / 64) x at_.toNat bs := by simp only [Dk.write, hb, Bool.false_eq_true, if_false]; rw [if_neg (by omega), if_neg (fun h => h hh)]
          have hmm : bs.length = bs.length / 64 * 64 := by omega
          have ham : bs.length / 64 = 0 ∨ at_.toNat + bs.length / 64 ≤ n := by omega
          refine WP.loop (X := RW) (fun t : RW => [(0, .pointer (some ⟨r, 0, none⟩)), (1, .int .i64 at_), (2, vb), (8, .int .i64 (t.j : Int))]) (fun t => t.J) (fun t : RW => (r, row 59 [.slice (some ⟨bp, 0, none⟩) n cp, t.vw, .int .i64 t.y.left, .bool t.y.off, .int .i64 t.y.writes, .int .i64 t.y.syncs]) :: (bp, row 24 (ps ++ sp)) :: (t.Lw ++ F)) (fun t => t.ok I n (bs.length / 64) at_.toNat bs x (x.write n at_ bs)) (fun t => bs.length / 64 - t.j) ⟨0, x, I, ws, .slice Aw x.waits.length cw, Lw⟩ ⟨Nat.zero_le _, ok, fit, Imm.le_refl _, ow, hw, by simpa using hr0.symm, rfl, rfl⟩ ⟨rfl, rfl, rfl, rfl, trivial⟩ rfl (by (try dsimp only); repeat (first | exact Rm.chunk | exact Rm.here | exact Rm.nil0 | apply Rm.skip | apply Rm.skipS | apply PX.cons | (apply PX.done; (repeat (first | exact Leave.done | apply Leave.drop | apply Leave.dropS)); done) | apply PX.app)) ?_
          rintro ⟨j, y, J, ws2, vw2, Lw2⟩ hx
          try dsimp only
          try simp only [List.cons_append, List.nil_append, List.append_assoc]
          refine WP.seq ?_
          refine WP.seq ?_
          refine WP.region [0, 1, 2, 3, 4] rfl ?_
          refine WP.val rfl rfl rfl rfl (Yld.move rfl rfl) ?_
          refine WP.val rfl rfl rfl rfl (Yld.move rfl rfl) ?_
          refine WP.val rfl rfl rfl rfl (Yld.lenR hbs rfl ty_sl_24 rfl) ?_
          refine WP.val rfl rfl rfl rfl (Yld.quo64 rfl rfl rfl (by omega)) ?_
          refine WP.split rfl rfl rfl rfl (Yld.lss rfl rfl rfl) (fun hlt => ?_) (fun hlt => ?_)
          · obtain ⟨g1, g2, g3, hJ, g5, g6, g7, g8, g9⟩ := id hx
            simp only at g1 g2 g3 hJ g5 g6 g7 g8 g9
            have hj : j < bs.length / 64 := by first | omega | (simp only at hlt; omega)
            obtain ⟨Aw2, cw2, rfl, hcw2⟩ := g5.slice
            have gl := g2.hl
            refine WP.nil ?_
            refine WP.sub [(0, _), (1, _), (2, _), (8, _), (48, _)] ?_ ⟨rfl, rfl, rfl, rfl, rfl, trivial⟩
            refine WP.next ?_
            refine WP.condT rfl ?_
            refine WP.skip ?_
            refine WP.next ?_
            refine WP.seq ?_
            refine WP.block ?_
            refine WP.seq ?_
            refine WP.seq ?_
            refine WP.region [0, 1, 2, 3, 4] rfl ?_
            refine WP.val rfl rfl rfl rfl (Yld.move rfl rfl) ?_
            refine WP.val rfl rfl rfl rfl (Yld.nilCheck rfl rfl) ?_
            refine WP.val rfl rfl rfl rfl (Yld.fieldAddr rfl ty_fd_59_2 rfl) ?_
            refine WP.val rfl rfl rfl rfl (Yld.load rfl ty_sc_3 rfl (by repeat (first | exact There.h | exact There.i (by assumption) | apply There.t | apply There.s)) rfl) ?_
            refine WP.split rfl rfl rfl rfl (Yld.eql rfl rfl rfl) (fun hz => ?_) (fun hz => ?_)
            · refine WP.nil ?_
              refine WP.sub [(0, _), (1, _), (2, _), (8, _), (48, _), (55, _)] ?_ ⟨rfl, rfl, rfl, rfl, rfl, rfl, trivial⟩
              refine WP.next ?_
              refine WP.condT rfl ?_
              refine WP.seq ?_
              refine WP.region [0, 1, 2, 3] rfl ?_
              refine WP.val rfl rfl rfl rfl (Yld.move rfl rfl) ?_
              refine WP.val rfl rfl rfl rfl (Yld.nilCheck rfl rfl) ?_
              refine WP.val rfl rfl rfl rfl (Yld.fieldAddr rfl ty_fd_59_3 rfl) ?_
              refine WP.loud rfl rfl ?_
              refine Op.store1 rfl rfl ty_sz_4 rfl rfl rfl (by repeat (first | exact Upd.head | apply Upd.tail | apply Upd.tailS)) (by repeat (first | exact SetAt.zero | apply SetAt.succ)) ?_
              refine WP.nil ?_
              refine WP.sub [(0, _), (1, _), (2, _), (8, _), (48, _), (55, _)] ?_ ⟨rfl, rfl, rfl, rfl, rfl, rfl, trivial⟩
              refine WP.next ?_
              refine WP.seq ?_
              refine WP.region [0, 1, 2, 3] rfl ?_
              refine WP.val rfl rfl rfl rfl (Yld.move rfl rfl) ?_
              refine WP.val rfl rfl rfl rfl (Yld.nilCheck rfl rfl) ?_
              refine WP.val rfl rfl rfl rfl (Yld.fieldAddr rfl ty_fd_59_2 rfl) ?_
              refine WP.loud rfl rfl ?_
              refine Op.store1 rfl rfl ty_sz_3 rfl rfl rfl (by repeat (first | exact Upd.head | apply Upd.tail | apply Upd.tailS)) (by repeat (first | exact SetAt.zero | apply SetAt.succ)) ?_
              refine WP.nil ?_
              refine WP.sub [(0, _), (1, _), (2, _), (8, _), (48, _), (55, _)] ?_ ⟨rfl, rfl, rfl, rfl, rfl, rfl, trivial⟩
              refine WP.next ?_
              refine WP.seq ?_
              refine WP.region [0] rfl ?_
              refine WP.val rfl rfl rfl rfl (Yld.assign rfl rfl) ?_
              refine WP.nil ?_
              refine WP.next ?_
              refine WP.ret ?_
              refine WP.fin .ret (.inr rfl) (res1 rfl rfl) ((r, row 59 _) :: ((bp, row 24 _) :: Lw2)) (by repeat (first | exact Take.nil | with_reducible apply Take.cons | apply Take.app | exact Rm.chunk | exact Rm.here | exact Rm.nil0 | apply Rm.skip | apply Rm.skipS | (focus (apply Take.all; (repeat (first | exact Rm.chunk | exact Rm.here | exact Rm.nil0 | apply Rm.skip | apply Rm.skipS)); done)) | apply Take.cons)) (by repeat (first | exact Leave.done | apply Leave.drop | apply Leave.dropS)) hJ ?_
              have hr : x.write n at_ bs = ({ y with off := true, left := -1 }, 4) := by rw [← g7, show bs.length / 64 - j = (bs.length / 64 - (j + 1)) + 1 by omega, Dk.puts, if_pos hz]
              rw [hr]; exact ⟨rfl, .mk (x := { y with off := true, left := -1 }) ⟨g2.n1, g2.n2, g2.lp, g2.ln, g2.hw, by simp⟩ g3 op (by show PlatOk _ _ _ y.plat; rw [g8]; exact hp.mono hJ) g5 g6⟩
            · refine WP.nil ?_
              refine WP.sub [(0, _), (1, _), (2, _), (8, _), (48, _), (55, _)] ?_ ⟨rfl, rfl, rfl, rfl, rfl, rfl, trivial⟩
              refine WP.next ?_
              refine WP.condF rfl ?_
              refine WP.skip ?_
              refine WP.next ?_
              refine WP.cut (X := Int) (fun _ => [(0, .pointer (some ⟨r, 0, none⟩)), (1, .int .i64 at_), (2, vb), (8, .int .i64 (j : Int))]) (fun _ => J) (fun l => (r, row 59 [.slice (some ⟨bp, 0, none⟩) n cp, .slice Aw2 y.waits.length cw2, .int .i64 l, .bool y.off, .int .i64 y.writes, .int .i64 y.syncs]) :: (bp, row 24 (ps ++ sp)) :: (Lw2 ++ F)) (fun l => l = dec y.left) ?_ ?_
              · skip
                refine WP.seq ?_
                refine WP.region [0, 1, 2, 3, 4] rfl ?_
                refine WP.val rfl rfl rfl rfl (Yld.move rfl rfl) ?_
                refine WP.val rfl rfl rfl rfl (Yld.nilCheck rfl rfl) ?_
                refine WP.val rfl rfl rfl rfl (Yld.fieldAddr rfl ty_fd_59_2 rfl) ?_
                refine WP.val rfl rfl rfl rfl (Yld.load rfl ty_sc_3 rfl (by repeat (first | exact There.h | exact There.i (by assumption) | apply There.t | apply There.s)) rfl) ?_
                refine WP.split rfl rfl rfl rfl (Yld.gtr rfl rfl rfl) (fun hpz => ?_) (fun hpz => ?_)
                · refine WP.nil ?_
                  refine WP.sub [(0, _), (1, _), (2, _), (8, _), (48, _), (55, _), (66, _)] ?_ ⟨rfl, rfl, rfl, rfl, rfl, rfl, rfl, trivial⟩
                  refine WP.next ?_
                  refine WP.condT rfl ?_
                  refine WP.region [0, 1, 2, 3, 4, 5, 6, 7] rfl ?_
                  refine WP.val rfl rfl rfl rfl (Yld.move rfl rfl) ?_
                  refine WP.val rfl rfl rfl rfl (Yld.nilCheck rfl rfl) ?_
                  refine WP.val rfl rfl rfl rfl (Yld.fieldAddr rfl ty_fd_59_2 rfl) ?_
                  refine WP.val rfl rfl rfl rfl (Yld.load rfl ty_sc_3 rfl (by repeat (first | exact There.h | exact There.i (by assumption) | apply There.t | apply There.s)) rfl) ?_
                  refine WP.val rfl rfl rfl rfl (Yld.sub64 rfl rfl rfl (by omega)) ?_
                  refine WP.val rfl rfl rfl rfl (Yld.nilCheck rfl rfl) ?_
                  refine WP.val rfl rfl rfl rfl (Yld.fieldAddr rfl ty_fd_59_2 rfl) ?_
                  refine WP.loud rfl rfl ?_
                  refine Op.store1 rfl rfl ty_sz_3 rfl rfl rfl (by repeat (first | exact Upd.head | apply Upd.tail | apply Upd.tailS)) (by repeat (first | exact SetAt.zero | apply SetAt.succ)) ?_
                  refine WP.nil ?_
                  refine WP.sub [(0, _), (1, _), (2, _), (8, _), (48, _), (55, _), (66, _)] ?_ ⟨rfl, rfl, rfl, rfl, rfl, rfl, rfl, trivial⟩
                  exact WP.meet (y.left - 1) (by simp [dec, hpz]) ⟨rfl, rfl, rfl, rfl, trivial⟩ rfl (by (try dsimp only); repeat (first | exact Rm.chunk | exact Rm.here | exact Rm.nil0 | apply Rm.skip | apply Rm.skipS | apply PX.cons | (apply PX.done; (repeat (first | exact Leave.done | apply Leave.drop | apply Leave.dropS)); done) | apply PX.app))
                · refine WP.nil ?_
                  refine WP.sub [(0, _), (1, _), (2, _), (8, _), (48, _), (55, _), (66, _)] ?_ ⟨rfl, rfl, rfl, rfl, rfl, rfl, rfl, trivial⟩
                  refine WP.next ?_
                  refine WP.condF rfl ?_
                  refine WP.skip ?_
                  exact WP.meet (y.left) (by simp [dec, hpz]) ⟨rfl, rfl, rfl, rfl, trivial⟩ rfl (by (try dsimp only); repeat (first | exact Rm.chunk | exact Rm.here | exact Rm.nil0 | apply Rm.skip | apply Rm.skipS | apply PX.cons | (apply PX.done; (repeat (first | exact Leave.done | apply Leave.drop | apply Leave.dropS)); done) | apply PX.app))
              · rintro l rfl
                refine WP.seq ?_
                refine WP.region [0, 1, 2, 3, 4, 5, 6, 7] rfl ?_
                refine WP.val rfl rfl rfl rfl (Yld.move rfl rfl) ?_
                refine WP.val rfl rfl rfl rfl (Yld.nilCheck rfl rfl) ?_
                refine WP.val rfl rfl rfl rfl (Yld.fieldAddr rfl ty_fd_59_4 rfl) ?_
                refine WP.val rfl rfl rfl rfl (Yld.load rfl ty_sc_3 rfl (by repeat (first | exact There.h | exact There.i (by assumption) | apply There.t | apply There.s)) rfl) ?_
                refine WP.val rfl rfl rfl rfl (Yld.add rfl rfl rfl) ?_
                refine WP.val rfl rfl rfl rfl (Yld.nilCheck rfl rfl) ?_
                refine WP.val rfl rfl rfl rfl (Yld.fieldAddr rfl ty_fd_59_4 rfl) ?_
                refine WP.loud rfl rfl ?_
                refine Op.store1 rfl rfl ty_sz_3 rfl rfl rfl (by repeat (first | exact Upd.head | apply Upd.tail | apply Upd.tailS)) (by repeat (first | exact SetAt.zero | apply SetAt.succ)) ?_
                refine WP.nil ?_
                refine WP.sub [(0, _), (1, _), (2, _), (8, _)] ?_ ⟨rfl, rfl, rfl, rfl, trivial⟩
                refine WP.next ?_
                refine WP.seq ?_
                have hbs2 := hbs.mono (fun b o h => hJ.2 b o h)
                have ssub := hbs2.sub (l := j * 64) (h := (j + 1) * 64) (by omega) (by omega)
                rw [Nat.mul_one, Nat.mul_one, bytesV_drop, bytesV_take, show (j + 1) * 64 - j * 64 = 64 by omega] at ssub
                refine WP.region [0, 1, 2, 3, 4, 5, 6, 7, 8] rfl ?_
                refine WP.val rfl rfl rfl rfl (Yld.move rfl rfl) ?_
                refine WP.val rfl rfl rfl rfl (Yld.move rfl rfl) ?_
                refine WP.val rfl rfl rfl rfl (Yld.mul64 rfl rfl rfl (by omega)) ?_
                refine WP.val rfl rfl rfl rfl (Yld.move rfl rfl) ?_
                refine WP.val rfl rfl rfl rfl (Yld.add64 rfl rfl rfl (by omega)) ?_
                refine WP.val rfl rfl rfl rfl (Yld.mul64 rfl rfl rfl (by omega)) ?_
                refine WP.val rfl rfl rfl rfl (Yld.sliceR (l := j * 64) (h := (j + 1) * 64) hbs2 rfl ty_sl_24 rfl (Env.limS (congrArg (fun z => some (Value.int .i64 z)) (by omega))) (Env.limS (congrArg (fun z => some (Value.int .i64 z)) (by omega))) (by omega) (by omega)) ?_
                refine WP.loud rfl rfl ?_
                refine Op.append rfl ty_sl_24 ty_el_24 rfl rfl rfl rfl rfl .none0 (ssub.mono Im.there) (by repeat (first | exact Take.nil | with_reducible apply Take.cons | apply Take.app | exact Rm.chunk | exact Rm.here | exact Rm.nil0 | apply Rm.skip | apply Rm.skipS | (focus (apply Take.all; (repeat (first | exact Rm.chunk | exact Rm.here | exact Rm.nil0 | apply Rm.skip | apply Rm.skipS)); done)) | apply Take.cons)) (bytesV_one _) (by decide) (by decide) (fun vs Ls hs => ?_)
                try simp only [List.cons_append, List.nil_append, List.append_assoc]
                refine WP.shareOwn hs (by repeat (first | exact Take.nil | with_reducible apply Take.cons | apply Take.app | exact Rm.chunk | exact Rm.here | exact Rm.nil0 | apply Rm.skip | apply Rm.skipS | (focus (apply Take.all; (repeat (first | exact Rm.chunk | exact Rm.here | exact Rm.nil0 | apply Rm.skip | apply Rm.skipS)); done)) | apply Take.cons)) (fun J2 hJ2 hv64 => ?_)
                have hv9 : rsec J2 vs ((bs.drop (j * 64)).take 64) := ⟨by simp; omega, hv64⟩
                obtain ⟨A8, c8, rfl, hc8⟩ := hv9.slice
                try simp only [List.cons_append, List.nil_append, List.append_assoc]
                refine WP.val rfl rfl rfl rfl (Yld.assign rfl rfl) ?_
                refine WP.nil ?_
                refine WP.sub [(0, _), (1, _), (2, _), (8, _), (9, _)] ?_ ⟨rfl, rfl, rfl, rfl, rfl, trivial⟩
                refine WP.next ?_
                refine WP.region [0, 1, 2, 3, 4, 5, 6, 7, 8, 9, 10, 11, 12, 13, 14] rfl ?_
                refine WP.val rfl rfl rfl rfl (Yld.move rfl rfl) ?_
                refine WP.val rfl rfl rfl rfl (Yld.move rfl rfl) ?_
                refine WP.val rfl rfl rfl rfl (Yld.nilCheck rfl rfl) ?_
                refine WP.val rfl rfl rfl rfl (Yld.fieldAddr rfl ty_fd_59_1 rfl) ?_
                refine WP.val rfl rfl rfl rfl (Yld.load rfl ty_sc_57 rfl (by repeat (first | exact There.h | exact There.i (by assumption) | apply There.t | apply There.s)) rfl) ?_
                refine WP.val rfl rfl rfl rfl (Yld.move rfl rfl) ?_
                refine WP.val rfl rfl rfl rfl (Yld.move rfl rfl) ?_
                refine WP.val rfl rfl rfl rfl (Yld.add64 rfl rfl rfl (by omega)) ?_
                refine WP.val rfl rfl rfl rfl (Yld.move rfl rfl) ?_
                refine WP.val rfl rfl rfl rfl (Yld.buildS (pl := [(0, 0, 1), (1, 1, 1)]) rfl ty_zr_77 ty_zd_77 (by kernel_rfl) rfl (vs := [_, _]) rfl (segs := [(0, [_]), (1, [_])]) rfl rfl (by repeat (first | exact SetSeg.nil | apply SetSeg.one | exact SetAt.zero | apply SetAt.succ))) ?_
                refine WP.loud rfl rfl ?_
                refine Op.buildSlice rfl ty_sl_57 ty_el2_57 rfl rfl rfl rfl (vs := [_]) rfl (segs := [(0, [.int .i64 ((at_.toNat + j : Nat) : Int), .slice A8 64 c8])]) (cs := [.int .i64 ((at_.toNat + j : Nat) : Int), .slice A8 64 c8]) rfl (by rw [show at_ + (j : Int) = ((at_.toNat + j : Nat) : Int) by omega]; rfl) (.seg (Nat.le_refl _) rfl .nil) (fun bz => ?_)
                refine WP.loud rfl rfl ?_
                refine Op.append rfl ty_sl_57 ty_el_57 rfl rfl rfl rfl rfl g5 (SlRd.lit (by repeat (first | exact There.h | exact There.i (by assumption) | apply There.t | apply There.s)) rfl (Nat.le_refl _)) (by repeat (first | exact Take.nil | with_reducible apply Take.cons | apply Take.app | exact Rm.chunk | exact Rm.here | exact Rm.nil0 | apply Rm.skip | apply Rm.skipS | (focus (apply Take.all; (repeat (first | exact Rm.chunk | exact Rm.here | exact Rm.nil0 | apply Rm.skip | apply Rm.skipS)); done)) | apply Take.cons)) rfl (by omega) (by omega) (fun vq Lq hq => ?_)
                try simp only [List.cons_append, List.nil_append, List.append_assoc]
                obtain ⟨A9, c9, rfl, hcq⟩ := hq.slice
                refine WP.val rfl rfl rfl rfl (Yld.nilCheck rfl rfl) ?_
                refine WP.val rfl rfl rfl rfl (Yld.fieldAddr rfl ty_fd_59_1 rfl) ?_
                refine WP.loud rfl rfl ?_
                refine Op.store1 rfl rfl ty_sz_57 rfl rfl rfl (by repeat (first | exact Upd.head | apply Upd.tail | apply Upd.tailS)) (by repeat (first | exact SetAt.zero | apply SetAt.succ)) ?_
                refine WP.nil ?_
                refine WP.sub [(0, _), (1, _), (2, _), (8, _), (9, _)] ?_ ⟨rfl, rfl, rfl, rfl, rfl, trivial⟩
                refine WP.leave ?_
                refine WP.next ?_
                refine WP.region [0, 1, 2] rfl ?_
                refine WP.val rfl rfl rfl rfl (Yld.move rfl rfl) ?_
                refine WP.val rfl rfl rfl rfl (Yld.add64 rfl rfl rfl (by omega)) ?_
                refine WP.val rfl rfl rfl rfl (Yld.assign rfl rfl) ?_
                refine WP.nil ?_
                refine WP.sub [(0, _), (1, _), (2, _), (8, _), (9, _)] ?_ ⟨rfl, rfl, rfl, rfl, rfl, trivial⟩
                exact WP.again ⟨j + 1, y.write1 (at_.toNat + j) ((bs.drop (j * 64)).take 64), J2, ws2 ++ [(at_.toNat + j, .slice A8 64 c8)], .slice A9 (y.waits.length + 1) c9, Lq⟩ (RW.next hx hj hmm (by omega) hz hJ2 hv9 hq) (by simp only; omega) ⟨rfl, rfl, rfl, rfl, trivial⟩ rfl (by (try dsimp only); repeat (first | exact Rm.chunk | exact Rm.here | exact Rm.nil0 | apply Rm.skip | apply Rm.skipS | apply PX.cons | (apply PX.done; (repeat (first | exact Leave.done | apply Leave.drop | apply Leave.dropS)); done) | apply PX.app))
          · obtain ⟨g1, g2, g3, hJ, g5, g6, g7, g8, g9⟩ := id hx
            simp only at g1 g2 g3 hJ g5 g6 g7 g8 g9
            have hj : j = bs.length / 64 := by first | omega | (simp only at hlt; omega)
            refine WP.nil ?_
            refine WP.sub [(0, _), (1, _), (2, _), (8, _), (48, _)] ?_ ⟨rfl, rfl, rfl, rfl, rfl, trivial⟩
            refine WP.next ?_
            refine WP.condF rfl ?_
            refine WP.exit ?_
            refine WP.thenE ?_
            refine WP.thenE ?_
            refine WP.hit ?_
            refine WP.next ?_
            refine WP.seq ?_
            refine WP.region [0] rfl ?_
            refine WP.val rfl rfl rfl rfl (Yld.assign rfl rfl) ?_
            refine WP.nil ?_
            refine WP.next ?_
            refine WP.ret ?_
            refine WP.fin .ret (.inr rfl) (res1 rfl rfl) ((r, row 59 _) :: ((bp, row 24 _) :: Lw2)) (by repeat (first | exact Take.nil | with_reducible apply Take.cons | apply Take.app | exact Rm.chunk | exact Rm.here | exact Rm.nil0 | apply Rm.skip | apply Rm.skipS | (focus (apply Take.all; (repeat (first | exact Rm.chunk | exact Rm.here | exact Rm.nil0 | apply Rm.skip | apply Rm.skipS)); done)) | apply Take.cons)) (by repeat (first | exact Leave.done | apply Leave.drop | apply Leave.dropS)) hJ ?_
            have hr : x.write n at_ bs = (y, 0) := by rw [← g7, show bs.length / 64 - j = 0 by omega, Dk.puts]
            rw [hr]; exact ⟨rfl, .mk g2 g3 op (by rw [g8]; exact hp.mono hJ) g5 g6⟩


end Go.Hp
