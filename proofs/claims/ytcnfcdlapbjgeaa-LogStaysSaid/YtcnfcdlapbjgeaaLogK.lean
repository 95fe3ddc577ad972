import Derived.Test.YtcnfcdlapbjgeaaLogJ
set_option linter.unusedVariables false
set_option linter.unusedSimpArgs false
namespace Go.Hp
open Go Go.Proofs

theorem headD_at {l : List UInt8} (h : 0 < l.length) : l.headD 0 = l[0] := by cases l with | nil => exact absurd h (Nat.lt_irrefl _) | cons a t => rfl
theorem cut_tail (l : List UInt8) : cut l 1 l.length = l.drop 1 := by unfold cut; rw [List.take_of_length_le (by rw [List.length_drop]; exact Nat.le_refl _)]
set_option maxHeartbeats 2000000 in
theorem read_Step_live {I : Imm} {l s d n : Nat} {x : Lg} {y : Dk} {L : Chunks} (hl : IsLog I l s d n x y L) {r : Nat} {z : Rd} {Lr : Chunks} (hr : IsRead I r l z Lr) (hdd : z.dn = false) (h63 : z.ps.length ≤ 63) (hp8 : z.place ≤ 1125899906842624) (hn : z.place < x.endP (x.lo - x.base) ∨ x.pl ≤ z.place) : Spec Try.prog 30 [.pointer (some ⟨r, 0, none⟩)] I (Lr ++ L) (fun v J L' => v = .bool (rstep (fun q => pread y n x.g q) z).1 ∧ ∃ Lr2 L2, L' = Lr2 ++ L2 ∧ IsRead J r l (rstep (fun q => pread y n x.g q) z).2 Lr2 ∧ IsLog J l s d n x y L2) := by
 cases hl with
 | @mk bi ba oi oa li la Ld ok rk mi ma im am hd =>
 cases hr with
 | @done vp vb Lp hdn hb => rw [hdd] at hdn; cases hdn
 | @live vp vb lp Lp hdn ho hdt hp h64 hb =>
 obtain ⟨Ap, cp, rfl, _⟩ := ho.slice
 have hpl0 : lp.length ≤ 63 := by rw [← hp, List.length_map] at h63; exact h63
 have hnone : aget la (z.place : Int) = none := am.at0 _ (by omega)
 refine Spec.of Try.func30 rfl Try.ntmps30 (Nat.le_of_ble_eq_true rfl) (fun F => ?_)
 try simp only [nf]
 dsimp only [argsEnv]
 refine WP.seq ?_
 refine WP.region [0] rfl ?_
 refine WP.mv rfl rfl ?_
 refine WP.nil ?_
 refine WP.next ?_
 refine WP.seq ?_
 refine WP.seq ?_
 refine WP.region [0, 1, 2, 3] rfl ?_
 refine WP.mv rfl rfl ?_
 refine WP.vl rfl (Yld.nilCheck rfl rfl) ?_
 refine WP.vl rfl (Yld.fieldAddr rfl ty_fd_110_3 rfl) ?_
 refine WP.vl rfl (Yld.ld (v := .bool false) rfl ty_sc_4 rfl rfl) ?_
 refine WP.nil ?_
 refine WP.sub [(0, _), (2, _), (11, _)] ?_ ⟨rfl, rfl, rfl, trivial⟩
 refine WP.next ?_
 refine WP.condF rfl ?_
 refine WP.skip ?_
 refine WP.next ?_
 refine WP.seq ?_
 refine WP.seq ?_
 refine WQ.startAll Trymixed (by kernel_rfl) _ rfl ?_
 refine WQ.val rfl rfl rfl (Yld.move rfl rfl) ?_
 refine WQ.val rfl rfl rfl (Yld.nilCheck rfl rfl) ?_
 refine WQ.val rfl rfl rfl (Yld.fieldAddr rfl ty_fd_110_0 rfl) ?_
 refine WQ.val rfl rfl rfl (Yld.ld (v := .pointer (some ⟨l, 0, none⟩)) rfl ty_sc_34 rfl rfl) ?_
 refine WQ.val rfl rfl rfl (Yld.nilCheck rfl rfl) ?_
 refine WQ.val rfl rfl rfl (Yld.fieldAddr rfl ty_fd_87_4 rfl) ?_
 refine WQ.val rfl rfl rfl (Yld.ld (v := .map (some ba)) rfl ty_sc_85 rfl rfl) ?_
 refine WQ.val rfl rfl rfl (Yld.move rfl rfl) ?_
 refine WQ.val rfl rfl rfl (Yld.nilCheck rfl rfl) ?_
 refine WQ.val rfl rfl rfl (Yld.fieldAddr rfl ty_fd_110_1 rfl) ?_
 refine WQ.val rfl rfl rfl (Yld.ld (v := .int .i64 (z.place : Int)) rfl ty_sc_3 rfl rfl) ?_
 refine WQ.val rfl rfl rfl (Yld.lookupOk rfl ty_mp_85 ty_ez_88 rfl rfl (by repeat (first | exact There.h | exact There.i (by assumption) | apply There.t | apply There.s)) ma) ?_
 rw [hnone, Option.getD_none, Option.isSome_none]
 refine WQ.val rfl rfl rfl (Yld.move rfl rfl) ?_
 refine WQ.val rfl rfl rfl (Yld.extract rfl rfl rfl) ?_
 refine WQ.val rfl rfl rfl (Yld.extract rfl rfl rfl) ?_
 refine WQ.val rfl rfl rfl (Yld.assign rfl rfl) ?_
 refine WQ.val rfl rfl rfl (Yld.assign rfl rfl) ?_
 refine WQ.nil ?_
 refine WP.sub [(0, _), (2, _), (3, _), (4, _), (11, _)] ?_ ⟨rfl, rfl, rfl, rfl, rfl, trivial⟩
 refine WP.next ?_
 refine WP.seq ?_
 refine WQ.startAll Trymixed (by kernel_rfl) _ rfl ?_
 refine WQ.val rfl rfl rfl (Yld.move rfl rfl) ?_
 refine WQ.val rfl rfl rfl (Yld.move rfl rfl) ?_
 refine WQ.passG rfl rfl rfl rfl rfl rfl rfl ?_
 refine WQ.passG rfl rfl rfl rfl rfl rfl rfl ?_
 refine WQ.passG rfl rfl rfl rfl rfl rfl rfl ?_
 refine WQ.passG rfl rfl rfl rfl rfl rfl rfl ?_
 refine WQ.passG rfl rfl rfl rfl rfl rfl rfl ?_
 refine WQ.passG rfl rfl rfl rfl rfl rfl rfl ?_
 refine WQ.val rfl rfl rfl (Yld.pickF rfl rfl rfl) ?_
 refine WQ.val rfl rfl rfl (Yld.move rfl rfl) ?_
 refine WQ.passG rfl rfl rfl rfl rfl rfl rfl ?_
 refine WQ.passG rfl rfl rfl rfl rfl rfl rfl ?_
 refine WQ.passG rfl rfl rfl rfl rfl rfl rfl ?_
 refine WQ.passG rfl rfl rfl rfl rfl rfl rfl ?_
 refine WQ.passG rfl rfl rfl rfl rfl rfl rfl ?_
 refine WQ.passG rfl rfl rfl rfl rfl rfl rfl ?_
 refine WQ.passG rfl rfl rfl rfl rfl rfl rfl ?_
 refine WQ.passG rfl rfl rfl rfl rfl rfl rfl ?_
 refine WQ.passG rfl rfl rfl rfl rfl rfl rfl ?_
 refine WQ.val rfl rfl rfl (Yld.pickF rfl rfl rfl) ?_
 refine WQ.nil ?_
 refine WP.sub [(0, _), (2, _), (3, _), (4, _), (11, _), (46, _)] ?_ ⟨rfl, rfl, rfl, rfl, rfl, rfl, trivial⟩
 refine WP.next ?_
 refine WP.condF rfl ?_
 refine WP.skip ?_
 refine WP.next ?_
 refine WP.seq ?_
 refine WD.start Trymixed 22 (fun c o => (c = r ∧ o = row 110 [.pointer (some ⟨l, 0, none⟩), .int .i64 (z.place : Int), .slice Ap lp.length cp, .bool false, .int .i64 z.no, .int .i64 z.kind, vb, .int .i64 z.e]) ∨ (c = l ∧ o = row 87 (lgV d s bi ba x))) (fun _ _ => False) (by rintro _ _ (⟨rfl, rfl⟩ | ⟨rfl, rfl⟩) <;> exact (by repeat (first | exact There.h | exact There.i (by assumption) | apply There.t | apply There.s))) (fun _ _ h => h.elim) 24 [false, false, false, false, false, false, false, false, false, false, false, false, false, false, false, false, false, false, false, false, false, false, false, false] rfl rfl ?_
 refine WD.val (i := 0) rfl rfl rfl rfl (by kernel_rfl) rfl (Yld.move rfl rfl) ?_
 refine WD.val (i := 1) rfl rfl rfl rfl (by kernel_rfl) rfl (Yld.nilCheck rfl rfl) ?_
 refine WD.val (i := 2) rfl rfl rfl rfl (by kernel_rfl) rfl (Yld.fieldAddr rfl ty_fd_110_0 rfl) ?_
 refine WD.val1 (i := 3) rfl rfl rfl rfl (by kernel_rfl) rfl (by kernel_rfl) (Yld.load (v := .pointer (some ⟨l, 0, none⟩)) rfl ty_sc_34 rfl (.inl (.inl ⟨rfl, rfl⟩)) rfl) ?_
 refine WD.val (i := 4) rfl rfl rfl rfl (by kernel_rfl) rfl (Yld.nilCheck rfl rfl) ?_
 refine WD.val (i := 5) rfl rfl rfl rfl (by kernel_rfl) rfl (Yld.fieldAddr rfl ty_fd_87_1 rfl) ?_
 refine WD.val1 (i := 6) rfl rfl rfl rfl (by kernel_rfl) rfl (by kernel_rfl) (Yld.load (v := .pointer (some ⟨s, 0, none⟩)) rfl ty_sc_33 rfl (.inl (.inr ⟨rfl, rfl⟩)) rfl) ?_
 refine WD.val (i := 7) rfl rfl rfl rfl (by kernel_rfl) rfl (Yld.move rfl rfl) ?_
 refine WD.val (i := 8) rfl rfl rfl rfl (by kernel_rfl) rfl (Yld.nilCheck rfl rfl) ?_
 refine WD.val (i := 9) rfl rfl rfl rfl (by kernel_rfl) rfl (Yld.fieldAddr rfl ty_fd_110_1 rfl) ?_
 refine WD.val1 (i := 10) rfl rfl rfl rfl (by kernel_rfl) rfl (by kernel_rfl) (Yld.load (v := .int .i64 (z.place : Int)) rfl ty_sc_3 rfl (.inl (.inl ⟨rfl, rfl⟩)) rfl) ?_
 refine WD.val (i := 11) rfl rfl rfl rfl (by kernel_rfl) rfl (Yld.move rfl rfl) ?_
 refine WD.val (i := 12) rfl rfl rfl rfl (by kernel_rfl) rfl (Yld.nilCheck rfl rfl) ?_
 refine WD.val (i := 13) rfl rfl rfl rfl (by kernel_rfl) rfl (Yld.fieldAddr rfl ty_fd_110_2 rfl) ?_
 refine WD.val1 (i := 14) rfl rfl rfl rfl (by kernel_rfl) rfl (by kernel_rfl) (Yld.load (v := .slice Ap lp.length cp) rfl ty_sc_90 rfl (.inl (.inl ⟨rfl, rfl⟩)) rfl) ?_
 refine WD.val (i := 15) rfl rfl rfl rfl (by kernel_rfl) rfl (Yld.len rfl ty_sl_90 rfl) ?_
 refine WD.val (i := 16) rfl rfl rfl rfl (by kernel_rfl) rfl (Yld.add64 rfl rfl rfl (by omega)) ?_
 rw [show (z.place : Int) + (lp.length : Int) = ((z.place + lp.length : Nat) : Int) by omega]
 refine WD.both (i := 17) (j := 21) (by kernel_rfl) rfl rfl ?_ ?_
 ·refine WP.oper rfl rfl ?_
  refine Op.cl (seg_Read (p := z.place + lp.length) hd ok.g (by omega)) rfl Try.func15 rfl rfl rfl rfl ?_
  rintro v J3 L6 hJ3 ⟨cs, rfl, hcs, rfl⟩
  try simp only [nf]
  obtain ⟨va, rfl, hva⟩ := hcs
  refine WD.go (.inr (by rintro _ _ (⟨rfl, rfl⟩ | ⟨rfl, rfl⟩) <;> exact (by repeat (first | exact There.h | exact There.i (by assumption) | apply There.t | apply There.s)))) (fun _ _ h => h.elim) ?_
  refine WD.val (i := 18) rfl rfl rfl rfl (by kernel_rfl) rfl (Yld.move rfl rfl) ?_
  refine WD.val (i := 19) rfl rfl rfl rfl (by kernel_rfl) rfl (Yld.extract rfl rfl rfl) ?_
  refine WD.val (i := 20) rfl rfl rfl rfl (by kernel_rfl) rfl (Yld.extract rfl rfl rfl) ?_
  refine WD.loud (i := 21) (by kernel_rfl) rfl rfl rfl ?_
  refine Op.alloc rfl rfl rfl ty_zr_52 (fun b5 => ?_)
  refine WD.go (.inr (by rintro _ _ (⟨rfl, rfl⟩ | ⟨rfl, rfl⟩) <;> exact (by repeat (first | exact There.h | exact There.i (by assumption) | apply There.t | apply There.s)))) (fun _ _ h => h.elim) ?_
  refine WD.loud (i := 22) (by kernel_rfl) rfl rfl rfl ?_
  refine Op.sA rfl rfl ty_sz_52 rfl rfl rfl (ptV_one (by obtain ⟨A', c', e, _⟩ := hva; exact ⟨_, _, _, e⟩)) rfl ?_
  refine WD.go (.inl rfl) (fun _ _ h => h.elim) ?_
  refine WD.val (i := 23) rfl rfl rfl rfl (by kernel_rfl) rfl (Yld.assign rfl rfl) ?_
  refine WD.done (by kernel_rfl) ?_
  refine WP.sub [(0, _), (2, _), (3, _), (4, _), (5, _), (6, _), (11, _), (46, _)] ?_ ⟨rfl, rfl, rfl, rfl, rfl, rfl, rfl, rfl, trivial⟩
  refine WP.next ?_
  refine WP.seq ?_
  refine WP.block ?_
  refine WP.seq ?_
  refine WP.region [0, 1, 2] rfl ?_
  refine WP.mv rfl rfl ?_
  refine WP.split rfl rfl rfl rfl (Yld.eql rfl rfl rfl) (fun h2 => ?_) (fun h2 => ?_)
  ·rw [h2]
   refine WP.mv rfl rfl ?_
   refine WP.nil ?_
   refine WP.sub [(0, _), (2, _), (3, _), (4, _), (5, _), (6, _), (11, _), (46, _), (83, _)] ?_ ⟨rfl, rfl, rfl, rfl, rfl, rfl, rfl, rfl, rfl, trivial⟩
   refine WP.next ?_
   refine WP.condT rfl ?_
   refine WP.seq ?_
   refine WP.region [0, 1, 2, 3] rfl ?_
   iterate 2 refine WP.mv rfl rfl ?_
   refine WP.loud rfl rfl ?_
   refine Op.cl (read_end (l := l) (p := z.place)) rfl Try.func47 rfl rfl rfl rfl ?_
   rintro v J L1 - ⟨rfl, rfl, rfl⟩
   try simp only [nf]
   refine WP.mv rfl rfl ?_
   refine WP.nil ?_
   refine WP.sub [(0, _), (2, _), (3, _), (4, _), (5, _), (6, _), (11, _), (46, _), (83, _)] ?_ ⟨rfl, rfl, rfl, rfl, rfl, rfl, rfl, rfl, rfl, trivial⟩
   refine WP.next ?_
   refine WP.ret ?_
   refine WP.fn .ret (.inr rfl) (res1 rfl rfl) ((r, row 110 [.pointer (some ⟨l, 0, none⟩), .int .i64 (z.place : Int), .slice Ap lp.length cp, .bool true, .int .i64 0, .int .i64 0, .slice none 0 0, .int .i64 4]) :: (Lp ++ ((l, row 87 (lgV d s bi ba x)) :: (bi, oi) :: (ba, oa) :: (s, row 108 (sgV d x.g)) :: Ld))) hJ3 ?_
   have hdf : ¬ z.dn = true := by rw [hdn]; decide
   have hpl : z.ps.length = lp.length := by rw [← hp, List.length_map]
   have e : rstep (fun q => pread y n x.g q) z = (true, z.fin z.ps 0 0 [] 4) := (if_neg hdf).trans (by rw [hpl]; exact if_pos h2)
   rw [e]; exact ⟨rfl, _, _, rfl, .done rfl (slNil _), .mk ok (rk.mono hJ3) mi ma im am hd⟩
  ·refine WP.mv rfl rfl ?_
   refine WP.nil ?_
   refine WP.sub [(0, _), (2, _), (3, _), (4, _), (5, _), (6, _), (11, _), (46, _), (83, _)] ?_ ⟨rfl, rfl, rfl, rfl, rfl, rfl, rfl, rfl, rfl, trivial⟩
   refine WP.next ?_
   refine WP.condF rfl ?_
   refine WP.seq ?_
   refine WP.region [0, 1, 2, 3, 4, 5, 6, 7, 8, 9, 10, 11, 12, 13, 14, 15] rfl ?_
   refine WP.mv rfl rfl ?_
   refine WP.split rfl rfl rfl rfl (Yld.neq rfl rfl rfl) (fun h3 => ?_) (fun h3 => ?_)
   ·refine WP.mv rfl rfl ?_
    refine WP.passG rfl rfl rfl rfl rfl rfl rfl rfl ?_
    refine WP.passG rfl rfl rfl rfl rfl rfl rfl rfl ?_
    refine WP.passG rfl rfl rfl rfl rfl rfl rfl rfl ?_
    refine WP.passG rfl rfl rfl rfl rfl rfl rfl rfl ?_
    refine WP.passG rfl rfl rfl rfl rfl rfl rfl rfl ?_
    refine WP.passG rfl rfl rfl rfl rfl rfl rfl rfl ?_
    refine WP.passG rfl rfl rfl rfl rfl rfl rfl rfl ?_
    refine WP.passG rfl rfl rfl rfl rfl rfl rfl rfl ?_
    refine WP.passG rfl rfl rfl rfl rfl rfl rfl rfl ?_
    refine WP.passG rfl rfl rfl rfl rfl rfl rfl rfl ?_
    refine WP.passG rfl rfl rfl rfl rfl rfl rfl rfl ?_
    refine WP.vl rfl (Yld.pickT rfl rfl rfl) ?_
    refine WP.mv rfl rfl ?_
    refine WP.nil ?_
    refine WP.sub [(0, _), (2, _), (3, _), (4, _), (5, _), (6, _), (11, _), (46, _), (83, _), (89, _)] ?_ ⟨rfl, rfl, rfl, rfl, rfl, rfl, rfl, rfl, rfl, rfl, trivial⟩
    refine WP.next ?_
    refine WP.condT rfl ?_
    refine WP.seq ?_
    refine WP.region [0, 1, 2] rfl ?_
    refine WP.mv rfl rfl ?_
    refine WP.loud rfl rfl ?_
    refine Op.cl (read_end (l := l) (p := z.place)) rfl Try.func47 rfl rfl rfl rfl ?_
    rintro v J L1 - ⟨rfl, rfl, rfl⟩
    try simp only [nf]
    refine WP.mv rfl rfl ?_
    refine WP.nil ?_
    refine WP.sub [(0, _), (2, _), (3, _), (4, _), (5, _), (6, _), (11, _), (46, _), (83, _), (89, _)] ?_ ⟨rfl, rfl, rfl, rfl, rfl, rfl, rfl, rfl, rfl, rfl, trivial⟩
    refine WP.next ?_
    refine WP.ret ?_
    refine WP.fn .ret (.inr rfl) (res1 rfl rfl) ((r, row 110 [.pointer (some ⟨l, 0, none⟩), .int .i64 (z.place : Int), .slice Ap lp.length cp, .bool true, .int .i64 0, .int .i64 0, .slice none 0 0, .int .i64 81]) :: (Lp ++ ((l, row 87 (lgV d s bi ba x)) :: (bi, oi) :: (ba, oa) :: (s, row 108 (sgV d x.g)) :: Ld))) hJ3 ?_
    have hdf : ¬ z.dn = true := by rw [hdn]; decide
    have hpl : z.ps.length = lp.length := by rw [← hp, List.length_map]
    have e : rstep (fun q => pread y n x.g q) z = (true, z.fin z.ps 0 0 [] 81) := (if_neg hdf).trans (by rw [hpl]; exact (if_neg h2).trans (if_pos (.inl h3)))
    rw [e]; exact ⟨rfl, _, _, rfl, .done rfl (slNil _), .mk ok (rk.mono hJ3) mi ma im am hd⟩
   ·refine WP.mv rfl rfl ?_
    refine WP.valG rfl rfl rfl rfl rfl rfl rfl (Yld.move rfl rfl) ?_
    refine WP.valG rfl rfl rfl rfl rfl rfl rfl (Yld.nilCheck rfl rfl) ?_
    refine WP.valG rfl rfl rfl rfl rfl rfl rfl (Yld.fieldAddr rfl ty_fd_110_2 rfl) ?_
    refine WP.valG rfl rfl rfl rfl rfl rfl rfl (Yld.ld (v := .slice Ap lp.length cp) rfl ty_sc_90 rfl rfl) ?_
    refine WP.valG rfl rfl rfl rfl rfl rfl rfl (Yld.len rfl ty_sl_90 rfl) ?_
    refine WP.splitG rfl rfl rfl rfl rfl rfl rfl (Yld.eql rfl rfl rfl) (fun h4 => ?_) (fun h4 => ?_)
    ·refine WP.valG rfl rfl rfl rfl rfl rfl rfl (Yld.move rfl rfl) ?_
     refine WP.valG rfl rfl rfl rfl rfl rfl rfl (Yld.fieldAddr rfl ty_fd_52_2 rfl) ?_
     refine WP.valG rfl rfl rfl rfl rfl rfl rfl (Yld.ld (v := .int .i64 (pread y n x.g (z.place + lp.length)).1.index) rfl ty_sc_3 rfl rfl) ?_
     refine WP.splitG rfl rfl rfl rfl rfl rfl rfl (Yld.neq rfl rfl rfl) (fun h5 => ?_) (fun h5 => ?_)
     ·refine WP.valG rfl rfl rfl rfl rfl rfl rfl (Yld.pickT rfl rfl rfl) ?_
      refine WP.vl rfl (Yld.pickF rfl rfl rfl) ?_
      refine WP.mv rfl rfl ?_
      refine WP.nil ?_
      refine WP.sub [(0, _), (2, _), (3, _), (4, _), (5, _), (6, _), (11, _), (46, _), (83, _), (89, _)] ?_ ⟨rfl, rfl, rfl, rfl, rfl, rfl, rfl, rfl, rfl, rfl, trivial⟩
      refine WP.next ?_
      refine WP.condT rfl ?_
      refine WP.seq ?_
      refine WP.region [0, 1, 2] rfl ?_
      refine WP.mv rfl rfl ?_
      refine WP.loud rfl rfl ?_
      refine Op.cl (read_end (l := l) (p := z.place)) rfl Try.func47 rfl rfl rfl rfl ?_
      rintro v J L1 - ⟨rfl, rfl, rfl⟩
      try simp only [nf]
      refine WP.mv rfl rfl ?_
      refine WP.nil ?_
      refine WP.sub [(0, _), (2, _), (3, _), (4, _), (5, _), (6, _), (11, _), (46, _), (83, _), (89, _)] ?_ ⟨rfl, rfl, rfl, rfl, rfl, rfl, rfl, rfl, rfl, rfl, trivial⟩
      refine WP.next ?_
      refine WP.ret ?_
      refine WP.fn .ret (.inr rfl) (res1 rfl rfl) ((r, row 110 [.pointer (some ⟨l, 0, none⟩), .int .i64 (z.place : Int), .slice Ap lp.length cp, .bool true, .int .i64 0, .int .i64 0, .slice none 0 0, .int .i64 81]) :: (Lp ++ ((l, row 87 (lgV d s bi ba x)) :: (bi, oi) :: (ba, oa) :: (s, row 108 (sgV d x.g)) :: Ld))) hJ3 ?_
      have hdf : ¬ z.dn = true := by rw [hdn]; decide
      have hpl : z.ps.length = lp.length := by rw [← hp, List.length_map]
      have e : rstep (fun q => pread y n x.g q) z = (true, z.fin z.ps 0 0 [] 81) := (if_neg hdf).trans (by rw [hpl]; exact (if_neg h2).trans (if_pos (.inr ⟨by omega, h5⟩)))
      rw [e]; exact ⟨rfl, _, _, rfl, .done rfl (slNil _), .mk ok (rk.mono hJ3) mi ma im am hd⟩
     ·refine WP.valG rfl rfl rfl rfl rfl rfl rfl (Yld.pickT rfl rfl rfl) ?_
      refine WP.vl rfl (Yld.pickF rfl rfl rfl) ?_
      refine WP.mv rfl rfl ?_
      refine WP.nil ?_
      refine WP.sub [(0, _), (2, _), (3, _), (4, _), (5, _), (6, _), (11, _), (46, _), (83, _), (89, _)] ?_ ⟨rfl, rfl, rfl, rfl, rfl, rfl, rfl, rfl, rfl, rfl, trivial⟩
      refine WP.next ?_
      refine WP.condF rfl ?_
      refine WP.skip ?_
      refine WP.leave ?_
      refine WP.next ?_
      refine WP.seq ?_
      refine WD.start Trymixed 10 (fun c o => (c = r ∧ o = row 110 [.pointer (some ⟨l, 0, none⟩), .int .i64 (z.place : Int), .slice Ap lp.length cp, .bool false, .int .i64 z.no, .int .i64 z.kind, vb, .int .i64 z.e]) ∨ (c = b5 ∧ o = row 52 (ptV (pread y n x.g (z.place + lp.length)).1 va))) (fun _ _ => False) (by rintro _ _ (⟨rfl, rfl⟩ | ⟨rfl, rfl⟩) <;> exact (by repeat (first | exact There.h | exact There.i (by assumption) | apply There.t | apply There.s))) (fun _ _ h => h.elim) 11 [false, false, false, false, false, false, false, false, false, false, false] rfl rfl ?_
      refine WD.val (i := 0) rfl rfl rfl rfl (by kernel_rfl) rfl (Yld.move rfl rfl) ?_
      refine WD.val (i := 1) rfl rfl rfl rfl (by kernel_rfl) rfl (Yld.move rfl rfl) ?_
      refine WD.val (i := 2) rfl rfl rfl rfl (by kernel_rfl) rfl (Yld.nilCheck rfl rfl) ?_
      refine WD.val (i := 3) rfl rfl rfl rfl (by kernel_rfl) rfl (Yld.fieldAddr rfl ty_fd_110_2 rfl) ?_
      refine WD.val1 (i := 4) rfl rfl rfl rfl (by kernel_rfl) rfl (by kernel_rfl) (Yld.load (v := .slice Ap lp.length cp) rfl ty_sc_90 rfl (.inl (.inl ⟨rfl, rfl⟩)) rfl) ?_
      refine WD.val1 (i := 5) rfl rfl rfl rfl (by kernel_rfl) rfl (by kernel_rfl) (Yld.loadAll (cs := ptV (pread y n x.g (z.place + lp.length)).1 va) rfl ty_ag_52 rfl (.inl (.inr ⟨rfl, rfl⟩)) rfl) ?_
      refine WD.loud (i := 6) (by kernel_rfl) rfl rfl rfl ?_
      refine Op.buildSlice rfl ty_sl_90 ty_el2_90 rfl rfl rfl rfl (vs := [_]) rfl (segs := [(0, pf ((pread y n x.g (z.place + lp.length)).1, va))]) (cs := pf ((pread y n x.g (z.place + lp.length)).1, va)) rfl rfl (.seg (Nat.le_refl _) rfl .nil) (fun bq => ?_)
      refine WD.go (.inr (by rintro _ _ (⟨rfl, rfl⟩ | ⟨rfl, rfl⟩) <;> exact (by repeat (first | exact There.h | exact There.i (by assumption) | apply There.t | apply There.s)))) (fun _ _ h => h.elim) ?_
      refine WD.loud (i := 7) (by kernel_rfl) rfl rfl rfl ?_
      refine Op.append (m := 1) rfl ty_sl_90 ty_el_90 rfl rfl rfl rfl rfl ho (SlRd.lit (m := 1) (by repeat (first | exact There.h | exact There.i (by assumption) | apply There.t | apply There.s)) rfl (Nat.le_refl _)) (by repeat (first | exact Take.nil | with_reducible apply Take.cons | apply Take.app | exact Rm.chunk | exact Rm.here | exact Rm.nil0 | apply Rm.skip | apply Rm.skipS | (focus (apply Take.all; (repeat (first | exact Rm.chunk | exact Rm.here | exact Rm.nil0 | apply Rm.skip | apply Rm.skipS)); done)) | apply Take.cons)) (ptV_one (by obtain ⟨A', c', e, _⟩ := hva; exact ⟨_, _, _, e⟩)) (by omega) (by omega) (fun vn Ln hn => ?_)
      try simp only [nf]
      have how2 : Own 52 6 vn (pcells (lp ++ [((pread y n x.g (z.place + lp.length)).1, va)])) (lp ++ [((pread y n x.g (z.place + lp.length)).1, va)]).length Ln := by rw [pcells_app, List.length_append]; exact hn
      have hda2 : ∀ e ∈ (lp ++ [((pread y n x.g (z.place + lp.length)).1, va)]), SlRd (Im J3) e.2 e.1.data.length 1 (bytesV e.1.data) := fun e he => by rcases List.mem_append.1 he with he | he; exact (hdt e he).mono (fun b o q => hJ3.2 b o q); rw [List.mem_singleton.1 he]; exact hva
      have hl2 : (lp ++ [((pread y n x.g (z.place + lp.length)).1, va)]).length = lp.length + 1 := by rw [List.length_append]; rfl
      obtain ⟨bo, co, spo, rfl, rfl, _, _⟩ := how2.get (by omega)
      refine WD.go (.inr (by rintro _ _ (⟨rfl, rfl⟩ | ⟨rfl, rfl⟩) <;> exact (by repeat (first | exact There.h | exact There.i (by assumption) | apply There.t | apply There.s)))) (fun _ _ h => h.elim) ?_
      refine WD.val (i := 8) rfl rfl rfl rfl (by kernel_rfl) rfl (Yld.nilCheck rfl rfl) ?_
      refine WD.val (i := 9) rfl rfl rfl rfl (by kernel_rfl) rfl (Yld.fieldAddr rfl ty_fd_110_2 rfl) ?_
      refine WD.loud (i := 10) (by kernel_rfl) rfl rfl rfl ?_
      refine Op.s1 rfl rfl ty_sz_90 rfl rfl rfl ?_
      refine WD.go (.inl rfl) (fun _ _ h => h.elim) ?_
      refine WD.done (by kernel_rfl) ?_
      refine WP.sub [(0, _), (2, _), (3, _), (4, _), (5, _), (6, _), (11, _), (46, _), (83, _), (89, _)] ?_ ⟨rfl, rfl, rfl, rfl, rfl, rfl, rfl, rfl, rfl, rfl, trivial⟩
      refine WP.next ?_
      refine WP.seq ?_
      refine WP.seq ?_
      refine WQ.startAll Trymixed (by kernel_rfl) _ rfl ?_
      refine WQ.val rfl rfl rfl (Yld.move rfl rfl) ?_
      refine WQ.val rfl rfl rfl (Yld.nilCheck rfl rfl) ?_
      refine WQ.val rfl rfl rfl (Yld.fieldAddr rfl ty_fd_110_2 rfl) ?_
      refine WQ.val rfl rfl rfl (Yld.ld (v := .slice (some ⟨bo, 0, none⟩) (lp ++ [((pread y n x.g (z.place + lp.length)).1, va)]).length co) rfl ty_sc_90 rfl rfl) ?_
      refine WQ.val rfl rfl rfl (Yld.len rfl ty_sl_90 rfl) ?_
      refine WQ.val rfl rfl rfl (Yld.move rfl rfl) ?_
      refine WQ.val rfl rfl rfl (Yld.nilCheck rfl rfl) ?_
      refine WQ.val rfl rfl rfl (Yld.fieldAddr rfl ty_fd_110_2 rfl) ?_
      refine WQ.val rfl rfl rfl (Yld.ld (v := .slice (some ⟨bo, 0, none⟩) (lp ++ [((pread y n x.g (z.place + lp.length)).1, va)]).length co) rfl ty_sc_90 rfl rfl) ?_
      refine WQ.val rfl rfl rfl (Yld.indexAddr (i := 0) rfl ty_sl_90 rfl rfl (by omega)) ?_
      refine WQ.val rfl rfl rfl (Yld.fieldAddr rfl ty_fd_52_4 rfl) ?_
      refine WQ.val rfl rfl rfl (Yld.ld (v := .int .i64 ((lp ++ [((pread y n x.g (z.place + lp.length)).1, va)])[0]'(by omega)).1.parts) rfl ty_sc_3 rfl (flat_at pf_len (by omega) (by decide) spo rfl)) ?_
      refine WQ.split rfl rfl rfl (Yld.lss rfl rfl rfl) (fun h6 => ?_) (fun h6 => ?_)
      ·refine WQ.nil ?_
       refine WP.sub [(0, _), (2, _), (3, _), (4, _), (5, _), (6, _), (11, _), (46, _), (83, _), (89, _), (129, _)] ?_ ⟨rfl, rfl, rfl, rfl, rfl, rfl, rfl, rfl, rfl, rfl, rfl, trivial⟩
       refine WP.next ?_
       refine WP.condT rfl ?_
       refine WP.seq ?_
       refine WP.region [0] rfl ?_
       refine WP.mv rfl rfl ?_
       refine WP.nil ?_
       refine WP.next ?_
       refine WP.ret ?_
       refine WP.fn .ret (.inr rfl) (res1 rfl rfl) ((r, row 110 [.pointer (some ⟨l, 0, none⟩), .int .i64 (z.place : Int), .slice (some ⟨bo, 0, none⟩) (lp ++ [((pread y n x.g (z.place + lp.length)).1, va)]).length co, .bool false, .int .i64 z.no, .int .i64 z.kind, vb, .int .i64 z.e]) :: ([(bo, row 52 (pcells (lp ++ [((pread y n x.g (z.place + lp.length)).1, va)]) ++ spo))] ++ ((l, row 87 (lgV d s bi ba x)) :: (bi, oi) :: (ba, oa) :: (s, row 108 (sgV d x.g)) :: Ld))) hJ3 ?_
       have hdf : ¬ z.dn = true := by rw [hdn]; decide
       have hpl : z.ps.length = lp.length := by rw [← hp, List.length_map]
       have e0 : rstep (fun q => pread y n x.g q) z = rjoin z (pread y n x.g (z.place + lp.length)).1 := (if_neg hdf).trans (by rw [hpl]; exact (if_neg h2).trans (if_neg (fun h => by rcases h with h | ⟨h6, h7⟩; exact h3 h; exact h5 h7)))
       have hps : z.ps ++ [(pread y n x.g (z.place + lp.length)).1] = (lp ++ [((pread y n x.g (z.place + lp.length)).1, va)]).map (·.1) := by rw [List.map_append, hp]; rfl
       have e : rjoin z (pread y n x.g (z.place + lp.length)).1 = (false, ⟨z.place, z.ps ++ [(pread y n x.g (z.place + lp.length)).1], z.dn, z.no, z.kind, z.b, z.e⟩) := if_pos (by rw [hps, List.length_map, fst_head (by omega)]; exact h6)
       rw [e0, e]; exact ⟨rfl, _, _, rfl, .live hdn how2 hda2 hps.symm (by omega) (hb.mono (fun b o q => hJ3.2 b o q)), .mk ok (rk.mono hJ3) mi ma im am hd⟩
      ·refine WQ.nil ?_
       refine WP.sub [(0, _), (2, _), (3, _), (4, _), (5, _), (6, _), (11, _), (46, _), (83, _), (89, _), (129, _)] ?_ ⟨rfl, rfl, rfl, rfl, rfl, rfl, rfl, rfl, rfl, rfl, rfl, trivial⟩
       refine WP.next ?_
       refine WP.condF rfl ?_
       refine WP.skip ?_
       refine WP.next ?_
       refine WP.seq ?_
       refine WP.shareRows how2 hda2 (by repeat (first | exact Take.nil | with_reducible apply Take.cons | apply Take.app | exact Rm.chunk | exact Rm.here | exact Rm.nil0 | apply Rm.skip | apply Rm.skipS | (focus (apply Take.all; (repeat (first | exact Rm.chunk | exact Rm.here | exact Rm.nil0 | apply Rm.skip | apply Rm.skipS)); done)) | apply Take.cons)) (fun J4 hJ4 hrp => ?_)
       refine WP.region [0, 1, 2, 3, 4, 5, 6, 7, 8, 9] rfl ?_
       refine WP.mv rfl rfl ?_
       refine WP.vl rfl (Yld.nilCheck rfl rfl) ?_
       refine WP.vl rfl (Yld.fieldAddr rfl ty_fd_110_2 rfl) ?_
       refine WP.vl rfl (Yld.ld (v := .slice (some ⟨bo, 0, none⟩) (lp ++ [((pread y n x.g (z.place + lp.length)).1, va)]).length co) rfl ty_sc_90 rfl rfl) ?_
       refine WP.loud rfl rfl ?_
       refine Op.cl (seg_Join hrp (by omega)) rfl Try.func48 rfl rfl rfl rfl ?_
       rintro v J5 L14 hJ5 ⟨vj, Lj, rfl, hj, rfl⟩
       try simp only [nf]
       refine WP.mv rfl rfl ?_
       refine WP.vl rfl (Yld.extract rfl rfl rfl) ?_
       refine WP.vl rfl (Yld.extract rfl rfl rfl) ?_
       iterate 2 refine WP.mv rfl rfl ?_
       refine WP.nil ?_
       refine WP.sub [(0, _), (2, _), (3, _), (4, _), (5, _), (6, _), (7, _), (11, _), (46, _), (83, _), (89, _), (129, _)] ?_ ⟨rfl, rfl, rfl, rfl, rfl, rfl, rfl, rfl, rfl, rfl, rfl, rfl, trivial⟩
       refine WP.shO hj (fun J6 hJ6 hjb => ?_)
       refine WP.next ?_
       refine WP.seq ?_
       refine WP.seq ?_
       refine WP.region [0, 1, 2, 3, 4, 5, 6, 7, 8, 9, 10, 11, 12, 13] rfl ?_
       refine WP.mv rfl rfl ?_
       refine WP.split rfl rfl rfl rfl (Yld.neq rfl rfl rfl) (fun h7 => ?_) (fun h7 => ?_)
       ·refine WP.mv rfl rfl ?_
        refine WP.passG rfl rfl rfl rfl rfl rfl rfl rfl ?_
        refine WP.passG rfl rfl rfl rfl rfl rfl rfl rfl ?_
        refine WP.passG rfl rfl rfl rfl rfl rfl rfl rfl ?_
        refine WP.passG rfl rfl rfl rfl rfl rfl rfl rfl ?_
        refine WP.vl rfl (Yld.pickT rfl rfl rfl) ?_
        refine WP.mv rfl rfl ?_
        refine WP.passG rfl rfl rfl rfl rfl rfl rfl rfl ?_
        refine WP.passG rfl rfl rfl rfl rfl rfl rfl rfl ?_
        refine WP.passG rfl rfl rfl rfl rfl rfl rfl rfl ?_
        refine WP.passG rfl rfl rfl rfl rfl rfl rfl rfl ?_
        refine WP.vl rfl (Yld.pickT rfl rfl rfl) ?_
        refine WP.nil ?_
        refine WP.sub [(0, _), (2, _), (3, _), (4, _), (5, _), (6, _), (7, _), (11, _), (46, _), (83, _), (89, _), (129, _), (151, _)] ?_ ⟨rfl, rfl, rfl, rfl, rfl, rfl, rfl, rfl, rfl, rfl, rfl, rfl, rfl, trivial⟩
        refine WP.next ?_
        refine WP.condT rfl ?_
        refine WP.seq ?_
        refine WP.region [0, 1, 2] rfl ?_
        refine WP.mv rfl rfl ?_
        refine WP.loud rfl rfl ?_
        refine Op.cl (read_end (l := l) (p := z.place)) rfl Try.func47 rfl rfl rfl rfl ?_
        rintro v J L1 - ⟨rfl, rfl, rfl⟩
        try simp only [nf]
        refine WP.mv rfl rfl ?_
        refine WP.nil ?_
        refine WP.sub [(0, _), (2, _), (3, _), (4, _), (5, _), (6, _), (7, _), (11, _), (46, _), (83, _), (89, _), (129, _), (151, _)] ?_ ⟨rfl, rfl, rfl, rfl, rfl, rfl, rfl, rfl, rfl, rfl, rfl, rfl, rfl, trivial⟩
        refine WP.next ?_
        refine WP.ret ?_
        refine WP.fn .ret (.inr rfl) (res1 rfl rfl) ((r, row 110 [.pointer (some ⟨l, 0, none⟩), .int .i64 (z.place : Int), .slice (some ⟨bo, 0, none⟩) (lp ++ [((pread y n x.g (z.place + lp.length)).1, va)]).length co, .bool true, .int .i64 0, .int .i64 0, .slice none 0 0, .int .i64 81]) :: ([] ++ ((l, row 87 (lgV d s bi ba x)) :: (bi, oi) :: (ba, oa) :: (s, row 108 (sgV d x.g)) :: Ld))) (Imm.le_trans hJ3 (Imm.le_trans hJ4 (Imm.le_trans hJ5 hJ6))) ?_
        have hdf : ¬ z.dn = true := by rw [hdn]; decide
        have hpl : z.ps.length = lp.length := by rw [← hp, List.length_map]
        have e0 : rstep (fun q => pread y n x.g q) z = rjoin z (pread y n x.g (z.place + lp.length)).1 := (if_neg hdf).trans (by rw [hpl]; exact (if_neg h2).trans (if_neg (fun h => by rcases h with h | ⟨h6, h7⟩; exact h3 h; exact h5 h7)))
        have hps : z.ps ++ [(pread y n x.g (z.place + lp.length)).1] = (lp ++ [((pread y n x.g (z.place + lp.length)).1, va)]).map (·.1) := by rw [List.map_append, hp]; rfl
        have e : rjoin z (pread y n x.g (z.place + lp.length)).1 = (true, z.fin (z.ps ++ [(pread y n x.g (z.place + lp.length)).1]) 0 0 [] 81) := (if_neg (by rw [hps, List.length_map, fst_head (by omega)]; exact h6)).trans (if_pos (.inl (by rw [hps]; exact h7)))
        rw [e0, e]; exact ⟨rfl, _, _, rfl, .done rfl (slNil _), .mk ok ((((rk.mono hJ3).mono hJ4).mono hJ5).mono hJ6) mi ma im am hd⟩
       ·have hj1 := pjoin_pos (Decidable.not_not.1 h7)
        have hj0 : 0 < (pjoin ((lp ++ [((pread y n x.g (z.place + lp.length)).1, va)]).map (·.1))).1.length := hj1
        obtain ⟨bc, kc, cc, Tc, frc, arrc, rfl, hcc, hcb, hcd⟩ := hjb.get hj0
        have e2 := take_cells hcd 0 (byteV ((pjoin ((lp ++ [((pread y n x.g (z.place + lp.length)).1, va)]).map (·.1))).1[0]'hj0)) (by unfold bytesV; rw [List.getElem?_map, List.getElem?_eq_getElem hj0]; rfl) (by rw [bytesV_len]; omega)
        rw [Array.getElem?_toList] at e2
        have hhd : ((pjoin ((lp ++ [((pread y n x.g (z.place + lp.length)).1, va)]).map (·.1))).1).headD 0 = (pjoin ((lp ++ [((pread y n x.g (z.place + lp.length)).1, va)]).map (·.1))).1[0]'hj0 := headD_at hj0
        have hdrop := sub_rd hjb (l := 1) (k := (pjoin ((lp ++ [((pread y n x.g (z.place + lp.length)).1, va)]).map (·.1))).1.length) hj1 (Nat.le_refl _)
        rw [cut_tail, show (pjoin ((lp ++ [((pread y n x.g (z.place + lp.length)).1, va)]).map (·.1))).1.length - 1 = (((pjoin ((lp ++ [((pread y n x.g (z.place + lp.length)).1, va)]).map (·.1))).1).drop 1).length from (List.length_drop).symm] at hdrop
        refine WP.mv rfl rfl ?_
        refine WP.valG rfl rfl rfl rfl rfl rfl rfl (Yld.move rfl rfl) ?_
        refine WP.valG rfl rfl rfl rfl rfl rfl rfl (Yld.indexAddr (i := 0) rfl ty_sl_46 rfl rfl hj0) ?_
        refine WP.valG rfl rfl rfl rfl rfl rfl rfl (Yld.loadC rfl ty_sc_5 rfl (There.i hcb) e2) ?_
        refine WP.splitG rfl rfl rfl rfl rfl rfl rfl (Yld.lss rfl rfl rfl) (fun h8 => ?_) (fun h8 => ?_)
        ·refine WP.vl rfl (Yld.pickF rfl rfl rfl) ?_
         refine WP.mv rfl rfl ?_
         refine WP.passG rfl rfl rfl rfl rfl rfl rfl rfl ?_
         refine WP.passG rfl rfl rfl rfl rfl rfl rfl rfl ?_
         refine WP.passG rfl rfl rfl rfl rfl rfl rfl rfl ?_
         refine WP.passG rfl rfl rfl rfl rfl rfl rfl rfl ?_
         refine WP.vl rfl (Yld.pickT rfl rfl rfl) ?_
         refine WP.nil ?_
         refine WP.sub [(0, _), (2, _), (3, _), (4, _), (5, _), (6, _), (7, _), (11, _), (46, _), (83, _), (89, _), (129, _), (151, _)] ?_ ⟨rfl, rfl, rfl, rfl, rfl, rfl, rfl, rfl, rfl, rfl, rfl, rfl, rfl, trivial⟩
         refine WP.next ?_
         refine WP.condT rfl ?_
         refine WP.seq ?_
         refine WP.region [0, 1, 2] rfl ?_
         refine WP.mv rfl rfl ?_
         refine WP.loud rfl rfl ?_
         refine Op.cl (read_end (l := l) (p := z.place)) rfl Try.func47 rfl rfl rfl rfl ?_
         rintro v J L1 - ⟨rfl, rfl, rfl⟩
         try simp only [nf]
         refine WP.mv rfl rfl ?_
         refine WP.nil ?_
         refine WP.sub [(0, _), (2, _), (3, _), (4, _), (5, _), (6, _), (7, _), (11, _), (46, _), (83, _), (89, _), (129, _), (151, _)] ?_ ⟨rfl, rfl, rfl, rfl, rfl, rfl, rfl, rfl, rfl, rfl, rfl, rfl, rfl, trivial⟩
         refine WP.next ?_
         refine WP.ret ?_
         refine WP.fn .ret (.inr rfl) (res1 rfl rfl) ((r, row 110 [.pointer (some ⟨l, 0, none⟩), .int .i64 (z.place : Int), .slice (some ⟨bo, 0, none⟩) (lp ++ [((pread y n x.g (z.place + lp.length)).1, va)]).length co, .bool true, .int .i64 0, .int .i64 0, .slice none 0 0, .int .i64 81]) :: ([] ++ ((l, row 87 (lgV d s bi ba x)) :: (bi, oi) :: (ba, oa) :: (s, row 108 (sgV d x.g)) :: Ld))) (Imm.le_trans hJ3 (Imm.le_trans hJ4 (Imm.le_trans hJ5 hJ6))) ?_
         have hdf : ¬ z.dn = true := by rw [hdn]; decide
         have hpl : z.ps.length = lp.length := by rw [← hp, List.length_map]
         have e0 : rstep (fun q => pread y n x.g q) z = rjoin z (pread y n x.g (z.place + lp.length)).1 := (if_neg hdf).trans (by rw [hpl]; exact (if_neg h2).trans (if_neg (fun h => by rcases h with h | ⟨h6, h7⟩; exact h3 h; exact h5 h7)))
         have hps : z.ps ++ [(pread y n x.g (z.place + lp.length)).1] = (lp ++ [((pread y n x.g (z.place + lp.length)).1, va)]).map (·.1) := by rw [List.map_append, hp]; rfl
         have e : rjoin z (pread y n x.g (z.place + lp.length)).1 = (true, z.fin (z.ps ++ [(pread y n x.g (z.place + lp.length)).1]) 0 0 [] 81) := (if_neg (by rw [hps, List.length_map, fst_head (by omega)]; exact h6)).trans (if_pos (.inr (fun h => h.1 (by rw [hps, hhd]; exact h8))))
         rw [e0, e]; exact ⟨rfl, _, _, rfl, .done rfl (slNil _), .mk ok ((((rk.mono hJ3).mono hJ4).mono hJ5).mono hJ6) mi ma im am hd⟩
        ·refine WP.vl rfl (Yld.pickF rfl rfl rfl) ?_
         refine WP.mv rfl rfl ?_
         refine WP.valG rfl rfl rfl rfl rfl rfl rfl (Yld.move rfl rfl) ?_
         refine WP.valG rfl rfl rfl rfl rfl rfl rfl (Yld.indexAddr (i := 0) rfl ty_sl_46 rfl rfl hj0) ?_
         refine WP.valG rfl rfl rfl rfl rfl rfl rfl (Yld.loadC rfl ty_sc_5 rfl (There.i hcb) e2) ?_
         refine WP.splitG rfl rfl rfl rfl rfl rfl rfl (Yld.gtr rfl rfl rfl) (fun h9 => ?_) (fun h9 => ?_)
         ·refine WP.vl rfl (Yld.pickF rfl rfl rfl) ?_
          refine WP.nil ?_
          refine WP.sub [(0, _), (2, _), (3, _), (4, _), (5, _), (6, _), (7, _), (11, _), (46, _), (83, _), (89, _), (129, _), (151, _)] ?_ ⟨rfl, rfl, rfl, rfl, rfl, rfl, rfl, rfl, rfl, rfl, rfl, rfl, rfl, trivial⟩
          refine WP.next ?_
          refine WP.condT rfl ?_
          refine WP.seq ?_
          refine WP.region [0, 1, 2] rfl ?_
          refine WP.mv rfl rfl ?_
          refine WP.loud rfl rfl ?_
          refine Op.cl (read_end (l := l) (p := z.place)) rfl Try.func47 rfl rfl rfl rfl ?_
          rintro v J L1 - ⟨rfl, rfl, rfl⟩
          try simp only [nf]
          refine WP.mv rfl rfl ?_
          refine WP.nil ?_
          refine WP.sub [(0, _), (2, _), (3, _), (4, _), (5, _), (6, _), (7, _), (11, _), (46, _), (83, _), (89, _), (129, _), (151, _)] ?_ ⟨rfl, rfl, rfl, rfl, rfl, rfl, rfl, rfl, rfl, rfl, rfl, rfl, rfl, trivial⟩
          refine WP.next ?_
          refine WP.ret ?_
          refine WP.fn .ret (.inr rfl) (res1 rfl rfl) ((r, row 110 [.pointer (some ⟨l, 0, none⟩), .int .i64 (z.place : Int), .slice (some ⟨bo, 0, none⟩) (lp ++ [((pread y n x.g (z.place + lp.length)).1, va)]).length co, .bool true, .int .i64 0, .int .i64 0, .slice none 0 0, .int .i64 81]) :: ([] ++ ((l, row 87 (lgV d s bi ba x)) :: (bi, oi) :: (ba, oa) :: (s, row 108 (sgV d x.g)) :: Ld))) (Imm.le_trans hJ3 (Imm.le_trans hJ4 (Imm.le_trans hJ5 hJ6))) ?_
          have hdf : ¬ z.dn = true := by rw [hdn]; decide
          have hpl : z.ps.length = lp.length := by rw [← hp, List.length_map]
          have e0 : rstep (fun q => pread y n x.g q) z = rjoin z (pread y n x.g (z.place + lp.length)).1 := (if_neg hdf).trans (by rw [hpl]; exact (if_neg h2).trans (if_neg (fun h => by rcases h with h | ⟨h6, h7⟩; exact h3 h; exact h5 h7)))
          have hps : z.ps ++ [(pread y n x.g (z.place + lp.length)).1] = (lp ++ [((pread y n x.g (z.place + lp.length)).1, va)]).map (·.1) := by rw [List.map_append, hp]; rfl
          have e : rjoin z (pread y n x.g (z.place + lp.length)).1 = (true, z.fin (z.ps ++ [(pread y n x.g (z.place + lp.length)).1]) 0 0 [] 81) := (if_neg (by rw [hps, List.length_map, fst_head (by omega)]; exact h6)).trans (if_pos (.inr (fun h => h.2 (by rw [hps, hhd]; omega))))
          rw [e0, e]; exact ⟨rfl, _, _, rfl, .done rfl (slNil _), .mk ok ((((rk.mono hJ3).mono hJ4).mono hJ5).mono hJ6) mi ma im am hd⟩
         ·refine WP.vl rfl (Yld.pickF rfl rfl rfl) ?_
          refine WP.nil ?_
          refine WP.sub [(0, _), (2, _), (3, _), (4, _), (5, _), (6, _), (7, _), (11, _), (46, _), (83, _), (89, _), (129, _), (151, _)] ?_ ⟨rfl, rfl, rfl, rfl, rfl, rfl, rfl, rfl, rfl, rfl, rfl, rfl, rfl, trivial⟩
          refine WP.next ?_
          refine WP.condF rfl ?_
          refine WP.skip ?_
          refine WP.next ?_
          refine WP.seq ?_
          refine WQ.start Trymixed 9 (by kernel_rfl) _ rfl [9, 10] rfl ?_
          refine WQ.val rfl rfl rfl (Yld.move rfl rfl) ?_
          refine WQ.val rfl rfl rfl (Yld.fieldAddr rfl ty_fd_52_1 rfl) ?_
          refine WQ.val rfl rfl rfl (Yld.ld (v := .int .i64 (pread y n x.g (z.place + lp.length)).1.no) rfl ty_sc_3 rfl rfl) ?_
          refine WQ.val rfl rfl rfl (Yld.move rfl rfl) ?_
          refine WQ.val rfl rfl rfl (Yld.indexAddr (i := 0) rfl ty_sl_46 rfl rfl hj0) ?_
          refine WQ.val rfl rfl rfl (Yld.loadC rfl ty_sc_5 rfl (There.i hcb) e2) ?_
          refine WQ.val rfl rfl rfl (Yld.conv64 rfl ty_un_5 ty_ik_3 rfl (by have := ((pjoin ((lp ++ [((pread y n x.g (z.place + lp.length)).1, va)]).map (·.1))).1[0]'hj0).toNat_lt; omega)) ?_
          refine WQ.val rfl rfl rfl (Yld.move rfl rfl) ?_
          refine WQ.val rfl rfl rfl (Yld.sliceR (l := 1) (h := (pjoin ((lp ++ [((pread y n x.g (z.place + lp.length)).1, va)]).map (·.1))).1.length) hjb rfl ty_sl_46 rfl (Env.limS (n := 1) rfl) Env.lim0 hj1 (Nat.le_refl _)) ?_
          refine WQ.nil ?_
          refine WP.loud rfl rfl ?_
          refine Op.cl (read_end (l := l) (p := z.place)) rfl Try.func47 rfl rfl rfl rfl ?_
          rintro v J L1 - ⟨rfl, rfl, rfl⟩
          try simp only [nf]
          refine WP.mv rfl rfl ?_
          refine WP.nil ?_
          refine WP.sub [(0, _), (2, _), (3, _), (4, _), (5, _), (6, _), (7, _), (11, _), (46, _), (83, _), (89, _), (129, _), (151, _)] ?_ ⟨rfl, rfl, rfl, rfl, rfl, rfl, rfl, rfl, rfl, rfl, rfl, rfl, rfl, trivial⟩
          refine WP.next ?_
          refine WP.ret ?_
          refine WP.fn .ret (.inr rfl) (res1 rfl rfl) ((r, row 110 [.pointer (some ⟨l, 0, none⟩), .int .i64 (z.place : Int), .slice (some ⟨bo, 0, none⟩) (lp ++ [((pread y n x.g (z.place + lp.length)).1, va)]).length co, .bool true, .int .i64 (pread y n x.g (z.place + lp.length)).1.no, .int .i64 (((pjoin ((lp ++ [((pread y n x.g (z.place + lp.length)).1, va)]).map (·.1))).1[0]'hj0).toNat : Int), (subSl 1 1 (pjoin ((lp ++ [((pread y n x.g (z.place + lp.length)).1, va)]).map (·.1))).1.length (.slice (some ⟨bc, kc, none⟩) (pjoin ((lp ++ [((pread y n x.g (z.place + lp.length)).1, va)]).map (·.1))).1.length cc)), .int .i64 0]) :: ([] ++ ((l, row 87 (lgV d s bi ba x)) :: (bi, oi) :: (ba, oa) :: (s, row 108 (sgV d x.g)) :: Ld))) (Imm.le_trans hJ3 (Imm.le_trans hJ4 (Imm.le_trans hJ5 hJ6))) ?_
          have hdf : ¬ z.dn = true := by rw [hdn]; decide
          have hpl : z.ps.length = lp.length := by rw [← hp, List.length_map]
          have e0 : rstep (fun q => pread y n x.g q) z = rjoin z (pread y n x.g (z.place + lp.length)).1 := (if_neg hdf).trans (by rw [hpl]; exact (if_neg h2).trans (if_neg (fun h => by rcases h with h | ⟨h6, h7⟩; exact h3 h; exact h5 h7)))
          have hps : z.ps ++ [(pread y n x.g (z.place + lp.length)).1] = (lp ++ [((pread y n x.g (z.place + lp.length)).1, va)]).map (·.1) := by rw [List.map_append, hp]; rfl
          have e : rjoin z (pread y n x.g (z.place + lp.length)).1 = (true, z.fin (z.ps ++ [(pread y n x.g (z.place + lp.length)).1]) (pread y n x.g (z.place + lp.length)).1.no ((((pjoin ((lp ++ [((pread y n x.g (z.place + lp.length)).1, va)]).map (·.1))).1).headD 0).toNat : Int) (((pjoin ((lp ++ [((pread y n x.g (z.place + lp.length)).1, va)]).map (·.1))).1).drop 1) 0) := (if_neg (by rw [hps, List.length_map, fst_head (by omega)]; exact h6)).trans ((if_neg (by rw [hps]; rintro (h | h); exact h7 h; exact h ⟨by rw [hhd]; exact h8, by rw [hhd]; omega⟩)).trans (by rw [hps]))
          rw [e0, e, hhd]; exact ⟨rfl, _, _, rfl, .done rfl hdrop, .mk ok ((((rk.mono hJ3).mono hJ4).mono hJ5).mono hJ6) mi ma im am hd⟩
    ·refine WP.valG rfl rfl rfl rfl rfl rfl rfl (Yld.move rfl rfl) ?_
     refine WP.passG rfl rfl rfl rfl rfl rfl rfl rfl ?_
     refine WP.passG rfl rfl rfl rfl rfl rfl rfl rfl ?_
     refine WP.passG rfl rfl rfl rfl rfl rfl rfl rfl ?_
     refine WP.valG rfl rfl rfl rfl rfl rfl rfl (Yld.pickF rfl rfl rfl) ?_
     refine WP.vl rfl (Yld.pickF rfl rfl rfl) ?_
     refine WP.mv rfl rfl ?_
     refine WP.nil ?_
     refine WP.sub [(0, _), (2, _), (3, _), (4, _), (5, _), (6, _), (11, _), (46, _), (83, _), (89, _)] ?_ ⟨rfl, rfl, rfl, rfl, rfl, rfl, rfl, rfl, rfl, rfl, trivial⟩
     refine WP.next ?_
     refine WP.condF rfl ?_
     refine WP.skip ?_
     refine WP.leave ?_
     refine WP.next ?_
     refine WP.seq ?_
     refine WD.start Trymixed 10 (fun c o => (c = r ∧ o = row 110 [.pointer (some ⟨l, 0, none⟩), .int .i64 (z.place : Int), .slice Ap lp.length cp, .bool false, .int .i64 z.no, .int .i64 z.kind, vb, .int .i64 z.e]) ∨ (c = b5 ∧ o = row 52 (ptV (pread y n x.g (z.place + lp.length)).1 va))) (fun _ _ => False) (by rintro _ _ (⟨rfl, rfl⟩ | ⟨rfl, rfl⟩) <;> exact (by repeat (first | exact There.h | exact There.i (by assumption) | apply There.t | apply There.s))) (fun _ _ h => h.elim) 11 [false, false, false, false, false, false, false, false, false, false, false] rfl rfl ?_
     refine WD.val (i := 0) rfl rfl rfl rfl (by kernel_rfl) rfl (Yld.move rfl rfl) ?_
     refine WD.val (i := 1) rfl rfl rfl rfl (by kernel_rfl) rfl (Yld.move rfl rfl) ?_
     refine WD.val (i := 2) rfl rfl rfl rfl (by kernel_rfl) rfl (Yld.nilCheck rfl rfl) ?_
     refine WD.val (i := 3) rfl rfl rfl rfl (by kernel_rfl) rfl (Yld.fieldAddr rfl ty_fd_110_2 rfl) ?_
     refine WD.val1 (i := 4) rfl rfl rfl rfl (by kernel_rfl) rfl (by kernel_rfl) (Yld.load (v := .slice Ap lp.length cp) rfl ty_sc_90 rfl (.inl (.inl ⟨rfl, rfl⟩)) rfl) ?_
     refine WD.val1 (i := 5) rfl rfl rfl rfl (by kernel_rfl) rfl (by kernel_rfl) (Yld.loadAll (cs := ptV (pread y n x.g (z.place + lp.length)).1 va) rfl ty_ag_52 rfl (.inl (.inr ⟨rfl, rfl⟩)) rfl) ?_
     refine WD.loud (i := 6) (by kernel_rfl) rfl rfl rfl ?_
     refine Op.buildSlice rfl ty_sl_90 ty_el2_90 rfl rfl rfl rfl (vs := [_]) rfl (segs := [(0, pf ((pread y n x.g (z.place + lp.length)).1, va))]) (cs := pf ((pread y n x.g (z.place + lp.length)).1, va)) rfl rfl (.seg (Nat.le_refl _) rfl .nil) (fun bq => ?_)
     refine WD.go (.inr (by rintro _ _ (⟨rfl, rfl⟩ | ⟨rfl, rfl⟩) <;> exact (by repeat (first | exact There.h | exact There.i (by assumption) | apply There.t | apply There.s)))) (fun _ _ h => h.elim) ?_
     refine WD.loud (i := 7) (by kernel_rfl) rfl rfl rfl ?_
     refine Op.append (m := 1) rfl ty_sl_90 ty_el_90 rfl rfl rfl rfl rfl ho (SlRd.lit (m := 1) (by repeat (first | exact There.h | exact There.i (by assumption) | apply There.t | apply There.s)) rfl (Nat.le_refl _)) (by repeat (first | exact Take.nil | with_reducible apply Take.cons | apply Take.app | exact Rm.chunk | exact Rm.here | exact Rm.nil0 | apply Rm.skip | apply Rm.skipS | (focus (apply Take.all; (repeat (first | exact Rm.chunk | exact Rm.here | exact Rm.nil0 | apply Rm.skip | apply Rm.skipS)); done)) | apply Take.cons)) (ptV_one (by obtain ⟨A', c', e, _⟩ := hva; exact ⟨_, _, _, e⟩)) (by omega) (by omega) (fun vn Ln hn => ?_)
     try simp only [nf]
     have how2 : Own 52 6 vn (pcells (lp ++ [((pread y n x.g (z.place + lp.length)).1, va)])) (lp ++ [((pread y n x.g (z.place + lp.length)).1, va)]).length Ln := by rw [pcells_app, List.length_append]; exact hn
     have hda2 : ∀ e ∈ (lp ++ [((pread y n x.g (z.place + lp.length)).1, va)]), SlRd (Im J3) e.2 e.1.data.length 1 (bytesV e.1.data) := fun e he => by rcases List.mem_append.1 he with he | he; exact (hdt e he).mono (fun b o q => hJ3.2 b o q); rw [List.mem_singleton.1 he]; exact hva
     have hl2 : (lp ++ [((pread y n x.g (z.place + lp.length)).1, va)]).length = lp.length + 1 := by rw [List.length_append]; rfl
     obtain ⟨bo, co, spo, rfl, rfl, _, _⟩ := how2.get (by omega)
     refine WD.go (.inr (by rintro _ _ (⟨rfl, rfl⟩ | ⟨rfl, rfl⟩) <;> exact (by repeat (first | exact There.h | exact There.i (by assumption) | apply There.t | apply There.s)))) (fun _ _ h => h.elim) ?_
     refine WD.val (i := 8) rfl rfl rfl rfl (by kernel_rfl) rfl (Yld.nilCheck rfl rfl) ?_
     refine WD.val (i := 9) rfl rfl rfl rfl (by kernel_rfl) rfl (Yld.fieldAddr rfl ty_fd_110_2 rfl) ?_
     refine WD.loud (i := 10) (by kernel_rfl) rfl rfl rfl ?_
     refine Op.s1 rfl rfl ty_sz_90 rfl rfl rfl ?_
     refine WD.go (.inl rfl) (fun _ _ h => h.elim) ?_
     refine WD.done (by kernel_rfl) ?_
     refine WP.sub [(0, _), (2, _), (3, _), (4, _), (5, _), (6, _), (11, _), (46, _), (83, _), (89, _)] ?_ ⟨rfl, rfl, rfl, rfl, rfl, rfl, rfl, rfl, rfl, rfl, trivial⟩
     refine WP.next ?_
     refine WP.seq ?_
     refine WP.seq ?_
     refine WQ.startAll Trymixed (by kernel_rfl) _ rfl ?_
     refine WQ.val rfl rfl rfl (Yld.move rfl rfl) ?_
     refine WQ.val rfl rfl rfl (Yld.nilCheck rfl rfl) ?_
     refine WQ.val rfl rfl rfl (Yld.fieldAddr rfl ty_fd_110_2 rfl) ?_
     refine WQ.val rfl rfl rfl (Yld.ld (v := .slice (some ⟨bo, 0, none⟩) (lp ++ [((pread y n x.g (z.place + lp.length)).1, va)]).length co) rfl ty_sc_90 rfl rfl) ?_
     refine WQ.val rfl rfl rfl (Yld.len rfl ty_sl_90 rfl) ?_
     refine WQ.val rfl rfl rfl (Yld.move rfl rfl) ?_
     refine WQ.val rfl rfl rfl (Yld.nilCheck rfl rfl) ?_
     refine WQ.val rfl rfl rfl (Yld.fieldAddr rfl ty_fd_110_2 rfl) ?_
     refine WQ.val rfl rfl rfl (Yld.ld (v := .slice (some ⟨bo, 0, none⟩) (lp ++ [((pread y n x.g (z.place + lp.length)).1, va)]).length co) rfl ty_sc_90 rfl rfl) ?_
     refine WQ.val rfl rfl rfl (Yld.indexAddr (i := 0) rfl ty_sl_90 rfl rfl (by omega)) ?_
     refine WQ.val rfl rfl rfl (Yld.fieldAddr rfl ty_fd_52_4 rfl) ?_
     refine WQ.val rfl rfl rfl (Yld.ld (v := .int .i64 ((lp ++ [((pread y n x.g (z.place + lp.length)).1, va)])[0]'(by omega)).1.parts) rfl ty_sc_3 rfl (flat_at pf_len (by omega) (by decide) spo rfl)) ?_
     refine WQ.split rfl rfl rfl (Yld.lss rfl rfl rfl) (fun h6 => ?_) (fun h6 => ?_)
     ·refine WQ.nil ?_
      refine WP.sub [(0, _), (2, _), (3, _), (4, _), (5, _), (6, _), (11, _), (46, _), (83, _), (89, _), (129, _)] ?_ ⟨rfl, rfl, rfl, rfl, rfl, rfl, rfl, rfl, rfl, rfl, rfl, trivial⟩
      refine WP.next ?_
      refine WP.condT rfl ?_
      refine WP.seq ?_
      refine WP.region [0] rfl ?_
      refine WP.mv rfl rfl ?_
      refine WP.nil ?_
      refine WP.next ?_
      refine WP.ret ?_
      refine WP.fn .ret (.inr rfl) (res1 rfl rfl) ((r, row 110 [.pointer (some ⟨l, 0, none⟩), .int .i64 (z.place : Int), .slice (some ⟨bo, 0, none⟩) (lp ++ [((pread y n x.g (z.place + lp.length)).1, va)]).length co, .bool false, .int .i64 z.no, .int .i64 z.kind, vb, .int .i64 z.e]) :: ([(bo, row 52 (pcells (lp ++ [((pread y n x.g (z.place + lp.length)).1, va)]) ++ spo))] ++ ((l, row 87 (lgV d s bi ba x)) :: (bi, oi) :: (ba, oa) :: (s, row 108 (sgV d x.g)) :: Ld))) hJ3 ?_
      have hdf : ¬ z.dn = true := by rw [hdn]; decide
      have hpl : z.ps.length = lp.length := by rw [← hp, List.length_map]
      have e0 : rstep (fun q => pread y n x.g q) z = rjoin z (pread y n x.g (z.place + lp.length)).1 := (if_neg hdf).trans (by rw [hpl]; exact (if_neg h2).trans (if_neg (fun h => by rcases h with h | ⟨h6, h7⟩; exact h3 h; omega)))
      have hps : z.ps ++ [(pread y n x.g (z.place + lp.length)).1] = (lp ++ [((pread y n x.g (z.place + lp.length)).1, va)]).map (·.1) := by rw [List.map_append, hp]; rfl
      have e : rjoin z (pread y n x.g (z.place + lp.length)).1 = (false, ⟨z.place, z.ps ++ [(pread y n x.g (z.place + lp.length)).1], z.dn, z.no, z.kind, z.b, z.e⟩) := if_pos (by rw [hps, List.length_map, fst_head (by omega)]; exact h6)
      rw [e0, e]; exact ⟨rfl, _, _, rfl, .live hdn how2 hda2 hps.symm (by omega) (hb.mono (fun b o q => hJ3.2 b o q)), .mk ok (rk.mono hJ3) mi ma im am hd⟩
     ·refine WQ.nil ?_
      refine WP.sub [(0, _), (2, _), (3, _), (4, _), (5, _), (6, _), (11, _), (46, _), (83, _), (89, _), (129, _)] ?_ ⟨rfl, rfl, rfl, rfl, rfl, rfl, rfl, rfl, rfl, rfl, rfl, trivial⟩
      refine WP.next ?_
      refine WP.condF rfl ?_
      refine WP.skip ?_
      refine WP.next ?_
      refine WP.seq ?_
      refine WP.shareRows how2 hda2 (by repeat (first | exact Take.nil | with_reducible apply Take.cons | apply Take.app | exact Rm.chunk | exact Rm.here | exact Rm.nil0 | apply Rm.skip | apply Rm.skipS | (focus (apply Take.all; (repeat (first | exact Rm.chunk | exact Rm.here | exact Rm.nil0 | apply Rm.skip | apply Rm.skipS)); done)) | apply Take.cons)) (fun J4 hJ4 hrp => ?_)
      refine WP.region [0, 1, 2, 3, 4, 5, 6, 7, 8, 9] rfl ?_
      refine WP.mv rfl rfl ?_
      refine WP.vl rfl (Yld.nilCheck rfl rfl) ?_
      refine WP.vl rfl (Yld.fieldAddr rfl ty_fd_110_2 rfl) ?_
      refine WP.vl rfl (Yld.ld (v := .slice (some ⟨bo, 0, none⟩) (lp ++ [((pread y n x.g (z.place + lp.length)).1, va)]).length co) rfl ty_sc_90 rfl rfl) ?_
      refine WP.loud rfl rfl ?_
      refine Op.cl (seg_Join hrp (by omega)) rfl Try.func48 rfl rfl rfl rfl ?_
      rintro v J5 L14 hJ5 ⟨vj, Lj, rfl, hj, rfl⟩
      try simp only [nf]
      refine WP.mv rfl rfl ?_
      refine WP.vl rfl (Yld.extract rfl rfl rfl) ?_
      refine WP.vl rfl (Yld.extract rfl rfl rfl) ?_
      iterate 2 refine WP.mv rfl rfl ?_
      refine WP.nil ?_
      refine WP.sub [(0, _), (2, _), (3, _), (4, _), (5, _), (6, _), (7, _), (11, _), (46, _), (83, _), (89, _), (129, _)] ?_ ⟨rfl, rfl, rfl, rfl, rfl, rfl, rfl, rfl, rfl, rfl, rfl, rfl, trivial⟩
      refine WP.shO hj (fun J6 hJ6 hjb => ?_)
      refine WP.next ?_
      refine WP.seq ?_
      refine WP.seq ?_
      refine WP.region [0, 1, 2, 3, 4, 5, 6, 7, 8, 9, 10, 11, 12, 13] rfl ?_
      refine WP.mv rfl rfl ?_
      refine WP.split rfl rfl rfl rfl (Yld.neq rfl rfl rfl) (fun h7 => ?_) (fun h7 => ?_)
      ·refine WP.mv rfl rfl ?_
       refine WP.passG rfl rfl rfl rfl rfl rfl rfl rfl ?_
       refine WP.passG rfl rfl rfl rfl rfl rfl rfl rfl ?_
       refine WP.passG rfl rfl rfl rfl rfl rfl rfl rfl ?_
       refine WP.passG rfl rfl rfl rfl rfl rfl rfl rfl ?_
       refine WP.vl rfl (Yld.pickT rfl rfl rfl) ?_
       refine WP.mv rfl rfl ?_
       refine WP.passG rfl rfl rfl rfl rfl rfl rfl rfl ?_
       refine WP.passG rfl rfl rfl rfl rfl rfl rfl rfl ?_
       refine WP.passG rfl rfl rfl rfl rfl rfl rfl rfl ?_
       refine WP.passG rfl rfl rfl rfl rfl rfl rfl rfl ?_
       refine WP.vl rfl (Yld.pickT rfl rfl rfl) ?_
       refine WP.nil ?_
       refine WP.sub [(0, _), (2, _), (3, _), (4, _), (5, _), (6, _), (7, _), (11, _), (46, _), (83, _), (89, _), (129, _), (151, _)] ?_ ⟨rfl, rfl, rfl, rfl, rfl, rfl, rfl, rfl, rfl, rfl, rfl, rfl, rfl, trivial⟩
       refine WP.next ?_
       refine WP.condT rfl ?_
       refine WP.seq ?_
       refine WP.region [0, 1, 2] rfl ?_
       refine WP.mv rfl rfl ?_
       refine WP.loud rfl rfl ?_
       refine Op.cl (read_end (l := l) (p := z.place)) rfl Try.func47 rfl rfl rfl rfl ?_
       rintro v J L1 - ⟨rfl, rfl, rfl⟩
       try simp only [nf]
       refine WP.mv rfl rfl ?_
       refine WP.nil ?_
       refine WP.sub [(0, _), (2, _), (3, _), (4, _), (5, _), (6, _), (7, _), (11, _), (46, _), (83, _), (89, _), (129, _), (151, _)] ?_ ⟨rfl, rfl, rfl, rfl, rfl, rfl, rfl, rfl, rfl, rfl, rfl, rfl, rfl, trivial⟩
       refine WP.next ?_
       refine WP.ret ?_
       refine WP.fn .ret (.inr rfl) (res1 rfl rfl) ((r, row 110 [.pointer (some ⟨l, 0, none⟩), .int .i64 (z.place : Int), .slice (some ⟨bo, 0, none⟩) (lp ++ [((pread y n x.g (z.place + lp.length)).1, va)]).length co, .bool true, .int .i64 0, .int .i64 0, .slice none 0 0, .int .i64 81]) :: ([] ++ ((l, row 87 (lgV d s bi ba x)) :: (bi, oi) :: (ba, oa) :: (s, row 108 (sgV d x.g)) :: Ld))) (Imm.le_trans hJ3 (Imm.le_trans hJ4 (Imm.le_trans hJ5 hJ6))) ?_
       have hdf : ¬ z.dn = true := by rw [hdn]; decide
       have hpl : z.ps.length = lp.length := by rw [← hp, List.length_map]
       have e0 : rstep (fun q => pread y n x.g q) z = rjoin z (pread y n x.g (z.place + lp.length)).1 := (if_neg hdf).trans (by rw [hpl]; exact (if_neg h2).trans (if_neg (fun h => by rcases h with h | ⟨h6, h7⟩; exact h3 h; omega)))
       have hps : z.ps ++ [(pread y n x.g (z.place + lp.length)).1] = (lp ++ [((pread y n x.g (z.place + lp.length)).1, va)]).map (·.1) := by rw [List.map_append, hp]; rfl
       have e : rjoin z (pread y n x.g (z.place + lp.length)).1 = (true, z.fin (z.ps ++ [(pread y n x.g (z.place + lp.length)).1]) 0 0 [] 81) := (if_neg (by rw [hps, List.length_map, fst_head (by omega)]; exact h6)).trans (if_pos (.inl (by rw [hps]; exact h7)))
       rw [e0, e]; exact ⟨rfl, _, _, rfl, .done rfl (slNil _), .mk ok ((((rk.mono hJ3).mono hJ4).mono hJ5).mono hJ6) mi ma im am hd⟩
      ·have hj1 := pjoin_pos (Decidable.not_not.1 h7)
       have hj0 : 0 < (pjoin ((lp ++ [((pread y n x.g (z.place + lp.length)).1, va)]).map (·.1))).1.length := hj1
       obtain ⟨bc, kc, cc, Tc, frc, arrc, rfl, hcc, hcb, hcd⟩ := hjb.get hj0
       have e2 := take_cells hcd 0 (byteV ((pjoin ((lp ++ [((pread y n x.g (z.place + lp.length)).1, va)]).map (·.1))).1[0]'hj0)) (by unfold bytesV; rw [List.getElem?_map, List.getElem?_eq_getElem hj0]; rfl) (by rw [bytesV_len]; omega)
       rw [Array.getElem?_toList] at e2
       have hhd : ((pjoin ((lp ++ [((pread y n x.g (z.place + lp.length)).1, va)]).map (·.1))).1).headD 0 = (pjoin ((lp ++ [((pread y n x.g (z.place + lp.length)).1, va)]).map (·.1))).1[0]'hj0 := headD_at hj0
       have hdrop := sub_rd hjb (l := 1) (k := (pjoin ((lp ++ [((pread y n x.g (z.place + lp.length)).1, va)]).map (·.1))).1.length) hj1 (Nat.le_refl _)
       rw [cut_tail, show (pjoin ((lp ++ [((pread y n x.g (z.place + lp.length)).1, va)]).map (·.1))).1.length - 1 = (((pjoin ((lp ++ [((pread y n x.g (z.place + lp.length)).1, va)]).map (·.1))).1).drop 1).length from (List.length_drop).symm] at hdrop
       refine WP.mv rfl rfl ?_
       refine WP.valG rfl rfl rfl rfl rfl rfl rfl (Yld.move rfl rfl) ?_
       refine WP.valG rfl rfl rfl rfl rfl rfl rfl (Yld.indexAddr (i := 0) rfl ty_sl_46 rfl rfl hj0) ?_
       refine WP.valG rfl rfl rfl rfl rfl rfl rfl (Yld.loadC rfl ty_sc_5 rfl (There.i hcb) e2) ?_
       refine WP.splitG rfl rfl rfl rfl rfl rfl rfl (Yld.lss rfl rfl rfl) (fun h8 => ?_) (fun h8 => ?_)
       ·refine WP.vl rfl (Yld.pickF rfl rfl rfl) ?_
        refine WP.mv rfl rfl ?_
        refine WP.passG rfl rfl rfl rfl rfl rfl rfl rfl ?_
        refine WP.passG rfl rfl rfl rfl rfl rfl rfl rfl ?_
        refine WP.passG rfl rfl rfl rfl rfl rfl rfl rfl ?_
        refine WP.passG rfl rfl rfl rfl rfl rfl rfl rfl ?_
        refine WP.vl rfl (Yld.pickT rfl rfl rfl) ?_
        refine WP.nil ?_
        refine WP.sub [(0, _), (2, _), (3, _), (4, _), (5, _), (6, _), (7, _), (11, _), (46, _), (83, _), (89, _), (129, _), (151, _)] ?_ ⟨rfl, rfl, rfl, rfl, rfl, rfl, rfl, rfl, rfl, rfl, rfl, rfl, rfl, trivial⟩
        refine WP.next ?_
        refine WP.condT rfl ?_
        refine WP.seq ?_
        refine WP.region [0, 1, 2] rfl ?_
        refine WP.mv rfl rfl ?_
        refine WP.loud rfl rfl ?_
        refine Op.cl (read_end (l := l) (p := z.place)) rfl Try.func47 rfl rfl rfl rfl ?_
        rintro v J L1 - ⟨rfl, rfl, rfl⟩
        try simp only [nf]
        refine WP.mv rfl rfl ?_
        refine WP.nil ?_
        refine WP.sub [(0, _), (2, _), (3, _), (4, _), (5, _), (6, _), (7, _), (11, _), (46, _), (83, _), (89, _), (129, _), (151, _)] ?_ ⟨rfl, rfl, rfl, rfl, rfl, rfl, rfl, rfl, rfl, rfl, rfl, rfl, rfl, trivial⟩
        refine WP.next ?_
        refine WP.ret ?_
        refine WP.fn .ret (.inr rfl) (res1 rfl rfl) ((r, row 110 [.pointer (some ⟨l, 0, none⟩), .int .i64 (z.place : Int), .slice (some ⟨bo, 0, none⟩) (lp ++ [((pread y n x.g (z.place + lp.length)).1, va)]).length co, .bool true, .int .i64 0, .int .i64 0, .slice none 0 0, .int .i64 81]) :: ([] ++ ((l, row 87 (lgV d s bi ba x)) :: (bi, oi) :: (ba, oa) :: (s, row 108 (sgV d x.g)) :: Ld))) (Imm.le_trans hJ3 (Imm.le_trans hJ4 (Imm.le_trans hJ5 hJ6))) ?_
        have hdf : ¬ z.dn = true := by rw [hdn]; decide
        have hpl : z.ps.length = lp.length := by rw [← hp, List.length_map]
        have e0 : rstep (fun q => pread y n x.g q) z = rjoin z (pread y n x.g (z.place + lp.length)).1 := (if_neg hdf).trans (by rw [hpl]; exact (if_neg h2).trans (if_neg (fun h => by rcases h with h | ⟨h6, h7⟩; exact h3 h; omega)))
        have hps : z.ps ++ [(pread y n x.g (z.place + lp.length)).1] = (lp ++ [((pread y n x.g (z.place + lp.length)).1, va)]).map (·.1) := by rw [List.map_append, hp]; rfl
        have e : rjoin z (pread y n x.g (z.place + lp.length)).1 = (true, z.fin (z.ps ++ [(pread y n x.g (z.place + lp.length)).1]) 0 0 [] 81) := (if_neg (by rw [hps, List.length_map, fst_head (by omega)]; exact h6)).trans (if_pos (.inr (fun h => h.1 (by rw [hps, hhd]; exact h8))))
        rw [e0, e]; exact ⟨rfl, _, _, rfl, .done rfl (slNil _), .mk ok ((((rk.mono hJ3).mono hJ4).mono hJ5).mono hJ6) mi ma im am hd⟩
       ·refine WP.vl rfl (Yld.pickF rfl rfl rfl) ?_
        refine WP.mv rfl rfl ?_
        refine WP.valG rfl rfl rfl rfl rfl rfl rfl (Yld.move rfl rfl) ?_
        refine WP.valG rfl rfl rfl rfl rfl rfl rfl (Yld.indexAddr (i := 0) rfl ty_sl_46 rfl rfl hj0) ?_
        refine WP.valG rfl rfl rfl rfl rfl rfl rfl (Yld.loadC rfl ty_sc_5 rfl (There.i hcb) e2) ?_
        refine WP.splitG rfl rfl rfl rfl rfl rfl rfl (Yld.gtr rfl rfl rfl) (fun h9 => ?_) (fun h9 => ?_)
        ·refine WP.vl rfl (Yld.pickF rfl rfl rfl) ?_
         refine WP.nil ?_
         refine WP.sub [(0, _), (2, _), (3, _), (4, _), (5, _), (6, _), (7, _), (11, _), (46, _), (83, _), (89, _), (129, _), (151, _)] ?_ ⟨rfl, rfl, rfl, rfl, rfl, rfl, rfl, rfl, rfl, rfl, rfl, rfl, rfl, trivial⟩
         refine WP.next ?_
         refine WP.condT rfl ?_
         refine WP.seq ?_
         refine WP.region [0, 1, 2] rfl ?_
         refine WP.mv rfl rfl ?_
         refine WP.loud rfl rfl ?_
         refine Op.cl (read_end (l := l) (p := z.place)) rfl Try.func47 rfl rfl rfl rfl ?_
         rintro v J L1 - ⟨rfl, rfl, rfl⟩
         try simp only [nf]
         refine WP.mv rfl rfl ?_
         refine WP.nil ?_
         refine WP.sub [(0, _), (2, _), (3, _), (4, _), (5, _), (6, _), (7, _), (11, _), (46, _), (83, _), (89, _), (129, _), (151, _)] ?_ ⟨rfl, rfl, rfl, rfl, rfl, rfl, rfl, rfl, rfl, rfl, rfl, rfl, rfl, trivial⟩
         refine WP.next ?_
         refine WP.ret ?_
         refine WP.fn .ret (.inr rfl) (res1 rfl rfl) ((r, row 110 [.pointer (some ⟨l, 0, none⟩), .int .i64 (z.place : Int), .slice (some ⟨bo, 0, none⟩) (lp ++ [((pread y n x.g (z.place + lp.length)).1, va)]).length co, .bool true, .int .i64 0, .int .i64 0, .slice none 0 0, .int .i64 81]) :: ([] ++ ((l, row 87 (lgV d s bi ba x)) :: (bi, oi) :: (ba, oa) :: (s, row 108 (sgV d x.g)) :: Ld))) (Imm.le_trans hJ3 (Imm.le_trans hJ4 (Imm.le_trans hJ5 hJ6))) ?_
         have hdf : ¬ z.dn = true := by rw [hdn]; decide
         have hpl : z.ps.length = lp.length := by rw [← hp, List.length_map]
         have e0 : rstep (fun q => pread y n x.g q) z = rjoin z (pread y n x.g (z.place + lp.length)).1 := (if_neg hdf).trans (by rw [hpl]; exact (if_neg h2).trans (if_neg (fun h => by rcases h with h | ⟨h6, h7⟩; exact h3 h; omega)))
         have hps : z.ps ++ [(pread y n x.g (z.place + lp.length)).1] = (lp ++ [((pread y n x.g (z.place + lp.length)).1, va)]).map (·.1) := by rw [List.map_append, hp]; rfl
         have e : rjoin z (pread y n x.g (z.place + lp.length)).1 = (true, z.fin (z.ps ++ [(pread y n x.g (z.place + lp.length)).1]) 0 0 [] 81) := (if_neg (by rw [hps, List.length_map, fst_head (by omega)]; exact h6)).trans (if_pos (.inr (fun h => h.2 (by rw [hps, hhd]; omega))))
         rw [e0, e]; exact ⟨rfl, _, _, rfl, .done rfl (slNil _), .mk ok ((((rk.mono hJ3).mono hJ4).mono hJ5).mono hJ6) mi ma im am hd⟩
        ·refine WP.vl rfl (Yld.pickF rfl rfl rfl) ?_
         refine WP.nil ?_
         refine WP.sub [(0, _), (2, _), (3, _), (4, _), (5, _), (6, _), (7, _), (11, _), (46, _), (83, _), (89, _), (129, _), (151, _)] ?_ ⟨rfl, rfl, rfl, rfl, rfl, rfl, rfl, rfl, rfl, rfl, rfl, rfl, rfl, trivial⟩
         refine WP.next ?_
         refine WP.condF rfl ?_
         refine WP.skip ?_
         refine WP.next ?_
         refine WP.seq ?_
         refine WQ.start Trymixed 9 (by kernel_rfl) _ rfl [9, 10] rfl ?_
         refine WQ.val rfl rfl rfl (Yld.move rfl rfl) ?_
         refine WQ.val rfl rfl rfl (Yld.fieldAddr rfl ty_fd_52_1 rfl) ?_
         refine WQ.val rfl rfl rfl (Yld.ld (v := .int .i64 (pread y n x.g (z.place + lp.length)).1.no) rfl ty_sc_3 rfl rfl) ?_
         refine WQ.val rfl rfl rfl (Yld.move rfl rfl) ?_
         refine WQ.val rfl rfl rfl (Yld.indexAddr (i := 0) rfl ty_sl_46 rfl rfl hj0) ?_
         refine WQ.val rfl rfl rfl (Yld.loadC rfl ty_sc_5 rfl (There.i hcb) e2) ?_
         refine WQ.val rfl rfl rfl (Yld.conv64 rfl ty_un_5 ty_ik_3 rfl (by have := ((pjoin ((lp ++ [((pread y n x.g (z.place + lp.length)).1, va)]).map (·.1))).1[0]'hj0).toNat_lt; omega)) ?_
         refine WQ.val rfl rfl rfl (Yld.move rfl rfl) ?_
         refine WQ.val rfl rfl rfl (Yld.sliceR (l := 1) (h := (pjoin ((lp ++ [((pread y n x.g (z.place + lp.length)).1, va)]).map (·.1))).1.length) hjb rfl ty_sl_46 rfl (Env.limS (n := 1) rfl) Env.lim0 hj1 (Nat.le_refl _)) ?_
         refine WQ.nil ?_
         refine WP.loud rfl rfl ?_
         refine Op.cl (read_end (l := l) (p := z.place)) rfl Try.func47 rfl rfl rfl rfl ?_
         rintro v J L1 - ⟨rfl, rfl, rfl⟩
         try simp only [nf]
         refine WP.mv rfl rfl ?_
         refine WP.nil ?_
         refine WP.sub [(0, _), (2, _), (3, _), (4, _), (5, _), (6, _), (7, _), (11, _), (46, _), (83, _), (89, _), (129, _), (151, _)] ?_ ⟨rfl, rfl, rfl, rfl, rfl, rfl, rfl, rfl, rfl, rfl, rfl, rfl, rfl, trivial⟩
         refine WP.next ?_
         refine WP.ret ?_
         refine WP.fn .ret (.inr rfl) (res1 rfl rfl) ((r, row 110 [.pointer (some ⟨l, 0, none⟩), .int .i64 (z.place : Int), .slice (some ⟨bo, 0, none⟩) (lp ++ [((pread y n x.g (z.place + lp.length)).1, va)]).length co, .bool true, .int .i64 (pread y n x.g (z.place + lp.length)).1.no, .int .i64 (((pjoin ((lp ++ [((pread y n x.g (z.place + lp.length)).1, va)]).map (·.1))).1[0]'hj0).toNat : Int), (subSl 1 1 (pjoin ((lp ++ [((pread y n x.g (z.place + lp.length)).1, va)]).map (·.1))).1.length (.slice (some ⟨bc, kc, none⟩) (pjoin ((lp ++ [((pread y n x.g (z.place + lp.length)).1, va)]).map (·.1))).1.length cc)), .int .i64 0]) :: ([] ++ ((l, row 87 (lgV d s bi ba x)) :: (bi, oi) :: (ba, oa) :: (s, row 108 (sgV d x.g)) :: Ld))) (Imm.le_trans hJ3 (Imm.le_trans hJ4 (Imm.le_trans hJ5 hJ6))) ?_
         have hdf : ¬ z.dn = true := by rw [hdn]; decide
         have hpl : z.ps.length = lp.length := by rw [← hp, List.length_map]
         have e0 : rstep (fun q => pread y n x.g q) z = rjoin z (pread y n x.g (z.place + lp.length)).1 := (if_neg hdf).trans (by rw [hpl]; exact (if_neg h2).trans (if_neg (fun h => by rcases h with h | ⟨h6, h7⟩; exact h3 h; omega)))
         have hps : z.ps ++ [(pread y n x.g (z.place + lp.length)).1] = (lp ++ [((pread y n x.g (z.place + lp.length)).1, va)]).map (·.1) := by rw [List.map_append, hp]; rfl
         have e : rjoin z (pread y n x.g (z.place + lp.length)).1 = (true, z.fin (z.ps ++ [(pread y n x.g (z.place + lp.length)).1]) (pread y n x.g (z.place + lp.length)).1.no ((((pjoin ((lp ++ [((pread y n x.g (z.place + lp.length)).1, va)]).map (·.1))).1).headD 0).toNat : Int) (((pjoin ((lp ++ [((pread y n x.g (z.place + lp.length)).1, va)]).map (·.1))).1).drop 1) 0) := (if_neg (by rw [hps, List.length_map, fst_head (by omega)]; exact h6)).trans ((if_neg (by rw [hps]; rintro (h | h); exact h7 h; exact h ⟨by rw [hhd]; exact h8, by rw [hhd]; omega⟩)).trans (by rw [hps]))
         rw [e0, e, hhd]; exact ⟨rfl, _, _, rfl, .done rfl hdrop, .mk ok ((((rk.mono hJ3).mono hJ4).mono hJ5).mono hJ6) mi ma im am hd⟩
 ·refine WP.oper rfl rfl ?_
  refine Op.alloc rfl rfl rfl ty_zr_52 (fun b5 => ?_)
  refine WD.go (.inr (by rintro _ _ (⟨rfl, rfl⟩ | ⟨rfl, rfl⟩) <;> exact (by repeat (first | exact There.h | exact There.i (by assumption) | apply There.t | apply There.s)))) (fun _ _ h => h.elim) ?_
  refine WD.loud (i := 17) (by kernel_rfl) rfl rfl rfl ?_
  refine Op.cl (seg_Read (p := z.place + lp.length) hd ok.g (by omega)) rfl Try.func15 rfl rfl rfl rfl ?_
  rintro v J3 L6 hJ3 ⟨cs, rfl, hcs, rfl⟩
  try simp only [nf]
  obtain ⟨va, rfl, hva⟩ := hcs
  refine WD.go (.inr (by rintro _ _ (⟨rfl, rfl⟩ | ⟨rfl, rfl⟩) <;> exact (by repeat (first | exact There.h | exact There.i (by assumption) | apply There.t | apply There.s)))) (fun _ _ h => h.elim) ?_
  refine WD.val (i := 18) rfl rfl rfl rfl (by kernel_rfl) rfl (Yld.move rfl rfl) ?_
  refine WD.val (i := 19) rfl rfl rfl rfl (by kernel_rfl) rfl (Yld.extract rfl rfl rfl) ?_
  refine WD.val (i := 20) rfl rfl rfl rfl (by kernel_rfl) rfl (Yld.extract rfl rfl rfl) ?_
  refine WD.loud (i := 22) (by kernel_rfl) rfl rfl rfl ?_
  refine Op.sA rfl rfl ty_sz_52 rfl rfl rfl (ptV_one (by obtain ⟨A', c', e, _⟩ := hva; exact ⟨_, _, _, e⟩)) rfl ?_
  refine WD.go (.inl rfl) (fun _ _ h => h.elim) ?_
  refine WD.val (i := 23) rfl rfl rfl rfl (by kernel_rfl) rfl (Yld.assign rfl rfl) ?_
  refine WD.done (by kernel_rfl) ?_
  refine WP.sub [(0, _), (2, _), (3, _), (4, _), (5, _), (6, _), (11, _), (46, _)] ?_ ⟨rfl, rfl, rfl, rfl, rfl, rfl, rfl, rfl, trivial⟩
  refine WP.next ?_
  refine WP.seq ?_
  refine WP.block ?_
  refine WP.seq ?_
  refine WP.region [0, 1, 2] rfl ?_
  refine WP.mv rfl rfl ?_
  refine WP.split rfl rfl rfl rfl (Yld.eql rfl rfl rfl) (fun h2 => ?_) (fun h2 => ?_)
  ·rw [h2]
   refine WP.mv rfl rfl ?_
   refine WP.nil ?_
   refine WP.sub [(0, _), (2, _), (3, _), (4, _), (5, _), (6, _), (11, _), (46, _), (83, _)] ?_ ⟨rfl, rfl, rfl, rfl, rfl, rfl, rfl, rfl, rfl, trivial⟩
   refine WP.next ?_
   refine WP.condT rfl ?_
   refine WP.seq ?_
   refine WP.region [0, 1, 2, 3] rfl ?_
   iterate 2 refine WP.mv rfl rfl ?_
   refine WP.loud rfl rfl ?_
   refine Op.cl (read_end (l := l) (p := z.place)) rfl Try.func47 rfl rfl rfl rfl ?_
   rintro v J L1 - ⟨rfl, rfl, rfl⟩
   try simp only [nf]
   refine WP.mv rfl rfl ?_
   refine WP.nil ?_
   refine WP.sub [(0, _), (2, _), (3, _), (4, _), (5, _), (6, _), (11, _), (46, _), (83, _)] ?_ ⟨rfl, rfl, rfl, rfl, rfl, rfl, rfl, rfl, rfl, trivial⟩
   refine WP.next ?_
   refine WP.ret ?_
   refine WP.fn .ret (.inr rfl) (res1 rfl rfl) ((r, row 110 [.pointer (some ⟨l, 0, none⟩), .int .i64 (z.place : Int), .slice Ap lp.length cp, .bool true, .int .i64 0, .int .i64 0, .slice none 0 0, .int .i64 4]) :: (Lp ++ ((l, row 87 (lgV d s bi ba x)) :: (bi, oi) :: (ba, oa) :: (s, row 108 (sgV d x.g)) :: Ld))) hJ3 ?_
   have hdf : ¬ z.dn = true := by rw [hdn]; decide
   have hpl : z.ps.length = lp.length := by rw [← hp, List.length_map]
   have e : rstep (fun q => pread y n x.g q) z = (true, z.fin z.ps 0 0 [] 4) := (if_neg hdf).trans (by rw [hpl]; exact if_pos h2)
   rw [e]; exact ⟨rfl, _, _, rfl, .done rfl (slNil _), .mk ok (rk.mono hJ3) mi ma im am hd⟩
  ·refine WP.mv rfl rfl ?_
   refine WP.nil ?_
   refine WP.sub [(0, _), (2, _), (3, _), (4, _), (5, _), (6, _), (11, _), (46, _), (83, _)] ?_ ⟨rfl, rfl, rfl, rfl, rfl, rfl, rfl, rfl, rfl, trivial⟩
   refine WP.next ?_
   refine WP.condF rfl ?_
   refine WP.seq ?_
   refine WP.region [0, 1, 2, 3, 4, 5, 6, 7, 8, 9, 10, 11, 12, 13, 14, 15] rfl ?_
   refine WP.mv rfl rfl ?_
   refine WP.split rfl rfl rfl rfl (Yld.neq rfl rfl rfl) (fun h3 => ?_) (fun h3 => ?_)
   ·refine WP.mv rfl rfl ?_
    refine WP.passG rfl rfl rfl rfl rfl rfl rfl rfl ?_
    refine WP.passG rfl rfl rfl rfl rfl rfl rfl rfl ?_
    refine WP.passG rfl rfl rfl rfl rfl rfl rfl rfl ?_
    refine WP.passG rfl rfl rfl rfl rfl rfl rfl rfl ?_
    refine WP.passG rfl rfl rfl rfl rfl rfl rfl rfl ?_
    refine WP.passG rfl rfl rfl rfl rfl rfl rfl rfl ?_
    refine WP.passG rfl rfl rfl rfl rfl rfl rfl rfl ?_
    refine WP.passG rfl rfl rfl rfl rfl rfl rfl rfl ?_
    refine WP.passG rfl rfl rfl rfl rfl rfl rfl rfl ?_
    refine WP.passG rfl rfl rfl rfl rfl rfl rfl rfl ?_
    refine WP.passG rfl rfl rfl rfl rfl rfl rfl rfl ?_
    refine WP.vl rfl (Yld.pickT rfl rfl rfl) ?_
    refine WP.mv rfl rfl ?_
    refine WP.nil ?_
    refine WP.sub [(0, _), (2, _), (3, _), (4, _), (5, _), (6, _), (11, _), (46, _), (83, _), (89, _)] ?_ ⟨rfl, rfl, rfl, rfl, rfl, rfl, rfl, rfl, rfl, rfl, trivial⟩
    refine WP.next ?_
    refine WP.condT rfl ?_
    refine WP.seq ?_
    refine WP.region [0, 1, 2] rfl ?_
    refine WP.mv rfl rfl ?_
    refine WP.loud rfl rfl ?_
    refine Op.cl (read_end (l := l) (p := z.place)) rfl Try.func47 rfl rfl rfl rfl ?_
    rintro v J L1 - ⟨rfl, rfl, rfl⟩
    try simp only [nf]
    refine WP.mv rfl rfl ?_
    refine WP.nil ?_
    refine WP.sub [(0, _), (2, _), (3, _), (4, _), (5, _), (6, _), (11, _), (46, _), (83, _), (89, _)] ?_ ⟨rfl, rfl, rfl, rfl, rfl, rfl, rfl, rfl, rfl, rfl, trivial⟩
    refine WP.next ?_
    refine WP.ret ?_
    refine WP.fn .ret (.inr rfl) (res1 rfl rfl) ((r, row 110 [.pointer (some ⟨l, 0, none⟩), .int .i64 (z.place : Int), .slice Ap lp.length cp, .bool true, .int .i64 0, .int .i64 0, .slice none 0 0, .int .i64 81]) :: (Lp ++ ((l, row 87 (lgV d s bi ba x)) :: (bi, oi) :: (ba, oa) :: (s, row 108 (sgV d x.g)) :: Ld))) hJ3 ?_
    have hdf : ¬ z.dn = true := by rw [hdn]; decide
    have hpl : z.ps.length = lp.length := by rw [← hp, List.length_map]
    have e : rstep (fun q => pread y n x.g q) z = (true, z.fin z.ps 0 0 [] 81) := (if_neg hdf).trans (by rw [hpl]; exact (if_neg h2).trans (if_pos (.inl h3)))
    rw [e]; exact ⟨rfl, _, _, rfl, .done rfl (slNil _), .mk ok (rk.mono hJ3) mi ma im am hd⟩
   ·refine WP.mv rfl rfl ?_
    refine WP.valG rfl rfl rfl rfl rfl rfl rfl (Yld.move rfl rfl) ?_
    refine WP.valG rfl rfl rfl rfl rfl rfl rfl (Yld.nilCheck rfl rfl) ?_
    refine WP.valG rfl rfl rfl rfl rfl rfl rfl (Yld.fieldAddr rfl ty_fd_110_2 rfl) ?_
    refine WP.valG rfl rfl rfl rfl rfl rfl rfl (Yld.ld (v := .slice Ap lp.length cp) rfl ty_sc_90 rfl rfl) ?_
    refine WP.valG rfl rfl rfl rfl rfl rfl rfl (Yld.len rfl ty_sl_90 rfl) ?_
    refine WP.splitG rfl rfl rfl rfl rfl rfl rfl (Yld.eql rfl rfl rfl) (fun h4 => ?_) (fun h4 => ?_)
    ·refine WP.valG rfl rfl rfl rfl rfl rfl rfl (Yld.move rfl rfl) ?_
     refine WP.valG rfl rfl rfl rfl rfl rfl rfl (Yld.fieldAddr rfl ty_fd_52_2 rfl) ?_
     refine WP.valG rfl rfl rfl rfl rfl rfl rfl (Yld.ld (v := .int .i64 (pread y n x.g (z.place + lp.length)).1.index) rfl ty_sc_3 rfl rfl) ?_
     refine WP.splitG rfl rfl rfl rfl rfl rfl rfl (Yld.neq rfl rfl rfl) (fun h5 => ?_) (fun h5 => ?_)
     ·refine WP.valG rfl rfl rfl rfl rfl rfl rfl (Yld.pickT rfl rfl rfl) ?_
      refine WP.vl rfl (Yld.pickF rfl rfl rfl) ?_
      refine WP.mv rfl rfl ?_
      refine WP.nil ?_
      refine WP.sub [(0, _), (2, _), (3, _), (4, _), (5, _), (6, _), (11, _), (46, _), (83, _), (89, _)] ?_ ⟨rfl, rfl, rfl, rfl, rfl, rfl, rfl, rfl, rfl, rfl, trivial⟩
      refine WP.next ?_
      refine WP.condT rfl ?_
      refine WP.seq ?_
      refine WP.region [0, 1, 2] rfl ?_
      refine WP.mv rfl rfl ?_
      refine WP.loud rfl rfl ?_
      refine Op.cl (read_end (l := l) (p := z.place)) rfl Try.func47 rfl rfl rfl rfl ?_
      rintro v J L1 - ⟨rfl, rfl, rfl⟩
      try simp only [nf]
      refine WP.mv rfl rfl ?_
      refine WP.nil ?_
      refine WP.sub [(0, _), (2, _), (3, _), (4, _), (5, _), (6, _), (11, _), (46, _), (83, _), (89, _)] ?_ ⟨rfl, rfl, rfl, rfl, rfl, rfl, rfl, rfl, rfl, rfl, trivial⟩
      refine WP.next ?_
      refine WP.ret ?_
      refine WP.fn .ret (.inr rfl) (res1 rfl rfl) ((r, row 110 [.pointer (some ⟨l, 0, none⟩), .int .i64 (z.place : Int), .slice Ap lp.length cp, .bool true, .int .i64 0, .int .i64 0, .slice none 0 0, .int .i64 81]) :: (Lp ++ ((l, row 87 (lgV d s bi ba x)) :: (bi, oi) :: (ba, oa) :: (s, row 108 (sgV d x.g)) :: Ld))) hJ3 ?_
      have hdf : ¬ z.dn = true := by rw [hdn]; decide
      have hpl : z.ps.length = lp.length := by rw [← hp, List.length_map]
      have e : rstep (fun q => pread y n x.g q) z = (true, z.fin z.ps 0 0 [] 81) := (if_neg hdf).trans (by rw [hpl]; exact (if_neg h2).trans (if_pos (.inr ⟨by omega, h5⟩)))
      rw [e]; exact ⟨rfl, _, _, rfl, .done rfl (slNil _), .mk ok (rk.mono hJ3) mi ma im am hd⟩
     ·refine WP.valG rfl rfl rfl rfl rfl rfl rfl (Yld.pickT rfl rfl rfl) ?_
      refine WP.vl rfl (Yld.pickF rfl rfl rfl) ?_
      refine WP.mv rfl rfl ?_
      refine WP.nil ?_
      refine WP.sub [(0, _), (2, _), (3, _), (4, _), (5, _), (6, _), (11, _), (46, _), (83, _), (89, _)] ?_ ⟨rfl, rfl, rfl, rfl, rfl, rfl, rfl, rfl, rfl, rfl, trivial⟩
      refine WP.next ?_
      refine WP.condF rfl ?_
      refine WP.skip ?_
      refine WP.leave ?_
      refine WP.next ?_
      refine WP.seq ?_
      refine WD.start Trymixed 10 (fun c o => (c = r ∧ o = row 110 [.pointer (some ⟨l, 0, none⟩), .int .i64 (z.place : Int), .slice Ap lp.length cp, .bool false, .int .i64 z.no, .int .i64 z.kind, vb, .int .i64 z.e]) ∨ (c = b5 ∧ o = row 52 (ptV (pread y n x.g (z.place + lp.length)).1 va))) (fun _ _ => False) (by rintro _ _ (⟨rfl, rfl⟩ | ⟨rfl, rfl⟩) <;> exact (by repeat (first | exact There.h | exact There.i (by assumption) | apply There.t | apply There.s))) (fun _ _ h => h.elim) 11 [false, false, false, false, false, false, false, false, false, false, false] rfl rfl ?_
      refine WD.val (i := 0) rfl rfl rfl rfl (by kernel_rfl) rfl (Yld.move rfl rfl) ?_
      refine WD.val (i := 1) rfl rfl rfl rfl (by kernel_rfl) rfl (Yld.move rfl rfl) ?_
      refine WD.val (i := 2) rfl rfl rfl rfl (by kernel_rfl) rfl (Yld.nilCheck rfl rfl) ?_
      refine WD.val (i := 3) rfl rfl rfl rfl (by kernel_rfl) rfl (Yld.fieldAddr rfl ty_fd_110_2 rfl) ?_
      refine WD.val1 (i := 4) rfl rfl rfl rfl (by kernel_rfl) rfl (by kernel_rfl) (Yld.load (v := .slice Ap lp.length cp) rfl ty_sc_90 rfl (.inl (.inl ⟨rfl, rfl⟩)) rfl) ?_
      refine WD.val1 (i := 5) rfl rfl rfl rfl (by kernel_rfl) rfl (by kernel_rfl) (Yld.loadAll (cs := ptV (pread y n x.g (z.place + lp.length)).1 va) rfl ty_ag_52 rfl (.inl (.inr ⟨rfl, rfl⟩)) rfl) ?_
      refine WD.loud (i := 6) (by kernel_rfl) rfl rfl rfl ?_
      refine Op.buildSlice rfl ty_sl_90 ty_el2_90 rfl rfl rfl rfl (vs := [_]) rfl (segs := [(0, pf ((pread y n x.g (z.place + lp.length)).1, va))]) (cs := pf ((pread y n x.g (z.place + lp.length)).1, va)) rfl rfl (.seg (Nat.le_refl _) rfl .nil) (fun bq => ?_)
      refine WD.go (.inr (by rintro _ _ (⟨rfl, rfl⟩ | ⟨rfl, rfl⟩) <;> exact (by repeat (first | exact There.h | exact There.i (by assumption) | apply There.t | apply There.s)))) (fun _ _ h => h.elim) ?_
      refine WD.loud (i := 7) (by kernel_rfl) rfl rfl rfl ?_
      refine Op.append (m := 1) rfl ty_sl_90 ty_el_90 rfl rfl rfl rfl rfl ho (SlRd.lit (m := 1) (by repeat (first | exact There.h | exact There.i (by assumption) | apply There.t | apply There.s)) rfl (Nat.le_refl _)) (by repeat (first | exact Take.nil | with_reducible apply Take.cons | apply Take.app | exact Rm.chunk | exact Rm.here | exact Rm.nil0 | apply Rm.skip | apply Rm.skipS | (focus (apply Take.all; (repeat (first | exact Rm.chunk | exact Rm.here | exact Rm.nil0 | apply Rm.skip | apply Rm.skipS)); done)) | apply Take.cons)) (ptV_one (by obtain ⟨A', c', e, _⟩ := hva; exact ⟨_, _, _, e⟩)) (by omega) (by omega) (fun vn Ln hn => ?_)
      try simp only [nf]
      have how2 : Own 52 6 vn (pcells (lp ++ [((pread y n x.g (z.place + lp.length)).1, va)])) (lp ++ [((pread y n x.g (z.place + lp.length)).1, va)]).length Ln := by rw [pcells_app, List.length_append]; exact hn
      have hda2 : ∀ e ∈ (lp ++ [((pread y n x.g (z.place + lp.length)).1, va)]), SlRd (Im J3) e.2 e.1.data.length 1 (bytesV e.1.data) := fun e he => by rcases List.mem_append.1 he with he | he; exact (hdt e he).mono (fun b o q => hJ3.2 b o q); rw [List.mem_singleton.1 he]; exact hva
      have hl2 : (lp ++ [((pread y n x.g (z.place + lp.length)).1, va)]).length = lp.length + 1 := by rw [List.length_append]; rfl
      obtain ⟨bo, co, spo, rfl, rfl, _, _⟩ := how2.get (by omega)
      refine WD.go (.inr (by rintro _ _ (⟨rfl, rfl⟩ | ⟨rfl, rfl⟩) <;> exact (by repeat (first | exact There.h | exact There.i (by assumption) | apply There.t | apply There.s)))) (fun _ _ h => h.elim) ?_
      refine WD.val (i := 8) rfl rfl rfl rfl (by kernel_rfl) rfl (Yld.nilCheck rfl rfl) ?_
      refine WD.val (i := 9) rfl rfl rfl rfl (by kernel_rfl) rfl (Yld.fieldAddr rfl ty_fd_110_2 rfl) ?_
      refine WD.loud (i := 10) (by kernel_rfl) rfl rfl rfl ?_
      refine Op.s1 rfl rfl ty_sz_90 rfl rfl rfl ?_
      refine WD.go (.inl rfl) (fun _ _ h => h.elim) ?_
      refine WD.done (by kernel_rfl) ?_
      refine WP.sub [(0, _), (2, _), (3, _), (4, _), (5, _), (6, _), (11, _), (46, _), (83, _), (89, _)] ?_ ⟨rfl, rfl, rfl, rfl, rfl, rfl, rfl, rfl, rfl, rfl, trivial⟩
      refine WP.next ?_
      refine WP.seq ?_
      refine WP.seq ?_
      refine WQ.startAll Trymixed (by kernel_rfl) _ rfl ?_
      refine WQ.val rfl rfl rfl (Yld.move rfl rfl) ?_
      refine WQ.val rfl rfl rfl (Yld.nilCheck rfl rfl) ?_
      refine WQ.val rfl rfl rfl (Yld.fieldAddr rfl ty_fd_110_2 rfl) ?_
      refine WQ.val rfl rfl rfl (Yld.ld (v := .slice (some ⟨bo, 0, none⟩) (lp ++ [((pread y n x.g (z.place + lp.length)).1, va)]).length co) rfl ty_sc_90 rfl rfl) ?_
      refine WQ.val rfl rfl rfl (Yld.len rfl ty_sl_90 rfl) ?_
      refine WQ.val rfl rfl rfl (Yld.move rfl rfl) ?_
      refine WQ.val rfl rfl rfl (Yld.nilCheck rfl rfl) ?_
      refine WQ.val rfl rfl rfl (Yld.fieldAddr rfl ty_fd_110_2 rfl) ?_
      refine WQ.val rfl rfl rfl (Yld.ld (v := .slice (some ⟨bo, 0, none⟩) (lp ++ [((pread y n x.g (z.place + lp.length)).1, va)]).length co) rfl ty_sc_90 rfl rfl) ?_
      refine WQ.val rfl rfl rfl (Yld.indexAddr (i := 0) rfl ty_sl_90 rfl rfl (by omega)) ?_
      refine WQ.val rfl rfl rfl (Yld.fieldAddr rfl ty_fd_52_4 rfl) ?_
      refine WQ.val rfl rfl rfl (Yld.ld (v := .int .i64 ((lp ++ [((pread y n x.g (z.place + lp.length)).1, va)])[0]'(by omega)).1.parts) rfl ty_sc_3 rfl (flat_at pf_len (by omega) (by decide) spo rfl)) ?_
      refine WQ.split rfl rfl rfl (Yld.lss rfl rfl rfl) (fun h6 => ?_) (fun h6 => ?_)
      ·refine WQ.nil ?_
       refine WP.sub [(0, _), (2, _), (3, _), (4, _), (5, _), (6, _), (11, _), (46, _), (83, _), (89, _), (129, _)] ?_ ⟨rfl, rfl, rfl, rfl, rfl, rfl, rfl, rfl, rfl, rfl, rfl, trivial⟩
       refine WP.next ?_
       refine WP.condT rfl ?_
       refine WP.seq ?_
       refine WP.region [0] rfl ?_
       refine WP.mv rfl rfl ?_
       refine WP.nil ?_
       refine WP.next ?_
       refine WP.ret ?_
       refine WP.fn .ret (.inr rfl) (res1 rfl rfl) ((r, row 110 [.pointer (some ⟨l, 0, none⟩), .int .i64 (z.place : Int), .slice (some ⟨bo, 0, none⟩) (lp ++ [((pread y n x.g (z.place + lp.length)).1, va)]).length co, .bool false, .int .i64 z.no, .int .i64 z.kind, vb, .int .i64 z.e]) :: ([(bo, row 52 (pcells (lp ++ [((pread y n x.g (z.place + lp.length)).1, va)]) ++ spo))] ++ ((l, row 87 (lgV d s bi ba x)) :: (bi, oi) :: (ba, oa) :: (s, row 108 (sgV d x.g)) :: Ld))) hJ3 ?_
       have hdf : ¬ z.dn = true := by rw [hdn]; decide
       have hpl : z.ps.length = lp.length := by rw [← hp, List.length_map]
       have e0 : rstep (fun q => pread y n x.g q) z = rjoin z (pread y n x.g (z.place + lp.length)).1 := (if_neg hdf).trans (by rw [hpl]; exact (if_neg h2).trans (if_neg (fun h => by rcases h with h | ⟨h6, h7⟩; exact h3 h; exact h5 h7)))
       have hps : z.ps ++ [(pread y n x.g (z.place + lp.length)).1] = (lp ++ [((pread y n x.g (z.place + lp.length)).1, va)]).map (·.1) := by rw [List.map_append, hp]; rfl
       have e : rjoin z (pread y n x.g (z.place + lp.length)).1 = (false, ⟨z.place, z.ps ++ [(pread y n x.g (z.place + lp.length)).1], z.dn, z.no, z.kind, z.b, z.e⟩) := if_pos (by rw [hps, List.length_map, fst_head (by omega)]; exact h6)
       rw [e0, e]; exact ⟨rfl, _, _, rfl, .live hdn how2 hda2 hps.symm (by omega) (hb.mono (fun b o q => hJ3.2 b o q)), .mk ok (rk.mono hJ3) mi ma im am hd⟩
      ·refine WQ.nil ?_
       refine WP.sub [(0, _), (2, _), (3, _), (4, _), (5, _), (6, _), (11, _), (46, _), (83, _), (89, _), (129, _)] ?_ ⟨rfl, rfl, rfl, rfl, rfl, rfl, rfl, rfl, rfl, rfl, rfl, trivial⟩
       refine WP.next ?_
       refine WP.condF rfl ?_
       refine WP.skip ?_
       refine WP.next ?_
       refine WP.seq ?_
       refine WP.shareRows how2 hda2 (by repeat (first | exact Take.nil | with_reducible apply Take.cons | apply Take.app | exact Rm.chunk | exact Rm.here | exact Rm.nil0 | apply Rm.skip | apply Rm.skipS | (focus (apply Take.all; (repeat (first | exact Rm.chunk | exact Rm.here | exact Rm.nil0 | apply Rm.skip | apply Rm.skipS)); done)) | apply Take.cons)) (fun J4 hJ4 hrp => ?_)
       refine WP.region [0, 1, 2, 3, 4, 5, 6, 7, 8, 9] rfl ?_
       refine WP.mv rfl rfl ?_
       refine WP.vl rfl (Yld.nilCheck rfl rfl) ?_
       refine WP.vl rfl (Yld.fieldAddr rfl ty_fd_110_2 rfl) ?_
       refine WP.vl rfl (Yld.ld (v := .slice (some ⟨bo, 0, none⟩) (lp ++ [((pread y n x.g (z.place + lp.length)).1, va)]).length co) rfl ty_sc_90 rfl rfl) ?_
       refine WP.loud rfl rfl ?_
       refine Op.cl (seg_Join hrp (by omega)) rfl Try.func48 rfl rfl rfl rfl ?_
       rintro v J5 L14 hJ5 ⟨vj, Lj, rfl, hj, rfl⟩
       try simp only [nf]
       refine WP.mv rfl rfl ?_
       refine WP.vl rfl (Yld.extract rfl rfl rfl) ?_
       refine WP.vl rfl (Yld.extract rfl rfl rfl) ?_
       iterate 2 refine WP.mv rfl rfl ?_
       refine WP.nil ?_
       refine WP.sub [(0, _), (2, _), (3, _), (4, _), (5, _), (6, _), (7, _), (11, _), (46, _), (83, _), (89, _), (129, _)] ?_ ⟨rfl, rfl, rfl, rfl, rfl, rfl, rfl, rfl, rfl, rfl, rfl, rfl, trivial⟩
       refine WP.shO hj (fun J6 hJ6 hjb => ?_)
       refine WP.next ?_
       refine WP.seq ?_
       refine WP.seq ?_
       refine WP.region [0, 1, 2, 3, 4, 5, 6, 7, 8, 9, 10, 11, 12, 13] rfl ?_
       refine WP.mv rfl rfl ?_
       refine WP.split rfl rfl rfl rfl (Yld.neq rfl rfl rfl) (fun h7 => ?_) (fun h7 => ?_)
       ·refine WP.mv rfl rfl ?_
        refine WP.passG rfl rfl rfl rfl rfl rfl rfl rfl ?_
        refine WP.passG rfl rfl rfl rfl rfl rfl rfl rfl ?_
        refine WP.passG rfl rfl rfl rfl rfl rfl rfl rfl ?_
        refine WP.passG rfl rfl rfl rfl rfl rfl rfl rfl ?_
        refine WP.vl rfl (Yld.pickT rfl rfl rfl) ?_
        refine WP.mv rfl rfl ?_
        refine WP.passG rfl rfl rfl rfl rfl rfl rfl rfl ?_
        refine WP.passG rfl rfl rfl rfl rfl rfl rfl rfl ?_
        refine WP.passG rfl rfl rfl rfl rfl rfl rfl rfl ?_
        refine WP.passG rfl rfl rfl rfl rfl rfl rfl rfl ?_
        refine WP.vl rfl (Yld.pickT rfl rfl rfl) ?_
        refine WP.nil ?_
        refine WP.sub [(0, _), (2, _), (3, _), (4, _), (5, _), (6, _), (7, _), (11, _), (46, _), (83, _), (89, _), (129, _), (151, _)] ?_ ⟨rfl, rfl, rfl, rfl, rfl, rfl, rfl, rfl, rfl, rfl, rfl, rfl, rfl, trivial⟩
        refine WP.next ?_
        refine WP.condT rfl ?_
        refine WP.seq ?_
        refine WP.region [0, 1, 2] rfl ?_
        refine WP.mv rfl rfl ?_
        refine WP.loud rfl rfl ?_
        refine Op.cl (read_end (l := l) (p := z.place)) rfl Try.func47 rfl rfl rfl rfl ?_
        rintro v J L1 - ⟨rfl, rfl, rfl⟩
        try simp only [nf]
        refine WP.mv rfl rfl ?_
        refine WP.nil ?_
        refine WP.sub [(0, _), (2, _), (3, _), (4, _), (5, _), (6, _), (7, _), (11, _), (46, _), (83, _), (89, _), (129, _), (151, _)] ?_ ⟨rfl, rfl, rfl, rfl, rfl, rfl, rfl, rfl, rfl, rfl, rfl, rfl, rfl, trivial⟩
        refine WP.next ?_
        refine WP.ret ?_
        refine WP.fn .ret (.inr rfl) (res1 rfl rfl) ((r, row 110 [.pointer (some ⟨l, 0, none⟩), .int .i64 (z.place : Int), .slice (some ⟨bo, 0, none⟩) (lp ++ [((pread y n x.g (z.place + lp.length)).1, va)]).length co, .bool true, .int .i64 0, .int .i64 0, .slice none 0 0, .int .i64 81]) :: ([] ++ ((l, row 87 (lgV d s bi ba x)) :: (bi, oi) :: (ba, oa) :: (s, row 108 (sgV d x.g)) :: Ld))) (Imm.le_trans hJ3 (Imm.le_trans hJ4 (Imm.le_trans hJ5 hJ6))) ?_
        have hdf : ¬ z.dn = true := by rw [hdn]; decide
        have hpl : z.ps.length = lp.length := by rw [← hp, List.length_map]
        have e0 : rstep (fun q => pread y n x.g q) z = rjoin z (pread y n x.g (z.place + lp.length)).1 := (if_neg hdf).trans (by rw [hpl]; exact (if_neg h2).trans (if_neg (fun h => by rcases h with h | ⟨h6, h7⟩; exact h3 h; exact h5 h7)))
        have hps : z.ps ++ [(pread y n x.g (z.place + lp.length)).1] = (lp ++ [((pread y n x.g (z.place + lp.length)).1, va)]).map (·.1) := by rw [List.map_append, hp]; rfl
        have e : rjoin z (pread y n x.g (z.place + lp.length)).1 = (true, z.fin (z.ps ++ [(pread y n x.g (z.place + lp.length)).1]) 0 0 [] 81) := (if_neg (by rw [hps, List.length_map, fst_head (by omega)]; exact h6)).trans (if_pos (.inl (by rw [hps]; exact h7)))
        rw [e0, e]; exact ⟨rfl, _, _, rfl, .done rfl (slNil _), .mk ok ((((rk.mono hJ3).mono hJ4).mono hJ5).mono hJ6) mi ma im am hd⟩
       ·have hj1 := pjoin_pos (Decidable.not_not.1 h7)
        have hj0 : 0 < (pjoin ((lp ++ [((pread y n x.g (z.place + lp.length)).1, va)]).map (·.1))).1.length := hj1
        obtain ⟨bc, kc, cc, Tc, frc, arrc, rfl, hcc, hcb, hcd⟩ := hjb.get hj0
        have e2 := take_cells hcd 0 (byteV ((pjoin ((lp ++ [((pread y n x.g (z.place + lp.length)).1, va)]).map (·.1))).1[0]'hj0)) (by unfold bytesV; rw [List.getElem?_map, List.getElem?_eq_getElem hj0]; rfl) (by rw [bytesV_len]; omega)
        rw [Array.getElem?_toList] at e2
        have hhd : ((pjoin ((lp ++ [((pread y n x.g (z.place + lp.length)).1, va)]).map (·.1))).1).headD 0 = (pjoin ((lp ++ [((pread y n x.g (z.place + lp.length)).1, va)]).map (·.1))).1[0]'hj0 := headD_at hj0
        have hdrop := sub_rd hjb (l := 1) (k := (pjoin ((lp ++ [((pread y n x.g (z.place + lp.length)).1, va)]).map (·.1))).1.length) hj1 (Nat.le_refl _)
        rw [cut_tail, show (pjoin ((lp ++ [((pread y n x.g (z.place + lp.length)).1, va)]).map (·.1))).1.length - 1 = (((pjoin ((lp ++ [((pread y n x.g (z.place + lp.length)).1, va)]).map (·.1))).1).drop 1).length from (List.length_drop).symm] at hdrop
        refine WP.mv rfl rfl ?_
        refine WP.valG rfl rfl rfl rfl rfl rfl rfl (Yld.move rfl rfl) ?_
        refine WP.valG rfl rfl rfl rfl rfl rfl rfl (Yld.indexAddr (i := 0) rfl ty_sl_46 rfl rfl hj0) ?_
        refine WP.valG rfl rfl rfl rfl rfl rfl rfl (Yld.loadC rfl ty_sc_5 rfl (There.i hcb) e2) ?_
        refine WP.splitG rfl rfl rfl rfl rfl rfl rfl (Yld.lss rfl rfl rfl) (fun h8 => ?_) (fun h8 => ?_)
        ·refine WP.vl rfl (Yld.pickF rfl rfl rfl) ?_
         refine WP.mv rfl rfl ?_
         refine WP.passG rfl rfl rfl rfl rfl rfl rfl rfl ?_
         refine WP.passG rfl rfl rfl rfl rfl rfl rfl rfl ?_
         refine WP.passG rfl rfl rfl rfl rfl rfl rfl rfl ?_
         refine WP.passG rfl rfl rfl rfl rfl rfl rfl rfl ?_
         refine WP.vl rfl (Yld.pickT rfl rfl rfl) ?_
         refine WP.nil ?_
         refine WP.sub [(0, _), (2, _), (3, _), (4, _), (5, _), (6, _), (7, _), (11, _), (46, _), (83, _), (89, _), (129, _), (151, _)] ?_ ⟨rfl, rfl, rfl, rfl, rfl, rfl, rfl, rfl, rfl, rfl, rfl, rfl, rfl, trivial⟩
         refine WP.next ?_
         refine WP.condT rfl ?_
         refine WP.seq ?_
         refine WP.region [0, 1, 2] rfl ?_
         refine WP.mv rfl rfl ?_
         refine WP.loud rfl rfl ?_
         refine Op.cl (read_end (l := l) (p := z.place)) rfl Try.func47 rfl rfl rfl rfl ?_
         rintro v J L1 - ⟨rfl, rfl, rfl⟩
         try simp only [nf]
         refine WP.mv rfl rfl ?_
         refine WP.nil ?_
         refine WP.sub [(0, _), (2, _), (3, _), (4, _), (5, _), (6, _), (7, _), (11, _), (46, _), (83, _), (89, _), (129, _), (151, _)] ?_ ⟨rfl, rfl, rfl, rfl, rfl, rfl, rfl, rfl, rfl, rfl, rfl, rfl, rfl, trivial⟩
         refine WP.next ?_
         refine WP.ret ?_
         refine WP.fn .ret (.inr rfl) (res1 rfl rfl) ((r, row 110 [.pointer (some ⟨l, 0, none⟩), .int .i64 (z.place : Int), .slice (some ⟨bo, 0, none⟩) (lp ++ [((pread y n x.g (z.place + lp.length)).1, va)]).length co, .bool true, .int .i64 0, .int .i64 0, .slice none 0 0, .int .i64 81]) :: ([] ++ ((l, row 87 (lgV d s bi ba x)) :: (bi, oi) :: (ba, oa) :: (s, row 108 (sgV d x.g)) :: Ld))) (Imm.le_trans hJ3 (Imm.le_trans hJ4 (Imm.le_trans hJ5 hJ6))) ?_
         have hdf : ¬ z.dn = true := by rw [hdn]; decide
         have hpl : z.ps.length = lp.length := by rw [← hp, List.length_map]
         have e0 : rstep (fun q => pread y n x.g q) z = rjoin z (pread y n x.g (z.place + lp.length)).1 := (if_neg hdf).trans (by rw [hpl]; exact (if_neg h2).trans (if_neg (fun h => by rcases h with h | ⟨h6, h7⟩; exact h3 h; exact h5 h7)))
         have hps : z.ps ++ [(pread y n x.g (z.place + lp.length)).1] = (lp ++ [((pread y n x.g (z.place + lp.length)).1, va)]).map (·.1) := by rw [List.map_append, hp]; rfl
         have e : rjoin z (pread y n x.g (z.place + lp.length)).1 = (true, z.fin (z.ps ++ [(pread y n x.g (z.place + lp.length)).1]) 0 0 [] 81) := (if_neg (by rw [hps, List.length_map, fst_head (by omega)]; exact h6)).trans (if_pos (.inr (fun h => h.1 (by rw [hps, hhd]; exact h8))))
         rw [e0, e]; exact ⟨rfl, _, _, rfl, .done rfl (slNil _), .mk ok ((((rk.mono hJ3).mono hJ4).mono hJ5).mono hJ6) mi ma im am hd⟩
        ·refine WP.vl rfl (Yld.pickF rfl rfl rfl) ?_
         refine WP.mv rfl rfl ?_
         refine WP.valG rfl rfl rfl rfl rfl rfl rfl (Yld.move rfl rfl) ?_
         refine WP.valG rfl rfl rfl rfl rfl rfl rfl (Yld.indexAddr (i := 0) rfl ty_sl_46 rfl rfl hj0) ?_
         refine WP.valG rfl rfl rfl rfl rfl rfl rfl (Yld.loadC rfl ty_sc_5 rfl (There.i hcb) e2) ?_
         refine WP.splitG rfl rfl rfl rfl rfl rfl rfl (Yld.gtr rfl rfl rfl) (fun h9 => ?_) (fun h9 => ?_)
         ·refine WP.vl rfl (Yld.pickF rfl rfl rfl) ?_
          refine WP.nil ?_
          refine WP.sub [(0, _), (2, _), (3, _), (4, _), (5, _), (6, _), (7, _), (11, _), (46, _), (83, _), (89, _), (129, _), (151, _)] ?_ ⟨rfl, rfl, rfl, rfl, rfl, rfl, rfl, rfl, rfl, rfl, rfl, rfl, rfl, trivial⟩
          refine WP.next ?_
          refine WP.condT rfl ?_
          refine WP.seq ?_
          refine WP.region [0, 1, 2] rfl ?_
          refine WP.mv rfl rfl ?_
          refine WP.loud rfl rfl ?_
          refine Op.cl (read_end (l := l) (p := z.place)) rfl Try.func47 rfl rfl rfl rfl ?_
          rintro v J L1 - ⟨rfl, rfl, rfl⟩
          try simp only [nf]
          refine WP.mv rfl rfl ?_
          refine WP.nil ?_
          refine WP.sub [(0, _), (2, _), (3, _), (4, _), (5, _), (6, _), (7, _), (11, _), (46, _), (83, _), (89, _), (129, _), (151, _)] ?_ ⟨rfl, rfl, rfl, rfl, rfl, rfl, rfl, rfl, rfl, rfl, rfl, rfl, rfl, trivial⟩
          refine WP.next ?_
          refine WP.ret ?_
          refine WP.fn .ret (.inr rfl) (res1 rfl rfl) ((r, row 110 [.pointer (some ⟨l, 0, none⟩), .int .i64 (z.place : Int), .slice (some ⟨bo, 0, none⟩) (lp ++ [((pread y n x.g (z.place + lp.length)).1, va)]).length co, .bool true, .int .i64 0, .int .i64 0, .slice none 0 0, .int .i64 81]) :: ([] ++ ((l, row 87 (lgV d s bi ba x)) :: (bi, oi) :: (ba, oa) :: (s, row 108 (sgV d x.g)) :: Ld))) (Imm.le_trans hJ3 (Imm.le_trans hJ4 (Imm.le_trans hJ5 hJ6))) ?_
          have hdf : ¬ z.dn = true := by rw [hdn]; decide
          have hpl : z.ps.length = lp.length := by rw [← hp, List.length_map]
          have e0 : rstep (fun q => pread y n x.g q) z = rjoin z (pread y n x.g (z.place + lp.length)).1 := (if_neg hdf).trans (by rw [hpl]; exact (if_neg h2).trans (if_neg (fun h => by rcases h with h | ⟨h6, h7⟩; exact h3 h; exact h5 h7)))
          have hps : z.ps ++ [(pread y n x.g (z.place + lp.length)).1] = (lp ++ [((pread y n x.g (z.place + lp.length)).1, va)]).map (·.1) := by rw [List.map_append, hp]; rfl
          have e : rjoin z (pread y n x.g (z.place + lp.length)).1 = (true, z.fin (z.ps ++ [(pread y n x.g (z.place + lp.length)).1]) 0 0 [] 81) := (if_neg (by rw [hps, List.length_map, fst_head (by omega)]; exact h6)).trans (if_pos (.inr (fun h => h.2 (by rw [hps, hhd]; omega))))
          rw [e0, e]; exact ⟨rfl, _, _, rfl, .done rfl (slNil _), .mk ok ((((rk.mono hJ3).mono hJ4).mono hJ5).mono hJ6) mi ma im am hd⟩
         ·refine WP.vl rfl (Yld.pickF rfl rfl rfl) ?_
          refine WP.nil ?_
          refine WP.sub [(0, _), (2, _), (3, _), (4, _), (5, _), (6, _), (7, _), (11, _), (46, _), (83, _), (89, _), (129, _), (151, _)] ?_ ⟨rfl, rfl, rfl, rfl, rfl, rfl, rfl, rfl, rfl, rfl, rfl, rfl, rfl, trivial⟩
          refine WP.next ?_
          refine WP.condF rfl ?_
          refine WP.skip ?_
          refine WP.next ?_
          refine WP.seq ?_
          refine WQ.start Trymixed 9 (by kernel_rfl) _ rfl [9, 10] rfl ?_
          refine WQ.val rfl rfl rfl (Yld.move rfl rfl) ?_
          refine WQ.val rfl rfl rfl (Yld.fieldAddr rfl ty_fd_52_1 rfl) ?_
          refine WQ.val rfl rfl rfl (Yld.ld (v := .int .i64 (pread y n x.g (z.place + lp.length)).1.no) rfl ty_sc_3 rfl rfl) ?_
          refine WQ.val rfl rfl rfl (Yld.move rfl rfl) ?_
          refine WQ.val rfl rfl rfl (Yld.indexAddr (i := 0) rfl ty_sl_46 rfl rfl hj0) ?_
          refine WQ.val rfl rfl rfl (Yld.loadC rfl ty_sc_5 rfl (There.i hcb) e2) ?_
          refine WQ.val rfl rfl rfl (Yld.conv64 rfl ty_un_5 ty_ik_3 rfl (by have := ((pjoin ((lp ++ [((pread y n x.g (z.place + lp.length)).1, va)]).map (·.1))).1[0]'hj0).toNat_lt; omega)) ?_
          refine WQ.val rfl rfl rfl (Yld.move rfl rfl) ?_
          refine WQ.val rfl rfl rfl (Yld.sliceR (l := 1) (h := (pjoin ((lp ++ [((pread y n x.g (z.place + lp.length)).1, va)]).map (·.1))).1.length) hjb rfl ty_sl_46 rfl (Env.limS (n := 1) rfl) Env.lim0 hj1 (Nat.le_refl _)) ?_
          refine WQ.nil ?_
          refine WP.loud rfl rfl ?_
          refine Op.cl (read_end (l := l) (p := z.place)) rfl Try.func47 rfl rfl rfl rfl ?_
          rintro v J L1 - ⟨rfl, rfl, rfl⟩
          try simp only [nf]
          refine WP.mv rfl rfl ?_
          refine WP.nil ?_
          refine WP.sub [(0, _), (2, _), (3, _), (4, _), (5, _), (6, _), (7, _), (11, _), (46, _), (83, _), (89, _), (129, _), (151, _)] ?_ ⟨rfl, rfl, rfl, rfl, rfl, rfl, rfl, rfl, rfl, rfl, rfl, rfl, rfl, trivial⟩
          refine WP.next ?_
          refine WP.ret ?_
          refine WP.fn .ret (.inr rfl) (res1 rfl rfl) ((r, row 110 [.pointer (some ⟨l, 0, none⟩), .int .i64 (z.place : Int), .slice (some ⟨bo, 0, none⟩) (lp ++ [((pread y n x.g (z.place + lp.length)).1, va)]).length co, .bool true, .int .i64 (pread y n x.g (z.place + lp.length)).1.no, .int .i64 (((pjoin ((lp ++ [((pread y n x.g (z.place + lp.length)).1, va)]).map (·.1))).1[0]'hj0).toNat : Int), (subSl 1 1 (pjoin ((lp ++ [((pread y n x.g (z.place + lp.length)).1, va)]).map (·.1))).1.length (.slice (some ⟨bc, kc, none⟩) (pjoin ((lp ++ [((pread y n x.g (z.place + lp.length)).1, va)]).map (·.1))).1.length cc)), .int .i64 0]) :: ([] ++ ((l, row 87 (lgV d s bi ba x)) :: (bi, oi) :: (ba, oa) :: (s, row 108 (sgV d x.g)) :: Ld))) (Imm.le_trans hJ3 (Imm.le_trans hJ4 (Imm.le_trans hJ5 hJ6))) ?_
          have hdf : ¬ z.dn = true := by rw [hdn]; decide
          have hpl : z.ps.length = lp.length := by rw [← hp, List.length_map]
          have e0 : rstep (fun q => pread y n x.g q) z = rjoin z (pread y n x.g (z.place + lp.length)).1 := (if_neg hdf).trans (by rw [hpl]; exact (if_neg h2).trans (if_neg (fun h => by rcases h with h | ⟨h6, h7⟩; exact h3 h; exact h5 h7)))
          have hps : z.ps ++ [(pread y n x.g (z.place + lp.length)).1] = (lp ++ [((pread y n x.g (z.place + lp.length)).1, va)]).map (·.1) := by rw [List.map_append, hp]; rfl
          have e : rjoin z (pread y n x.g (z.place + lp.length)).1 = (true, z.fin (z.ps ++ [(pread y n x.g (z.place + lp.length)).1]) (pread y n x.g (z.place + lp.length)).1.no ((((pjoin ((lp ++ [((pread y n x.g (z.place + lp.length)).1, va)]).map (·.1))).1).headD 0).toNat : Int) (((pjoin ((lp ++ [((pread y n x.g (z.place + lp.length)).1, va)]).map (·.1))).1).drop 1) 0) := (if_neg (by rw [hps, List.length_map, fst_head (by omega)]; exact h6)).trans ((if_neg (by rw [hps]; rintro (h | h); exact h7 h; exact h ⟨by rw [hhd]; exact h8, by rw [hhd]; omega⟩)).trans (by rw [hps]))
          rw [e0, e, hhd]; exact ⟨rfl, _, _, rfl, .done rfl hdrop, .mk ok ((((rk.mono hJ3).mono hJ4).mono hJ5).mono hJ6) mi ma im am hd⟩
    ·refine WP.valG rfl rfl rfl rfl rfl rfl rfl (Yld.move rfl rfl) ?_
     refine WP.passG rfl rfl rfl rfl rfl rfl rfl rfl ?_
     refine WP.passG rfl rfl rfl rfl rfl rfl rfl rfl ?_
     refine WP.passG rfl rfl rfl rfl rfl rfl rfl rfl ?_
     refine WP.valG rfl rfl rfl rfl rfl rfl rfl (Yld.pickF rfl rfl rfl) ?_
     refine WP.vl rfl (Yld.pickF rfl rfl rfl) ?_
     refine WP.mv rfl rfl ?_
     refine WP.nil ?_
     refine WP.sub [(0, _), (2, _), (3, _), (4, _), (5, _), (6, _), (11, _), (46, _), (83, _), (89, _)] ?_ ⟨rfl, rfl, rfl, rfl, rfl, rfl, rfl, rfl, rfl, rfl, trivial⟩
     refine WP.next ?_
     refine WP.condF rfl ?_
     refine WP.skip ?_
     refine WP.leave ?_
     refine WP.next ?_
     refine WP.seq ?_
     refine WD.start Trymixed 10 (fun c o => (c = r ∧ o = row 110 [.pointer (some ⟨l, 0, none⟩), .int .i64 (z.place : Int), .slice Ap lp.length cp, .bool false, .int .i64 z.no, .int .i64 z.kind, vb, .int .i64 z.e]) ∨ (c = b5 ∧ o = row 52 (ptV (pread y n x.g (z.place + lp.length)).1 va))) (fun _ _ => False) (by rintro _ _ (⟨rfl, rfl⟩ | ⟨rfl, rfl⟩) <;> exact (by repeat (first | exact There.h | exact There.i (by assumption) | apply There.t | apply There.s))) (fun _ _ h => h.elim) 11 [false, false, false, false, false, false, false, false, false, false, false] rfl rfl ?_
     refine WD.val (i := 0) rfl rfl rfl rfl (by kernel_rfl) rfl (Yld.move rfl rfl) ?_
     refine WD.val (i := 1) rfl rfl rfl rfl (by kernel_rfl) rfl (Yld.move rfl rfl) ?_
     refine WD.val (i := 2) rfl rfl rfl rfl (by kernel_rfl) rfl (Yld.nilCheck rfl rfl) ?_
     refine WD.val (i := 3) rfl rfl rfl rfl (by kernel_rfl) rfl (Yld.fieldAddr rfl ty_fd_110_2 rfl) ?_
     refine WD.val1 (i := 4) rfl rfl rfl rfl (by kernel_rfl) rfl (by kernel_rfl) (Yld.load (v := .slice Ap lp.length cp) rfl ty_sc_90 rfl (.inl (.inl ⟨rfl, rfl⟩)) rfl) ?_
     refine WD.val1 (i := 5) rfl rfl rfl rfl (by kernel_rfl) rfl (by kernel_rfl) (Yld.loadAll (cs := ptV (pread y n x.g (z.place + lp.length)).1 va) rfl ty_ag_52 rfl (.inl (.inr ⟨rfl, rfl⟩)) rfl) ?_
     refine WD.loud (i := 6) (by kernel_rfl) rfl rfl rfl ?_
     refine Op.buildSlice rfl ty_sl_90 ty_el2_90 rfl rfl rfl rfl (vs := [_]) rfl (segs := [(0, pf ((pread y n x.g (z.place + lp.length)).1, va))]) (cs := pf ((pread y n x.g (z.place + lp.length)).1, va)) rfl rfl (.seg (Nat.le_refl _) rfl .nil) (fun bq => ?_)
     refine WD.go (.inr (by rintro _ _ (⟨rfl, rfl⟩ | ⟨rfl, rfl⟩) <;> exact (by repeat (first | exact There.h | exact There.i (by assumption) | apply There.t | apply There.s)))) (fun _ _ h => h.elim) ?_
     refine WD.loud (i := 7) (by kernel_rfl) rfl rfl rfl ?_
     refine Op.append (m := 1) rfl ty_sl_90 ty_el_90 rfl rfl rfl rfl rfl ho (SlRd.lit (m := 1) (by repeat (first | exact There.h | exact There.i (by assumption) | apply There.t | apply There.s)) rfl (Nat.le_refl _)) (by repeat (first | exact Take.nil | with_reducible apply Take.cons | apply Take.app | exact Rm.chunk | exact Rm.here | exact Rm.nil0 | apply Rm.skip | apply Rm.skipS | (focus (apply Take.all; (repeat (first | exact Rm.chunk | exact Rm.here | exact Rm.nil0 | apply Rm.skip | apply Rm.skipS)); done)) | apply Take.cons)) (ptV_one (by obtain ⟨A', c', e, _⟩ := hva; exact ⟨_, _, _, e⟩)) (by omega) (by omega) (fun vn Ln hn => ?_)
     try simp only [nf]
     have how2 : Own 52 6 vn (pcells (lp ++ [((pread y n x.g (z.place + lp.length)).1, va)])) (lp ++ [((pread y n x.g (z.place + lp.length)).1, va)]).length Ln := by rw [pcells_app, List.length_append]; exact hn
     have hda2 : ∀ e ∈ (lp ++ [((pread y n x.g (z.place + lp.length)).1, va)]), SlRd (Im J3) e.2 e.1.data.length 1 (bytesV e.1.data) := fun e he => by rcases List.mem_append.1 he with he | he; exact (hdt e he).mono (fun b o q => hJ3.2 b o q); rw [List.mem_singleton.1 he]; exact hva
     have hl2 : (lp ++ [((pread y n x.g (z.place + lp.length)).1, va)]).length = lp.length + 1 := by rw [List.length_append]; rfl
     obtain ⟨bo, co, spo, rfl, rfl, _, _⟩ := how2.get (by omega)
     refine WD.go (.inr (by rintro _ _ (⟨rfl, rfl⟩ | ⟨rfl, rfl⟩) <;> exact (by repeat (first | exact There.h | exact There.i (by assumption) | apply There.t | apply There.s)))) (fun _ _ h => h.elim) ?_
     refine WD.val (i := 8) rfl rfl rfl rfl (by kernel_rfl) rfl (Yld.nilCheck rfl rfl) ?_
     refine WD.val (i := 9) rfl rfl rfl rfl (by kernel_rfl) rfl (Yld.fieldAddr rfl ty_fd_110_2 rfl) ?_
     refine WD.loud (i := 10) (by kernel_rfl) rfl rfl rfl ?_
     refine Op.s1 rfl rfl ty_sz_90 rfl rfl rfl ?_
     refine WD.go (.inl rfl) (fun _ _ h => h.elim) ?_
     refine WD.done (by kernel_rfl) ?_
     refine WP.sub [(0, _), (2, _), (3, _), (4, _), (5, _), (6, _), (11, _), (46, _), (83, _), (89, _)] ?_ ⟨rfl, rfl, rfl, rfl, rfl, rfl, rfl, rfl, rfl, rfl, trivial⟩
     refine WP.next ?_
     refine WP.seq ?_
     refine WP.seq ?_
     refine WQ.startAll Trymixed (by kernel_rfl) _ rfl ?_
     refine WQ.val rfl rfl rfl (Yld.move rfl rfl) ?_
     refine WQ.val rfl rfl rfl (Yld.nilCheck rfl rfl) ?_
     refine WQ.val rfl rfl rfl (Yld.fieldAddr rfl ty_fd_110_2 rfl) ?_
     refine WQ.val rfl rfl rfl (Yld.ld (v := .slice (some ⟨bo, 0, none⟩) (lp ++ [((pread y n x.g (z.place + lp.length)).1, va)]).length co) rfl ty_sc_90 rfl rfl) ?_
     refine WQ.val rfl rfl rfl (Yld.len rfl ty_sl_90 rfl) ?_
     refine WQ.val rfl rfl rfl (Yld.move rfl rfl) ?_
     refine WQ.val rfl rfl rfl (Yld.nilCheck rfl rfl) ?_
     refine WQ.val rfl rfl rfl (Yld.fieldAddr rfl ty_fd_110_2 rfl) ?_
     refine WQ.val rfl rfl rfl (Yld.ld (v := .slice (some ⟨bo, 0, none⟩) (lp ++ [((pread y n x.g (z.place + lp.length)).1, va)]).length co) rfl ty_sc_90 rfl rfl) ?_
     refine WQ.val rfl rfl rfl (Yld.indexAddr (i := 0) rfl ty_sl_90 rfl rfl (by omega)) ?_
     refine WQ.val rfl rfl rfl (Yld.fieldAddr rfl ty_fd_52_4 rfl) ?_
     refine WQ.val rfl rfl rfl (Yld.ld (v := .int .i64 ((lp ++ [((pread y n x.g (z.place + lp.length)).1, va)])[0]'(by omega)).1.parts) rfl ty_sc_3 rfl (flat_at pf_len (by omega) (by decide) spo rfl)) ?_
     refine WQ.split rfl rfl rfl (Yld.lss rfl rfl rfl) (fun h6 => ?_) (fun h6 => ?_)
     ·refine WQ.nil ?_
      refine WP.sub [(0, _), (2, _), (3, _), (4, _), (5, _), (6, _), (11, _), (46, _), (83, _), (89, _), (129, _)] ?_ ⟨rfl, rfl, rfl, rfl, rfl, rfl, rfl, rfl, rfl, rfl, rfl, trivial⟩
      refine WP.next ?_
      refine WP.condT rfl ?_
      refine WP.seq ?_
      refine WP.region [0] rfl ?_
      refine WP.mv rfl rfl ?_
      refine WP.nil ?_
      refine WP.next ?_
      refine WP.ret ?_
      refine WP.fn .ret (.inr rfl) (res1 rfl rfl) ((r, row 110 [.pointer (some ⟨l, 0, none⟩), .int .i64 (z.place : Int), .slice (some ⟨bo, 0, none⟩) (lp ++ [((pread y n x.g (z.place + lp.length)).1, va)]).length co, .bool false, .int .i64 z.no, .int .i64 z.kind, vb, .int .i64 z.e]) :: ([(bo, row 52 (pcells (lp ++ [((pread y n x.g (z.place + lp.length)).1, va)]) ++ spo))] ++ ((l, row 87 (lgV d s bi ba x)) :: (bi, oi) :: (ba, oa) :: (s, row 108 (sgV d x.g)) :: Ld))) hJ3 ?_
      have hdf : ¬ z.dn = true := by rw [hdn]; decide
      have hpl : z.ps.length = lp.length := by rw [← hp, List.length_map]
      have e0 : rstep (fun q => pread y n x.g q) z = rjoin z (pread y n x.g (z.place + lp.length)).1 := (if_neg hdf).trans (by rw [hpl]; exact (if_neg h2).trans (if_neg (fun h => by rcases h with h | ⟨h6, h7⟩; exact h3 h; omega)))
      have hps : z.ps ++ [(pread y n x.g (z.place + lp.length)).1] = (lp ++ [((pread y n x.g (z.place + lp.length)).1, va)]).map (·.1) := by rw [List.map_append, hp]; rfl
      have e : rjoin z (pread y n x.g (z.place + lp.length)).1 = (false, ⟨z.place, z.ps ++ [(pread y n x.g (z.place + lp.length)).1], z.dn, z.no, z.kind, z.b, z.e⟩) := if_pos (by rw [hps, List.length_map, fst_head (by omega)]; exact h6)
      rw [e0, e]; exact ⟨rfl, _, _, rfl, .live hdn how2 hda2 hps.symm (by omega) (hb.mono (fun b o q => hJ3.2 b o q)), .mk ok (rk.mono hJ3) mi ma im am hd⟩
     ·refine WQ.nil ?_
      refine WP.sub [(0, _), (2, _), (3, _), (4, _), (5, _), (6, _), (11, _), (46, _), (83, _), (89, _), (129, _)] ?_ ⟨rfl, rfl, rfl, rfl, rfl, rfl, rfl, rfl, rfl, rfl, rfl, trivial⟩
      refine WP.next ?_
      refine WP.condF rfl ?_
      refine WP.skip ?_
      refine WP.next ?_
      refine WP.seq ?_
      refine WP.shareRows how2 hda2 (by repeat (first | exact Take.nil | with_reducible apply Take.cons | apply Take.app | exact Rm.chunk | exact Rm.here | exact Rm.nil0 | apply Rm.skip | apply Rm.skipS | (focus (apply Take.all; (repeat (first | exact Rm.chunk | exact Rm.here | exact Rm.nil0 | apply Rm.skip | apply Rm.skipS)); done)) | apply Take.cons)) (fun J4 hJ4 hrp => ?_)
      refine WP.region [0, 1, 2, 3, 4, 5, 6, 7, 8, 9] rfl ?_
      refine WP.mv rfl rfl ?_
      refine WP.vl rfl (Yld.nilCheck rfl rfl) ?_
      refine WP.vl rfl (Yld.fieldAddr rfl ty_fd_110_2 rfl) ?_
      refine WP.vl rfl (Yld.ld (v := .slice (some ⟨bo, 0, none⟩) (lp ++ [((pread y n x.g (z.place + lp.length)).1, va)]).length co) rfl ty_sc_90 rfl rfl) ?_
      refine WP.loud rfl rfl ?_
      refine Op.cl (seg_Join hrp (by omega)) rfl Try.func48 rfl rfl rfl rfl ?_
      rintro v J5 L14 hJ5 ⟨vj, Lj, rfl, hj, rfl⟩
      try simp only [nf]
      refine WP.mv rfl rfl ?_
      refine WP.vl rfl (Yld.extract rfl rfl rfl) ?_
      refine WP.vl rfl (Yld.extract rfl rfl rfl) ?_
      iterate 2 refine WP.mv rfl rfl ?_
      refine WP.nil ?_
      refine WP.sub [(0, _), (2, _), (3, _), (4, _), (5, _), (6, _), (7, _), (11, _), (46, _), (83, _), (89, _), (129, _)] ?_ ⟨rfl, rfl, rfl, rfl, rfl, rfl, rfl, rfl, rfl, rfl, rfl, rfl, trivial⟩
      refine WP.shO hj (fun J6 hJ6 hjb => ?_)
      refine WP.next ?_
      refine WP.seq ?_
      refine WP.seq ?_
      refine WP.region [0, 1, 2, 3, 4, 5, 6, 7, 8, 9, 10, 11, 12, 13] rfl ?_
      refine WP.mv rfl rfl ?_
      refine WP.split rfl rfl rfl rfl (Yld.neq rfl rfl rfl) (fun h7 => ?_) (fun h7 => ?_)
      ·refine WP.mv rfl rfl ?_
       refine WP.passG rfl rfl rfl rfl rfl rfl rfl rfl ?_
       refine WP.passG rfl rfl rfl rfl rfl rfl rfl rfl ?_
       refine WP.passG rfl rfl rfl rfl rfl rfl rfl rfl ?_
       refine WP.passG rfl rfl rfl rfl rfl rfl rfl rfl ?_
       refine WP.vl rfl (Yld.pickT rfl rfl rfl) ?_
       refine WP.mv rfl rfl ?_
       refine WP.passG rfl rfl rfl rfl rfl rfl rfl rfl ?_
       refine WP.passG rfl rfl rfl rfl rfl rfl rfl rfl ?_
       refine WP.passG rfl rfl rfl rfl rfl rfl rfl rfl ?_
       refine WP.passG rfl rfl rfl rfl rfl rfl rfl rfl ?_
       refine WP.vl rfl (Yld.pickT rfl rfl rfl) ?_
       refine WP.nil ?_
       refine WP.sub [(0, _), (2, _), (3, _), (4, _), (5, _), (6, _), (7, _), (11, _), (46, _), (83, _), (89, _), (129, _), (151, _)] ?_ ⟨rfl, rfl, rfl, rfl, rfl, rfl, rfl, rfl, rfl, rfl, rfl, rfl, rfl, trivial⟩
       refine WP.next ?_
       refine WP.condT rfl ?_
       refine WP.seq ?_
       refine WP.region [0, 1, 2] rfl ?_
       refine WP.mv rfl rfl ?_
       refine WP.loud rfl rfl ?_
       refine Op.cl (read_end (l := l) (p := z.place)) rfl Try.func47 rfl rfl rfl rfl ?_
       rintro v J L1 - ⟨rfl, rfl, rfl⟩
       try simp only [nf]
       refine WP.mv rfl rfl ?_
       refine WP.nil ?_
       refine WP.sub [(0, _), (2, _), (3, _), (4, _), (5, _), (6, _), (7, _), (11, _), (46, _), (83, _), (89, _), (129, _), (151, _)] ?_ ⟨rfl, rfl, rfl, rfl, rfl, rfl, rfl, rfl, rfl, rfl, rfl, rfl, rfl, trivial⟩
       refine WP.next ?_
       refine WP.ret ?_
       refine WP.fn .ret (.inr rfl) (res1 rfl rfl) ((r, row 110 [.pointer (some ⟨l, 0, none⟩), .int .i64 (z.place : Int), .slice (some ⟨bo, 0, none⟩) (lp ++ [((pread y n x.g (z.place + lp.length)).1, va)]).length co, .bool true, .int .i64 0, .int .i64 0, .slice none 0 0, .int .i64 81]) :: ([] ++ ((l, row 87 (lgV d s bi ba x)) :: (bi, oi) :: (ba, oa) :: (s, row 108 (sgV d x.g)) :: Ld))) (Imm.le_trans hJ3 (Imm.le_trans hJ4 (Imm.le_trans hJ5 hJ6))) ?_
       have hdf : ¬ z.dn = true := by rw [hdn]; decide
       have hpl : z.ps.length = lp.length := by rw [← hp, List.length_map]
       have e0 : rstep (fun q => pread y n x.g q) z = rjoin z (pread y n x.g (z.place + lp.length)).1 := (if_neg hdf).trans (by rw [hpl]; exact (if_neg h2).trans (if_neg (fun h => by rcases h with h | ⟨h6, h7⟩; exact h3 h; omega)))
       have hps : z.ps ++ [(pread y n x.g (z.place + lp.length)).1] = (lp ++ [((pread y n x.g (z.place + lp.length)).1, va)]).map (·.1) := by rw [List.map_append, hp]; rfl
       have e : rjoin z (pread y n x.g (z.place + lp.length)).1 = (true, z.fin (z.ps ++ [(pread y n x.g (z.place + lp.length)).1]) 0 0 [] 81) := (if_neg (by rw [hps, List.length_map, fst_head (by omega)]; exact h6)).trans (if_pos (.inl (by rw [hps]; exact h7)))
       rw [e0, e]; exact ⟨rfl, _, _, rfl, .done rfl (slNil _), .mk ok ((((rk.mono hJ3).mono hJ4).mono hJ5).mono hJ6) mi ma im am hd⟩
      ·have hj1 := pjoin_pos (Decidable.not_not.1 h7)
       have hj0 : 0 < (pjoin ((lp ++ [((pread y n x.g (z.place + lp.length)).1, va)]).map (·.1))).1.length := hj1
       obtain ⟨bc, kc, cc, Tc, frc, arrc, rfl, hcc, hcb, hcd⟩ := hjb.get hj0
       have e2 := take_cells hcd 0 (byteV ((pjoin ((lp ++ [((pread y n x.g (z.place + lp.length)).1, va)]).map (·.1))).1[0]'hj0)) (by unfold bytesV; rw [List.getElem?_map, List.getElem?_eq_getElem hj0]; rfl) (by rw [bytesV_len]; omega)
       rw [Array.getElem?_toList] at e2
       have hhd : ((pjoin ((lp ++ [((pread y n x.g (z.place + lp.length)).1, va)]).map (·.1))).1).headD 0 = (pjoin ((lp ++ [((pread y n x.g (z.place + lp.length)).1, va)]).map (·.1))).1[0]'hj0 := headD_at hj0
       have hdrop := sub_rd hjb (l := 1) (k := (pjoin ((lp ++ [((pread y n x.g (z.place + lp.length)).1, va)]).map (·.1))).1.length) hj1 (Nat.le_refl _)
       rw [cut_tail, show (pjoin ((lp ++ [((pread y n x.g (z.place + lp.length)).1, va)]).map (·.1))).1.length - 1 = (((pjoin ((lp ++ [((pread y n x.g (z.place + lp.length)).1, va)]).map (·.1))).1).drop 1).length from (List.length_drop).symm] at hdrop
       refine WP.mv rfl rfl ?_
       refine WP.valG rfl rfl rfl rfl rfl rfl rfl (Yld.move rfl rfl) ?_
       refine WP.valG rfl rfl rfl rfl rfl rfl rfl (Yld.indexAddr (i := 0) rfl ty_sl_46 rfl rfl hj0) ?_
       refine WP.valG rfl rfl rfl rfl rfl rfl rfl (Yld.loadC rfl ty_sc_5 rfl (There.i hcb) e2) ?_
       refine WP.splitG rfl rfl rfl rfl rfl rfl rfl (Yld.lss rfl rfl rfl) (fun h8 => ?_) (fun h8 => ?_)
       ·refine WP.vl rfl (Yld.pickF rfl rfl rfl) ?_
        refine WP.mv rfl rfl ?_
        refine WP.passG rfl rfl rfl rfl rfl rfl rfl rfl ?_
        refine WP.passG rfl rfl rfl rfl rfl rfl rfl rfl ?_
        refine WP.passG rfl rfl rfl rfl rfl rfl rfl rfl ?_
        refine WP.passG rfl rfl rfl rfl rfl rfl rfl rfl ?_
        refine WP.vl rfl (Yld.pickT rfl rfl rfl) ?_
        refine WP.nil ?_
        refine WP.sub [(0, _), (2, _), (3, _), (4, _), (5, _), (6, _), (7, _), (11, _), (46, _), (83, _), (89, _), (129, _), (151, _)] ?_ ⟨rfl, rfl, rfl, rfl, rfl, rfl, rfl, rfl, rfl, rfl, rfl, rfl, rfl, trivial⟩
        refine WP.next ?_
        refine WP.condT rfl ?_
        refine WP.seq ?_
        refine WP.region [0, 1, 2] rfl ?_
        refine WP.mv rfl rfl ?_
        refine WP.loud rfl rfl ?_
        refine Op.cl (read_end (l := l) (p := z.place)) rfl Try.func47 rfl rfl rfl rfl ?_
        rintro v J L1 - ⟨rfl, rfl, rfl⟩
        try simp only [nf]
        refine WP.mv rfl rfl ?_
        refine WP.nil ?_
        refine WP.sub [(0, _), (2, _), (3, _), (4, _), (5, _), (6, _), (7, _), (11, _), (46, _), (83, _), (89, _), (129, _), (151, _)] ?_ ⟨rfl, rfl, rfl, rfl, rfl, rfl, rfl, rfl, rfl, rfl, rfl, rfl, rfl, trivial⟩
        refine WP.next ?_
        refine WP.ret ?_
        refine WP.fn .ret (.inr rfl) (res1 rfl rfl) ((r, row 110 [.pointer (some ⟨l, 0, none⟩), .int .i64 (z.place : Int), .slice (some ⟨bo, 0, none⟩) (lp ++ [((pread y n x.g (z.place + lp.length)).1, va)]).length co, .bool true, .int .i64 0, .int .i64 0, .slice none 0 0, .int .i64 81]) :: ([] ++ ((l, row 87 (lgV d s bi ba x)) :: (bi, oi) :: (ba, oa) :: (s, row 108 (sgV d x.g)) :: Ld))) (Imm.le_trans hJ3 (Imm.le_trans hJ4 (Imm.le_trans hJ5 hJ6))) ?_
        have hdf : ¬ z.dn = true := by rw [hdn]; decide
        have hpl : z.ps.length = lp.length := by rw [← hp, List.length_map]
        have e0 : rstep (fun q => pread y n x.g q) z = rjoin z (pread y n x.g (z.place + lp.length)).1 := (if_neg hdf).trans (by rw [hpl]; exact (if_neg h2).trans (if_neg (fun h => by rcases h with h | ⟨h6, h7⟩; exact h3 h; omega)))
        have hps : z.ps ++ [(pread y n x.g (z.place + lp.length)).1] = (lp ++ [((pread y n x.g (z.place + lp.length)).1, va)]).map (·.1) := by rw [List.map_append, hp]; rfl
        have e : rjoin z (pread y n x.g (z.place + lp.length)).1 = (true, z.fin (z.ps ++ [(pread y n x.g (z.place + lp.length)).1]) 0 0 [] 81) := (if_neg (by rw [hps, List.length_map, fst_head (by omega)]; exact h6)).trans (if_pos (.inr (fun h => h.1 (by rw [hps, hhd]; exact h8))))
        rw [e0, e]; exact ⟨rfl, _, _, rfl, .done rfl (slNil _), .mk ok ((((rk.mono hJ3).mono hJ4).mono hJ5).mono hJ6) mi ma im am hd⟩
       ·refine WP.vl rfl (Yld.pickF rfl rfl rfl) ?_
        refine WP.mv rfl rfl ?_
        refine WP.valG rfl rfl rfl rfl rfl rfl rfl (Yld.move rfl rfl) ?_
        refine WP.valG rfl rfl rfl rfl rfl rfl rfl (Yld.indexAddr (i := 0) rfl ty_sl_46 rfl rfl hj0) ?_
        refine WP.valG rfl rfl rfl rfl rfl rfl rfl (Yld.loadC rfl ty_sc_5 rfl (There.i hcb) e2) ?_
        refine WP.splitG rfl rfl rfl rfl rfl rfl rfl (Yld.gtr rfl rfl rfl) (fun h9 => ?_) (fun h9 => ?_)
        ·refine WP.vl rfl (Yld.pickF rfl rfl rfl) ?_
         refine WP.nil ?_
         refine WP.sub [(0, _), (2, _), (3, _), (4, _), (5, _), (6, _), (7, _), (11, _), (46, _), (83, _), (89, _), (129, _), (151, _)] ?_ ⟨rfl, rfl, rfl, rfl, rfl, rfl, rfl, rfl, rfl, rfl, rfl, rfl, rfl, trivial⟩
         refine WP.next ?_
         refine WP.condT rfl ?_
         refine WP.seq ?_
         refine WP.region [0, 1, 2] rfl ?_
         refine WP.mv rfl rfl ?_
         refine WP.loud rfl rfl ?_
         refine Op.cl (read_end (l := l) (p := z.place)) rfl Try.func47 rfl rfl rfl rfl ?_
         rintro v J L1 - ⟨rfl, rfl, rfl⟩
         try simp only [nf]
         refine WP.mv rfl rfl ?_
         refine WP.nil ?_
         refine WP.sub [(0, _), (2, _), (3, _), (4, _), (5, _), (6, _), (7, _), (11, _), (46, _), (83, _), (89, _), (129, _), (151, _)] ?_ ⟨rfl, rfl, rfl, rfl, rfl, rfl, rfl, rfl, rfl, rfl, rfl, rfl, rfl, trivial⟩
         refine WP.next ?_
         refine WP.ret ?_
         refine WP.fn .ret (.inr rfl) (res1 rfl rfl) ((r, row 110 [.pointer (some ⟨l, 0, none⟩), .int .i64 (z.place : Int), .slice (some ⟨bo, 0, none⟩) (lp ++ [((pread y n x.g (z.place + lp.length)).1, va)]).length co, .bool true, .int .i64 0, .int .i64 0, .slice none 0 0, .int .i64 81]) :: ([] ++ ((l, row 87 (lgV d s bi ba x)) :: (bi, oi) :: (ba, oa) :: (s, row 108 (sgV d x.g)) :: Ld))) (Imm.le_trans hJ3 (Imm.le_trans hJ4 (Imm.le_trans hJ5 hJ6))) ?_
         have hdf : ¬ z.dn = true := by rw [hdn]; decide
         have hpl : z.ps.length = lp.length := by rw [← hp, List.length_map]
         have e0 : rstep (fun q => pread y n x.g q) z = rjoin z (pread y n x.g (z.place + lp.length)).1 := (if_neg hdf).trans (by rw [hpl]; exact (if_neg h2).trans (if_neg (fun h => by rcases h with h | ⟨h6, h7⟩; exact h3 h; omega)))
         have hps : z.ps ++ [(pread y n x.g (z.place + lp.length)).1] = (lp ++ [((pread y n x.g (z.place + lp.length)).1, va)]).map (·.1) := by rw [List.map_append, hp]; rfl
         have e : rjoin z (pread y n x.g (z.place + lp.length)).1 = (true, z.fin (z.ps ++ [(pread y n x.g (z.place + lp.length)).1]) 0 0 [] 81) := (if_neg (by rw [hps, List.length_map, fst_head (by omega)]; exact h6)).trans (if_pos (.inr (fun h => h.2 (by rw [hps, hhd]; omega))))
         rw [e0, e]; exact ⟨rfl, _, _, rfl, .done rfl (slNil _), .mk ok ((((rk.mono hJ3).mono hJ4).mono hJ5).mono hJ6) mi ma im am hd⟩
        ·refine WP.vl rfl (Yld.pickF rfl rfl rfl) ?_
         refine WP.nil ?_
         refine WP.sub [(0, _), (2, _), (3, _), (4, _), (5, _), (6, _), (7, _), (11, _), (46, _), (83, _), (89, _), (129, _), (151, _)] ?_ ⟨rfl, rfl, rfl, rfl, rfl, rfl, rfl, rfl, rfl, rfl, rfl, rfl, rfl, trivial⟩
         refine WP.next ?_
         refine WP.condF rfl ?_
         refine WP.skip ?_
         refine WP.next ?_
         refine WP.seq ?_
         refine WQ.start Trymixed 9 (by kernel_rfl) _ rfl [9, 10] rfl ?_
         refine WQ.val rfl rfl rfl (Yld.move rfl rfl) ?_
         refine WQ.val rfl rfl rfl (Yld.fieldAddr rfl ty_fd_52_1 rfl) ?_
         refine WQ.val rfl rfl rfl (Yld.ld (v := .int .i64 (pread y n x.g (z.place + lp.length)).1.no) rfl ty_sc_3 rfl rfl) ?_
         refine WQ.val rfl rfl rfl (Yld.move rfl rfl) ?_
         refine WQ.val rfl rfl rfl (Yld.indexAddr (i := 0) rfl ty_sl_46 rfl rfl hj0) ?_
         refine WQ.val rfl rfl rfl (Yld.loadC rfl ty_sc_5 rfl (There.i hcb) e2) ?_
         refine WQ.val rfl rfl rfl (Yld.conv64 rfl ty_un_5 ty_ik_3 rfl (by have := ((pjoin ((lp ++ [((pread y n x.g (z.place + lp.length)).1, va)]).map (·.1))).1[0]'hj0).toNat_lt; omega)) ?_
         refine WQ.val rfl rfl rfl (Yld.move rfl rfl) ?_
         refine WQ.val rfl rfl rfl (Yld.sliceR (l := 1) (h := (pjoin ((lp ++ [((pread y n x.g (z.place + lp.length)).1, va)]).map (·.1))).1.length) hjb rfl ty_sl_46 rfl (Env.limS (n := 1) rfl) Env.lim0 hj1 (Nat.le_refl _)) ?_
         refine WQ.nil ?_
         refine WP.loud rfl rfl ?_
         refine Op.cl (read_end (l := l) (p := z.place)) rfl Try.func47 rfl rfl rfl rfl ?_
         rintro v J L1 - ⟨rfl, rfl, rfl⟩
         try simp only [nf]
         refine WP.mv rfl rfl ?_
         refine WP.nil ?_
         refine WP.sub [(0, _), (2, _), (3, _), (4, _), (5, _), (6, _), (7, _), (11, _), (46, _), (83, _), (89, _), (129, _), (151, _)] ?_ ⟨rfl, rfl, rfl, rfl, rfl, rfl, rfl, rfl, rfl, rfl, rfl, rfl, rfl, trivial⟩
         refine WP.next ?_
         refine WP.ret ?_
         refine WP.fn .ret (.inr rfl) (res1 rfl rfl) ((r, row 110 [.pointer (some ⟨l, 0, none⟩), .int .i64 (z.place : Int), .slice (some ⟨bo, 0, none⟩) (lp ++ [((pread y n x.g (z.place + lp.length)).1, va)]).length co, .bool true, .int .i64 (pread y n x.g (z.place + lp.length)).1.no, .int .i64 (((pjoin ((lp ++ [((pread y n x.g (z.place + lp.length)).1, va)]).map (·.1))).1[0]'hj0).toNat : Int), (subSl 1 1 (pjoin ((lp ++ [((pread y n x.g (z.place + lp.length)).1, va)]).map (·.1))).1.length (.slice (some ⟨bc, kc, none⟩) (pjoin ((lp ++ [((pread y n x.g (z.place + lp.length)).1, va)]).map (·.1))).1.length cc)), .int .i64 0]) :: ([] ++ ((l, row 87 (lgV d s bi ba x)) :: (bi, oi) :: (ba, oa) :: (s, row 108 (sgV d x.g)) :: Ld))) (Imm.le_trans hJ3 (Imm.le_trans hJ4 (Imm.le_trans hJ5 hJ6))) ?_
         have hdf : ¬ z.dn = true := by rw [hdn]; decide
         have hpl : z.ps.length = lp.length := by rw [← hp, List.length_map]
         have e0 : rstep (fun q => pread y n x.g q) z = rjoin z (pread y n x.g (z.place + lp.length)).1 := (if_neg hdf).trans (by rw [hpl]; exact (if_neg h2).trans (if_neg (fun h => by rcases h with h | ⟨h6, h7⟩; exact h3 h; omega)))
         have hps : z.ps ++ [(pread y n x.g (z.place + lp.length)).1] = (lp ++ [((pread y n x.g (z.place + lp.length)).1, va)]).map (·.1) := by rw [List.map_append, hp]; rfl
         have e : rjoin z (pread y n x.g (z.place + lp.length)).1 = (true, z.fin (z.ps ++ [(pread y n x.g (z.place + lp.length)).1]) (pread y n x.g (z.place + lp.length)).1.no ((((pjoin ((lp ++ [((pread y n x.g (z.place + lp.length)).1, va)]).map (·.1))).1).headD 0).toNat : Int) (((pjoin ((lp ++ [((pread y n x.g (z.place + lp.length)).1, va)]).map (·.1))).1).drop 1) 0) := (if_neg (by rw [hps, List.length_map, fst_head (by omega)]; exact h6)).trans ((if_neg (by rw [hps]; rintro (h | h); exact h7 h; exact h ⟨by rw [hhd]; exact h8, by rw [hhd]; omega⟩)).trans (by rw [hps]))
         rw [e0, e, hhd]; exact ⟨rfl, _, _, rfl, .done rfl hdrop, .mk ok ((((rk.mono hJ3).mono hJ4).mono hJ5).mono hJ6) mi ma im am hd⟩


end Go.Hp
