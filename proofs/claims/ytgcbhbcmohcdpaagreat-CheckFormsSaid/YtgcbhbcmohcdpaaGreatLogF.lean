import Derived.Test.YtgcbhbcmohcdpaaGreatLogC
set_option linter.unusedVariables false
set_option linter.unusedSimpArgs false
namespace Go.Hp
open Go Go.Proofs

/-- What an Append answers. -/
def Lg.apE (x : Lg) (hn hp : Nat) (kind : Int) (b : List UInt8) : Int :=
 if kind < 1 ∨ 5 < kind then 1 else if 12672 ≤ b.length then 2 else if ¬ (hn = x.no ∧ hp = x.pl) then 5 else if hn = 1099511627776 then 3 else if x.room kind < ((x.pl + kmany b : Nat) : Int) then 3 else 0
theorem pcutE_ok {no place era : Int} {k : Int} {b : List UInt8} (h1 : b.length ≤ 12671) (h2 : 0 ≤ place ∧ place ≤ 1099511627000) (h3 : 1 ≤ no ∧ no ≤ 1099511627776) (h4 : 1 ≤ era ∧ era ≤ 4294967295) : pcutE no place era (kbody k b) = 0 := by
 have hl : (kbody k b).length = b.length + 1 := rfl
 have hm := kmany_eq k b
 have hp := kmany_pos b
 have hm2 : kmany b ≤ 64 := by unfold kmany; omega
 unfold pcutE
 rw [if_neg (by omega), if_neg, ]
 rw [hm]
 rintro (h | h | h | h)
 ·omega
 ·omega
 ·omega
 ·exact h (by refine ⟨⟨?_, ?_⟩, h3, h4, ⟨?_, ?_⟩, ⟨?_, ?_⟩, .inr ⟨?_, ?_, ?_⟩⟩ <;> simp)
theorem lgV_push {d s bi ba n : Nat} {x : Lg} (ok : x.ok n) (r : Rc) : lgV d s bi ba (x.push r) = (lgV d s bi ba x).take 5 ++ [.int .i64 ((x.no + 1 : Nat) : Int), .int .i64 ((x.pl + r.n : Nat) : Int)] ++ (lgV d s bi ba x).drop (5 + 2) := by
 have h1 := ok.m1
 have h2 := ok.m2
 have e : (x.push r).mpl = x.mpl := by show (x.push r).endP (x.mno - x.base) = x.endP (x.mno - x.base); exact x.endP_push r (by unfold Lg.no at h2; omega)
 unfold lgV
 rw [x.no_push r, x.pl_push r, e]; rfl
theorem Lg.ok.push {n : Nat} {x : Lg} (ok : x.ok n) {r : Rc} (h1 : ¬ x.no = 1099511627776) (h2 : ((x.pl + r.n : Nat) : Int) ≤ x.room r.kind) : (x.push r).ok n := by
 have h3 := x.room_le r.kind
 have h4 := x.no_push r
 have h5 := x.pl_push r
 have m1 := ok.m1; have m2 := ok.m2; have w1 := ok.w1; have w2 := ok.w2; have nb := ok.nb; have s2 := ok.s2
 have e : (x.push r).endP (x.wr - x.base) = x.endP (x.wr - x.base) := x.endP_push r (by unfold Lg.no at w2; omega)
 refine ⟨ok.g, ok.fb, ok.st, ok.era, m1, ?_, w1, ?_, ?_, ?_, ?_, ?_⟩
 ·rw [h4]; show x.mno ≤ _; omega
 ·rw [h4]; show x.wr ≤ _; omega
 ·rw [h4]; omega
 ·rw [h5]; show x.pl + r.n ≤ (x.g.first + x.g.slots) * 8; unfold Lg.ende at h3; omega
 ·have := ok.s1; show (x.push r).endP (x.wr - x.base) ≤ x.sent; omega
 ·rw [h5]; show x.sent ≤ _; omega
structure AX where
 i : Nat
 o : Obj
 la : List (Int × Value)
set_option maxHeartbeats 2000000 in
theorem log_Append {I : Imm} {l s d n : Nat} {x : Lg} {y : Dk} {L : Chunks} (hl : IsLog I l s d n x y L) {hn hp : Nat} {kind : Int} {b : List UInt8} {vb : Value} (hb : SlRd (Im I) vb b.length 1 (bytesV b)) : Spec Tryz.prog 92 [.pointer (some ⟨l, 0, none⟩), .agg #[.int .i64 (hn : Int), .int .i64 (hp : Int)], .int .i64 kind, vb] I L (fun v J L' => (x.apE hn hp kind b ≠ 0 ∧ v = .tuple #[.agg #[.int .i64 0, .int .i64 0], .int .i64 (x.apE hn hp kind b)] ∧ IsLog J l s d n x y L') ∨ (x.apE hn hp kind b = 0 ∧ ∃ r : Rc, r.kind = kind ∧ r.b = b ∧ v = .tuple #[.agg #[.int .i64 ((x.push r).no : Int), .int .i64 ((x.push r).pl : Int)], .int .i64 0] ∧ IsLog J l s d n (x.push r) y L')) := by
 cases hl with
 | @mk bi ba oi oa li la Ld ok rk mi ma im am hd =>
 obtain ⟨Ab, cb, rfl, _, _, _⟩ := id hb
 have hn8 := (disk_ok hd).n2
 refine Spec.of Tryz.func92 rfl Tryz.ntmps92 (Nat.le_of_ble_eq_true rfl) (fun F => ?_)
 try simp only [nf]
 dsimp only [argsEnv]
 refine WP.seq ?_; refine WP.region [0, 1, 2] rfl ?_; refine WP.loud rfl rfl ?_; refine Op.box rfl rfl rfl rfl rfl (fun b5 => ?_)
 refine WP.loud rfl rfl ?_; refine Op.alloc rfl rfl rfl ty_zr_80 (fun b8 => ?_)
 refine WP.mv rfl rfl ?_; refine WP.nil (WP.next (WP.seq (WP.block (WP.seq ?_))))
 refine WP.region [0, 1, 2, 3, 4, 5, 6] rfl ?_; refine WP.mv rfl rfl ?_; refine WP.split rfl rfl rfl rfl (Yld.lss rfl rfl rfl) (fun h1 => ?_) (fun h1 => ?_)
 ·refine WP.mv rfl rfl ?_
  iterate 2 refine WP.passG rfl rfl rfl rfl rfl rfl rfl rfl ?_
  refine WP.vl rfl (Yld.pickT rfl rfl rfl) ?_; refine WP.mv rfl rfl ?_; refine WP.nil ?_; refine WP.sub [(0, _), (1, _), (2, _), (3, _), (5, _), (8, _), (9, _), (14, _)] ?_ ⟨rfl, rfl, rfl, rfl, rfl, rfl, rfl, rfl, trivial⟩
  refine WP.next ?_; refine WP.condT rfl ?_; refine WP.seq ?_; refine WP.region [0, 1, 2] rfl ?_; refine WP.vl rfl (Yld.buildS (pl := []) rfl ty_zr_80 ty_zd_80 zK rfl (vs := []) rfl (segs := []) rfl rfl zS) ?_; refine WP.loud rfl rfl ?_; refine Op.sA rfl rfl ty_sz_80 rfl rfl rfl rfl rfl ?_; refine WP.mv rfl rfl ?_; refine WP.nil ?_; refine WP.sub [(0, _), (1, _), (2, _), (3, _), (5, _), (8, _), (9, _), (14, _)] ?_ ⟨rfl, rfl, rfl, rfl, rfl, rfl, rfl, rfl, trivial⟩
  refine WP.next (WP.ret ?_)
  refine WP.fn .ret (.inr rfl) (resT (rs := [.cell 8 80, .tmp 9]) (vs := [_, _]) rfl ⟨⟨_, _, _, _, rfl, zM, .inl ⟨ty_ag_80, by rfl, rfl⟩⟩, rfl, trivial⟩ rfl) ((l, row 128 (lgV d s bi ba x)) :: (bi, oi) :: (ba, oa) :: (s, row 122 (sgV d x.g)) :: Ld) (Imm.le_refl _) ?_; have e : x.apE hn hp kind b = 1 := by unfold Lg.apE; rw [if_pos (by omega)]
  exact .inl ⟨by rw [e]; decide, by rw [e], .mk ok rk mi ma im am hd⟩
 ·refine WP.mv rfl rfl ?_
  refine WP.valG rfl rfl rfl rfl rfl rfl rfl (Yld.move rfl rfl) ?_; refine WP.splitG rfl rfl rfl rfl rfl rfl rfl (Yld.gtr rfl rfl rfl) (fun h2 => ?_) (fun h2 => ?_)
  ·refine WP.vl rfl (Yld.pickF rfl rfl rfl) ?_
   refine WP.mv rfl rfl ?_; refine WP.nil ?_; refine WP.sub [(0, _), (1, _), (2, _), (3, _), (5, _), (8, _), (9, _), (14, _)] ?_ ⟨rfl, rfl, rfl, rfl, rfl, rfl, rfl, rfl, trivial⟩
   refine WP.next ?_; refine WP.condT rfl ?_; refine WP.seq ?_; refine WP.region [0, 1, 2] rfl ?_; refine WP.vl rfl (Yld.buildS (pl := []) rfl ty_zr_80 ty_zd_80 zK rfl (vs := []) rfl (segs := []) rfl rfl zS) ?_; refine WP.loud rfl rfl ?_; refine Op.sA rfl rfl ty_sz_80 rfl rfl rfl rfl rfl ?_; refine WP.mv rfl rfl ?_; refine WP.nil ?_; refine WP.sub [(0, _), (1, _), (2, _), (3, _), (5, _), (8, _), (9, _), (14, _)] ?_ ⟨rfl, rfl, rfl, rfl, rfl, rfl, rfl, rfl, trivial⟩
   refine WP.next (WP.ret ?_)
   refine WP.fn .ret (.inr rfl) (resT (rs := [.cell 8 80, .tmp 9]) (vs := [_, _]) rfl ⟨⟨_, _, _, _, rfl, zM, .inl ⟨ty_ag_80, by rfl, rfl⟩⟩, rfl, trivial⟩ rfl) ((l, row 128 (lgV d s bi ba x)) :: (bi, oi) :: (ba, oa) :: (s, row 122 (sgV d x.g)) :: Ld) (Imm.le_refl _) ?_; have e : x.apE hn hp kind b = 1 := by unfold Lg.apE; rw [if_pos (by omega)]
   exact .inl ⟨by rw [e]; decide, by rw [e], .mk ok rk mi ma im am hd⟩
  ·refine WP.vl rfl (Yld.pickF rfl rfl rfl) ?_
   refine WP.mv rfl rfl ?_; refine WP.nil ?_; refine WP.sub [(0, _), (1, _), (2, _), (3, _), (5, _), (8, _), (9, _), (14, _)] ?_ ⟨rfl, rfl, rfl, rfl, rfl, rfl, rfl, rfl, trivial⟩
   refine WP.next ?_; refine WP.condF rfl ?_; refine WP.seq ?_; obtain ⟨kn, rfl⟩ : ∃ m : Nat, kind = (m : Int) := ⟨kind.toNat, by omega⟩
   refine WP.region [0, 1, 2, 3] rfl ?_; refine WP.mv rfl rfl ?_; refine WP.vl rfl (Yld.lenR hb rfl ty_sl_25 rfl) ?_; refine WP.split rfl rfl rfl rfl (Yld.geq rfl rfl rfl) (fun h3 => ?_) (fun h3 => ?_)
   ·refine WP.mv rfl rfl ?_
    refine WP.nil ?_; refine WP.sub [(0, _), (1, _), (2, _), (3, _), (5, _), (8, _), (9, _), (14, _), (22, _)] ?_ ⟨rfl, rfl, rfl, rfl, rfl, rfl, rfl, rfl, rfl, trivial⟩
    refine WP.next ?_; refine WP.condT rfl ?_; refine WP.seq ?_; refine WP.region [0, 1, 2] rfl ?_; refine WP.vl rfl (Yld.buildS (pl := []) rfl ty_zr_80 ty_zd_80 zK rfl (vs := []) rfl (segs := []) rfl rfl zS) ?_; refine WP.loud rfl rfl ?_; refine Op.sA rfl rfl ty_sz_80 rfl rfl rfl rfl rfl ?_; refine WP.mv rfl rfl ?_; refine WP.nil ?_; refine WP.sub [(0, _), (1, _), (2, _), (3, _), (5, _), (8, _), (9, _), (14, _), (22, _)] ?_ ⟨rfl, rfl, rfl, rfl, rfl, rfl, rfl, rfl, rfl, trivial⟩
    refine WP.next (WP.ret ?_)
    refine WP.fn .ret (.inr rfl) (resT (rs := [.cell 8 80, .tmp 9]) (vs := [_, _]) rfl ⟨⟨_, _, _, _, rfl, zM, .inl ⟨ty_ag_80, by rfl, rfl⟩⟩, rfl, trivial⟩ rfl) ((l, row 128 (lgV d s bi ba x)) :: (bi, oi) :: (ba, oa) :: (s, row 122 (sgV d x.g)) :: Ld) (Imm.le_refl _) ?_; have e : x.apE hn hp (kn : Int) b = 2 := by unfold Lg.apE; rw [if_neg (by omega), if_pos (by omega)]
    exact .inl ⟨by rw [e]; decide, by rw [e], .mk ok rk mi ma im am hd⟩
   ·refine WP.mv rfl rfl ?_
    refine WP.nil ?_; refine WP.sub [(0, _), (1, _), (2, _), (3, _), (5, _), (8, _), (9, _), (14, _), (22, _)] ?_ ⟨rfl, rfl, rfl, rfl, rfl, rfl, rfl, rfl, rfl, trivial⟩
    refine WP.next ?_; refine WP.condF rfl ?_; refine WP.seq ?_; refine WQ.startAll Tryzmixed zK _ rfl ?_; refine WQ.val rfl rfl rfl (Yld.lda rfl ty_ag_80 rfl rfl) ?_; refine WQ.val rfl rfl rfl (Yld.move rfl rfl) ?_; refine WQ.val rfl rfl rfl (Yld.nilCheck rfl rfl) ?_; refine WQ.val rfl rfl rfl (Yld.fieldAddr rfl ty_fd_128_5 rfl) ?_; refine WQ.val rfl rfl rfl (Yld.ldg (vs := [.int .i64 (x.no : Int), .int .i64 (x.pl : Int)]) rfl ty_ag_80 rfl rfl rfl) ?_; refine WQ.val rfl rfl rfl (Yld.neqInts (m := 2) (us := [(hn : Int), (hp : Int)]) (vs := [(x.no : Int), (x.pl : Int)]) rfl zK rfl rfl rfl rfl _ rfl) ?_; by_cases hne : (decide (([(hn : Int), (hp : Int)] : List Int) ≠ [(x.no : Int), (x.pl : Int)])) = true
    ·try rw [hne]
     refine WQ.val rfl rfl rfl (Yld.assign rfl rfl) ?_; refine WQ.nil ?_; refine WP.sub [(0, _), (1, _), (2, _), (3, _), (5, _), (8, _), (9, _), (14, _), (22, _), (27, _)] ?_ ⟨rfl, rfl, rfl, rfl, rfl, rfl, rfl, rfl, rfl, rfl, trivial⟩
     refine WP.next ?_; refine WP.condT rfl ?_; refine WP.seq ?_; refine WP.region [0, 1, 2] rfl ?_; refine WP.vl rfl (Yld.buildS (pl := []) rfl ty_zr_80 ty_zd_80 zK rfl (vs := []) rfl (segs := []) rfl rfl zS) ?_; refine WP.loud rfl rfl ?_; refine Op.sA rfl rfl ty_sz_80 rfl rfl rfl rfl rfl ?_; refine WP.mv rfl rfl ?_; refine WP.nil ?_; refine WP.sub [(0, _), (1, _), (2, _), (3, _), (5, _), (8, _), (9, _), (14, _), (22, _), (27, _)] ?_ ⟨rfl, rfl, rfl, rfl, rfl, rfl, rfl, rfl, rfl, rfl, trivial⟩
     refine WP.next (WP.ret ?_)
     refine WP.fn .ret (.inr rfl) (resT (rs := [.cell 8 80, .tmp 9]) (vs := [_, _]) rfl ⟨⟨_, _, _, _, rfl, zM, .inl ⟨ty_ag_80, by rfl, rfl⟩⟩, rfl, trivial⟩ rfl) ((l, row 128 (lgV d s bi ba x)) :: (bi, oi) :: (ba, oa) :: (s, row 122 (sgV d x.g)) :: Ld) (Imm.le_refl _) ?_; have hne := of_decide_eq_true hne
     have e : x.apE hn hp (kn : Int) b = 5 := by unfold Lg.apE; rw [if_neg (by omega), if_neg (by omega), if_pos (fun h => hne (by rw [h.1, h.2]))]
     exact .inl ⟨by rw [e]; decide, by rw [e], .mk ok rk mi ma im am hd⟩
    ·have hne : (decide (([(hn : Int), (hp : Int)] : List Int) ≠ [(x.no : Int), (x.pl : Int)])) = false := eq_false_of_ne_true hne
     try rw [hne]
     refine WQ.val rfl rfl rfl (Yld.assign rfl rfl) ?_; refine WQ.nil ?_; refine WP.sub [(0, _), (1, _), (2, _), (3, _), (5, _), (8, _), (9, _), (14, _), (22, _), (27, _)] ?_ ⟨rfl, rfl, rfl, rfl, rfl, rfl, rfl, rfl, rfl, rfl, trivial⟩
     refine WP.next ?_; refine WP.condF rfl ?_; refine WP.seq ?_; have hne := of_decide_eq_false hne
     obtain ⟨rfl, rfl⟩ : hn = x.no ∧ hp = x.pl := by have h := Decidable.not_not.1 hne; simp only [List.cons.injEq, and_true] at h; omega
     have hfb := ok.fb; have hsn := ok.g.sn; have hpb := ok.pb; have hnb := ok.nb; have hera := ok.era
     refine WP.region [0, 1, 2, 3] rfl ?_; refine WP.vl rfl (Yld.fieldAddr rfl ty_fd_80_0 rfl) ?_; refine WP.vl rfl (Yld.ld rfl ty_sc_3 rfl rfl) ?_; refine WP.split rfl rfl rfl rfl (Yld.eql rfl rfl rfl) (fun h5 => ?_) (fun h5 => ?_)
     ·refine WP.mv rfl rfl ?_
      refine WP.nil ?_; refine WP.sub [(0, _), (1, _), (2, _), (3, _), (5, _), (8, _), (9, _), (14, _), (22, _), (27, _), (35, _)] ?_ ⟨rfl, rfl, rfl, rfl, rfl, rfl, rfl, rfl, rfl, rfl, rfl, trivial⟩
      refine WP.next ?_; refine WP.condT rfl ?_; refine WP.seq ?_; refine WP.region [0, 1, 2] rfl ?_; refine WP.vl rfl (Yld.buildS (pl := []) rfl ty_zr_80 ty_zd_80 zK rfl (vs := []) rfl (segs := []) rfl rfl zS) ?_; refine WP.loud rfl rfl ?_; refine Op.sA rfl rfl ty_sz_80 rfl rfl rfl rfl rfl ?_; refine WP.mv rfl rfl ?_; refine WP.nil ?_; refine WP.sub [(0, _), (1, _), (2, _), (3, _), (5, _), (8, _), (9, _), (14, _), (22, _), (27, _), (35, _)] ?_ ⟨rfl, rfl, rfl, rfl, rfl, rfl, rfl, rfl, rfl, rfl, rfl, trivial⟩
      refine WP.next (WP.ret ?_)
      refine WP.fn .ret (.inr rfl) (resT (rs := [.cell 8 80, .tmp 9]) (vs := [_, _]) rfl ⟨⟨_, _, _, _, rfl, zM, .inl ⟨ty_ag_80, by rfl, rfl⟩⟩, rfl, trivial⟩ rfl) ((l, row 128 (lgV d s bi ba x)) :: (bi, oi) :: (ba, oa) :: (s, row 122 (sgV d x.g)) :: Ld) (Imm.le_refl _) ?_; have e : x.apE x.no x.pl (kn : Int) b = 3 := by unfold Lg.apE; rw [if_neg (by omega), if_neg (by omega), if_neg (fun h => h ⟨rfl, rfl⟩), if_pos (by omega)]
      exact .inl ⟨by rw [e]; decide, by rw [e], .mk ok rk mi ma im am hd⟩
     ·refine WP.mv rfl rfl ?_
      refine WP.nil ?_; refine WP.sub [(0, _), (1, _), (2, _), (3, _), (5, _), (8, _), (9, _), (14, _), (22, _), (27, _), (35, _)] ?_ ⟨rfl, rfl, rfl, rfl, rfl, rfl, rfl, rfl, rfl, rfl, rfl, trivial⟩
      refine WP.next ?_; refine WP.condF rfl ?_; refine WP.skip (WP.leave (WP.next (WP.seq ?_)))
      refine WD.start Tryzmixed 9 (fun b o => b = b5 ∧ o = row 80 [.int .i64 (x.no : Int), .int .i64 (x.pl : Int)]) (fun _ _ => False) (by rintro _ _ ⟨rfl, rfl⟩; exact zM) (fun _ _ h => h.elim) 11 [false, false, false, false, false, false, false, false, false, false, false] rfl rfl ?_; refine WD.vl (i := 0) rfl (Yld.fieldAddr rfl ty_fd_80_0 rfl) ?_; refine WD.val1 (i := 1) rfl rfl rfl rfl zK rfl zK (Yld.load (v := .int .i64 (x.no : Int)) rfl ty_sc_3 rfl (.inl ⟨rfl, rfl⟩) rfl) ?_; refine WD.vl (i := 2) rfl (Yld.add64 rfl rfl rfl (by omega)) ?_; rw [show (x.no : Int) + 1 = ((x.no + 1 : Nat) : Int) from rfl]
      refine WD.vl (i := 3) rfl (Yld.move rfl rfl) ?_; refine WD.vl (i := 4) rfl (Yld.fieldAddr rfl ty_fd_80_1 rfl) ?_; refine WD.val1 (i := 5) rfl rfl rfl rfl zK rfl zK (Yld.load (v := .int .i64 (x.pl : Int)) rfl ty_sc_3 rfl (.inl ⟨rfl, rfl⟩) rfl) ?_; refine WD.vl (i := 6) rfl (Yld.move rfl rfl) ?_; refine WD.loud (i := 7) zK rfl rfl rfl ?_; refine Op.cl (slices_Clone hb (by omega)) rfl Tryz.func88 rfl rfl rfl rfl ?_; rintro v J Lc - ⟨rfl, hcn⟩
      try simp only [nf]
      obtain ⟨Ac, cc, rfl, _⟩ := hcn.slice
      refine WD.gR ?_; refine WD.vl (i := 8) rfl (Yld.buildS (pl := [(0, 0, 1), (1, 1, 1), (2, 2, 1), (3, 3, 1)]) rfl ty_zr_219 ty_zd_219 zK rfl (vs := [_, _, _, _]) rfl (segs := [(0, [_]), (1, [_]), (2, [_]), (3, [_])]) rfl rfl zS) ?_; refine WD.loud (i := 9) zK rfl rfl rfl ?_; refine Op.box rfl rfl rfl rfl rfl (fun b10 => ?_)
      refine WD.go (.inl rfl) (fun _ _ h => h.elim) ?_; refine WD.vl (i := 10) rfl (Yld.assign rfl rfl) ?_; refine WD.done zK ?_; refine WP.sub [(0, _), (1, _), (2, _), (3, _), (5, _), (8, _), (9, _), (10, _), (14, _), (22, _), (27, _), (35, _)] ?_ ⟨rfl, rfl, rfl, rfl, rfl, rfl, rfl, rfl, rfl, rfl, rfl, rfl, trivial⟩
      refine WP.next (WP.seq ?_)
      refine WP.region [0] rfl ?_; refine WP.mv rfl rfl ?_; refine WP.nil (WP.next (WP.seq ?_))
      have hE0 : pcutE ((x.no + 1 : Nat) : Int) (x.pl : Int) x.era (kbody (kn : Int) b) = 0 := pcutE_ok (by omega) (by omega) (by omega) hera
      refine WD.start Tryzmixed 24 (fun c o => (c = b10 ∧ o = row 219 [.int .i64 ((x.no + 1 : Nat) : Int), .int .i64 (kn : Int), .int .i64 (x.pl : Int), .slice Ac b.length cc, .slice none 0 0]) ∨ (c = l ∧ o = row 128 (lgV d s bi ba x))) (fun _ _ => False) (by rintro _ _ (⟨rfl, rfl⟩ | ⟨rfl, rfl⟩) <;> exact zM) (fun _ _ h => h.elim) 26 [false, false, false, false, false, false, false, false, false, false, false, false, false, false, false, false, false, false, false, false, false, false, false, false, false, false] rfl rfl ?_; refine WD.vl (i := 0) rfl (Yld.move rfl rfl) ?_; refine WD.vl (i := 1) rfl (Yld.move rfl rfl) ?_; refine WD.vl (i := 2) rfl (Yld.nilCheck rfl rfl) ?_; refine WD.vl (i := 3) rfl (Yld.fieldAddr rfl ty_fd_219_0 rfl) ?_; refine WD.val1 (i := 4) rfl rfl rfl rfl zK rfl zK (Yld.load (v := .int .i64 ((x.no + 1 : Nat) : Int)) rfl ty_sc_3 rfl (.inl (.inl ⟨rfl, rfl⟩)) rfl) ?_; refine WD.vl (i := 5) rfl (Yld.move rfl rfl) ?_; refine WD.vl (i := 6) rfl (Yld.nilCheck rfl rfl) ?_; refine WD.vl (i := 7) rfl (Yld.fieldAddr rfl ty_fd_219_2 rfl) ?_; refine WD.val1 (i := 8) rfl rfl rfl rfl zK rfl zK (Yld.load (v := .int .i64 (x.pl : Int)) rfl ty_sc_3 rfl (.inl (.inl ⟨rfl, rfl⟩)) rfl) ?_; refine WD.vl (i := 9) rfl (Yld.move rfl rfl) ?_; refine WD.vl (i := 10) rfl (Yld.nilCheck rfl rfl) ?_; refine WD.vl (i := 11) rfl (Yld.fieldAddr rfl ty_fd_128_2 rfl) ?_; refine WD.val1 (i := 12) rfl rfl rfl rfl zK rfl zK (Yld.load (v := .int .i64 x.era) rfl ty_sc_3 rfl (.inl (.inr ⟨rfl, rfl⟩)) rfl) ?_
      refine WD.vl (i := 13) rfl (Yld.move rfl rfl) ?_; refine WD.vl (i := 14) rfl (Yld.convN8 kn rfl ty_un_3 ty_ik_5 rfl) ?_; refine WD.vl (i := 16) rfl (Yld.move rfl rfl) ?_; refine WD.loud (i := 15) zK rfl rfl rfl ?_; refine Op.buildSlice rfl ty_sl_25 ty_el2_25 rfl rfl rfl rfl (vs := [_]) rfl (segs := [(0, [_])]) (cs := bytesV [UInt8.ofNat kn]) rfl rfl zS (fun b15 => ?_)
      refine WD.go (.inr (by rintro _ _ (⟨rfl, rfl⟩ | ⟨rfl, rfl⟩) <;> exact zM)) (fun _ _ h => h.elim) ?_; refine WD.loud (i := 17) zK rfl rfl rfl ?_; refine Op.append rfl ty_sl_25 ty_el_25 rfl rfl rfl rfl rfl (own_lit (b := b15) (l := [UInt8.ofNat kn]) (k := 1) rfl) (hb.mono (fun b o h => There.i h)) zT (bytesV_one _) (by omega) (by omega) (fun va La ha => ?_)
      try simp only [nf]
      have hbody : Own 5 1 va (bytesV (kbody (kn : Int) b)) (kbody (kn : Int) b).length La := by rw [show (kbody (kn : Int) b).length = 1 + b.length from (by simp [kbody]; omega)]; exact ha
      refine WP.shO hbody (fun J3 hJ3 hbody => ?_)
      have hb := hb.mono (fun b o h => hJ3.2 b o h)
      have rk := rk.mono hJ3
      refine WD.go (.inr (by rintro _ _ (⟨rfl, rfl⟩ | ⟨rfl, rfl⟩) <;> exact zM)) (fun _ _ h => h.elim) ?_; refine WD.loud (i := 18) zK rfl rfl rfl ?_; refine Op.cl (seg_Parts (no := ((x.no + 1 : Nat) : Int)) (place := (x.pl : Int)) (era := x.era) (b := kbody (kn : Int) b) hbody (by simp only [kbody, List.length_cons]; omega) (by omega) (by omega)) rfl Tryz.func105 rfl rfl rfl rfl ?_; rintro v J4 L11 hJ4 ⟨vo, lp, Lo, Ld2, rfl, hlp, how, hod, rfl⟩
      try simp only [nf]
      rw [hE0]
      obtain ⟨Ap, cp, rfl, _⟩ := how.slice
      have hb := hb.mono (fun b o h => hJ4.2 b o h)
      have rk := rk.mono hJ4
      refine WD.go (.inr (by rintro _ _ (⟨rfl, rfl⟩ | ⟨rfl, rfl⟩) <;> exact zM)) (fun _ _ h => h.elim) ?_; refine WD.vl (i := 19) rfl (Yld.move rfl rfl) ?_; refine WD.vl (i := 20) rfl (Yld.extract rfl rfl rfl) ?_; refine WD.vl (i := 21) rfl (Yld.extract rfl rfl rfl) ?_; refine WD.vl (i := 22) rfl (Yld.nilCheck rfl rfl) ?_; refine WD.vl (i := 23) rfl (Yld.fieldAddr rfl ty_fd_219_4 rfl) ?_; refine WD.loud (i := 24) zK rfl rfl rfl ?_; refine Op.s1 rfl rfl ty_sz_217 rfl rfl rfl ?_; refine WD.go (.inl rfl) (fun _ _ h => h.elim) ?_; refine WD.vl (i := 25) rfl (Yld.assign rfl rfl) ?_; refine WD.done zK ?_; refine WP.sub [(0, _), (1, _), (2, _), (3, _), (5, _), (8, _), (9, _), (10, _), (11, _), (14, _), (22, _), (27, _), (35, _)] ?_ ⟨rfl, rfl, rfl, rfl, rfl, rfl, rfl, rfl, rfl, rfl, rfl, rfl, rfl, trivial⟩
      refine WP.shareParts how hod zT (fun J5 hJ5 hrp => ?_)
      refine WP.shO hcn (fun J6 hJ6 hvc => ?_)
      refine WP.share1 (b := b10) zT (fun J7 hJ7 hrb => ?_)
      have rk := ((rk.mono hJ5).mono hJ6).mono hJ7
      have hr : RcOk J7 x.era (x.no + 1) x.pl (⟨(kn : Int), b, b10, .slice Ac b.length cc, .slice Ap lp.length cp, lp⟩ : Rc) := ⟨hrb, hvc.mono (fun b o h => hJ7.2 b o h), (hrp.mono hJ6).mono hJ7, by rw [cutL_is hE0, kmany_eq] at hlp; exact hlp, cut_ok hE0, (show 1 ≤ (kn : Int) ∧ (kn : Int) ≤ 5 from ⟨by omega, by omega⟩)⟩
      have hrn : (⟨(kn : Int), b, b10, .slice Ac b.length cc, .slice Ap lp.length cp, lp⟩ : Rc).n = kmany b := rfl
      have hlpl : lp.length = kmany b := hr.len
      have hm64 : kmany b ≤ 64 := hr.n64
      refine WP.next (WP.seq (WP.seq ?_))
      refine WP.region [0, 1, 2, 3, 4, 5, 6, 7, 8, 9, 10] rfl ?_; refine WP.mv rfl rfl ?_; refine WP.vl rfl (Yld.neq rfl rfl rfl false (decide_eq_false (by simp))) ?_; refine WP.mv rfl rfl ?_; refine WP.valG rfl rfl rfl rfl rfl rfl rfl (Yld.move rfl rfl) ?_; refine WP.loudG rfl rfl rfl rfl rfl ?_; refine Op.cl (rec_end hr (by omega)) rfl Tryz.func106 rfl rfl rfl rfl ?_; rintro v J L1 - ⟨rfl, rfl, rfl⟩
      try simp only [nf]
      refine WP.valG rfl rfl rfl rfl rfl rfl rfl (Yld.field (v := .int .i64 ((x.pl + (⟨(kn : Int), b, b10, .slice Ac b.length cc, .slice Ap lp.length cp, lp⟩ : Rc).n : Nat) : Int)) rfl ty_fl_80_1 ty_sc_3 rfl rfl) ?_; iterate 2 refine WP.valG rfl rfl rfl rfl rfl rfl rfl (Yld.move rfl rfl) ?_
      refine WP.loudG rfl rfl rfl rfl rfl ?_; refine Op.cl (log_room (d := d) (s := s) (bi := bi) (ba := ba) (l := l) (x := x) (k := (kn : Int)) ok hn8) rfl Tryz.func107 rfl rfl rfl rfl ?_; rintro v J L1 - ⟨rfl, rfl, rfl⟩
      try simp only [nf]
      refine WP.splitG rfl rfl rfl rfl rfl rfl rfl (Yld.gtr rfl rfl rfl) (fun h6 => ?_) (fun h6 => ?_)
      ·refine WP.vl rfl (Yld.pickF rfl rfl rfl) ?_
       refine WP.nil ?_; refine WP.sub [(0, _), (1, _), (2, _), (3, _), (5, _), (8, _), (9, _), (10, _), (11, _), (14, _), (22, _), (27, _), (35, _), (84, _)] ?_ ⟨rfl, rfl, rfl, rfl, rfl, rfl, rfl, rfl, rfl, rfl, rfl, rfl, rfl, rfl, trivial⟩
       refine WP.next ?_; refine WP.condT rfl ?_; refine WP.seq ?_; refine WP.region [0, 1, 2] rfl ?_; refine WP.vl rfl (Yld.buildS (pl := []) rfl ty_zr_80 ty_zd_80 zK rfl (vs := []) rfl (segs := []) rfl rfl zS) ?_; refine WP.loud rfl rfl ?_; refine Op.sA rfl rfl ty_sz_80 rfl rfl rfl rfl rfl ?_; refine WP.mv rfl rfl ?_; refine WP.nil ?_; refine WP.sub [(0, _), (1, _), (2, _), (3, _), (5, _), (8, _), (9, _), (10, _), (11, _), (14, _), (22, _), (27, _), (35, _), (84, _)] ?_ ⟨rfl, rfl, rfl, rfl, rfl, rfl, rfl, rfl, rfl, rfl, rfl, rfl, rfl, rfl, trivial⟩
       refine WP.next (WP.ret ?_)
       refine WP.fn .ret (.inr rfl) (resT (rs := [.cell 8 80, .tmp 9]) (vs := [_, _]) rfl ⟨⟨_, _, _, _, rfl, zM, .inl ⟨ty_ag_80, by rfl, rfl⟩⟩, rfl, trivial⟩ rfl) ((l, row 128 (lgV d s bi ba x)) :: (bi, oi) :: (ba, oa) :: (s, row 122 (sgV d x.g)) :: Ld) (Imm.le_trans hJ3 (Imm.le_trans hJ4 (Imm.le_trans hJ5 (Imm.le_trans hJ6 hJ7)))) ?_; have e : x.apE x.no x.pl (kn : Int) b = 3 := by unfold Lg.apE; rw [if_neg (by omega), if_neg (by omega), if_neg (fun h => h ⟨rfl, rfl⟩), if_neg (by omega), if_pos (by rw [hrn] at h6; omega)]
       exact .inl ⟨by rw [e]; decide, by rw [e], .mk ok rk mi ma im am hd⟩
      ·refine WP.vl rfl (Yld.pickF rfl rfl rfl) ?_
       refine WP.nil ?_; refine WP.sub [(0, _), (1, _), (2, _), (3, _), (5, _), (8, _), (9, _), (10, _), (11, _), (14, _), (22, _), (27, _), (35, _), (84, _)] ?_ ⟨rfl, rfl, rfl, rfl, rfl, rfl, rfl, rfl, rfl, rfl, rfl, rfl, rfl, rfl, trivial⟩
       refine WP.next ?_; refine WP.condF rfl ?_; refine WP.skip (WP.next (WP.seq ?_))
       refine WQ.start Tryzmixed 9 zK _ rfl [9] rfl ?_; refine WQ.val rfl rfl rfl (Yld.move rfl rfl) ?_; refine WQ.val rfl rfl rfl (Yld.nilCheck rfl rfl) ?_; refine WQ.val rfl rfl rfl (Yld.fieldAddr rfl ty_fd_128_3 rfl) ?_; refine WQ.val rfl rfl rfl (Yld.ld (v := .map (some bi)) rfl ty_sc_126 rfl rfl) ?_; refine WQ.val rfl rfl rfl (Yld.move rfl rfl) ?_; refine WQ.val rfl rfl rfl (Yld.nilCheck rfl rfl) ?_; refine WQ.val rfl rfl rfl (Yld.fieldAddr rfl ty_fd_219_0 rfl) ?_; refine WQ.val rfl rfl rfl (Yld.load (v := .int .i64 ((x.no + 1 : Nat) : Int)) rfl ty_sc_3 rfl (There.i hr.hb) rfl) ?_; refine WQ.val rfl rfl rfl (Yld.move rfl rfl) ?_; refine WQ.nil ?_; refine WP.loud rfl rfl ?_; refine Op.mapUpdateR (ob := oi) (l := li) rfl ty_mp_126 rfl rfl rfl rfl mi zT (fun oi2 hmi2 => ?_)
       try simp only [nf]
       refine WP.nil ?_; refine WP.sub [(0, _), (1, _), (2, _), (3, _), (5, _), (8, _), (9, _), (10, _), (11, _), (14, _), (22, _), (27, _), (35, _), (84, _)] ?_ ⟨rfl, rfl, rfl, rfl, rfl, rfl, rfl, rfl, rfl, rfl, rfl, rfl, rfl, rfl, trivial⟩
       have him2 := im.push (⟨(kn : Int), b, b10, .slice Ac b.length cc, .slice Ap lp.length cp, lp⟩ : Rc) (by have := ok.m1; have := ok.w1; unfold Lg.lo; omega) (by have := ok.m2; unfold Lg.lo; omega)
       refine WP.next (WP.seq (WP.seq ?_))
       refine WP.region [0, 1, 2, 3, 4, 5] rfl ?_; refine WP.mv rfl rfl ?_; refine WP.vl rfl (Yld.nilCheck rfl rfl) ?_; refine WP.vl rfl (Yld.fieldAddr rfl ty_fd_219_4 rfl) ?_; refine WP.vl rfl (Yld.load (v := (.slice Ap lp.length cp)) rfl ty_sc_217 rfl (There.i hr.hb) rfl) ?_; refine WP.vl rfl (Yld.len rfl ty_sl_217 rfl) ?_; refine WP.mv rfl rfl ?_; refine WP.nil ?_; refine WP.sub [(0, _), (1, _), (2, _), (3, _), (5, _), (8, _), (9, _), (10, _), (11, _), (14, _), (22, _), (27, _), (35, _), (84, _), (98, _), (99, _), (100, _)] ?_ ⟨rfl, rfl, rfl, rfl, rfl, rfl, rfl, rfl, rfl, rfl, rfl, rfl, rfl, rfl, rfl, rfl, rfl, trivial⟩
       refine WP.next (WP.block ?_)
       refine WP.loop (X := AX) (fun u : AX => [(0, .pointer (some ⟨l, 0, none⟩)), (8, .pointer (some ⟨b8, 0, none⟩)), (10, .pointer (some ⟨b10, 0, none⟩)), (98, .slice Ap lp.length cp), (99, .int .i64 (lp.length : Int)), (100, .int .i64 (u.i : Int))]) (fun _ => J7) (fun u : AX => (l, row 128 (lgV d s bi ba x)) :: (bi, oi2) :: (ba, u.o) :: (s, row 122 (sgV d x.g)) :: (b8, row 80 [.int .i64 0, .int .i64 0]) :: (Ld ++ F)) (fun u : AX => u.i ≤ lp.length ∧ MapObj u.la u.o ∧ AMapP x x.lo (⟨(kn : Int), b, b10, .slice Ac b.length cc, .slice Ap lp.length cp, lp⟩ : Rc) u.i u.la) (fun u : AX => lp.length - u.i) ⟨0, oa, la⟩ ⟨Nat.zero_le _, ma, am.begin _⟩ ⟨rfl, rfl, rfl, rfl, rfl, rfl, trivial⟩ rfl zP ?_; rintro ⟨i, oa2, la2⟩ ⟨hile, hma, hap⟩; dsimp only at hile hma hap
       try dsimp only
       try simp only [nf]
       refine WP.seq ?_; refine WP.region [0] rfl ?_; refine WP.split rfl rfl rfl rfl (Yld.lss rfl rfl rfl) (fun hlt => ?_) (fun hlt => ?_)
       ·have hi : i < lp.length := by omega
        obtain ⟨bp, kp, cp', Tp, fp, arp, ep, hbp, hsg, _⟩ := hr.vp.cells hi
        obtain rfl : Ap = some ⟨bp, kp, none⟩ := by injection ep
        have hdt := hr.vp.data _ (List.getElem_mem hi)
        have hplc : lp[i].1.place = ((x.pl + i : Nat) : Int) := by have := hr.at_ hi; rw [show (lp[i]).1 = _ from this]; simp [pcut]
        refine WP.nil (WP.next (WP.seq ?_))
        refine WP.condT rfl ?_; refine WP.skip (WP.next (WP.seq (WP.block (WP.seq ?_))))
        refine WP.region [0, 1, 2, 3] rfl ?_; refine WP.vl rfl (Yld.indexAddr (i := i) rfl ty_sl_217 rfl rfl hi) ?_; refine WP.vl rfl (Yld.loadAggC rfl ty_ag_223 rfl (There.i hbp) hsg rfl) ?_; refine WP.loud rfl rfl ?_; refine Op.alloc rfl rfl rfl ty_zr_223 (fun b13 => ?_)
        refine WP.loud rfl rfl ?_; refine Op.sA rfl rfl ty_sz_223 rfl rfl rfl (ptV_one (by obtain ⟨A', c', e, _⟩ := hdt; exact ⟨_, _, _, e⟩)) rfl ?_; refine WP.nil ?_; refine WP.sub [(0, _), (8, _), (10, _), (13, _), (98, _), (99, _), (100, _), (101, _)] ?_ ⟨rfl, rfl, rfl, rfl, rfl, rfl, rfl, rfl, trivial⟩
        refine WP.next ?_; refine WQ.start Tryzmixed 7 zK _ rfl [7] rfl ?_; refine WQ.val rfl rfl rfl (Yld.move rfl rfl) ?_; refine WQ.val rfl rfl rfl (Yld.nilCheck rfl rfl) ?_; refine WQ.val rfl rfl rfl (Yld.fieldAddr rfl ty_fd_128_4 rfl) ?_; refine WQ.val rfl rfl rfl (Yld.ld (v := .map (some ba)) rfl ty_sc_126 rfl rfl) ?_; refine WQ.val rfl rfl rfl (Yld.fieldAddr rfl ty_fd_223_0 rfl) ?_; refine WQ.val rfl rfl rfl (Yld.ld (v := .int .i64 lp[i].1.place) rfl ty_sc_3 rfl rfl) ?_; rw [hplc]
        refine WQ.val rfl rfl rfl (Yld.move rfl rfl) ?_; refine WQ.nil ?_; refine WP.loud rfl rfl ?_; refine Op.mapUpdateR (ob := oa2) (l := la2) rfl ty_mp_126 rfl rfl rfl rfl hma zT (fun oa3 hma3 => ?_)
        try simp only [nf]
        refine WP.nil ?_; refine WP.sub [(0, _), (8, _), (10, _), (13, _), (98, _), (99, _), (100, _), (101, _)] ?_ ⟨rfl, rfl, rfl, rfl, rfl, rfl, rfl, rfl, trivial⟩
        refine WP.leave (WP.next ?_)
        refine WP.region [0, 1] rfl ?_; refine WP.vl rfl (Yld.add64 rfl rfl rfl (by omega)) ?_; refine WP.mv rfl rfl ?_; refine WP.nil ?_; refine WP.sub [(0, _), (8, _), (10, _), (13, _), (98, _), (99, _), (100, _), (101, _)] ?_ ⟨rfl, rfl, rfl, rfl, rfl, rfl, rfl, rfl, trivial⟩
        exact WP.ag ⟨i + 1, oa3, _⟩ ⟨(show i + 1 ≤ lp.length by omega), hma3, hap.put⟩ (show lp.length - (i + 1) < lp.length - i by omega) ⟨rfl, rfl, rfl, rfl, rfl, rfl, trivial⟩ rfl
       ·obtain rfl : i = lp.length := by omega
        have hap2 : AMapP x x.lo (⟨(kn : Int), b, b10, .slice Ac b.length cc, .slice Ap lp.length cp, lp⟩ : Rc) (⟨(kn : Int), b, b10, .slice Ac b.length cc, .slice Ap lp.length cp, lp⟩ : Rc).n la2 := by rw [hrn, ← hlpl]; exact hap
        have ham2 := hap2.done (by have := ok.m2; unfold Lg.lo; omega)
        refine WP.nil (WP.next (WP.seq ?_))
        refine WP.condF rfl ?_; refine WP.exit (WP.thenE (WP.thenE (WP.hit (WP.next (WP.seq ?_)))))
        refine WP.region [0, 1, 2, 3, 4, 5] rfl ?_; iterate 2 refine WP.mv rfl rfl ?_
        refine WP.loud rfl rfl ?_; refine Op.cl (rec_end hr (by omega)) rfl Tryz.func106 rfl rfl rfl rfl ?_; rintro v J L1 - ⟨rfl, rfl, rfl⟩
        try simp only [nf]
        refine WP.vl rfl (Yld.nilCheck rfl rfl) ?_; refine WP.vl rfl (Yld.fieldAddr rfl ty_fd_128_5 rfl) ?_; refine WP.loud rfl rfl ?_; refine Op.storeN rfl rfl ty_sz_80 rfl rfl rfl rfl (Nat.le_of_ble_eq_true rfl) (lgV_push ok (⟨(kn : Int), b, b10, .slice Ac b.length cc, .slice Ap lp.length cp, lp⟩ : Rc)) (by repeat (first | exact Upd.head | apply Upd.tail | apply Upd.tailS)) ?_; refine WP.nil ?_; refine WP.sub [(0, _), (8, _), (10, _), (98, _), (99, _), (100, _), (101, _)] ?_ ⟨rfl, rfl, rfl, rfl, rfl, rfl, rfl, trivial⟩
        refine WP.next (WP.seq ?_)
        refine WP.region [0, 1, 2, 3, 4, 5] rfl ?_; refine WP.mv rfl rfl ?_; refine WP.vl rfl (Yld.nilCheck rfl rfl) ?_; refine WP.vl rfl (Yld.fieldAddr rfl ty_fd_128_5 rfl) ?_; refine WP.vl rfl (Yld.ldg (vs := [.int .i64 ((x.push (⟨(kn : Int), b, b10, .slice Ac b.length cc, .slice Ap lp.length cp, lp⟩ : Rc)).no : Int), .int .i64 ((x.push (⟨(kn : Int), b, b10, .slice Ac b.length cc, .slice Ap lp.length cp, lp⟩ : Rc)).pl : Int)]) rfl ty_ag_80 rfl rfl rfl) ?_; refine WP.loud rfl rfl ?_; refine Op.sA rfl rfl ty_sz_80 rfl rfl rfl rfl rfl ?_; refine WP.mv rfl rfl ?_; refine WP.nil ?_; refine WP.sub [(0, _), (8, _), (9, _), (10, _), (98, _), (99, _), (100, _), (101, _)] ?_ ⟨rfl, rfl, rfl, rfl, rfl, rfl, rfl, rfl, trivial⟩
        refine WP.next (WP.ret ?_)
        refine WP.fn .ret (.inr rfl) (resT (rs := [.cell 8 80, .tmp 9]) (vs := [_, _]) rfl ⟨⟨_, _, _, _, rfl, zM, .inl ⟨ty_ag_80, by rfl, rfl⟩⟩, rfl, trivial⟩ rfl) ((l, row 128 (lgV d s bi ba (x.push (⟨(kn : Int), b, b10, .slice Ac b.length cc, .slice Ap lp.length cp, lp⟩ : Rc)))) :: (bi, oi2) :: (ba, oa2) :: (s, row 122 (sgV d x.g)) :: Ld) (Imm.le_trans hJ3 (Imm.le_trans hJ4 (Imm.le_trans hJ5 (Imm.le_trans hJ6 hJ7)))) ?_; have e : x.apE x.no x.pl (kn : Int) b = 0 := by unfold Lg.apE; rw [if_neg (by omega), if_neg (by omega), if_neg (fun h => h ⟨rfl, rfl⟩), if_neg (by omega), if_neg (by rw [hrn] at h6; omega)]
        exact .inr ⟨e, (⟨(kn : Int), b, b10, .slice Ac b.length cc, .slice Ap lp.length cp, lp⟩ : Rc), rfl, rfl, rfl, .mk (ok.push (r := (⟨(kn : Int), b, b10, .slice Ac b.length cc, .slice Ap lp.length cp, lp⟩ : Rc)) (by omega) (by show ((x.pl + (⟨(kn : Int), b, b10, .slice Ac b.length cc, .slice Ap lp.length cp, lp⟩ : Rc).n : Nat) : Int) ≤ x.room (kn : Int); omega)) (rk.push hr) hmi2 hma him2 ham2 hd⟩


structure TX where
 k : Nat
 oi : Obj
 oa : Obj
 li : List (Int × Value)
 la : List (Int × Value)
structure TX.ok (x : Lg) (t : TX) : Prop where
 le : x.base + t.k ≤ x.lo
 mi : MapObj t.li t.oi
 ma : MapObj t.la t.oa
 im : IMap x (x.base + t.k) t.li
 am : AMap x (x.base + t.k) t.la
theorem log_trim {I : Imm} {l s d n bi ba k0 : Nat} {x : Lg} {oi oa : Obj} {li la : List (Int × Value)} (ok : x.ok n) (rk : Recs I x) (mi : MapObj li oi) (ma : MapObj la oa) (hk0 : x.base + k0 ≤ x.lo) (im : IMap x (x.base + k0) li) (am : AMap x (x.base + k0) la) : Spec Tryz.prog 146 [.pointer (some ⟨l, 0, none⟩), .int .i64 ((x.base + k0 + 1 : Nat) : Int)] I [(l, row 128 (lgV d s bi ba x)), (bi, oi), (ba, oa)] (fun v J L' => v = .tuple #[] ∧ I = J ∧ ∃ oi' oa' li' la', MapObj li' oi' ∧ MapObj la' oa' ∧ IMap x x.lo li' ∧ AMap x x.lo la' ∧ L' = [(l, row 128 (lgV d s bi ba x)), (bi, oi'), (ba, oa')]) := by
 refine Spec.of Tryz.func146 rfl Tryz.ntmps146 (Nat.le_of_ble_eq_true rfl) (fun F => ?_)
 try simp only [nf]
 dsimp only [argsEnv]
 refine WP.seq ?_; refine WP.region [0, 1] rfl ?_; iterate 2 refine WP.mv rfl rfl ?_
 refine WP.nil ?_; refine WP.sub [(0, _), (1, _), (4, _)] ?_ ⟨rfl, rfl, rfl, trivial⟩
 refine WP.next (WP.block ?_)
 refine WP.loop (X := TX) (fun t : TX => [(0, .pointer (some ⟨l, 0, none⟩)), (4, .int .i64 ((x.base + t.k + 1 : Nat) : Int))]) (fun _ => I) (fun t : TX => (l, row 128 (lgV d s bi ba x)) :: (bi, t.oi) :: (ba, t.oa) :: F) (fun t => t.ok x) (fun t => x.lo - (x.base + t.k)) ⟨k0, oi, oa, li, la⟩ ⟨hk0, mi, ma, im, am⟩ ⟨rfl, rfl, trivial⟩ rfl zP ?_; rintro ⟨k, oi, oa, li, la⟩ ⟨hle, mi, ma, im, am⟩; dsimp only at hle mi ma im am
 try dsimp only
 try simp only [nf]
 refine WP.seq (WP.seq ?_)
 refine WQ.startAll Tryzmixed zK _ rfl ?_; iterate 2 refine WQ.val rfl rfl rfl (Yld.move rfl rfl) ?_
 refine WQ.val rfl rfl rfl (Yld.nilCheck rfl rfl) ?_; refine WQ.val rfl rfl rfl (Yld.fieldAddr rfl ty_fd_128_6 rfl) ?_; refine WQ.val rfl rfl rfl (Yld.fieldAddr rfl ty_fd_80_0 rfl) ?_; refine WQ.val rfl rfl rfl (Yld.ld (v := .int .i64 (x.mno : Int)) rfl ty_sc_3 rfl rfl) ?_; refine WQ.val rfl rfl rfl (Yld.move rfl rfl) ?_; refine WQ.val rfl rfl rfl (Yld.nilCheck rfl rfl) ?_; refine WQ.val rfl rfl rfl (Yld.fieldAddr rfl ty_fd_128_7 rfl) ?_; refine WQ.val rfl rfl rfl (Yld.ld (v := .int .i64 (x.wr : Int)) rfl ty_sc_3 rfl rfl) ?_; refine WQ.val rfl rfl rfl (Yld.min2 rfl rfl rfl (x.lo : Int) (by unfold Lg.lo; split <;> omega)) ?_; refine WQ.split rfl rfl rfl (Yld.leq rfl rfl rfl) (fun hlt => ?_) (fun hlt => ?_)
 ·have hno : x.lo ≤ x.no := by have := ok.m2; unfold Lg.lo; omega
  have hk : k < x.rs.length := by unfold Lg.no at hno; omega
  have hr := rk k hk
  have hlook : aget li ((x.base + k + 1 : Nat) : Int) = some (.pointer (some ⟨x.rs[k].blk, 0, none⟩)) := by rw [im.at_, if_pos (by omega), x.ptrAt_rec hk]
  obtain ⟨Ap, cp, hvp, _, _, _⟩ := id hr.vp.rd
  have hrl := hr.len
  have hnb := ok.nb
  have hm64 := hr.n64
  refine WQ.nil ?_; refine WP.sub [(0, _), (4, _), (21, _)] ?_ ⟨rfl, rfl, rfl, trivial⟩
  refine WP.next ?_; refine WP.condT rfl ?_; refine WP.skip (WP.next (WP.seq (WP.block (WP.seq ?_))))
  refine WP.region [0, 1, 2, 3, 4, 5, 6, 7, 8, 9, 10] rfl ?_; refine WP.mv rfl rfl ?_; refine WP.vl rfl (Yld.nilCheck rfl rfl) ?_; refine WP.vl rfl (Yld.fieldAddr rfl ty_fd_128_3 rfl) ?_; refine WP.vl rfl (Yld.ld (v := .map (some bi)) rfl ty_sc_126 rfl rfl) ?_; refine WP.mv rfl rfl ?_; refine WP.vl rfl (Yld.lookupOk rfl ty_mp_126 ty_ez_216 rfl rfl zM mi) ?_; rw [hlook, Option.getD_some, Option.isSome_some]
  refine WP.mv rfl rfl ?_; iterate 2 refine WP.vl rfl (Yld.extract rfl rfl rfl) ?_
  iterate 2 refine WP.mv rfl rfl ?_
  refine WP.nil ?_; refine WP.sub [(0, _), (4, _), (5, _), (6, _), (21, _)] ?_ ⟨rfl, rfl, rfl, rfl, rfl, trivial⟩
  refine WP.next (WP.seq (WP.seq ?_))
  refine WP.region [0, 1] rfl ?_; refine WP.mv rfl rfl ?_; refine WP.vl rfl (Yld.not rfl rfl) ?_; refine WP.nil ?_; refine WP.sub [(0, _), (4, _), (5, _), (6, _), (21, _), (34, _)] ?_ ⟨rfl, rfl, rfl, rfl, rfl, rfl, trivial⟩
  refine WP.next ?_; refine WP.condF rfl ?_; refine WP.skip (WP.next (WP.seq ?_))
  refine WP.region [0, 1, 2, 3, 4, 5] rfl ?_; refine WP.mv rfl rfl ?_; refine WP.vl rfl (Yld.nilCheck rfl rfl) ?_; refine WP.vl rfl (Yld.fieldAddr rfl ty_fd_128_3 rfl) ?_; refine WP.vl rfl (Yld.ld (v := .map (some bi)) rfl ty_sc_126 rfl rfl) ?_; refine WP.mv rfl rfl ?_; refine WP.loud rfl rfl ?_; refine Op.deleteR (ob := oi) (l := li) rfl ty_mp_126 rfl rfl rfl mi zT (fun oi2 hmi2 => ?_)
  try simp only [nf]
  refine WP.nil ?_; refine WP.sub [(0, _), (4, _), (5, _), (6, _), (21, _), (34, _)] ?_ ⟨rfl, rfl, rfl, rfl, rfl, rfl, trivial⟩
  refine WP.next (WP.seq ?_)
  refine WP.region [0, 1, 2, 3, 4, 5] rfl ?_; refine WP.mv rfl rfl ?_; refine WP.vl rfl (Yld.nilCheck rfl rfl) ?_; refine WP.vl rfl (Yld.fieldAddr rfl ty_fd_219_4 rfl) ?_; refine WP.vl rfl (Yld.load (v := .slice Ap x.rs[k].lp.length cp) rfl ty_sc_217 rfl (There.i hr.hb) (congrArg some hvp)) ?_; refine WP.vl rfl (Yld.len rfl ty_sl_217 rfl) ?_; refine WP.mv rfl rfl ?_; refine WP.nil ?_; refine WP.sub [(0, _), (4, _), (5, _), (6, _), (21, _), (34, _), (43, _), (44, _), (45, _)] ?_ ⟨rfl, rfl, rfl, rfl, rfl, rfl, rfl, rfl, rfl, trivial⟩
  refine WP.next (WP.block ?_)
  refine WP.loop (X := AX) (fun u : AX => [(0, .pointer (some ⟨l, 0, none⟩)), (4, .int .i64 ((x.base + k + 1 : Nat) : Int)), (43, .slice Ap x.rs[k].lp.length cp), (44, .int .i64 (x.rs[k].lp.length : Int)), (45, .int .i64 (u.i : Int))]) (fun _ => I) (fun u : AX => (l, row 128 (lgV d s bi ba x)) :: (bi, oi2) :: (ba, u.o) :: F) (fun u : AX => u.i ≤ x.rs[k].lp.length ∧ MapObj u.la u.o ∧ AMapD x k u.i u.la) (fun u : AX => x.rs[k].lp.length - u.i) ⟨0, oa, la⟩ ⟨Nat.zero_le _, ma, am.beginD⟩ ⟨rfl, rfl, rfl, rfl, rfl, trivial⟩ rfl zP ?_; rintro ⟨i, oa2, la2⟩ ⟨hile, hma, had⟩; dsimp only at hile hma had
  try dsimp only
  try simp only [nf]
  refine WP.seq ?_; refine WP.region [0] rfl ?_; refine WP.split rfl rfl rfl rfl (Yld.lss rfl rfl rfl) (fun hlt2 => ?_) (fun hlt2 => ?_)
  ·have hi : i < x.rs[k].lp.length := by omega
   obtain ⟨bp, kp, cp', Tp, fp, arp, ep, hbp, hsg, _⟩ := hr.vp.cells hi
   have ep := hvp.symm.trans ep
   obtain rfl : Ap = some ⟨bp, kp, none⟩ := by injection ep
   have hdt := hr.vp.data _ (List.getElem_mem hi)
   have hplc : (x.rs[k].lp[i]).1.place = ((x.endP k + i : Nat) : Int) := by rw [hr.at_ hi]; simp [pcut]
   refine WP.nil (WP.next (WP.seq ?_))
   refine WP.condT rfl ?_; refine WP.skip (WP.next (WP.seq (WP.block (WP.seq ?_))))
   refine WP.region [0, 1, 2, 3] rfl ?_; refine WP.vl rfl (Yld.indexAddr (i := i) rfl ty_sl_217 rfl rfl hi) ?_; refine WP.vl rfl (Yld.loadAggC rfl ty_ag_223 rfl (There.i hbp) hsg rfl) ?_; refine WP.loud rfl rfl ?_; refine Op.alloc rfl rfl rfl ty_zr_223 (fun b8 => ?_)
   refine WP.loud rfl rfl ?_; refine Op.sA rfl rfl ty_sz_223 rfl rfl rfl (ptV_one (by obtain ⟨A', c', e, _⟩ := hdt; exact ⟨_, _, _, e⟩)) rfl ?_; refine WP.nil ?_; refine WP.sub [(0, _), (4, _), (8, _), (43, _), (44, _), (45, _), (46, _)] ?_ ⟨rfl, rfl, rfl, rfl, rfl, rfl, rfl, trivial⟩
   refine WP.next ?_; refine WQ.start Tryzmixed 6 zK _ rfl [6] rfl ?_; refine WQ.val rfl rfl rfl (Yld.move rfl rfl) ?_; refine WQ.val rfl rfl rfl (Yld.nilCheck rfl rfl) ?_; refine WQ.val rfl rfl rfl (Yld.fieldAddr rfl ty_fd_128_4 rfl) ?_; refine WQ.val rfl rfl rfl (Yld.ld (v := .map (some ba)) rfl ty_sc_126 rfl rfl) ?_; refine WQ.val rfl rfl rfl (Yld.fieldAddr rfl ty_fd_223_0 rfl) ?_; refine WQ.val rfl rfl rfl (Yld.ld (v := .int .i64 (x.rs[k].lp[i]).1.place) rfl ty_sc_3 rfl rfl) ?_; rw [hplc]
   refine WQ.nil ?_; refine WP.loud rfl rfl ?_; refine Op.deleteR (ob := oa2) (l := la2) rfl ty_mp_126 rfl rfl rfl hma zT (fun oa3 hma3 => ?_)
   try simp only [nf]
   refine WP.nil ?_; refine WP.sub [(0, _), (4, _), (8, _), (43, _), (44, _), (45, _), (46, _)] ?_ ⟨rfl, rfl, rfl, rfl, rfl, rfl, rfl, trivial⟩
   refine WP.leave (WP.next ?_)
   refine WP.region [0, 1] rfl ?_; refine WP.vl rfl (Yld.add64 rfl rfl rfl (by omega)) ?_; refine WP.mv rfl rfl ?_; refine WP.nil ?_; refine WP.sub [(0, _), (4, _), (8, _), (43, _), (44, _), (45, _), (46, _)] ?_ ⟨rfl, rfl, rfl, rfl, rfl, rfl, rfl, trivial⟩
   exact WP.ag ⟨i + 1, oa3, _⟩ ⟨(show i + 1 ≤ x.rs[k].lp.length by omega), hma3, had.del hk (by omega)⟩ (show x.rs[k].lp.length - (i + 1) < x.rs[k].lp.length - i by omega) ⟨rfl, rfl, rfl, rfl, rfl, trivial⟩ rfl
  ·obtain rfl : i = x.rs[k].lp.length := by omega
   rw [hrl] at had
   have hadd := had.done hk
   refine WP.nil (WP.next (WP.seq ?_))
   refine WP.condF rfl ?_; refine WP.exit (WP.thenE (WP.thenE (WP.hit (WP.leave (WP.next ?_)))))
   refine WP.region [0, 1, 2] rfl ?_; refine WP.mv rfl rfl ?_; refine WP.vl rfl (Yld.add64 rfl rfl rfl (by omega)) ?_; refine WP.mv rfl rfl ?_; refine WP.nil ?_; refine WP.sub [(0, _), (4, _), (43, _), (44, _), (45, _), (46, _)] ?_ ⟨rfl, rfl, rfl, rfl, rfl, rfl, trivial⟩
   exact WP.ag ⟨k + 1, oi2, oa2, _, _⟩ ⟨(show x.base + (k + 1) ≤ x.lo by omega), hmi2, hma, (im.del (by omega) : IMap x (x.base + k + 1) _), hadd⟩ (show x.lo - (x.base + (k + 1)) < x.lo - (x.base + k) by omega) ⟨rfl, rfl, trivial⟩ rfl
 ·obtain rfl : k = x.lo - x.base := by omega
  rw [show x.base + (x.lo - x.base) = x.lo by omega] at im am
  refine WQ.nil ?_; refine WP.sub [(0, _), (4, _), (21, _)] ?_ ⟨rfl, rfl, rfl, trivial⟩
  refine WP.next ?_; refine WP.condF rfl ?_; refine WP.exit (WP.thenE (WP.thenE (WP.hit ?_)))
  refine WP.fn .normal (.inl rfl) (res0 rfl) [(l, row 128 (lgV d s bi ba x)), (bi, oi), (ba, oa)] (Imm.le_refl _) ?_; exact ⟨rfl, rfl, oi, oa, li, la, mi, ma, im, am, rfl⟩


theorem Lg.lo_base {n : Nat} {x : Lg} (ok : x.ok n) : x.base ≤ x.lo := by have := ok.m1; have := ok.w1; unfold Lg.lo; omega
theorem Lg.lo_no {n : Nat} {x : Lg} (ok : x.ok n) : x.lo ≤ x.no := by have := ok.m2; unfold Lg.lo; omega
def Lg.mk_ (x : Lg) (m : Nat) : Lg := { x with mno := m }
theorem Lg.ok.mark {n : Nat} {x : Lg} (ok : x.ok n) {m : Nat} (h1 : x.mno ≤ m) (h2 : m ≤ x.no) : (x.mk_ m).ok n := ⟨ok.g, ok.fb, ok.st, ok.era, Nat.le_trans ok.m1 h1, h2, ok.w1, ok.w2, ok.nb, ok.pb, ok.s1, ok.s2⟩
theorem seg_cast {l1 l2 : List Value} (h : l1 = l2) : SetSeg l1 [] l2 := h ▸ .nil
theorem lgV_new {d s bi ba hn hp : Nat} {g : Sg} {era : Int} : [.pointer (some ⟨d, 0, none⟩), .pointer (some ⟨s, 0, none⟩), .int .i64 era, .map (some bi), .map (some ba), .int .i64 (hn : Int), .int .i64 (hp : Int), .int .i64 (hn : Int), .int .i64 (hp : Int), .int .i64 (hn : Int), .int .i64 (hp : Int)] = lgV d s bi ba (⟨era, g, hn, hp, [], hn, hn, hp⟩ : Lg) := by
 have e1 : (⟨era, g, hn, hp, [], hn, hn, hp⟩ : Lg).mpl = hp := by show hp + blocksN (List.take _ []) = hp; simp [blocksN]
 unfold lgV
 rw [e1]; rfl
theorem log_Open {I : Imm} {s d n hn hp : Nat} {g : Sg} {y : Dk} {Ld : Chunks} {era : Int} (hd : IsDisk d n y Ld) (hg : g.ok n) (hn8 : hn ≤ 1099511627776) (h1 : g.first * 8 ≤ hp) (h2 : hp ≤ (g.first + g.slots) * 8) (he : 1 ≤ era ∧ era ≤ 4294967295) (hfb : g.first ≤ 68719476736) (hst : g.stop ≤ g.first + g.slots) : Spec Tryz.prog 41 [.pointer (some ⟨d, 0, none⟩), .pointer (some ⟨s, 0, none⟩), .agg #[.int .i64 (hn : Int), .int .i64 (hp : Int)], .int .i64 era] I ((s, row 122 (sgV d g)) :: Ld) (fun v J L' => I = J ∧ ∃ l, v = .tuple #[.pointer (some ⟨l, 0, none⟩), .int .i64 0] ∧ IsLog J l s d n (⟨era, g, hn, hp, [], hn, hn, hp⟩ : Lg) y L') := by
 have hd8 := (disk_ok hd).n2
 have hgsn := hg.sn
 refine Spec.of Tryz.func41 rfl Tryz.ntmps41 (Nat.le_of_ble_eq_true rfl) (fun F => ?_)
 try simp only [nf]
 dsimp only [argsEnv]
 refine WP.seq ?_; refine WP.region [0, 1, 2] rfl ?_; refine WP.loud rfl rfl ?_; refine Op.box rfl rfl rfl rfl rfl (fun b6 => ?_)
 iterate 2 refine WP.mv rfl rfl ?_
 refine WP.nil (WP.next (WP.seq ?_))
 refine WP.region [0, 1, 2, 3, 4, 5, 6, 7, 8, 9, 10] rfl ?_; refine WP.mv rfl rfl ?_; refine WP.loud rfl rfl ?_; refine Op.cl (seg_First (d := d) (n := n) (g := g)) rfl Tryz.func51 rfl rfl rfl rfl ?_; rintro v J L1 - ⟨rfl, rfl, rfl⟩
 try simp only [nf]
 refine WP.vl rfl (Yld.mul64 rfl rfl rfl (by omega)) ?_; refine WP.mv rfl rfl ?_; refine WP.loud rfl rfl ?_; refine Op.cl (seg_First (d := d) (n := n) (g := g)) rfl Tryz.func51 rfl rfl rfl rfl ?_; rintro v J L1 - ⟨rfl, rfl, rfl⟩
 try simp only [nf]
 refine WP.mv rfl rfl ?_; refine WP.loud rfl rfl ?_; refine Op.cl (seg_Slots (d := d) (n := n) (g := g)) rfl Tryz.func52 rfl rfl rfl rfl ?_; rintro v J L1 - ⟨rfl, rfl, rfl⟩
 try simp only [nf]
 refine WP.vl rfl (Yld.add64 rfl rfl rfl (by have := hg.sn; omega)) ?_; refine WP.vl rfl (Yld.mul64 rfl rfl rfl (by have := hg.sn; omega)) ?_; iterate 2 refine WP.mv rfl rfl ?_
 refine WP.nil ?_; refine WP.sub [(0, _), (1, _), (2, _), (3, _), (6, _), (8, _), (9, _), (10, _), (11, _)] ?_ ⟨rfl, rfl, rfl, rfl, rfl, rfl, rfl, rfl, rfl, trivial⟩
 refine WP.next (WP.seq (WP.seq ?_))
 refine WP.region [0, 1, 2, 3, 4, 5, 6, 7, 8, 9, 10, 11, 12, 13, 14, 15, 16, 17, 18, 19, 20, 21, 22, 23, 24, 25, 26, 27] rfl ?_; refine WP.vl rfl (Yld.fieldAddr rfl ty_fd_80_0 rfl) ?_; refine WP.vl rfl (Yld.ld (v := .int .i64 (hn : Int)) rfl ty_sc_3 rfl rfl) ?_; refine WP.vl rfl (Yld.lss rfl rfl rfl false (decide_eq_false (by omega))) ?_; refine WP.mv rfl rfl ?_; refine WP.valG rfl rfl rfl rfl rfl rfl rfl (Yld.fieldAddr rfl ty_fd_80_0 rfl) ?_; refine WP.valG rfl rfl rfl rfl rfl rfl rfl (Yld.ld (v := .int .i64 (hn : Int)) rfl ty_sc_3 rfl rfl) ?_; refine WP.valG rfl rfl rfl rfl rfl rfl rfl (Yld.gtr rfl rfl rfl false (decide_eq_false (by omega))) ?_; refine WP.vl rfl (Yld.pickF rfl rfl rfl) ?_; refine WP.mv rfl rfl ?_; refine WP.valG rfl rfl rfl rfl rfl rfl rfl (Yld.fieldAddr rfl ty_fd_80_1 rfl) ?_; refine WP.valG rfl rfl rfl rfl rfl rfl rfl (Yld.ld (v := .int .i64 (hp : Int)) rfl ty_sc_3 rfl rfl) ?_; refine WP.valG rfl rfl rfl rfl rfl rfl rfl (Yld.move rfl rfl) ?_; refine WP.valG rfl rfl rfl rfl rfl rfl rfl (Yld.lss rfl rfl rfl false (decide_eq_false (by omega))) ?_; refine WP.vl rfl (Yld.pickF rfl rfl rfl) ?_; refine WP.mv rfl rfl ?_; refine WP.valG rfl rfl rfl rfl rfl rfl rfl (Yld.fieldAddr rfl ty_fd_80_1 rfl) ?_; refine WP.valG rfl rfl rfl rfl rfl rfl rfl (Yld.ld (v := .int .i64 (hp : Int)) rfl ty_sc_3 rfl rfl) ?_; refine WP.valG rfl rfl rfl rfl rfl rfl rfl (Yld.move rfl rfl) ?_; refine WP.valG rfl rfl rfl rfl rfl rfl rfl (Yld.gtr rfl rfl rfl false (decide_eq_false (by omega))) ?_
 refine WP.vl rfl (Yld.pickF rfl rfl rfl) ?_; refine WP.mv rfl rfl ?_; refine WP.valG rfl rfl rfl rfl rfl rfl rfl (Yld.move rfl rfl) ?_; refine WP.valG rfl rfl rfl rfl rfl rfl rfl (Yld.lss rfl rfl rfl false (decide_eq_false (by omega))) ?_; refine WP.vl rfl (Yld.pickF rfl rfl rfl) ?_; refine WP.mv rfl rfl ?_; refine WP.valG rfl rfl rfl rfl rfl rfl rfl (Yld.move rfl rfl) ?_; refine WP.valG rfl rfl rfl rfl rfl rfl rfl (Yld.gtr rfl rfl rfl false (decide_eq_false (by omega))) ?_; refine WP.vl rfl (Yld.pickF rfl rfl rfl) ?_; refine WP.nil ?_; refine WP.sub [(0, _), (1, _), (2, _), (3, _), (6, _), (8, _), (9, _), (10, _), (11, _), (48, _)] ?_ ⟨rfl, rfl, rfl, rfl, rfl, rfl, rfl, rfl, rfl, rfl, trivial⟩
 refine WP.next ?_; refine WP.condF rfl ?_; refine WP.skip (WP.next (WP.seq ?_))
 refine WP.region [0, 1, 2, 3, 4, 5, 6, 7, 8, 9, 10, 11, 12, 13, 14] rfl ?_; iterate 3 refine WP.mv rfl rfl ?_
 refine WP.loud rfl rfl ?_; refine Op.makeMap (t := 126) (k := 3) (e := 216) rfl rfl rfl (fun bi => ?_)
 refine WP.loud rfl rfl ?_; refine Op.makeMap (t := 126) (k := 3) (e := 216) rfl rfl rfl (fun ba => ?_)
 iterate 2 refine WP.vl rfl (Yld.lda (cs := [.int .i64 (hn : Int), .int .i64 (hp : Int)]) rfl ty_ag_80 rfl rfl) ?_
 refine WP.vl rfl (Yld.fieldAddr rfl ty_fd_80_0 rfl) ?_; refine WP.vl rfl (Yld.ld (v := .int .i64 (hn : Int)) rfl ty_sc_3 rfl rfl) ?_; refine WP.vl rfl (Yld.fieldAddr rfl ty_fd_80_1 rfl) ?_; refine WP.vl rfl (Yld.ld (v := .int .i64 (hp : Int)) rfl ty_sc_3 rfl rfl) ?_; refine WP.vl rfl (Yld.buildS (pl := [(0, 0, 1), (1, 1, 1), (2, 2, 1), (3, 3, 1), (4, 4, 1), (5, 5, 2), (6, 7, 2), (7, 9, 1), (8, 10, 1)]) rfl ty_zr_128 ty_zd_128 zK rfl (vs := [_, _, _, _, _, _, _, _, _]) rfl (segs := [(0, [_]), (1, [_]), (2, [_]), (3, [_]), (4, [_]), (5, [_, _]), (7, [_, _]), (9, [_]), (10, [_])]) rfl rfl (.one .zero (.one (.succ .zero) (.one (.succ (.succ .zero)) (.one (.succ (.succ (.succ .zero))) (.one (.succ (.succ (.succ (.succ .zero)))) (.seg (Nat.le_of_ble_eq_true rfl) rfl (.seg (Nat.le_of_ble_eq_true rfl) rfl (.one (.succ (.succ (.succ (.succ (.succ (.succ (.succ (.succ (.succ .zero))))))))) (.one (.succ (.succ (.succ (.succ (.succ (.succ (.succ (.succ (.succ (.succ .zero)))))))))) (seg_cast (lgV_new (g := g))))))))))))) ?_; refine WP.loud rfl rfl ?_; refine Op.box rfl rfl rfl rfl rfl (fun l => ?_)
 iterate 2 refine WP.mv rfl rfl ?_
 refine WP.nil ?_; refine WP.sub [(0, _), (1, _), (2, _), (3, _), (6, _), (8, _), (9, _), (10, _), (11, _), (48, _)] ?_ ⟨rfl, rfl, rfl, rfl, rfl, rfl, rfl, rfl, rfl, rfl, trivial⟩
 refine WP.next (WP.ret ?_)
 refine WP.fn .ret (.inr rfl) (res2 rfl rfl rfl) ((l, row 128 (lgV d s bi ba (⟨era, g, hn, hp, [], hn, hn, hp⟩ : Lg))) :: (bi, _) :: (ba, _) :: (s, row 122 (sgV d g)) :: Ld) (Imm.le_refl _) ?_; exact ⟨rfl, l, rfl, .mk (x := (⟨era, g, hn, hp, [], hn, hn, hp⟩ : Lg)) ⟨hg, hfb, hst, he, Nat.le_refl _, Nat.le_refl _, Nat.le_refl _, Nat.le_refl _, hn8, h2, Nat.le_of_eq (by show hp + blocksN (List.take _ []) = hp; simp [blocksN]), Nat.le_refl _⟩ (fun k hk => absurd hk (Nat.not_lt_zero _)) .new .new (by show IMap _ (min hn hn) []; rw [Nat.min_self]; exact IMap.new _ rfl) (AMap.new _ _ rfl) hd⟩


end Go.Hp
