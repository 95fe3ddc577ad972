import Derived.Test.YtgcbhbcmohcdpaaGreatChkG
set_option linter.unusedVariables false
set_option linter.unusedSimpArgs false
namespace Go.Hp
open Go Go.Proofs

theorem log_Append_ok {I : Imm} {l s d n : Nat} {x : Lg} {y : Dk} {L : Chunks} (hl : IsLog I l s d n x y L) {hn hp : Nat} {kind : Int} {b : List UInt8} {vb : Value} (hb : SlRd (Im I) vb b.length 1 (bytesV b)) (he : x.apE hn hp kind b = 0) : Spec Tryz.prog 92 [.pointer (some ⟨l, 0, none⟩), .agg #[.int .i64 (hn : Int), .int .i64 (hp : Int)], .int .i64 kind, vb] I L (fun v J L' => ∃ r : Rc, r.kind = kind ∧ r.b = b ∧ v = .tuple #[.agg #[.int .i64 ((x.push r).no : Int), .int .i64 ((x.push r).pl : Int)], .int .i64 0] ∧ IsLog J l s d n (x.push r) y L') :=
 (log_Append hl hb).mono (fun v J L' _ h => (h.resolve_left (fun h => h.1 he)).2)
def ck0 : Ck := ⟨1, 8, 0, 1, []⟩
theorem ck0_may : ck0.may := ⟨⟨by decide, by decide, by decide, by decide⟩, fun i h => absurd h (Nat.not_lt_zero _)⟩
theorem ck0_B : ckB ck0 = [1, 8, 0, 1, 0] := by
 have h1 : numB 1 = [1] := numB_lo (by decide)
 have h8 : numB 8 = [8] := numB_lo (by decide)
 have h0 : numB 0 = [0] := numB_lo (by decide)
 show (numB 1 ++ (numB 8 ++ (numB 0 ++ (numB 1 ++ numB 0)))) ++ [] = _
 rw [h1, h8, h0]; rfl
theorem ck0_enc {xs : List UInt8} {e : Int} (h : KEnc ck0 xs e) : xs = [1, 8, 0, 1, 0] ∧ e = 0 := by
 rcases h with ⟨h1, _⟩ | ⟨_, h1, _⟩ | ⟨_, _, h1, h2⟩
 ·exact absurd ck0_may h1
 ·rw [ck0_B] at h1; exact absurd h1 (by decide)
 ·rw [ck0_B] at h1; exact ⟨h1, h2⟩
theorem sup_on {y : Dk} {n : Nat} (h : On y n) (h1 : 1 ≤ n) {bs : List UInt8} (hb : bs.length = 64) : (y.write n 0 bs).2 = 0 ∧ On (y.write n 0 bs).1 n := by
 obtain ⟨y', e1, e2, _, _⟩ := puts_on 1 n y 0 bs h (by rw [hb]) (by omega)
 have e : y.write n 0 bs = (y', 0) := by
  unfold Dk.write
  rw [if_neg (by simp [h.off]), if_neg (by omega), if_neg (by omega), hb]
  exact e1
 rw [e]; exact ⟨rfl, e2⟩
theorem kp_wait {I : Imm} {k d s l t c : Nat} {nx vl : Value} {m1 m2 r1 r2 r4 h1 h2 s1 s2 s3 s4 s5 er : Int} {f1 f2 : Fn} {rs1 us1 rs2 us2 : Array Value} : Spec Tryz.prog 61 [.pointer (some ⟨k, 0, none⟩), .func f1 rs1 us1, .func f2 rs2 us2] I [(k, row 82 [.pointer (some ⟨d, 0, none⟩), .pointer (some ⟨s, 0, none⟩), .pointer (some ⟨l, 0, none⟩), .pointer (some ⟨t, 0, none⟩), .pointer (some ⟨c, 0, none⟩), .int .i64 1, .int .i64 0, .int .i64 0, .int .i64 1, .int .i64 0, nx, .int .i64 m1, .int .i64 m2, vl, .int .i64 r1, .int .i64 r2, .int .i64 0, .int .i64 r4, .slice none 0 0, .int .i64 h1, .int .i64 h2, .int .i64 s1, .int .i64 s2, .int .i64 s3, .int .i64 s4, .int .i64 s5, .int .i64 er])] (fun v J L => v = .bool false ∧ I = J ∧ ∃ b4 b5, L = [(k, row 82 [.pointer (some ⟨d, 0, none⟩), .pointer (some ⟨s, 0, none⟩), .pointer (some ⟨l, 0, none⟩), .pointer (some ⟨t, 0, none⟩), .pointer (some ⟨c, 0, none⟩), .int .i64 1, .int .i64 0, .int .i64 0, .int .i64 1, .int .i64 0, .func (.func 72) #[] #[.pointer (some ⟨b4, 0, none⟩), .pointer (some ⟨b5, 0, none⟩)], .int .i64 m1, .int .i64 m2, vl, .int .i64 r1, .int .i64 r2, .int .i64 0, .int .i64 r4, .slice none 0 0, .int .i64 h1, .int .i64 h2, .int .i64 s1, .int .i64 s2, .int .i64 s3, .int .i64 s4, .int .i64 s5, .int .i64 er]), (b4, row 26 [.func f1 rs1 us1]), (b5, row 26 [.func f2 rs2 us2])]) := by
 refine Spec.of Tryz.func61 rfl Tryz.ntmps61 (Nat.le_of_ble_eq_true rfl) (fun F => ?_)
 try simp only [nf]
 dsimp only [argsEnv]
 refine WP.seq ?_; refine WP.region [0, 1, 2] rfl ?_; refine WP.loud rfl rfl ?_; refine Op.box rfl rfl rfl rfl rfl (fun b4 => ?_)
 refine WP.loud rfl rfl ?_; refine Op.box rfl rfl rfl rfl rfl (fun b5 => ?_)
 refine WP.mv rfl rfl ?_; refine WP.nil (WP.next (WP.seq ?_))
 refine WP.region [0, 1, 2, 3] rfl ?_; refine WP.mv rfl rfl ?_; refine WP.vl rfl (Yld.makeFunc rfl (vs := []) (us := [_, _]) rfl rfl) ?_; refine WP.loud rfl rfl ?_; refine Op.cl kp_goes rfl Tryz.func46 rfl rfl rfl rfl ?_; rintro v J L1 - ⟨rfl, rfl, rfl⟩
 try simp only [nf]
 refine WP.mv rfl rfl ?_; refine WP.nil ?_; refine WP.sub [(0, _), (1, _), (2, _), (4, _), (5, _), (6, _)] ?_ ⟨rfl, rfl, rfl, rfl, rfl, rfl, trivial⟩
 refine WP.next (WP.ret ?_)
 refine WP.fn .ret (.inr rfl) (res1 rfl rfl) [(k, row 82 [.pointer (some ⟨d, 0, none⟩), .pointer (some ⟨s, 0, none⟩), .pointer (some ⟨l, 0, none⟩), .pointer (some ⟨t, 0, none⟩), .pointer (some ⟨c, 0, none⟩), .int .i64 1, .int .i64 0, .int .i64 0, .int .i64 1, .int .i64 0, .func (.func 72) #[] #[.pointer (some ⟨b4, 0, none⟩), .pointer (some ⟨b5, 0, none⟩)], .int .i64 m1, .int .i64 m2, vl, .int .i64 r1, .int .i64 r2, .int .i64 0, .int .i64 r4, .slice none 0 0, .int .i64 h1, .int .i64 h2, .int .i64 s1, .int .i64 s2, .int .i64 s3, .int .i64 s4, .int .i64 s5, .int .i64 er]), (b4, row 26 [.func f1 rs1 us1]), (b5, row 26 [.func f2 rs2 us2])] (Imm.le_refl _) ?_; exact ⟨rfl, rfl, b4, b5, rfl⟩

theorem kp_appends {I : Imm} {k d s l t c : Nat} {nx : Value} {m1 m2 s1 s2 s3 s4 s5 er : Int} {n : Nat} {x : Lg} {y : Dk} {Ll : Chunks} (hl : IsLog I l s d n x y Ll) {A : Option Addr} {ca hn hp : Nat} (ha : x.apE hn hp 5 [1, 8, 0, 1, 0] = 0) : Spec Tryz.prog 82 [.pointer (some ⟨k, 0, none⟩)] I ((k, row 82 [.pointer (some ⟨d, 0, none⟩), .pointer (some ⟨s, 0, none⟩), .pointer (some ⟨l, 0, none⟩), .pointer (some ⟨t, 0, none⟩), .pointer (some ⟨c, 0, none⟩), .int .i64 1, .int .i64 0, .int .i64 0, .int .i64 1, .int .i64 0, nx, .int .i64 m1, .int .i64 m2, .slice A 0 ca, .int .i64 1, .int .i64 8, .int .i64 0, .int .i64 1, .slice none 0 0, .int .i64 (hn : Int), .int .i64 (hp : Int), .int .i64 s1, .int .i64 s2, .int .i64 s3, .int .i64 s4, .int .i64 s5, .int .i64 er]) :: Ll) (fun v J L => v = .bool false ∧ ∃ r f b4 b5 b7 b1 L4, r.kind = 5 ∧ r.b = [1, 8, 0, 1, 0] ∧ L = (k, row 82 [.pointer (some ⟨d, 0, none⟩), .pointer (some ⟨s, 0, none⟩), .pointer (some ⟨l, 0, none⟩), .pointer (some ⟨t, 0, none⟩), .pointer (some ⟨c, 0, none⟩), .int .i64 1, .int .i64 0, .int .i64 0, .int .i64 1, .int .i64 0, .func (.func 72) #[] #[.pointer (some ⟨b4, 0, none⟩), .pointer (some ⟨b5, 0, none⟩)], .int .i64 m1, .int .i64 m2, .slice A 0 ca, .int .i64 1, .int .i64 8, .int .i64 0, .int .i64 1, .slice none 0 0, .int .i64 (hn : Int), .int .i64 (hp : Int), .int .i64 s1, .int .i64 s2, .int .i64 s3, .int .i64 s4, .int .i64 s5, .int .i64 er]) :: (b4, row 26 [.func (.func 94) #[.pointer (some ⟨f, 0, none⟩)] #[]]) :: (b5, row 26 [.func (.func 95) #[] #[.pointer (some ⟨b7, 0, none⟩), .pointer (some ⟨b1, 0, none⟩)]]) :: (b7, row 210 [.pointer (some ⟨f, 0, none⟩)]) :: (b1, row 38 [.pointer (some ⟨k, 0, none⟩)]) :: (f, row 225 (flV l f ⟨0, 0, 0, 0, 1⟩)) :: L4 ∧ IsLog J l s d n (x.push r) y L4) := by
 refine Spec.of Tryz.func82 rfl Tryz.ntmps82 (Nat.le_of_ble_eq_true rfl) (fun F => ?_)
 try simp only [nf]
 dsimp only [argsEnv]
 refine WP.seq ?_; refine WP.region [0, 1] rfl ?_; refine WP.loud rfl rfl ?_; refine Op.box rfl rfl rfl rfl rfl (fun b1 => ?_)
 refine WP.mv rfl rfl ?_; refine WP.nil (WP.next (WP.seq ?_))
 refine WP.region [0, 1, 2, 3, 4, 5, 6, 7, 8, 9] rfl ?_; refine WP.vl rfl (Yld.ld rfl ty_sc_38 rfl rfl) ?_; refine WP.vl rfl (Yld.nilCheck rfl rfl) ?_; refine WP.vl rfl (Yld.fieldAddr rfl ty_fd_82_9 rfl) ?_; refine WP.vl rfl (Yld.ldg (vs := kV ck0 (.slice none 0 0)) rfl ty_ag_24 rfl rfl rfl) ?_; refine WP.loud rfl rfl ?_; refine Op.cl (chk_Encode (c := ck0) SlRd.nil0) rfl Tryz.func5 rfl rfl rfl rfl ?_; rintro v J1 L1 hJ1 ⟨vb, xs, e, rfl, hen, ho⟩
 try simp only [nf]
 obtain ⟨rfl, rfl⟩ := ck0_enc hen
 obtain ⟨Ab, cb, rfl, _⟩ := ho.slice
 refine WP.mv rfl rfl ?_; iterate 2 refine WP.vl rfl (Yld.extract rfl rfl rfl) ?_
 iterate 2 refine WP.mv rfl rfl ?_
 refine WP.nil ?_; refine WP.sub [(0, _), (1, _), (2, _), (3, _), (4, _)] ?_ ⟨rfl, rfl, rfl, rfl, rfl, trivial⟩
 refine WP.shO ho (fun J2 hJ2 hb => ?_)
 have hl2 := hl.mono (Imm.le_trans hJ1 hJ2)
 refine WP.next (WP.seq (WP.seq ?_))
 refine WP.region [0, 1] rfl ?_; refine WP.mv rfl rfl ?_; refine WP.vl rfl (Yld.neq rfl rfl rfl false (decide_eq_false (by simp))) ?_; refine WP.nil ?_; refine WP.sub [(0, _), (1, _), (2, _), (3, _), (4, _), (17, _)] ?_ ⟨rfl, rfl, rfl, rfl, rfl, rfl, trivial⟩
 refine WP.next ?_; refine WP.condF rfl ?_; refine WP.skip (WP.next (WP.seq (WP.seq ?_)))
 refine WD.start Tryzmixed 14 (fun c_ o => (c_ = b1 ∧ o = row 38 [.pointer (some ⟨k, 0, none⟩)]) ∨ (c_ = k ∧ o = row 82 [.pointer (some ⟨d, 0, none⟩), .pointer (some ⟨s, 0, none⟩), .pointer (some ⟨l, 0, none⟩), .pointer (some ⟨t, 0, none⟩), .pointer (some ⟨c, 0, none⟩), .int .i64 1, .int .i64 0, .int .i64 0, .int .i64 1, .int .i64 0, nx, .int .i64 m1, .int .i64 m2, .slice A 0 ca, .int .i64 1, .int .i64 8, .int .i64 0, .int .i64 1, .slice none 0 0, .int .i64 (hn : Int), .int .i64 (hp : Int), .int .i64 s1, .int .i64 s2, .int .i64 s3, .int .i64 s4, .int .i64 s5, .int .i64 er])) (fun _ _ => False) (by rintro _ _ (⟨rfl, rfl⟩ | ⟨rfl, rfl⟩) <;> exact zM) (fun _ _ h => h.elim) 16 [false, false, false, false, false, false, false, false, false, false, false, false, false, false, false, false] rfl rfl ?_; refine WD.val1 (i := 0) rfl rfl rfl rfl zK rfl zK (Yld.load (v := .pointer (some ⟨k, 0, none⟩)) rfl ty_sc_38 rfl (.inl (.inl ⟨rfl, rfl⟩)) rfl) ?_; refine WD.vl (i := 1) rfl (Yld.nilCheck rfl rfl) ?_; refine WD.vl (i := 2) rfl (Yld.fieldAddr rfl ty_fd_82_2 rfl) ?_; refine WD.val1 (i := 3) rfl rfl rfl rfl zK rfl zK (Yld.load (v := .pointer (some ⟨l, 0, none⟩)) rfl ty_sc_42 rfl (.inl (.inr ⟨rfl, rfl⟩)) rfl) ?_; refine WD.val1 (i := 4) rfl rfl rfl rfl zK rfl zK (Yld.load (v := .pointer (some ⟨k, 0, none⟩)) rfl ty_sc_38 rfl (.inl (.inl ⟨rfl, rfl⟩)) rfl) ?_; refine WD.vl (i := 5) rfl (Yld.nilCheck rfl rfl) ?_; refine WD.vl (i := 6) rfl (Yld.fieldAddr rfl ty_fd_82_10 rfl) ?_; refine WD.val1 (i := 7) rfl rfl rfl rfl zK rfl zK (Yld.loadAgg (vs := [.int .i64 (hn : Int), .int .i64 (hp : Int)]) rfl ty_ag_80 rfl (.inl (.inr ⟨rfl, rfl⟩)) rfl rfl) ?_
 refine WD.vl (i := 8) rfl (Yld.move rfl rfl) ?_; refine WD.both (i := 9) (j := 13) zK rfl rfl ?_ ?_
 ·refine WP.oper rfl rfl ?_
  refine Op.cl (log_Append_ok (kind := 5) hl2 hb ha) rfl Tryz.func92 rfl rfl rfl rfl ?_; rintro v J4 L4 hJ4 ⟨r, hrk, hrb, rfl, hl3⟩
  try simp only [nf]
  refine WD.go (.inr (by rintro _ _ (⟨rfl, rfl⟩ | ⟨rfl, rfl⟩) <;> exact zM)) (fun _ _ h => h.elim) ?_; refine WD.vl (i := 10) rfl (Yld.move rfl rfl) ?_; refine WD.vl (i := 11) rfl (Yld.extract rfl rfl rfl) ?_; refine WD.vl (i := 12) rfl (Yld.extract rfl rfl rfl) ?_; refine WD.loud (i := 13) zK rfl rfl rfl ?_; refine Op.alloc rfl rfl rfl ty_zr_80 (fun b6 => ?_)
  refine WD.go (.inr (by rintro _ _ (⟨rfl, rfl⟩ | ⟨rfl, rfl⟩) <;> exact zM)) (fun _ _ h => h.elim) ?_; refine WD.loud (i := 14) zK rfl rfl rfl ?_; refine Op.sA rfl rfl ty_sz_80 rfl rfl rfl rfl rfl ?_; refine WD.go (.inl rfl) (fun _ _ h => h.elim) ?_; refine WD.vl (i := 15) rfl (Yld.assign rfl rfl) ?_; refine WD.done zK ?_; refine WP.sub [(0, _), (1, _), (2, _), (3, _), (4, _), (6, _), (17, _)] ?_ ⟨rfl, rfl, rfl, rfl, rfl, rfl, rfl, trivial⟩
  refine WP.next (WP.seq ?_)
  refine WP.region [0] rfl ?_; refine WP.mv rfl rfl ?_; refine WP.nil (WP.next (WP.block (WP.seq ?_)))
  refine WP.region [0, 1] rfl ?_; refine WP.vl rfl (Yld.eql rfl rfl rfl true (decide_eq_true (by rfl))) ?_; refine WP.mv rfl rfl ?_; refine WP.nil ?_; refine WP.sub [(0, _), (1, _), (2, _), (3, _), (4, _), (6, _), (17, _), (34, _), (38, _)] ?_ ⟨rfl, rfl, rfl, rfl, rfl, rfl, rfl, rfl, rfl, trivial⟩
  refine WP.next ?_; refine WP.condT rfl ?_; refine WP.skip (WP.leave (WP.next (WP.seq ?_)))
  refine WP.region [0, 1, 2, 3, 4, 5, 6] rfl ?_; refine WP.vl rfl (Yld.ld rfl ty_sc_38 rfl rfl) ?_; refine WP.vl rfl (Yld.nilCheck rfl rfl) ?_; refine WP.vl rfl (Yld.fieldAddr rfl ty_fd_82_2 rfl) ?_; refine WP.vl rfl (Yld.ld rfl ty_sc_42 rfl rfl) ?_; refine WP.loud rfl rfl ?_; refine Op.cl (log_NewFlush (l := l)) rfl Tryz.func93 rfl rfl rfl rfl ?_; rintro v J L1 - ⟨rfl, f, rfl, rfl⟩
  try simp only [nf]
  refine WP.loud rfl rfl ?_; refine Op.alloc rfl rfl rfl ty_zr_210 (fun b7 => ?_)
  refine WP.loud rfl rfl ?_; refine Op.s1 rfl rfl ty_sz_210 rfl rfl rfl ?_; refine WP.nil ?_; refine WP.sub [(0, _), (1, _), (2, _), (3, _), (4, _), (6, _), (7, _), (17, _), (34, _), (38, _)] ?_ ⟨rfl, rfl, rfl, rfl, rfl, rfl, rfl, rfl, rfl, rfl, trivial⟩
  refine WP.next (WP.seq ?_)
  refine WP.region [0, 1, 2, 3, 4, 5] rfl ?_; refine WP.vl rfl (Yld.ld rfl ty_sc_38 rfl rfl) ?_; refine WP.vl rfl (Yld.ld rfl ty_sc_210 rfl rfl) ?_; refine WP.vl rfl (Yld.makeFunc rfl (vs := [_]) (us := []) rfl rfl) ?_; refine WP.vl rfl (Yld.makeFunc rfl (vs := []) (us := [_, _]) rfl rfl) ?_; refine WP.loud rfl rfl ?_; refine Op.cl kp_wait rfl Tryz.func61 rfl rfl rfl rfl ?_; rintro v J L1 - ⟨rfl, rfl, b4, b5, rfl⟩
  try simp only [nf]
  refine WP.mv rfl rfl ?_; refine WP.nil ?_; refine WP.sub [(0, _), (1, _), (2, _), (3, _), (4, _), (6, _), (7, _), (17, _), (34, _), (38, _)] ?_ ⟨rfl, rfl, rfl, rfl, rfl, rfl, rfl, rfl, rfl, rfl, trivial⟩
  refine WP.next (WP.ret ?_)
  refine WP.fn .ret (.inr rfl) (res1 rfl rfl) ((k, row 82 [.pointer (some ⟨d, 0, none⟩), .pointer (some ⟨s, 0, none⟩), .pointer (some ⟨l, 0, none⟩), .pointer (some ⟨t, 0, none⟩), .pointer (some ⟨c, 0, none⟩), .int .i64 1, .int .i64 0, .int .i64 0, .int .i64 1, .int .i64 0, .func (.func 72) #[] #[.pointer (some ⟨b4, 0, none⟩), .pointer (some ⟨b5, 0, none⟩)], .int .i64 m1, .int .i64 m2, .slice A 0 ca, .int .i64 1, .int .i64 8, .int .i64 0, .int .i64 1, .slice none 0 0, .int .i64 (hn : Int), .int .i64 (hp : Int), .int .i64 s1, .int .i64 s2, .int .i64 s3, .int .i64 s4, .int .i64 s5, .int .i64 er]) :: (b4, row 26 [.func (.func 94) #[.pointer (some ⟨f, 0, none⟩)] #[]]) :: (b5, row 26 [.func (.func 95) #[] #[.pointer (some ⟨b7, 0, none⟩), .pointer (some ⟨b1, 0, none⟩)]]) :: (b7, row 210 [.pointer (some ⟨f, 0, none⟩)]) :: (b1, row 38 [.pointer (some ⟨k, 0, none⟩)]) :: (f, row 225 (flV l f ⟨0, 0, 0, 0, 1⟩)) :: L4) (Imm.le_trans hJ1 (Imm.le_trans hJ2 hJ4)) ?_; exact ⟨rfl, r, f, b4, b5, b7, b1, L4, hrk, hrb, rfl, hl3⟩
 ·refine WP.oper rfl rfl ?_
  refine Op.alloc rfl rfl rfl ty_zr_80 (fun b6 => ?_)
  refine WD.go (.inr (by rintro _ _ (⟨rfl, rfl⟩ | ⟨rfl, rfl⟩) <;> exact zM)) (fun _ _ h => h.elim) ?_; refine WD.loud (i := 9) zK rfl rfl rfl ?_; refine Op.cl (log_Append_ok (kind := 5) hl2 hb ha) rfl Tryz.func92 rfl rfl rfl rfl ?_; rintro v J4 L4 hJ4 ⟨r, hrk, hrb, rfl, hl3⟩
  try simp only [nf]
  refine WD.go (.inr (by rintro _ _ (⟨rfl, rfl⟩ | ⟨rfl, rfl⟩) <;> exact zM)) (fun _ _ h => h.elim) ?_; refine WD.vl (i := 10) rfl (Yld.move rfl rfl) ?_; refine WD.vl (i := 11) rfl (Yld.extract rfl rfl rfl) ?_; refine WD.vl (i := 12) rfl (Yld.extract rfl rfl rfl) ?_; refine WD.loud (i := 14) zK rfl rfl rfl ?_; refine Op.sA rfl rfl ty_sz_80 rfl rfl rfl rfl rfl ?_; refine WD.go (.inl rfl) (fun _ _ h => h.elim) ?_; refine WD.vl (i := 15) rfl (Yld.assign rfl rfl) ?_; refine WD.done zK ?_; refine WP.sub [(0, _), (1, _), (2, _), (3, _), (4, _), (6, _), (17, _)] ?_ ⟨rfl, rfl, rfl, rfl, rfl, rfl, rfl, trivial⟩
  refine WP.next (WP.seq ?_)
  refine WP.region [0] rfl ?_; refine WP.mv rfl rfl ?_; refine WP.nil (WP.next (WP.block (WP.seq ?_)))
  refine WP.region [0, 1] rfl ?_; refine WP.vl rfl (Yld.eql rfl rfl rfl true (decide_eq_true (by rfl))) ?_; refine WP.mv rfl rfl ?_; refine WP.nil ?_; refine WP.sub [(0, _), (1, _), (2, _), (3, _), (4, _), (6, _), (17, _), (34, _), (38, _)] ?_ ⟨rfl, rfl, rfl, rfl, rfl, rfl, rfl, rfl, rfl, trivial⟩
  refine WP.next ?_; refine WP.condT rfl ?_; refine WP.skip (WP.leave (WP.next (WP.seq ?_)))
  refine WP.region [0, 1, 2, 3, 4, 5, 6] rfl ?_; refine WP.vl rfl (Yld.ld rfl ty_sc_38 rfl rfl) ?_; refine WP.vl rfl (Yld.nilCheck rfl rfl) ?_; refine WP.vl rfl (Yld.fieldAddr rfl ty_fd_82_2 rfl) ?_; refine WP.vl rfl (Yld.ld rfl ty_sc_42 rfl rfl) ?_; refine WP.loud rfl rfl ?_; refine Op.cl (log_NewFlush (l := l)) rfl Tryz.func93 rfl rfl rfl rfl ?_; rintro v J L1 - ⟨rfl, f, rfl, rfl⟩
  try simp only [nf]
  refine WP.loud rfl rfl ?_; refine Op.alloc rfl rfl rfl ty_zr_210 (fun b7 => ?_)
  refine WP.loud rfl rfl ?_; refine Op.s1 rfl rfl ty_sz_210 rfl rfl rfl ?_; refine WP.nil ?_; refine WP.sub [(0, _), (1, _), (2, _), (3, _), (4, _), (6, _), (7, _), (17, _), (34, _), (38, _)] ?_ ⟨rfl, rfl, rfl, rfl, rfl, rfl, rfl, rfl, rfl, rfl, trivial⟩
  refine WP.next (WP.seq ?_)
  refine WP.region [0, 1, 2, 3, 4, 5] rfl ?_; refine WP.vl rfl (Yld.ld rfl ty_sc_38 rfl rfl) ?_; refine WP.vl rfl (Yld.ld rfl ty_sc_210 rfl rfl) ?_; refine WP.vl rfl (Yld.makeFunc rfl (vs := [_]) (us := []) rfl rfl) ?_; refine WP.vl rfl (Yld.makeFunc rfl (vs := []) (us := [_, _]) rfl rfl) ?_; refine WP.loud rfl rfl ?_; refine Op.cl kp_wait rfl Tryz.func61 rfl rfl rfl rfl ?_; rintro v J L1 - ⟨rfl, rfl, b4, b5, rfl⟩
  try simp only [nf]
  refine WP.mv rfl rfl ?_; refine WP.nil ?_; refine WP.sub [(0, _), (1, _), (2, _), (3, _), (4, _), (6, _), (7, _), (17, _), (34, _), (38, _)] ?_ ⟨rfl, rfl, rfl, rfl, rfl, rfl, rfl, rfl, rfl, rfl, trivial⟩
  refine WP.next (WP.ret ?_)
  refine WP.fn .ret (.inr rfl) (res1 rfl rfl) ((k, row 82 [.pointer (some ⟨d, 0, none⟩), .pointer (some ⟨s, 0, none⟩), .pointer (some ⟨l, 0, none⟩), .pointer (some ⟨t, 0, none⟩), .pointer (some ⟨c, 0, none⟩), .int .i64 1, .int .i64 0, .int .i64 0, .int .i64 1, .int .i64 0, .func (.func 72) #[] #[.pointer (some ⟨b4, 0, none⟩), .pointer (some ⟨b5, 0, none⟩)], .int .i64 m1, .int .i64 m2, .slice A 0 ca, .int .i64 1, .int .i64 8, .int .i64 0, .int .i64 1, .slice none 0 0, .int .i64 (hn : Int), .int .i64 (hp : Int), .int .i64 s1, .int .i64 s2, .int .i64 s3, .int .i64 s4, .int .i64 s5, .int .i64 er]) :: (b4, row 26 [.func (.func 94) #[.pointer (some ⟨f, 0, none⟩)] #[]]) :: (b5, row 26 [.func (.func 95) #[] #[.pointer (some ⟨b7, 0, none⟩), .pointer (some ⟨b1, 0, none⟩)]]) :: (b7, row 210 [.pointer (some ⟨f, 0, none⟩)]) :: (b1, row 38 [.pointer (some ⟨k, 0, none⟩)]) :: (f, row 225 (flV l f ⟨0, 0, 0, 0, 1⟩)) :: L4) (Imm.le_trans hJ1 (Imm.le_trans hJ2 hJ4)) ?_; exact ⟨rfl, r, f, b4, b5, b7, b1, L4, hrk, hrb, rfl, hl3⟩

theorem kp_app1 {I : Imm} {k d s l t c : Nat} {nx vl : Value} {m1 m2 r1 r2 r4 h1 h2 s1 s2 s3 s4 s5 er : Int} {f b1 b7 : Nat} {z : Fl} (he : z.e = 0) : Spec Tryz.prog 95 [.pointer (some ⟨b7, 0, none⟩), .pointer (some ⟨b1, 0, none⟩)] I [(b7, row 210 [.pointer (some ⟨f, 0, none⟩)]), (b1, row 38 [.pointer (some ⟨k, 0, none⟩)]), (k, row 82 [.pointer (some ⟨d, 0, none⟩), .pointer (some ⟨s, 0, none⟩), .pointer (some ⟨l, 0, none⟩), .pointer (some ⟨t, 0, none⟩), .pointer (some ⟨c, 0, none⟩), .int .i64 1, .int .i64 0, .int .i64 0, .int .i64 1, .int .i64 0, nx, .int .i64 m1, .int .i64 m2, vl, .int .i64 r1, .int .i64 r2, .int .i64 0, .int .i64 r4, .slice none 0 0, .int .i64 h1, .int .i64 h2, .int .i64 s1, .int .i64 s2, .int .i64 s3, .int .i64 s4, .int .i64 s5, .int .i64 er]), (f, row 225 (flV l f z))] (fun v J L => v = .bool false ∧ I = J ∧ L = [(k, row 82 [.pointer (some ⟨d, 0, none⟩), .pointer (some ⟨s, 0, none⟩), .pointer (some ⟨l, 0, none⟩), .pointer (some ⟨t, 0, none⟩), .pointer (some ⟨c, 0, none⟩), .int .i64 1, .int .i64 0, .int .i64 0, .int .i64 1, .int .i64 0, .func (.func 97) #[.pointer (some ⟨k, 0, none⟩)] #[], .int .i64 m1, .int .i64 m2, vl, .int .i64 r1, .int .i64 r2, .int .i64 0, .int .i64 r4, .slice none 0 0, .int .i64 h1, .int .i64 h2, .int .i64 s1, .int .i64 s2, .int .i64 s3, .int .i64 s4, .int .i64 s5, .int .i64 er])]) := by
 refine Spec.of Tryz.func95 rfl Tryz.ntmps95 (Nat.le_of_ble_eq_true rfl) (fun F => ?_)
 try simp only [nf]
 dsimp only [argsEnv]
 refine WP.seq ?_; refine WP.region [0] rfl ?_; refine WP.mv rfl rfl ?_; refine WP.nil (WP.next (WP.seq (WP.seq ?_)))
 refine WP.region [0, 1, 2, 3, 4, 5, 6] rfl ?_; refine WP.vl rfl (Yld.ld (v := .pointer (some ⟨f, 0, none⟩)) rfl ty_sc_210 rfl rfl) ?_; refine WP.loud rfl rfl ?_; refine Op.cl (flush_Upto (l := l) (z := z)) rfl Tryz.func96 rfl rfl rfl rfl ?_; rintro v J L1 - ⟨rfl, rfl, rfl⟩
 try simp only [nf]
 rw [he]
 refine WP.mv rfl rfl ?_; iterate 2 refine WP.vl rfl (Yld.extract rfl rfl rfl) ?_
 iterate 2 refine WP.mv rfl rfl ?_
 refine WP.nil ?_; refine WP.sub [(0, _), (1, _), (2, _), (4, _)] ?_ ⟨rfl, rfl, rfl, rfl, trivial⟩
 refine WP.next (WP.seq ?_)
 refine WP.region [0, 1] rfl ?_; refine WP.mv rfl rfl ?_; refine WP.vl rfl (Yld.neq rfl rfl rfl false (decide_eq_false (by simp))) ?_; refine WP.nil ?_; refine WP.sub [(0, _), (1, _), (2, _), (4, _), (11, _)] ?_ ⟨rfl, rfl, rfl, rfl, rfl, trivial⟩
 refine WP.next ?_; refine WP.condF rfl ?_; refine WP.skip (WP.next (WP.seq ?_))
 refine WP.region [0, 1, 2, 3, 4] rfl ?_; iterate 2 refine WP.vl rfl (Yld.ld (v := .pointer (some ⟨k, 0, none⟩)) rfl ty_sc_38 rfl rfl) ?_
 refine WP.vl rfl (Yld.makeFunc rfl (vs := [_]) (us := []) rfl rfl) ?_; refine WP.loud rfl rfl ?_; refine Op.cl kp_goes rfl Tryz.func46 rfl rfl rfl rfl ?_; rintro v J L1 - ⟨rfl, rfl, rfl⟩
 try simp only [nf]
 refine WP.mv rfl rfl ?_; refine WP.nil ?_; refine WP.sub [(0, _), (1, _), (2, _), (4, _), (11, _)] ?_ ⟨rfl, rfl, rfl, rfl, rfl, trivial⟩
 refine WP.next (WP.ret ?_)
 refine WP.fn .ret (.inr rfl) (res1 rfl rfl) [(k, row 82 [.pointer (some ⟨d, 0, none⟩), .pointer (some ⟨s, 0, none⟩), .pointer (some ⟨l, 0, none⟩), .pointer (some ⟨t, 0, none⟩), .pointer (some ⟨c, 0, none⟩), .int .i64 1, .int .i64 0, .int .i64 0, .int .i64 1, .int .i64 0, .func (.func 97) #[.pointer (some ⟨k, 0, none⟩)] #[], .int .i64 m1, .int .i64 m2, vl, .int .i64 r1, .int .i64 r2, .int .i64 0, .int .i64 r4, .slice none 0 0, .int .i64 h1, .int .i64 h2, .int .i64 s1, .int .i64 s2, .int .i64 s3, .int .i64 s4, .int .i64 s5, .int .i64 er])] (Imm.le_refl _) ?_; exact ⟨rfl, rfl, rfl⟩

theorem kp_wait_f {I : Imm} {k d s l t c : Nat} {nx vl : Value} {m1 m2 r1 r2 r4 h1 h2 s1 s2 s3 s4 s5 er : Int} {n : Nat} {x : Lg} {y : Dk} {Ll : Chunks} (hl : IsLog I l s d n x y Ll) {f b1 b4 b5 b7 : Nat} {z : Fl} (hz : z.ok x) (hwb : y.waits.length + 8192 ≤ 1954687338000) (hf : (fstep n x y z).1 = false) : Spec Tryz.prog 72 [.pointer (some ⟨b4, 0, none⟩), .pointer (some ⟨b5, 0, none⟩)] I ((k, row 82 [.pointer (some ⟨d, 0, none⟩), .pointer (some ⟨s, 0, none⟩), .pointer (some ⟨l, 0, none⟩), .pointer (some ⟨t, 0, none⟩), .pointer (some ⟨c, 0, none⟩), .int .i64 1, .int .i64 0, .int .i64 0, .int .i64 1, .int .i64 0, nx, .int .i64 m1, .int .i64 m2, vl, .int .i64 r1, .int .i64 r2, .int .i64 0, .int .i64 r4, .slice none 0 0, .int .i64 h1, .int .i64 h2, .int .i64 s1, .int .i64 s2, .int .i64 s3, .int .i64 s4, .int .i64 s5, .int .i64 er]) :: (b4, row 26 [.func (.func 94) #[.pointer (some ⟨f, 0, none⟩)] #[]]) :: (b5, row 26 [.func (.func 95) #[] #[.pointer (some ⟨b7, 0, none⟩), .pointer (some ⟨b1, 0, none⟩)]]) :: (b7, row 210 [.pointer (some ⟨f, 0, none⟩)]) :: (b1, row 38 [.pointer (some ⟨k, 0, none⟩)]) :: (f, row 225 (flV l f z)) :: Ll) (fun v J L => v = .bool false ∧ ∃ L2, L = (k, row 82 [.pointer (some ⟨d, 0, none⟩), .pointer (some ⟨s, 0, none⟩), .pointer (some ⟨l, 0, none⟩), .pointer (some ⟨t, 0, none⟩), .pointer (some ⟨c, 0, none⟩), .int .i64 1, .int .i64 0, .int .i64 0, .int .i64 1, .int .i64 0, nx, .int .i64 m1, .int .i64 m2, vl, .int .i64 r1, .int .i64 r2, .int .i64 0, .int .i64 r4, .slice none 0 0, .int .i64 h1, .int .i64 h2, .int .i64 s1, .int .i64 s2, .int .i64 s3, .int .i64 s4, .int .i64 s5, .int .i64 er]) :: (b4, row 26 [.func (.func 94) #[.pointer (some ⟨f, 0, none⟩)] #[]]) :: (b5, row 26 [.func (.func 95) #[] #[.pointer (some ⟨b7, 0, none⟩), .pointer (some ⟨b1, 0, none⟩)]]) :: (b7, row 210 [.pointer (some ⟨f, 0, none⟩)]) :: (b1, row 38 [.pointer (some ⟨k, 0, none⟩)]) :: (f, row 225 (flV l f (fstep n x y z).2.2.2)) :: L2 ∧ IsLog J l s d n (fstep n x y z).2.1 (fstep n x y z).2.2.1 L2) := by
 refine Spec.of Tryz.func72 rfl Tryz.ntmps72 (Nat.le_of_ble_eq_true rfl) (fun F => ?_)
 try simp only [nf]
 dsimp only [argsEnv]
 refine WP.seq ?_; refine WP.region [0] rfl ?_; refine WP.mv rfl rfl ?_; refine WP.nil (WP.next (WP.seq ?_))
 refine WP.region [0, 1, 2, 3, 4, 5, 6] rfl ?_; refine WP.vl rfl (Yld.ld (v := .func (.func 94) #[.pointer (some ⟨f, 0, none⟩)] #[]) rfl ty_sc_26 rfl rfl) ?_; refine WP.loud rfl rfl ?_; refine Op.callE (flush_Step hl hz hwb) (Enters.bound rfl Tryz.func94 rfl (rs := [.pointer (some ⟨f, 0, none⟩)]) (us := []) rfl (vs := []) rfl) rfl rfl zT ?_; rintro v J2 L1 hJ2 ⟨rfl, L2, rfl, hl2⟩
 try simp only [nf]
 rw [hf]
 refine WP.mv rfl rfl ?_; iterate 2 refine WP.passG rfl rfl rfl rfl rfl rfl rfl rfl ?_
 refine WP.vl rfl (Yld.pickF rfl rfl rfl) ?_; refine WP.mv rfl rfl ?_; refine WP.nil ?_; refine WP.sub [(0, _), (1, _), (2, _)] ?_ ⟨rfl, rfl, rfl, trivial⟩
 refine WP.next (WP.ret ?_)
 refine WP.fn .ret (.inr rfl) (res1 rfl rfl) ((k, row 82 [.pointer (some ⟨d, 0, none⟩), .pointer (some ⟨s, 0, none⟩), .pointer (some ⟨l, 0, none⟩), .pointer (some ⟨t, 0, none⟩), .pointer (some ⟨c, 0, none⟩), .int .i64 1, .int .i64 0, .int .i64 0, .int .i64 1, .int .i64 0, nx, .int .i64 m1, .int .i64 m2, vl, .int .i64 r1, .int .i64 r2, .int .i64 0, .int .i64 r4, .slice none 0 0, .int .i64 h1, .int .i64 h2, .int .i64 s1, .int .i64 s2, .int .i64 s3, .int .i64 s4, .int .i64 s5, .int .i64 er]) :: (b4, row 26 [.func (.func 94) #[.pointer (some ⟨f, 0, none⟩)] #[]]) :: (b5, row 26 [.func (.func 95) #[] #[.pointer (some ⟨b7, 0, none⟩), .pointer (some ⟨b1, 0, none⟩)]]) :: (b7, row 210 [.pointer (some ⟨f, 0, none⟩)]) :: (b1, row 38 [.pointer (some ⟨k, 0, none⟩)]) :: (f, row 225 (flV l f (fstep n x y z).2.2.2)) :: L2) hJ2 ?_; exact ⟨rfl, L2, rfl, hl2⟩

theorem kp_wait_t {I : Imm} {k d s l t c : Nat} {nx vl : Value} {m1 m2 r1 r2 r4 h1 h2 s1 s2 s3 s4 s5 er : Int} {n : Nat} {x : Lg} {y : Dk} {Ll : Chunks} (hl : IsLog I l s d n x y Ll) {f b1 b4 b5 b7 : Nat} {z : Fl} (hz : z.ok x) (hwb : y.waits.length + 8192 ≤ 1954687338000) (hf : (fstep n x y z).1 = true) (he : (fstep n x y z).2.2.2.e = 0) : Spec Tryz.prog 72 [.pointer (some ⟨b4, 0, none⟩), .pointer (some ⟨b5, 0, none⟩)] I ((k, row 82 [.pointer (some ⟨d, 0, none⟩), .pointer (some ⟨s, 0, none⟩), .pointer (some ⟨l, 0, none⟩), .pointer (some ⟨t, 0, none⟩), .pointer (some ⟨c, 0, none⟩), .int .i64 1, .int .i64 0, .int .i64 0, .int .i64 1, .int .i64 0, nx, .int .i64 m1, .int .i64 m2, vl, .int .i64 r1, .int .i64 r2, .int .i64 0, .int .i64 r4, .slice none 0 0, .int .i64 h1, .int .i64 h2, .int .i64 s1, .int .i64 s2, .int .i64 s3, .int .i64 s4, .int .i64 s5, .int .i64 er]) :: (b4, row 26 [.func (.func 94) #[.pointer (some ⟨f, 0, none⟩)] #[]]) :: (b5, row 26 [.func (.func 95) #[] #[.pointer (some ⟨b7, 0, none⟩), .pointer (some ⟨b1, 0, none⟩)]]) :: (b7, row 210 [.pointer (some ⟨f, 0, none⟩)]) :: (b1, row 38 [.pointer (some ⟨k, 0, none⟩)]) :: (f, row 225 (flV l f z)) :: Ll) (fun v J L => v = .bool false ∧ ∃ L2, L = (k, row 82 [.pointer (some ⟨d, 0, none⟩), .pointer (some ⟨s, 0, none⟩), .pointer (some ⟨l, 0, none⟩), .pointer (some ⟨t, 0, none⟩), .pointer (some ⟨c, 0, none⟩), .int .i64 1, .int .i64 0, .int .i64 0, .int .i64 1, .int .i64 0, .func (.func 97) #[.pointer (some ⟨k, 0, none⟩)] #[], .int .i64 m1, .int .i64 m2, vl, .int .i64 r1, .int .i64 r2, .int .i64 0, .int .i64 r4, .slice none 0 0, .int .i64 h1, .int .i64 h2, .int .i64 s1, .int .i64 s2, .int .i64 s3, .int .i64 s4, .int .i64 s5, .int .i64 er]) :: L2 ∧ IsLog J l s d n (fstep n x y z).2.1 (fstep n x y z).2.2.1 L2) := by
 refine Spec.of Tryz.func72 rfl Tryz.ntmps72 (Nat.le_of_ble_eq_true rfl) (fun F => ?_)
 try simp only [nf]
 dsimp only [argsEnv]
 refine WP.seq ?_; refine WP.region [0] rfl ?_; refine WP.mv rfl rfl ?_; refine WP.nil (WP.next (WP.seq ?_))
 refine WP.region [0, 1, 2, 3, 4, 5, 6] rfl ?_; refine WP.vl rfl (Yld.ld (v := .func (.func 94) #[.pointer (some ⟨f, 0, none⟩)] #[]) rfl ty_sc_26 rfl rfl) ?_; refine WP.loud rfl rfl ?_; refine Op.callE (flush_Step hl hz hwb) (Enters.bound rfl Tryz.func94 rfl (rs := [.pointer (some ⟨f, 0, none⟩)]) (us := []) rfl (vs := []) rfl) rfl rfl zT ?_; rintro v J2 L1 hJ2 ⟨rfl, L2, rfl, hl2⟩
 try simp only [nf]
 rw [hf]
 refine WP.mv rfl rfl ?_; refine WP.valG rfl rfl rfl rfl rfl rfl rfl (Yld.ld (v := .func (.func 95) #[] #[.pointer (some ⟨b7, 0, none⟩), .pointer (some ⟨b1, 0, none⟩)]) rfl ty_sc_26 rfl rfl) ?_; refine WP.loudG rfl rfl rfl rfl rfl ?_; refine Op.callE (kp_app1 (l := l) (f := f) he) (Enters.bound rfl Tryz.func95 rfl (rs := []) (us := [.pointer (some ⟨b7, 0, none⟩), .pointer (some ⟨b1, 0, none⟩)]) rfl (vs := []) rfl) rfl rfl zT ?_; rintro v J3 L3 hJ3 ⟨rfl, rfl, rfl⟩
 try simp only [nf]
 refine WP.vl rfl (Yld.pickT rfl rfl rfl) ?_; refine WP.mv rfl rfl ?_; refine WP.nil ?_; refine WP.sub [(0, _), (1, _), (2, _)] ?_ ⟨rfl, rfl, rfl, trivial⟩
 refine WP.next (WP.ret ?_)
 refine WP.fn .ret (.inr rfl) (res1 rfl rfl) ((k, row 82 [.pointer (some ⟨d, 0, none⟩), .pointer (some ⟨s, 0, none⟩), .pointer (some ⟨l, 0, none⟩), .pointer (some ⟨t, 0, none⟩), .pointer (some ⟨c, 0, none⟩), .int .i64 1, .int .i64 0, .int .i64 0, .int .i64 1, .int .i64 0, .func (.func 97) #[.pointer (some ⟨k, 0, none⟩)] #[], .int .i64 m1, .int .i64 m2, vl, .int .i64 r1, .int .i64 r2, .int .i64 0, .int .i64 r4, .slice none 0 0, .int .i64 h1, .int .i64 h2, .int .i64 s1, .int .i64 s2, .int .i64 s3, .int .i64 s4, .int .i64 s5, .int .i64 er]) :: L2) hJ2 ?_; exact ⟨rfl, L2, rfl, hl2⟩


end Go.Hp
