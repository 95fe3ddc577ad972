import Derived.Test.YtcnfcdlapbjgeaaLogQ
set_option linter.unusedVariables false
set_option linter.unusedSimpArgs false
namespace Go.Hp
open Go Go.Proofs

theorem Tidy.wait {n P : Nat} {x : Lg} {y : Dk} (h : Tidy n P x y) : y.waits.length + 8192 ≤ 1954687338000 := by
 have h1 := h.wl; have h2 := h.g.ok.pb; have h3 := h.g.f0; have h4 := h.g.ok.s2; have h5 := h.g.ok.g.sn; have h6 := h.g.n8
 omega
theorem Tidy.mu {n P : Nat} {x : Lg} {y : Dk} (h : Tidy n P x y) (z : Fl) : flmu x z ≤ x.g.slots * 8 + 3 := by
 have h2 := Lg.p0_sent h.g.ok; have h3 := h.g.f0
 unfold flmu Lg.top
 split <;> omega
theorem Fl.st.new {n : Nat} {x : Lg} (ok : x.ok n) {N P : Nat} (h : N ≤ x.no) : (⟨0, 0, 0, 0, 1⟩ : Fl).ok x ∧ (⟨0, 0, 0, 0, 1⟩ : Fl).st N P x :=
 ⟨⟨fun h => (by rcases h with h | h <;> cases h), fun h => by cases h⟩, ⟨Nat.zero_le _, h, fun h => (by cases h), fun h => (by cases h), fun h => by cases h⟩⟩
structure RFX where
 i : Nat
 P : Nat
 x : Lg
 y : Dk
 z : Fl
 J : Imm
 L : Chunks
structure RFX.ok (I : Imm) (l s d n N P0 : Nat) (x0 : Lg) (t : RFX) : Prop where
 hJ : I.le t.J
 hl : IsLog t.J l s d n t.x t.y t.L
 td : Tidy n t.P t.x t.y
 zo : t.z.ok t.x
 st : t.z.st N t.P t.x
 nx : Nx x0 t.x
 hP : P0 ≤ t.P
 mu : flmu t.x t.z + t.i ≤ 999
structure RRX where
 i : Nat
 J : Imm
 Lr : Chunks
 L : Chunks
theorem log_runFlush {I : Imm} {l s d n : Nat} {x : Lg} {y : Dk} {L : Chunks} (hl : IsLog I l s d n x y L) {f N P : Nat} {z : Fl} (hT : Tidy n P x y) (hz : z.ok x) (hs : z.st N P x) (hmu : flmu x z + 0 ≤ 999) : Spec Try.prog 20 [.pointer (some ⟨f, 0, none⟩)] I ((f, row 97 (flV l f z)) :: L) (fun v J L' => ∃ (P' : Nat) (x' : Lg) (y' : Dk) (z' : Fl) (L2 : Chunks), L' = (f, row 97 (flV l f z')) :: L2 ∧ IsLog J l s d n x' y' L2 ∧ Tidy n P' x' y' ∧ z'.ok x' ∧ z'.st N P' x' ∧ z'.at_ = 3 ∧ Nx x x' ∧ P ≤ P') := by
 refine Spec.of Try.func20 rfl Try.ntmps20 (Nat.le_of_ble_eq_true rfl) (fun F => ?_)
 try simp only [nf]
 dsimp only [argsEnv]
 refine WP.seq ?_
 refine WP.region [0] rfl ?_
 refine WP.mv rfl rfl ?_
 refine WP.nil ?_
 refine WP.next ?_
 refine WP.block ?_
 refine WP.loop (X := RFX) (fun t : RFX => [(0, .pointer (some ⟨f, 0, none⟩)), (2, .int .i64 (t.i : Int))]) (fun t => t.J) (fun t : RFX => (f, row 97 (flV l f t.z)) :: (t.L ++ F)) (fun t => t.ok I l s d n N P x) (fun t => 1000 - t.i) ⟨0, P, x, y, z, I, L⟩ ⟨Imm.le_refl _, hl, hT, hz, hs, Nx.refl x, Nat.le_refl _, hmu⟩ ⟨rfl, rfl, trivial⟩ rfl (by (try dsimp only); repeat (first | exact Rm.chunk | exact Rm.here | exact Rm.nil0 | apply Rm.skip | apply Rm.skipS | apply PX.cons | (apply PX.done; (repeat (first | exact Leave.done | apply Leave.drop | apply Leave.dropS)); done) | apply PX.app)) ?_
 rintro ⟨i, PP, xx, yy, zz, J, Lx⟩ ⟨hJ, hl, hT, hz, hs, nx, hPP, hmm⟩; dsimp only at hJ hl hT hz hs nx hPP hmm
 try dsimp only
 try simp only [nf]
 refine WP.seq ?_
 refine WP.seq ?_
 refine WP.region [0, 1] rfl ?_
 refine WP.mv rfl rfl ?_
 refine WP.split rfl rfl rfl rfl (Yld.lss rfl rfl rfl) (fun hlt => ?_) (fun hlt => ?_)
 ·obtain ⟨P2, x2, y2, z2, e2, hT2, hz2, hs2, nx2, hP2, hm2, _⟩ := step_tidy hT hz hs
  refine WP.nil ?_
  refine WP.sub [(0, _), (2, _), (5, _)] ?_ ⟨rfl, rfl, rfl, trivial⟩
  refine WP.next ?_
  refine WP.condT rfl ?_
  refine WP.skip ?_
  refine WP.next ?_
  refine WP.seq ?_
  refine WP.block ?_
  refine WP.seq ?_
  refine WP.region [0, 1, 2] rfl ?_
  refine WP.mv rfl rfl ?_
  refine WP.loud rfl rfl ?_
  refine Op.cl (flush_Step (f := f) hl hz hT.wait) rfl Try.func13 rfl rfl rfl rfl ?_
  rintro v J5 L1 hJ5 ⟨rfl, L2, rfl, hl⟩
  try simp only [nf]
  rw [e2] at hl
  rw [e2]
  dsimp only at hl
  dsimp only
  by_cases hdn : (decide (z2.at_ = 3)) = true
  ·rw [hdn]
   refine WP.mv rfl rfl ?_
   refine WP.nil ?_
   refine WP.sub [(0, _), (2, _), (3, _), (5, _)] ?_ ⟨rfl, rfl, rfl, rfl, trivial⟩
   refine WP.next ?_
   refine WP.seq ?_
   refine WP.region [0] rfl ?_
   refine WP.mv rfl rfl ?_
   refine WP.nil ?_
   refine WP.next ?_
   refine WP.condT rfl ?_
   refine WP.ret ?_
   refine WP.fn .ret (.inr rfl) (res0 rfl) ((f, row 97 (flV l f z2)) :: L2) (Imm.le_trans hJ hJ5) ?_
   exact ⟨P2, x2, y2, z2, L2, rfl, hl, hT2, hz2, hs2, of_decide_eq_true hdn, nx.trans nx2, Nat.le_trans hPP hP2⟩
  ·have hdn : (decide (z2.at_ = 3)) = false := eq_false_of_ne_true hdn
   rw [hdn]
   refine WP.mv rfl rfl ?_
   refine WP.nil ?_
   refine WP.sub [(0, _), (2, _), (3, _), (5, _)] ?_ ⟨rfl, rfl, rfl, rfl, trivial⟩
   refine WP.next ?_
   refine WP.seq ?_
   refine WP.region [0] rfl ?_
   refine WP.mv rfl rfl ?_
   refine WP.nil ?_
   refine WP.next ?_
   refine WP.condF rfl ?_
   refine WP.skip ?_
   refine WP.leave ?_
   refine WP.next ?_
   refine WP.region [0, 1, 2] rfl ?_
   refine WP.mv rfl rfl ?_
   refine WP.vl rfl (Yld.add64 rfl rfl rfl (by omega)) ?_
   refine WP.mv rfl rfl ?_
   refine WP.nil ?_
   refine WP.sub [(0, _), (2, _), (3, _), (5, _), (10, _)] ?_ ⟨rfl, rfl, rfl, rfl, rfl, trivial⟩
   exact WP.ag ⟨i + 1, P2, x2, y2, z2, J5, L2⟩ ⟨Imm.le_trans hJ hJ5, hl, hT2, hz2, hs2, nx.trans nx2, Nat.le_trans hPP hP2, (by have := flmu_pos hs2 (of_decide_eq_false hdn); show flmu x2 z2 + (i + 1) ≤ 999; omega)⟩ (show 1000 - (i + 1) < 1000 - i by omega) ⟨rfl, rfl, trivial⟩ rfl
 ·exfalso; omega

theorem log_runRead {I : Imm} {l s d n : Nat} {x : Lg} {y : Dk} {L : Chunks} (hl : IsLog I l s d n x y L) {r P : Nat} {no era kind : Int} {b : List UInt8} {Lr : Chunks} (hr : IsRead I r l (rdNew P) Lr) (hc : CutOk no P era (kbody kind b)) (hk : 1 ≤ kind ∧ kind ≤ 5) (hf : ∀ i, i < kmany b → pread y n x.g (P + i) = (pcut no (P : Int) era (kbody kind b) (kmany b) i, 0)) (hp8 : P ≤ 1125899906842624) (hn : P < x.endP (x.lo - x.base) ∨ x.pl ≤ P) : Spec Try.prog 26 [.pointer (some ⟨r, 0, none⟩)] I (Lr ++ L) (fun v J L' => ∃ (ps : List Pt) (Lr' L2 : Chunks), L' = Lr' ++ L2 ∧ IsRead J r l ((rdAt P []).fin ps no kind b 0) Lr' ∧ IsLog J l s d n x y L2) := by
 have h64 : kmany b ≤ 64 := by have := hc.m64; rw [kmany_eq] at this; exact this
 refine Spec.of Try.func26 rfl Try.ntmps26 (Nat.le_of_ble_eq_true rfl) (fun F => ?_)
 try simp only [nf]
 dsimp only [argsEnv]
 refine WP.seq ?_
 refine WP.region [0] rfl ?_
 refine WP.mv rfl rfl ?_
 refine WP.nil ?_
 refine WP.next ?_
 refine WP.block ?_
 refine WP.loop (X := RRX) (fun t : RRX => [(0, .pointer (some ⟨r, 0, none⟩)), (2, .int .i64 (t.i : Int))]) (fun t => t.J) (fun t : RRX => t.Lr ++ (t.L ++ F)) (fun t : RRX => t.i < kmany b ∧ I.le t.J ∧ IsRead t.J r l (rdAt P ((List.range t.i).map (pcut no (P : Int) era (kbody kind b) (kmany b)))) t.Lr ∧ IsLog t.J l s d n x y t.L) (fun t => 1000 - t.i) ⟨0, I, Lr, L⟩ ⟨kmany_pos b, Imm.le_refl _, hr, hl⟩ ⟨rfl, rfl, trivial⟩ rfl (by (try dsimp only); repeat (first | exact Rm.chunk | exact Rm.here | exact Rm.nil0 | apply Rm.skip | apply Rm.skipS | apply PX.cons | (apply PX.done; (repeat (first | exact Leave.done | apply Leave.drop | apply Leave.dropS)); done) | apply PX.app)) ?_
 rintro ⟨i, J, Lr, Lx⟩ ⟨hi, hJ, hr, hl⟩; dsimp only at hi hJ hr hl
 try dsimp only
 try simp only [nf]
 refine WP.seq ?_
 refine WP.seq ?_
 refine WP.region [0, 1] rfl ?_
 refine WP.mv rfl rfl ?_
 refine WP.split rfl rfl rfl rfl (Yld.lss rfl rfl rfl) (fun hlt => ?_) (fun hlt => ?_)
 ·have e2 := rstep_next (f := (fun q => pread y n x.g q)) (i := i) hc hk hi (hf i hi)
  refine WP.nil ?_
  refine WP.sub [(0, _), (2, _), (5, _)] ?_ ⟨rfl, rfl, rfl, trivial⟩
  refine WP.next ?_
  refine WP.condT rfl ?_
  refine WP.skip ?_
  refine WP.next ?_
  refine WP.seq ?_
  refine WP.block ?_
  refine WP.seq ?_
  refine WP.region [0, 1, 2] rfl ?_
  refine WP.mv rfl rfl ?_
  refine WP.loud rfl rfl ?_
  refine Op.cl (read_Step_live hl hr rfl (by show ((List.range i).map _).length ≤ 63; rw [List.length_map, List.length_range]; omega) hp8 hn) rfl Try.func30 rfl rfl rfl rfl ?_
  rintro v J5 L1 hJ5 ⟨rfl, Lr2, L2, rfl, hr, hl⟩
  try simp only [nf]
  by_cases hdn : (rstep (fun q => pread y n x.g q) (rdAt P ((List.range i).map (pcut no (P : Int) era (kbody kind b) (kmany b))))).1 = true
  ·rw [hdn]
   refine WP.mv rfl rfl ?_
   refine WP.nil ?_
   refine WP.sub [(0, _), (2, _), (3, _), (5, _)] ?_ ⟨rfl, rfl, rfl, rfl, trivial⟩
   refine WP.next ?_
   refine WP.seq ?_
   refine WP.region [0] rfl ?_
   refine WP.mv rfl rfl ?_
   refine WP.nil ?_
   refine WP.next ?_
   refine WP.condT rfl ?_
   refine WP.ret ?_
   refine WP.fn .ret (.inr rfl) (res0 rfl) (Lr2 ++ L2) (Imm.le_trans hJ hJ5) ?_
   have hi2 : ¬ i + 1 < kmany b := fun hc => by rw [e2, if_pos hc] at hdn; cases hdn
   rw [e2, if_neg hi2] at hr
   dsimp only at hr
   exact ⟨_, Lr2, L2, rfl, hr, hl⟩
  ·have hdn : (rstep (fun q => pread y n x.g q) (rdAt P ((List.range i).map (pcut no (P : Int) era (kbody kind b) (kmany b))))).1 = false := eq_false_of_ne_true hdn
   rw [hdn]
   refine WP.mv rfl rfl ?_
   refine WP.nil ?_
   refine WP.sub [(0, _), (2, _), (3, _), (5, _)] ?_ ⟨rfl, rfl, rfl, rfl, trivial⟩
   refine WP.next ?_
   refine WP.seq ?_
   refine WP.region [0] rfl ?_
   refine WP.mv rfl rfl ?_
   refine WP.nil ?_
   refine WP.next ?_
   refine WP.condF rfl ?_
   refine WP.skip ?_
   refine WP.leave ?_
   refine WP.next ?_
   have hi2 : i + 1 < kmany b := Classical.byContradiction fun hc => by rw [e2, if_neg hc] at hdn; cases hdn
   rw [e2, if_pos hi2] at hr
   dsimp only at hr
   refine WP.region [0, 1, 2] rfl ?_
   refine WP.mv rfl rfl ?_
   refine WP.vl rfl (Yld.add64 rfl rfl rfl (by omega)) ?_
   refine WP.mv rfl rfl ?_
   refine WP.nil ?_
   refine WP.sub [(0, _), (2, _), (3, _), (5, _), (10, _)] ?_ ⟨rfl, rfl, rfl, rfl, rfl, trivial⟩
   exact WP.ag ⟨i + 1, J5, Lr2, L2⟩ ⟨hi2, Imm.le_trans hJ hJ5, hr, hl⟩ (show 1000 - (i + 1) < 1000 - i by omega) ⟨rfl, rfl, trivial⟩ rfl
 ·exfalso; omega

theorem log_flushed {I : Imm} {l s d n : Nat} {x : Lg} {y : Dk} {L : Chunks} (hl : IsLog I l s d n x y L) {xr q rt rm P : Nat} (hT : Tidy n P x y) (hn : n ≤ 3000) : Spec Try.prog 28 [.pointer (some ⟨xr, 0, none⟩)] I ((xr, row 43 [.pointer (some ⟨d, 0, none⟩), .pointer (some ⟨s, 0, none⟩), .pointer (some ⟨l, 0, none⟩), .pointer (some ⟨q, 0, none⟩), .pointer (some ⟨rt, 0, none⟩), .pointer (some ⟨rm, 0, none⟩), .slice none 0 0, .slice none 0 0, .slice none 0 0, .slice none 0 0]) :: L) (fun v J L' => v = .bool true ∧ ∃ (P' : Nat) (x' : Lg) (y' : Dk) (L2 : Chunks), L' = (xr, row 43 [.pointer (some ⟨d, 0, none⟩), .pointer (some ⟨s, 0, none⟩), .pointer (some ⟨l, 0, none⟩), .pointer (some ⟨q, 0, none⟩), .pointer (some ⟨rt, 0, none⟩), .pointer (some ⟨rm, 0, none⟩), .slice none 0 0, .slice none 0 0, .slice none 0 0, .slice none 0 0]) :: L2 ∧ IsLog J l s d n x' y' L2 ∧ Tidy n P' x' y' ∧ Nx x x' ∧ P ≤ P' ∧ x'.wr = x'.no ∧ x'.sent = x'.pl ∧ P' = x'.pl) := by
 refine Spec.of Try.func28 rfl Try.ntmps28 (Nat.le_of_ble_eq_true rfl) (fun F => ?_)
 try simp only [nf]
 dsimp only [argsEnv]
 refine WP.seq ?_
 refine WP.region [0] rfl ?_
 refine WP.mv rfl rfl ?_
 refine WP.nil ?_
 refine WP.next ?_
 refine WP.seq ?_
 refine WP.region [0, 1, 2, 3, 4, 5] rfl ?_
 refine WP.mv rfl rfl ?_
 refine WP.vl rfl (Yld.nilCheck rfl rfl) ?_
 refine WP.vl rfl (Yld.fieldAddr rfl ty_fd_43_2 rfl) ?_
 refine WP.vl rfl (Yld.ld (v := .pointer (some ⟨l, 0, none⟩)) rfl ty_sc_34 rfl rfl) ?_
 refine WP.loud rfl rfl ?_
 refine Op.cl (log_NewFlush (l := l)) rfl Try.func12 rfl rfl rfl rfl ?_
 rintro v J L1 - ⟨rfl, f, rfl, rfl⟩
 try simp only [nf]
 obtain ⟨hz0, hs0⟩ := Fl.st.new (N := x.no) (P := P) hl.ok (Nat.le_refl _)
 refine WP.mv rfl rfl ?_
 refine WP.nil ?_
 refine WP.sub [(0, _), (2, _), (3, _)] ?_ ⟨rfl, rfl, rfl, trivial⟩
 refine WP.next ?_
 refine WP.seq ?_
 refine WP.seq ?_
 refine WP.region [0, 1] rfl ?_
 refine WP.mv rfl rfl ?_
 refine WP.vl rfl (Yld.eqlNil rfl ty_pt_47 rfl rfl) ?_
 refine WP.nil ?_
 refine WP.sub [(0, _), (2, _), (3, _), (12, _)] ?_ ⟨rfl, rfl, rfl, rfl, trivial⟩
 refine WP.next ?_
 refine WP.condF rfl ?_
 refine WP.skip ?_
 refine WP.next ?_
 refine WP.seq ?_
 refine WP.region [0, 1] rfl ?_
 refine WP.mv rfl rfl ?_
 refine WP.loud rfl rfl ?_
 refine Op.cl (log_runFlush (f := f) hl hT hz0 hs0 (by have := hT.mu ⟨0, 0, 0, 0, 1⟩; have := hl.ok.g.sn; omega)) rfl Try.func20 rfl rfl rfl rfl ?_
 rintro v J2 L1 hJ2 ⟨P2, x2, y2, z2, L2, rfl, hl, hT2, hz2, hs2, h3, nx, hP2⟩
 try simp only [nf]
 obtain ⟨hzn, hwr, hse, hPP⟩ := hT2.all hs2 h3 nx.no.symm
 refine WP.nil ?_
 refine WP.sub [(0, _), (2, _), (3, _), (12, _)] ?_ ⟨rfl, rfl, rfl, rfl, trivial⟩
 refine WP.next ?_
 refine WP.seq ?_
 refine WP.region [0, 1, 2, 3, 4, 5, 6] rfl ?_
 refine WP.mv rfl rfl ?_
 refine WP.loud rfl rfl ?_
 refine Op.cl (flush_Upto (l := l) (z := z2)) rfl Try.func14 rfl rfl rfl rfl ?_
 rintro v J L1 - ⟨rfl, rfl, rfl⟩
 try simp only [nf]
 refine WP.mv rfl rfl ?_
 refine WP.vl rfl (Yld.extract rfl rfl rfl) ?_
 refine WP.vl rfl (Yld.extract rfl rfl rfl) ?_
 iterate 2 refine WP.mv rfl rfl ?_
 refine WP.nil ?_
 refine WP.sub [(0, _), (2, _), (3, _), (5, _), (12, _)] ?_ ⟨rfl, rfl, rfl, rfl, rfl, trivial⟩
 refine WP.next ?_
 refine WP.seq ?_
 refine WP.region [0, 1, 2] rfl ?_
 refine WP.mv rfl rfl ?_
 refine WP.vl rfl (Yld.eql rfl rfl rfl true (decide_eq_true (by exact (hs2.s3 h3).1))) ?_
 refine WP.mv rfl rfl ?_
 refine WP.nil ?_
 refine WP.sub [(0, _), (2, _), (3, _), (5, _), (12, _)] ?_ ⟨rfl, rfl, rfl, rfl, rfl, trivial⟩
 refine WP.next ?_
 refine WP.ret ?_
 refine WP.fn .ret (.inr rfl) (res1 rfl rfl) ((xr, row 43 [.pointer (some ⟨d, 0, none⟩), .pointer (some ⟨s, 0, none⟩), .pointer (some ⟨l, 0, none⟩), .pointer (some ⟨q, 0, none⟩), .pointer (some ⟨rt, 0, none⟩), .pointer (some ⟨rm, 0, none⟩), .slice none 0 0, .slice none 0 0, .slice none 0 0, .slice none 0 0]) :: L2) hJ2 ?_
 exact ⟨rfl, P2, x2, y2, L2, rfl, hl, hT2, nx, hP2, hwr, hse, hPP⟩


end Go.Hp
