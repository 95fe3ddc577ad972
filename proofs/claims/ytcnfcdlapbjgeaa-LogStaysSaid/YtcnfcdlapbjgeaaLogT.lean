import Derived.Test.YtcnfcdlapbjgeaaLogS
set_option linter.unusedVariables false
set_option linter.unusedSimpArgs false
namespace Go.Hp
open Go Go.Proofs

def kf (l : List (Value × List UInt8)) (k : Nat) : List UInt8 := ((l[k]?).map (·.2)).getD []
theorem kf_at {l : List (Value × List UInt8)} {k : Nat} (h : k < l.length) : kf l k = l[k].2 := by unfold kf; rw [List.getElem?_eq_getElem h]; rfl
theorem kf_app {l : List (Value × List UInt8)} {k : Nat} (h : k < l.length) (e : Value × List UInt8) : kf (l ++ [e]) k = kf l k := by unfold kf; rw [List.getElem?_append_left h]
theorem kf_last (l : List (Value × List UInt8)) (e : Value × List UInt8) : kf (l ++ [e]) l.length = e.2 := by unfold kf; rw [List.getElem?_append_right (Nat.le_refl _), Nat.sub_self]; rfl
def natV (l : List Nat) : List Value := l.map fun a : Nat => .int .i64 (a : Int)
theorem natV_app {l : List Nat} {k : Nat} (h : k < l.length) (sp : List Value) : (natV l ++ sp)[0 + k * 1]? = some (.int .i64 (l[k] : Int)) := by rw [Nat.zero_add, Nat.mul_one, List.getElem?_append_left (by unfold natV; rw [List.length_map]; exact h)]; simp [natV, h]
/-- The first m records' bytes. -/
structure PlI (x : Lg) (m : Nat) (f : Nat → List UInt8) : Prop where
 n : m ≤ x.rs.length
 b : ∀ k (h : k < x.rs.length), k < m → x.rs[k].b = f k
theorem push_get (x : Lg) (r : Rc) {k : Nat} (h : k < x.rs.length) (h2 : k < (x.push r).rs.length) : (x.push r).rs[k] = x.rs[k] := List.getElem_append_left h
theorem push_len (x : Lg) (r : Rc) : (x.push r).rs.length = x.rs.length + 1 := by show (x.rs ++ [r]).length = _; rw [List.length_append]; rfl
theorem push_end (x : Lg) (r : Rc) (h : x.rs.length < (x.push r).rs.length) : (x.push r).rs[x.rs.length] = r := by simp [Lg.push]
theorem PlI.old {x : Lg} {m : Nat} {f : Nat → List UInt8} (h : PlI x m f) (r : Rc) : PlI (x.push r) m f := by
 refine ⟨by rw [push_len]; have := h.n; omega, fun k hk hm => ?_⟩
 rw [push_get x r (by have := h.n; omega)]; exact h.b k _ hm
theorem PlI.new {x : Lg} {m : Nat} {f g : Nat → List UInt8} (h : PlI x m f) (hm : x.rs.length = m) {r : Rc} (hr : r.b = g m) (hg : ∀ k, k < m → g k = f k) : PlI (x.push r) (m + 1) g := by
 refine ⟨by rw [push_len]; omega, fun k hk hk2 => ?_⟩
 by_cases e : k = m
 ·subst hm; subst e; rw [push_end]; exact hr
 ·rw [push_get x r (by omega), hg k (by omega)]; exact h.b k _ (by omega)
theorem PlI.nx {x x' : Lg} {m : Nat} {f : Nat → List UInt8} (h : PlI x m f) (hr : x'.rs = x.rs) : PlI x' m f := ⟨by rw [hr]; exact h.n, fun k hk hm => by
 have e : x'.rs[k] = x.rs[k]'(by rw [← hr]; exact hk) := by congr 1
 rw [e]; exact h.b k _ hm⟩
theorem places_push (x : Lg) (r : Rc) {m : Nat} (h : m ≤ x.rs.length) : (List.range m).map (x.push r).endP = (List.range m).map x.endP := List.map_congr_left fun k hk => x.endP_push r (by have := List.mem_range.1 hk; omega)
theorem places_new (x : Lg) (r : Rc) {m : Nat} (h : x.rs.length = m) : (List.range (m + 1)).map (x.push r).endP = (List.range m).map x.endP ++ [x.pl] := by
 subst h
 rw [List.range_succ, List.map_append, places_push x r (Nat.le_refl _)]
 simp only [List.map_cons, List.map_nil]
 rw [x.endP_push r (Nat.le_refl _), x.endP_len]
theorem natV_new (x : Lg) (r : Rc) {m : Nat} (h : x.rs.length = m) : natV ((List.range (m + 1)).map (x.push r).endP) = natV ((List.range m).map x.endP) ++ [.int .i64 (x.pl : Int)] := by rw [places_new x r h]; simp [natV]
/-- One Flush of a log. -/
structure EraI (P : Nat) (x : Lg) (y : Dk) (z : Fl) : Prop where
 td : Tidy 552 P x y
 sd : x.g.first = 1 ∧ x.g.slots = 17
 z1 : z.ok x
 z2 : z.st 0 P x
theorem EraI.new {P : Nat} {x : Lg} {y : Dk} (h : Tidy 552 P x y) (h2 : x.g.first = 1 ∧ x.g.slots = 17) : EraI P x y fl0 :=
 have q := Fl.st.new h.g.ok (N := 0) (P := P) (Nat.zero_le _)
 ⟨h, h2, q.1, q.2⟩
theorem EraI.push {P : Nat} {x : Lg} {r : Rc} {y : Dk} {z : Fl} (h : EraI P x y z) {J : Imm} (hr : Recs J (x.push r)) (hok : (x.push r).ok 552) : EraI P (x.push r) y z :=
 have hno : x.no ≤ (x.push r).no := by rw [x.no_push]; omega
 ⟨h.td.push hr hok, h.sd, h.z1.push r, h.z2.to hno (Nat.le_refl _) (Nat.le_refl _)⟩
theorem EraI.ap {P : Nat} {x x' : Lg} {y : Dk} {z : Fl} (h : EraI P x y z) {b : List UInt8} {e : Int} {hn hp : Nat} (ha : ApOk x b e hn hp x') {J : Imm} (hr : Recs J x') (hok : x'.ok 552) : EraI P x' y z := by
 rcases ha with ⟨_, rfl, _⟩ | ⟨_, r, _, rfl, _⟩
 ·exact h
 ·exact h.push hr hok
theorem EraI.step {P : Nat} {x : Lg} {y : Dk} {z : Fl} (h : EraI P x y z) : ∃ P' x' y' z', fstep 552 x y z = (decide (z'.at_ = 3), x', y', z') ∧ EraI P' x' y' z' ∧ Nx x x' ∧ P ≤ P' := by
 obtain ⟨P', x', y', z', e, h1, h2, h3, nx, h5, h6, h7⟩ := step_tidy h.td h.z1 h.z2
 exact ⟨P', x', y', z', e, ⟨h1, ⟨nx.first.trans h.sd.1, nx.slots.trans h.sd.2⟩, h2, h3⟩, nx, h5⟩
theorem EraI.run {P P' : Nat} {x x' : Lg} {y y' : Dk} {z : Fl} (h : EraI P x y z) (ht : Tidy 552 P' x' y') (nx : Nx x x') : EraI P' x' y' fl0 := .new ht ⟨nx.first.trans h.sd.1, nx.slots.trans h.sd.2⟩
theorem EraI.pl {P : Nat} {x : Lg} {y : Dk} {z : Fl} (h : EraI P x y z) : 8 ≤ x.p0 ∧ x.p0 ≤ x.pl ∧ x.pl ≤ 144 ∧ x.no ≤ 1099511627776 := by
 have h1 := h.td.g.f0; have h2 := h.td.g.ok.pb; have h3 := h.sd; have h4 := h.td.g.ok.nb; have h5 := Lg.p0_sent h.td.g.ok; have h6 := h.td.g.ok.s2
 omega
theorem EraI.first : EraI 8 tw0 (Dk.new 552) fl0 := .new TwI.new.td ⟨rfl, rfl⟩
/-- What is read behind a Flush. -/
theorem Tidy.fd {n P : Nat} {x : Lg} {y : Dk} (h : Tidy n P x y) (hs : x.sent = x.pl) {k : Nat} (hk : k < x.rs.length) (i : Nat) (hi : i < kmany x.rs[k].b) : pread y n x.g (x.endP k + i) = (pcut ((x.base + k + 1 : Nat) : Int) (x.endP k : Int) x.era (kbody x.rs[k].kind x.rs[k].b) (kmany x.rs[k].b) i, 0) := by
 have h1 := x.endP_succ hk; have h2 := x.endP_pl (k + 1)
 have h3 : x.rs[k].n = kmany x.rs[k].b := rfl
 rw [h.g.read (by unfold Lg.endP; omega) (by omega), x.part_at hk (by omega)]; rfl
/-- What is read behind a crash. -/
theorem Tidy.fdUp {n P : Nat} {x : Lg} {y : Dk} (h : Tidy n P x y) (ks : List Int) {g : Sg} (hg : g.ok n) (h1 : g.slots = x.g.slots) (h2 : g.first * 8 ≤ x.p0) (h3 : P ≤ g.stop * 8) {k : Nat} (hk : k < x.rs.length) (hP : x.endP (k + 1) ≤ P) (i : Nat) (hi : i < kmany x.rs[k].b) : pread (y.up ks) n g (x.endP k + i) = (pcut ((x.base + k + 1 : Nat) : Int) (x.endP k : Int) x.era (kbody x.rs[k].kind x.rs[k].b) (kmany x.rs[k].b) i, 0) := by
 have h4 := x.endP_succ hk; have h5 := x.endP_pl (k + 1)
 have h6 : x.rs[k].n = kmany x.rs[k].b := rfl
 have h7 : x.p0 ≤ x.endP k := by unfold Lg.endP; omega
 have hpt := h.g.pt (x.endP k + i) (by omega) (by omega)
 have hb := h.up ks (q := x.endP k + i) (by omega) (by omega)
 rw [pread_stands (h.g.on.up ks) hg (by rw [h1]; exact hb) hpt.1 hpt.2 (by unfold phas; omega), x.part_at hk (by omega)]; rfl
theorem adv_far {n : Nat} {x : Lg} (ok : x.ok n) : (x.adv 1099511627776).rs = x.rs ∧ (x.adv 1099511627776).base = x.base ∧ (x.adv 1099511627776).p0 = x.p0 ∧ (x.adv 1099511627776).era = x.era ∧ (x.adv 1099511627776).g = x.g ∧ (x.adv 1099511627776).wr = x.wr ∧ (x.adv 1099511627776).sent = x.sent ∧ (x.adv 1099511627776).mno = x.no := by
 have h1 := ok.nb; have h2 := ok.m2
 unfold Lg.adv
 split
 ·exact ⟨rfl, rfl, rfl, rfl, rfl, rfl, rfl, by omega⟩
 ·exact ⟨rfl, rfl, rfl, rfl, rfl, rfl, rfl, by show (min 1099511627776 (x.no : Int)).toNat = x.no; omega⟩
theorem Tidy.adv {n P : Nat} {x : Lg} {y : Dk} (h : Tidy n P x y) {to : Int} (hok : (x.adv to).ok n) : Tidy n P (x.adv to) y := by
 have hg := h.g.adv to hok
 unfold Lg.adv at hg ⊢
 split at hg
 ·rename_i h1; rw [if_pos h1]; exact h
 ·rename_i h1; rw [if_neg h1]; exact ⟨hg, h.wl, h.w0, h.w1, h.w2, h.sp, h.sw⟩
structure ERX where
 i : Nat
 P : Nat
 x : Lg
 y : Dk
 z : Fl
 J : Imm
 L : Chunks
structure ERX.ok (Ja : Imm) (l s d : Nat) (t : ERX) : Prop where
 hI : EraI t.P t.x t.y t.z
 hJ : Ja.le t.J
 hl : IsLog t.J l s d 552 t.x t.y t.L
structure NXX where
 i : Nat
 x : Lg
 J : Imm
 L : Chunks
 vp : Value
 Lp : Chunks
structure NXX.ok (P : Nat) (y : Dk) (Ja : Imm) (l s d : Nat) (bs : Nat) (f : Nat → List UInt8) (t : NXX) : Prop where
 hI : EraI P t.x y fl0
 hJ : Ja.le t.J
 hl : IsLog t.J l s d 552 t.x y t.L
 ln : t.x.rs.length = t.i
 pi : PlI t.x t.i f
 kd : ∀ k (h : k < t.x.rs.length), t.x.rs[k].kind = 3
 bs : t.x.base = bs
 ow : Own 3 1 t.vp (natV ((List.range t.i).map t.x.endP)) t.i t.Lp
def ApK (x : Lg) (kind : Int) (b : List UInt8) (e : Int) (hn hp : Nat) (x' : Lg) : Prop := (e ≠ 0 ∧ x' = x ∧ hn = 0 ∧ hp = 0) ∨ (e = 0 ∧ ∃ r : Rc, r.kind = kind ∧ r.b = b ∧ x' = x.push r ∧ hn = x'.no ∧ hp = x'.pl)
theorem log_AppendK {I : Imm} {l s d n : Nat} {x : Lg} {y : Dk} {L : Chunks} (hl : IsLog I l s d n x y L) {hn hp : Nat} {kind : Int} {b : List UInt8} {vb : Value} (hb : SlRd (Im I) vb b.length 1 (bytesV b)) : Spec Try.prog 10 [.pointer (some ⟨l, 0, none⟩), .agg #[.int .i64 (hn : Int), .int .i64 (hp : Int)], .int .i64 kind, vb] I L (fun v J L' => ∃ (e : Int) (hn' hp' : Nat) (x' : Lg), v = .tuple #[.agg #[.int .i64 (hn' : Int), .int .i64 (hp' : Int)], .int .i64 e] ∧ ApK x kind b e hn' hp' x' ∧ IsLog J l s d n x' y L') :=
 (log_Append hl hb).mono (by
  rintro v J L' _ (⟨h1, h2, h3⟩ | ⟨h1, r, h2, h3, h4, h5⟩)
  ·exact ⟨_, 0, 0, x, h2, .inl ⟨h1, rfl, rfl, rfl⟩, h3⟩
  ·exact ⟨0, _, _, x.push r, h4, .inr ⟨rfl, r, h2, h3, rfl, rfl, rfl⟩, h5⟩)
theorem read_GotF {I : Imm} {r l pz : Nat} {qs : List Pt} {no kind : Int} {b : List UInt8} {L : Chunks} (hr : IsRead I r l ((rdAt pz []).fin qs no kind b 0) L) (hbl : b.length ≤ 140737488351232) : Spec Try.prog 27 [.pointer (some ⟨r, 0, none⟩)] I L (fun v J L' => I = J ∧ ∃ vc Lc, v = .tuple #[.int .i64 no, .int .i64 kind, vc, .int .i64 0] ∧ Own 5 1 vc (bytesV b) b.length Lc ∧ L' = Lc ++ L) := read_Got hr hbl

end Go.Hp
