import Derived.Test.YtcnfcdlapbjgeaaLogO0
set_option linter.unusedVariables false
set_option linter.unusedSimpArgs false
namespace Go.Hp
open Go Go.Proofs

def hdF (e : Nat × Nat) : List Value := [.int .i64 (e.1 : Int), .int .i64 (e.2 : Int)]
theorem hdF_len (e : Nat × Nat) : (hdF e).length = 2 := rfl
def hdV (l : List (Nat × Nat)) : List Value := l.flatMap hdF
def atV (l : List Nat) : List Value := l.map fun a : Nat => .int .i64 (a : Int)
theorem atV_len (l : List Nat) : (atV l).length = l.length := by unfold atV; rw [List.length_map]
theorem atV_at {l : List Nat} {k : Nat} (h : k < l.length) : (atV l)[0 + k * 1]? = some (.int .i64 (l[k] : Int)) := by rw [Nat.zero_add, Nat.mul_one]; simp [atV, h]
theorem atV_app {l : List Nat} {k : Nat} (h : k < l.length) (sp : List Value) : (atV l ++ sp)[0 + k * 1]? = some (.int .i64 (l[k] : Int)) := by rw [List.getElem?_append_left (by rw [atV_len]; omega)]; exact atV_at h
theorem atV_set {l : List Nat} {k : Nat} (h : k < l.length) (v : Nat) : SetAt (atV l) (0 + k * 1) (.int .i64 (v : Int)) (atV (l.set k v)) := by
 have q := SetAt.sym (l := atV l) (k := 0 + k * 1) (v := .int .i64 (v : Int)) (by rw [atV_len]; omega)
 rw [Nat.zero_add, Nat.mul_one] at q ⊢
 simpa [atV, List.map_set] using q
theorem hdV_set {l : List (Nat × Nat)} {k : Nat} (h : k < l.length) (v : Nat × Nat) : hdV (l.set k v) = (hdV l).take (0 + k * 2) ++ hdF v ++ (hdV l).drop (0 + k * 2 + 2) := by
 have e1 : l = l.take k ++ l[k] :: l.drop (k + 1) := by rw [← List.drop_eq_getElem_cons h, List.take_append_drop]
 have e2 : l.set k v = l.take k ++ v :: l.drop (k + 1) := by rw [List.set_eq_take_append_cons_drop, if_pos h]
 have h1 : (hdV (l.take k)).length = 0 + k * 2 := by unfold hdV; rw [flat_len hdF_len, List.length_take]; omega
 have e3 : hdV l = hdV (l.take k) ++ (hdF l[k] ++ hdV (l.drop (k + 1))) := by
  have h2 : hdV (l.take k ++ l[k] :: l.drop (k + 1)) = hdV (l.take k) ++ (hdF l[k] ++ hdV (l.drop (k + 1))) := by unfold hdV; rw [List.flatMap_append, List.flatMap_cons]
  rw [← e1] at h2; exact h2
 have e4 : (hdV l).drop (0 + k * 2 + 2) = hdV (l.drop (k + 1)) := by
  rw [e3, ← List.append_assoc, List.drop_left']
  rw [List.length_append, h1]; rfl
 rw [e4, e2, e3, List.take_left' h1]
 unfold hdV; rw [List.flatMap_append, List.flatMap_cons, List.append_assoc]
def wt (h : Nat × Nat) (s : Nat × Nat) (a : Nat) : Nat := if a = 0 then 1 else if a = 1 then (if s = h then 0 else 2) else 0
def phi (h : Nat × Nat) : List (Nat × Nat) → List Nat → Nat
 | s :: sn, a :: at_ => wt h s a + phi h sn at_
 | _, _ => 0
theorem phi_le (h : Nat × Nat) : ∀ (sn : List (Nat × Nat)) (at_ : List Nat), phi h sn at_ ≤ 2 * at_.length
 | [], at_ => by cases at_ <;> simp [phi]
 | s :: sn, [] => by simp [phi]
 | s :: sn, a :: at_ => by
  have := phi_le h sn at_
  have hw : wt h s a ≤ 2 := by unfold wt; split; omega; split; split <;> omega; omega
  simp only [phi, List.length_cons]; omega
theorem phi_set (h : Nat × Nat) (s' : Nat × Nat) (a' : Nat) : ∀ (sn : List (Nat × Nat)) (at_ : List Nat) (k : Nat) (h1 : k < sn.length) (h2 : k < at_.length), phi h (sn.set k s') (at_.set k a') + wt h sn[k] at_[k] = phi h sn at_ + wt h s' a'
 | [], _, _, h1, _ => absurd h1 (Nat.not_lt_zero _)
 | _ :: _, [], _, _, h2 => absurd h2 (Nat.not_lt_zero _)
 | s :: sn, a :: at_, 0, _, _ => by simp only [List.set_cons_zero, phi, List.getElem_cons_zero]; omega
 | s :: sn, a :: at_, k + 1, h1, h2 => by
  have := phi_set h s' a' sn at_ k (by simpa using h1) (by simpa using h2)
  simp only [List.set_cons_succ, phi, List.getElem_cons_succ]; omega
def twos : List Nat → Nat
 | [] => 0
 | a :: l => (if a = 2 then 1 else 0) + twos l
theorem twos_le : ∀ l : List Nat, twos l ≤ l.length
 | [] => Nat.le_refl _
 | a :: l => by have := twos_le l; simp only [twos, List.length_cons]; split <;> omega
theorem twos_set (a' : Nat) : ∀ (l : List Nat) (k : Nat) (h : k < l.length), twos (l.set k a') + (if l[k] = 2 then 1 else 0) = twos l + (if a' = 2 then 1 else 0)
 | [], _, h => absurd h (Nat.not_lt_zero _)
 | a :: l, 0, _ => by simp only [List.set_cons_zero, twos, List.getElem_cons_zero]; omega
 | a :: l, k + 1, h => by
  have := twos_set a' l k (by simpa using h)
  simp only [List.set_cons_succ, twos, List.getElem_cons_succ]; omega
theorem twos_lt {l : List Nat} {k : Nat} (h : k < l.length) (h2 : l[k] ≠ 2) : twos l < l.length := by
 have h1 := twos_set 2 l k h
 have h3 := twos_le (l.set k 2)
 rw [List.length_set] at h3
 rw [if_neg h2, if_pos rfl] at h1
 omega
def ob (k : Nat) : List UInt8 := [UInt8.ofNat k]
theorem ob_len (k : Nat) : (ob k).length = 1 := rfl
structure MVX where
 i : Nat
 x : Lg
 J : Imm
 L : Chunks
 sn : List (Nat × Nat)
 at_ : List Nat
 os : List Nat
 vo : Value
 Lo : Chunks
 st : Nat
structure MVX.ok (I : Imm) (l s d m np : Nat) (t : MVX) : Prop where
 le : t.i ≤ np
 hJ : I.le t.J
 hl : IsLog t.J l s d 8192 t.x (Dk.new 8192) t.L
 b0 : t.x.base = 0
 p0 : t.x.p0 = 8
 m0 : t.x.mno = 0
 w0 : t.x.wr = 0
 gg : t.x.g = ⟨255, 1, 1⟩
 rs : t.x.rs.map (·.b) = t.os.map ob
 sl : t.sn.length = m
 al : t.at_.length = m
 a2 : ∀ a ∈ t.at_, a ≤ 2
 tw : twos t.at_ = t.os.length
 om : ∀ k ∈ t.os, k < m
 ph : t.st + phi (t.x.no, t.x.pl) t.sn t.at_ ≤ 2 * m
 oo : Own 3 1 t.vo (atV t.os) t.os.length t.Lo
theorem mv_len {x : Lg} {os : List Nat} (h : x.rs.map (·.b) = os.map ob) : x.rs.length = os.length := by have := congrArg List.length h; simpa using this
theorem blocksN_one : ∀ {l : List Rc} {os : List Nat}, l.map (·.b) = os.map ob → blocksN l = os.length
 | [], [], _ => rfl
 | [], _ :: _, h => by cases h
 | _ :: _, [], h => by cases h
 | r :: l, k :: os, h => by
  simp only [List.map_cons, List.cons.injEq] at h
  have e : r.n = 1 := by unfold Rc.n kmany; rw [h.1, ob_len]
  simp only [blocksN, List.length_cons, e, blocksN_one h.2]; omega
theorem mv_no {x : Lg} {os : List Nat} (h : x.rs.map (·.b) = os.map ob) (h1 : x.base = 0) (h2 : x.p0 = 8) : x.no = os.length ∧ x.pl = 8 + os.length := by
 unfold Lg.no Lg.pl
 rw [h1, h2, mv_len h, blocksN_one h]; exact ⟨by omega, rfl⟩
theorem mv_apE {x : Lg} {os : List Nat} {hn hp k : Nat} (h : x.rs.map (·.b) = os.map ob) (h1 : x.base = 0) (h2 : x.p0 = 8) (h3 : x.g = ⟨255, 1, 1⟩) (h4 : os.length < 60) : x.apE hn hp 1 (ob k) = if hn = x.no ∧ hp = x.pl then 0 else 5 := by
 obtain ⟨e1, e2⟩ := mv_no h h1 h2
 have hr : x.room 1 = 2008 := by unfold Lg.room Lg.ende; rw [h3]; rfl
 have hk : kmany (ob k) = 1 := by unfold kmany; rw [ob_len]
 unfold Lg.apE
 rw [if_neg (by decide), if_neg (by rw [ob_len]; decide)]
 by_cases hc : hn = x.no ∧ hp = x.pl
 ·rw [if_neg (fun h => h hc), if_neg (by omega), if_neg (by rw [hr, hk]; omega), if_pos hc]
 ·rw [if_pos hc, if_neg hc]
theorem mv_push {x : Lg} {os : List Nat} {r : Rc} {k : Nat} (h : x.rs.map (·.b) = os.map ob) (hr : r.b = ob k) : (x.push r).rs.map (·.b) = (os ++ [k]).map ob := by
 show (x.rs ++ [r]).map (·.b) = _
 rw [List.map_append, List.map_append, h]; simp [hr]
theorem phi_zero (h : Nat × Nat) (m : Nat) : phi h (List.replicate m (0, 0)) (List.replicate m 0) = m := by
 induction m with
 | zero => rfl
 | succ m ih => rw [List.replicate_succ, List.replicate_succ, phi, ih]; show 1 + m = _; omega
theorem twos_zero (m : Nat) : twos (List.replicate m 0) = 0 := by
 induction m with
 | zero => rfl
 | succ m ih => rw [List.replicate_succ, twos, ih]; rfl
theorem hd0 (m : Nat) : (List.replicate m [Value.int .i64 0, Value.int .i64 0]).flatten = hdV (List.replicate m (0, 0)) := by
 induction m with
 | zero => rfl
 | succ m ih => rw [List.replicate_succ, List.flatten_cons, ih]; simp [hdV, hdF, List.replicate_succ]
theorem at0 (m : Nat) : (List.replicate m [Value.int .i64 0]).flatten = atV (List.replicate m 0) := by
 induction m with
 | zero => rfl
 | succ m ih => rw [List.replicate_succ, List.flatten_cons, ih]; simp [atV, List.replicate_succ]
theorem mod_nat {a : Int} {m : Nat} (h : 0 < m) : (¬ a.tmod (m : Int) < 0 → ∃ k : Nat, a.tmod (m : Int) = (k : Int) ∧ k < m) ∧ (a.tmod (m : Int) < 0 → ∃ k : Nat, a.tmod (m : Int) + (m : Int) = (k : Int) ∧ k < m) := by
 have h1 := Int.tmod_lt_of_pos a (show (0 : Int) < m by omega)
 have h2 := Int.lt_tmod_of_pos a (show (0 : Int) < m by omega)
 exact ⟨fun h => ⟨(a.tmod (m : Int)).toNat, by omega, by omega⟩, fun h => ⟨(a.tmod (m : Int) + (m : Int)).toNat, by omega, by omega⟩⟩
set_option maxHeartbeats 2000000 in
theorem log_LogMoves {I : Imm} {mi : Int} {ps : List Int} {vp : Value} (hps : SlRd (Im I) vp ps.length 1 (ps.map (Value.int .i64))) (hln : ps.length ≤ 140737488351232) : Spec Try.prog 4 [.int .i64 mi, vp] I [] (fun v J L => v = .bool true ∧ L = []) := by
 obtain ⟨Ap, cp, rfl, _, _, _⟩ := id hps
 refine Spec.of Try.func4 rfl Try.ntmps4 (Nat.le_of_ble_eq_true rfl) (fun F => ?_)
 try simp only [nf]
 dsimp only [argsEnv]
 refine WP.seq ?_
 refine WP.region [0] rfl ?_
 refine WP.mv rfl rfl ?_
 refine WP.nil ?_
 refine WP.next ?_
 refine WP.seq ?_
 refine WP.region [0, 1] rfl ?_
 refine WP.loud rfl rfl ?_
 refine Op.cl log_awake rfl Try.func8 rfl rfl rfl rfl ?_
 rintro v Ja L1 hJa ⟨rfl, rfl⟩
 try simp only [nf]
 have hps := hps.mono (fun b o h => hJa.2 b o h)
 refine WP.mv rfl rfl ?_
 refine WP.nil ?_
 refine WP.sub [(0, _), (1, _), (4, _), (5, _)] ?_ ⟨rfl, rfl, rfl, rfl, trivial⟩
 refine WP.next ?_
 refine WP.seq ?_
 refine WP.region [0, 1, 2, 3, 4, 5, 6, 7, 8] rfl ?_
 refine WP.vl rfl (Yld.buildS (pl := [(1, 1, 1)]) rfl ty_zr_29 ty_zd_29 (by kernel_rfl) rfl (vs := [_]) rfl (segs := [(1, [_])]) rfl rfl (by repeat (first | exact SetSeg.nil | apply SetSeg.one | exact SetAt.zero | apply SetAt.succ))) ?_
 refine WP.loud rfl rfl ?_
 refine Op.cl (log_begun (n := 8192) (f := 1) (hn := 0) (hp := 8) (era := 1) (by decide) (by decide) (by decide) (by decide) (by decide) (by decide) (by decide)) rfl Try.func9 rfl rfl rfl rfl ?_
 rintro v J L1 - ⟨rfl, x, d, s, l, q, rt, rm, Ll, rfl, rfl, hl⟩
 try simp only [nf]
 have hl : IsLog _ l s d 8192 (⟨1, ⟨255, 1, 1⟩, 0, 8, [], 0, 0, 8⟩ : Lg) (Dk.new 8192) Ll := hl
 refine WP.mv rfl rfl ?_
 refine WP.vl rfl (Yld.extract rfl rfl rfl) ?_
 refine WP.vl rfl (Yld.extract rfl rfl rfl) ?_
 refine WP.vl rfl (Yld.extract rfl rfl rfl) ?_
 iterate 3 refine WP.mv rfl rfl ?_
 refine WP.nil ?_
 refine WP.sub [(0, _), (1, _), (4, _), (5, _), (6, _), (7, _)] ?_ ⟨rfl, rfl, rfl, rfl, rfl, rfl, trivial⟩
 refine WP.next ?_
 refine WP.seq ?_
 refine WP.seq ?_
 refine WP.region [0, 1, 2, 3, 4, 5] rfl ?_
 refine WP.mv rfl rfl ?_
 refine WP.vl rfl (Yld.not rfl rfl) ?_
 refine WP.mv rfl rfl ?_
 refine WP.valG rfl rfl rfl rfl rfl rfl rfl (Yld.move rfl rfl) ?_
 refine WP.valG rfl rfl rfl rfl rfl rfl rfl (Yld.not rfl rfl) ?_
 refine WP.vl rfl (Yld.pickF rfl rfl rfl) ?_
 refine WP.nil ?_
 refine WP.sub [(0, _), (1, _), (4, _), (5, _), (6, _), (7, _), (34, _)] ?_ ⟨rfl, rfl, rfl, rfl, rfl, rfl, rfl, trivial⟩
 refine WP.next ?_
 refine WP.condF rfl ?_
 refine WP.skip ?_
 refine WP.next ?_
 refine WP.seq ?_
 refine WP.seq ?_
 refine WP.region [0, 1, 2, 3, 4, 5] rfl ?_
 refine WP.mv rfl rfl ?_
 refine WP.split rfl rfl rfl rfl (Yld.lss rfl rfl rfl) (fun hm1 => ?_) (fun hm1 => ?_)
 ·refine WP.mv rfl rfl ?_
  refine WP.passG rfl rfl rfl rfl rfl rfl rfl rfl ?_
  refine WP.passG rfl rfl rfl rfl rfl rfl rfl rfl ?_
  refine WP.vl rfl (Yld.pickT rfl rfl rfl) ?_
  refine WP.nil ?_
  refine WP.sub [(0, _), (1, _), (4, _), (5, _), (6, _), (7, _), (34, _), (40, _)] ?_ ⟨rfl, rfl, rfl, rfl, rfl, rfl, rfl, rfl, trivial⟩
  refine WP.next ?_
  refine WP.condT rfl ?_
  refine WP.seq ?_
  refine WP.region [0] rfl ?_
  refine WP.mv rfl rfl ?_
  refine WP.nil ?_
  refine WP.next ?_
  refine WP.ret ?_
  refine WP.fn .ret (.inr rfl) (res1 rfl rfl) [] hJa ?_
  exact ⟨rfl, rfl⟩
 ·refine WP.mv rfl rfl ?_
  refine WP.valG rfl rfl rfl rfl rfl rfl rfl (Yld.move rfl rfl) ?_
  refine WP.splitG rfl rfl rfl rfl rfl rfl rfl (Yld.gtr rfl rfl rfl) (fun hm2 => ?_) (fun hm2 => ?_)
  ·refine WP.vl rfl (Yld.pickF rfl rfl rfl) ?_
   refine WP.nil ?_
   refine WP.sub [(0, _), (1, _), (4, _), (5, _), (6, _), (7, _), (34, _), (40, _)] ?_ ⟨rfl, rfl, rfl, rfl, rfl, rfl, rfl, rfl, trivial⟩
   refine WP.next ?_
   refine WP.condT rfl ?_
   refine WP.seq ?_
   refine WP.region [0] rfl ?_
   refine WP.mv rfl rfl ?_
   refine WP.nil ?_
   refine WP.next ?_
   refine WP.ret ?_
   refine WP.fn .ret (.inr rfl) (res1 rfl rfl) [] hJa ?_
   exact ⟨rfl, rfl⟩
  ·refine WP.vl rfl (Yld.pickF rfl rfl rfl) ?_
   refine WP.nil ?_
   refine WP.sub [(0, _), (1, _), (4, _), (5, _), (6, _), (7, _), (34, _), (40, _)] ?_ ⟨rfl, rfl, rfl, rfl, rfl, rfl, rfl, rfl, trivial⟩
   refine WP.next ?_
   refine WP.condF rfl ?_
   refine WP.skip ?_
   refine WP.next ?_
   refine WP.seq ?_
   obtain ⟨m, rfl⟩ : ∃ m : Nat, mi = (m : Int) := ⟨mi.toNat, by omega⟩
   refine WP.region [0, 1, 2] rfl ?_
   refine WP.mv rfl rfl ?_
   refine WP.loud rfl rfl ?_
   refine Op.make (l := m) (c := m) rfl ty_sl_57 ty_el_57 rfl rfl rfl rfl rfl (Nat.le_refl _) (by omega) (by omega) (fun bs => ?_)
   rw [show ((List.replicate m (Value.agg #[.int .i64 0, .int .i64 0]).cells.toList).flatten) = hdV (List.replicate m (0, 0)) from hd0 m]
   refine WP.mv rfl rfl ?_
   refine WP.nil ?_
   refine WP.sub [(0, _), (1, _), (4, _), (5, _), (6, _), (7, _), (9, _), (34, _), (40, _)] ?_ ⟨rfl, rfl, rfl, rfl, rfl, rfl, rfl, rfl, rfl, trivial⟩
   refine WP.next ?_
   refine WP.seq ?_
   refine WP.region [0, 1, 2] rfl ?_
   refine WP.mv rfl rfl ?_
   refine WP.loud rfl rfl ?_
   refine Op.make (l := m) (c := m) rfl ty_sl_23 ty_el_23 rfl rfl rfl rfl rfl (Nat.le_refl _) (by omega) (by omega) (fun bt => ?_)
   rw [show ((List.replicate m (Value.int .i64 0).cells.toList).flatten) = atV (List.replicate m 0) from at0 m]
   refine WP.mv rfl rfl ?_
   refine WP.nil ?_
   refine WP.sub [(0, _), (1, _), (4, _), (5, _), (6, _), (7, _), (9, _), (10, _), (34, _), (40, _)] ?_ ⟨rfl, rfl, rfl, rfl, rfl, rfl, rfl, rfl, rfl, rfl, trivial⟩
   refine WP.next ?_
   refine WP.seq ?_
   refine WP.region [0] rfl ?_
   refine WP.mv rfl rfl ?_
   refine WP.nil ?_
   refine WP.next ?_
   refine WP.seq ?_
   refine WP.region [0] rfl ?_
   refine WP.mv rfl rfl ?_
   refine WP.nil ?_
   refine WP.next ?_
   refine WP.seq ?_
   refine WP.seq ?_
   refine WP.region [0] rfl ?_
   refine WP.mv rfl rfl ?_
   refine WP.nil ?_
   refine WP.next ?_
   refine WP.block ?_
   refine WP.loop (X := MVX) (fun t : MVX => [(0, .int .i64 (m : Int)), (1, .slice Ap ps.length cp), (6, .pointer (some ⟨x, 0, none⟩)), (9, .slice (some ⟨bs, 0, none⟩) m m), (10, .slice (some ⟨bt, 0, none⟩) m m), (11, t.vo), (12, .int .i64 (t.st : Int)), (13, .int .i64 (t.i : Int))]) (fun t => t.J) (fun t : MVX => (x, row 43 [.pointer (some ⟨d, 0, none⟩), .pointer (some ⟨s, 0, none⟩), .pointer (some ⟨l, 0, none⟩), .pointer (some ⟨q, 0, none⟩), .pointer (some ⟨rt, 0, none⟩), .pointer (some ⟨rm, 0, none⟩), .slice none 0 0, .slice none 0 0, .slice none 0 0, .slice none 0 0]) :: (bs, row 29 (hdV t.sn)) :: (bt, row 3 (atV t.at_)) :: (t.Lo ++ (t.L ++ F))) (fun t => t.ok Ja l s d m ps.length) (fun t => ps.length - t.i) ⟨0, ⟨1, ⟨255, 1, 1⟩, 0, 8, [], 0, 0, 8⟩, Ja, Ll, List.replicate m (0, 0), List.replicate m 0, [], .slice none 0 0, [], 0⟩ ⟨Nat.zero_le _, Imm.le_refl _, hl, rfl, rfl, rfl, rfl, rfl, rfl, List.length_replicate, List.length_replicate, (fun a ha => by rw [List.eq_of_mem_replicate ha]; decide), twos_zero m, (fun k hk => by cases hk), (by show 0 + phi _ (List.replicate m (0, 0)) (List.replicate m 0) ≤ 2 * m; rw [phi_zero]; omega), .none0⟩ ⟨rfl, rfl, rfl, rfl, rfl, rfl, rfl, rfl, trivial⟩ rfl (by (try dsimp only); repeat (first | exact Rm.chunk | exact Rm.here | exact Rm.nil0 | apply Rm.skip | apply Rm.skipS | apply PX.cons | (apply PX.done; (repeat (first | exact Leave.done | apply Leave.drop | apply Leave.dropS)); done) | apply PX.app)) ?_
   rintro ⟨i, xx, J, Lx, sn, at_, os, vo, Lo, st⟩ ⟨hle, hJ, hl, hb0, hp0, hm0, hw0, hgg, hrs, hsl, hal, ha2, htw0, hom, hph0, hoo⟩; dsimp only at hle hJ hl hb0 hp0 hm0 hw0 hgg hrs hsl hal ha2 htw0 hom hph0 hoo; obtain ⟨Ao, co, rfl, _⟩ := hoo.slice; have hml : os.length ≤ m := (by have := twos_le at_; omega)
   try dsimp only
   try simp only [nf]
   refine WP.seq ?_
   refine WP.seq ?_
   refine WP.region [0, 1, 2, 3] rfl ?_
   iterate 2 refine WP.mv rfl rfl ?_
   refine WP.vl rfl (Yld.len rfl ty_sl_23 rfl) ?_
   refine WP.split rfl rfl rfl rfl (Yld.lss rfl rfl rfl) (fun hlt => ?_) (fun hlt => ?_)
   ·have hi : i < ps.length := by omega
    have hps := hps.mono (fun b o h => hJ.2 b o h)
    obtain ⟨bp, kp, Tp, fp, arp, ep, hbp, hcp⟩ := ints_at hps hi
    obtain ⟨hk1, hk2⟩ := mod_nat (a := ps[i]) (m := m) (by omega)
    refine WP.nil ?_
    refine WP.sub [(0, _), (1, _), (6, _), (9, _), (10, _), (11, _), (12, _), (13, _), (48, _)] ?_ ⟨rfl, rfl, rfl, rfl, rfl, rfl, rfl, rfl, rfl, trivial⟩
    refine WP.next ?_
    refine WP.condT rfl ?_
    refine WP.skip ?_
    refine WP.next ?_
    refine WP.seq ?_
    refine WP.block ?_
    refine WP.seq ?_
    refine WP.region [0, 1, 2, 3, 4, 5, 6] rfl ?_
    iterate 2 refine WP.mv rfl rfl ?_
    refine WP.vl rfl (Yld.indexAddr (i := i) rfl ty_sl_23 (congrArg (fun a => some (Value.slice a ps.length cp)) ep) rfl hi) ?_
    refine WP.vl rfl (Yld.loadC rfl ty_sc_3 rfl (There.i hbp) hcp) ?_
    refine WP.mv rfl rfl ?_
    refine WP.vl rfl (Yld.remT rfl rfl rfl ⟨by omega, by omega⟩) ?_
    refine WP.mv rfl rfl ?_
    refine WP.nil ?_
    refine WP.sub [(0, _), (1, _), (6, _), (9, _), (10, _), (11, _), (12, _), (13, _), (14, _), (48, _)] ?_ ⟨rfl, rfl, rfl, rfl, rfl, rfl, rfl, rfl, rfl, rfl, trivial⟩
    refine WP.next ?_
    refine WP.cut (X := Nat) (fun k : Nat => [(0, .int .i64 (m : Int)), (1, .slice Ap ps.length cp), (6, .pointer (some ⟨x, 0, none⟩)), (9, .slice (some ⟨bs, 0, none⟩) m m), (10, .slice (some ⟨bt, 0, none⟩) m m), (11, .slice Ao os.length co), (12, .int .i64 (st : Int)), (13, .int .i64 (i : Int)), (14, .int .i64 (k : Int))]) (fun _ => J) (fun _ : Nat => (x, row 43 [.pointer (some ⟨d, 0, none⟩), .pointer (some ⟨s, 0, none⟩), .pointer (some ⟨l, 0, none⟩), .pointer (some ⟨q, 0, none⟩), .pointer (some ⟨rt, 0, none⟩), .pointer (some ⟨rm, 0, none⟩), .slice none 0 0, .slice none 0 0, .slice none 0 0, .slice none 0 0]) :: (bs, row 29 (hdV sn)) :: (bt, row 3 (atV at_)) :: (Lo ++ (Lx ++ F))) (fun k : Nat => k < m) ?_ ?_
    ·skip
     refine WP.seq ?_
     refine WP.region [0, 1] rfl ?_
     refine WP.mv rfl rfl ?_
     refine WP.split rfl rfl rfl rfl (Yld.lss rfl rfl rfl) (fun hneg => ?_) (fun hneg => ?_)
     ·obtain ⟨k, hkv, hk⟩ := hk2 hneg
      refine WP.nil ?_
      refine WP.sub [(0, _), (1, _), (6, _), (9, _), (10, _), (11, _), (12, _), (13, _), (14, _), (48, _), (58, _)] ?_ ⟨rfl, rfl, rfl, rfl, rfl, rfl, rfl, rfl, rfl, rfl, rfl, trivial⟩
      refine WP.next ?_
      refine WP.condT rfl ?_
      refine WP.region [0, 1, 2, 3] rfl ?_
      iterate 2 refine WP.mv rfl rfl ?_
      refine WP.vl rfl (Yld.add64 rfl rfl rfl (by omega)) ?_
      rw [hkv]
      refine WP.mv rfl rfl ?_
      refine WP.nil ?_
      refine WP.sub [(0, _), (1, _), (6, _), (9, _), (10, _), (11, _), (12, _), (13, _), (14, _), (48, _), (58, _)] ?_ ⟨rfl, rfl, rfl, rfl, rfl, rfl, rfl, rfl, rfl, rfl, rfl, trivial⟩
      exact WP.mt k hk ⟨rfl, rfl, rfl, rfl, rfl, rfl, rfl, rfl, rfl, trivial⟩ rfl
     ·obtain ⟨k, hkv, hk⟩ := hk1 hneg
      rw [hkv]
      refine WP.nil ?_
      refine WP.sub [(0, _), (1, _), (6, _), (9, _), (10, _), (11, _), (12, _), (13, _), (14, _), (48, _), (58, _)] ?_ ⟨rfl, rfl, rfl, rfl, rfl, rfl, rfl, rfl, rfl, rfl, rfl, trivial⟩
      refine WP.next ?_
      refine WP.condF rfl ?_
      refine WP.skip ?_
      exact WP.mt k hk ⟨rfl, rfl, rfl, rfl, rfl, rfl, rfl, rfl, rfl, trivial⟩ rfl
    ·intro k hk; have hka : k < at_.length := (by omega); have hks : k < sn.length := (by omega); have ha2k := ha2 _ (List.getElem_mem hka)
     refine WP.seq ?_
     refine WP.seq ?_
     refine WP.region [0, 1, 2, 3, 4] rfl ?_
     iterate 2 refine WP.mv rfl rfl ?_
     refine WP.vl rfl (Yld.indexAddr (i := k) rfl ty_sl_23 rfl rfl (by omega)) ?_
     refine WP.vl rfl (Yld.ld (v := .int .i64 (at_[k] : Int)) rfl ty_sc_3 rfl (atV_at hka)) ?_
     refine WP.split rfl rfl rfl rfl (Yld.eql rfl rfl rfl) (fun h0 => ?_) (fun h0 => ?_)
     ·refine WP.nil ?_
      refine WP.sub [(0, _), (1, _), (6, _), (9, _), (10, _), (11, _), (12, _), (13, _), (14, _), (66, _)] ?_ ⟨rfl, rfl, rfl, rfl, rfl, rfl, rfl, rfl, rfl, rfl, trivial⟩
      refine WP.next ?_
      refine WP.condT rfl ?_
      refine WP.seq ?_
      refine WP.region [0, 1, 2, 3, 4, 5, 6, 7, 8] rfl ?_
      iterate 3 refine WP.mv rfl rfl ?_
      refine WP.vl rfl (Yld.nilCheck rfl rfl) ?_
      refine WP.vl rfl (Yld.fieldAddr rfl ty_fd_43_2 rfl) ?_
      refine WP.vl rfl (Yld.ld (v := .pointer (some ⟨l, 0, none⟩)) rfl ty_sc_34 rfl rfl) ?_
      refine WP.loud rfl rfl ?_
      refine Op.cl (log_Head hl) rfl Try.func11 rfl rfl rfl rfl ?_
      rintro v J L1 - ⟨rfl, rfl, rfl⟩
      try simp only [nf]
      refine WP.vl rfl (Yld.indexAddr (i := k) rfl ty_sl_57 rfl rfl (by omega)) ?_
      refine WP.loud rfl rfl ?_
      refine Op.storeN rfl rfl ty_sz_29 rfl rfl rfl rfl (by show 0 + k * 2 + 2 ≤ (hdV sn).length; unfold hdV; rw [flat_len hdF_len]; omega) (hdV_set hks (xx.no, xx.pl)) (by repeat (first | exact Upd.head | apply Upd.tail | apply Upd.tailS)) ?_
      refine WP.nil ?_
      refine WP.sub [(0, _), (1, _), (6, _), (9, _), (10, _), (11, _), (12, _), (13, _), (14, _), (66, _)] ?_ ⟨rfl, rfl, rfl, rfl, rfl, rfl, rfl, rfl, rfl, rfl, trivial⟩
      refine WP.next ?_
      refine WP.seq ?_
      refine WP.region [0, 1, 2, 3] rfl ?_
      iterate 2 refine WP.mv rfl rfl ?_
      refine WP.vl rfl (Yld.indexAddr (i := k) rfl ty_sl_23 rfl rfl (by omega)) ?_
      refine WP.loud rfl rfl ?_
      refine Op.store1 rfl rfl ty_sz_3 rfl rfl rfl (by repeat (first | exact Upd.head | apply Upd.tail | apply Upd.tailS)) (atV_set hka 1) ?_
      refine WP.nil ?_
      refine WP.sub [(0, _), (1, _), (6, _), (9, _), (10, _), (11, _), (12, _), (13, _), (14, _), (66, _)] ?_ ⟨rfl, rfl, rfl, rfl, rfl, rfl, rfl, rfl, rfl, rfl, trivial⟩
      refine WP.next ?_
      refine WP.seq ?_
      refine WP.region [0, 1, 2] rfl ?_
      refine WP.mv rfl rfl ?_
      refine WP.vl rfl (Yld.add64 rfl rfl rfl (by omega)) ?_
      refine WP.mv rfl rfl ?_
      refine WP.nil ?_
      refine WP.sub [(0, _), (1, _), (6, _), (9, _), (10, _), (11, _), (12, _), (13, _), (14, _), (66, _)] ?_ ⟨rfl, rfl, rfl, rfl, rfl, rfl, rfl, rfl, rfl, rfl, trivial⟩
      refine WP.next ?_
      refine WP.exit ?_
      refine WP.thenE ?_
      refine WP.hit ?_
      refine WP.next ?_
      refine WP.region [0, 1, 2] rfl ?_
      refine WP.mv rfl rfl ?_
      refine WP.vl rfl (Yld.add64 rfl rfl rfl (by omega)) ?_
      refine WP.mv rfl rfl ?_
      refine WP.nil ?_
      refine WP.sub [(0, _), (1, _), (6, _), (9, _), (10, _), (11, _), (12, _), (13, _), (14, _), (66, _)] ?_ ⟨rfl, rfl, rfl, rfl, rfl, rfl, rfl, rfl, rfl, rfl, trivial⟩
      have hph := phi_set (xx.no, xx.pl) (xx.no, xx.pl) 1 sn at_ k (by omega) (by omega)
      have htw := twos_set 1 at_ k (by omega)
      have w1 : wt (xx.no, xx.pl) sn[k] at_[k] = 1 := by unfold wt; rw [if_pos (by omega)]
      have w2 : wt (xx.no, xx.pl) (xx.no, xx.pl) 1 = 0 := by unfold wt; rw [if_neg (by decide), if_pos rfl, if_pos rfl]
      rw [if_neg (by omega), if_neg (by decide)] at htw
      exact WP.ag ⟨i + 1, xx, J, Lx, sn.set k (xx.no, xx.pl), at_.set k 1, os, .slice Ao os.length co, Lo, st + 1⟩ ⟨(show i + 1 ≤ ps.length by omega), hJ, hl, hb0, hp0, hm0, hw0, hgg, hrs, (by rw [List.length_set]; exact hsl), (by rw [List.length_set]; exact hal), (fun a ha => by rcases List.mem_or_eq_of_mem_set ha with ha | rfl; exact ha2 a ha; decide), (show twos (at_.set k 1) = os.length by omega), hom, (show st + 1 + phi (xx.no, xx.pl) (sn.set k (xx.no, xx.pl)) (at_.set k 1) ≤ 2 * m by omega), hoo⟩ (show ps.length - (i + 1) < ps.length - i by omega) ⟨rfl, rfl, rfl, rfl, rfl, rfl, rfl, rfl, trivial⟩ rfl
     ·refine WP.nil ?_
      refine WP.sub [(0, _), (1, _), (6, _), (9, _), (10, _), (11, _), (12, _), (13, _), (14, _), (66, _)] ?_ ⟨rfl, rfl, rfl, rfl, rfl, rfl, rfl, rfl, rfl, rfl, trivial⟩
      refine WP.next ?_
      refine WP.condF rfl ?_
      refine WP.skip ?_
      refine WP.next ?_
      refine WP.seq ?_
      refine WP.seq ?_
      refine WP.region [0, 1, 2, 3, 4] rfl ?_
      iterate 2 refine WP.mv rfl rfl ?_
      refine WP.vl rfl (Yld.indexAddr (i := k) rfl ty_sl_23 rfl rfl (by omega)) ?_
      refine WP.vl rfl (Yld.ld (v := .int .i64 (at_[k] : Int)) rfl ty_sc_3 rfl (atV_at hka)) ?_
      refine WP.split rfl rfl rfl rfl (Yld.eql rfl rfl rfl) (fun h2 => ?_) (fun h2 => ?_)
      ·refine WP.nil ?_
       refine WP.sub [(0, _), (1, _), (6, _), (9, _), (10, _), (11, _), (12, _), (13, _), (14, _), (66, _), (84, _)] ?_ ⟨rfl, rfl, rfl, rfl, rfl, rfl, rfl, rfl, rfl, rfl, rfl, trivial⟩
       refine WP.next ?_
       refine WP.condT rfl ?_
       refine WP.exit ?_
       refine WP.thenE ?_
       refine WP.hit ?_
       refine WP.next ?_
       refine WP.region [0, 1, 2] rfl ?_
       refine WP.mv rfl rfl ?_
       refine WP.vl rfl (Yld.add64 rfl rfl rfl (by omega)) ?_
       refine WP.mv rfl rfl ?_
       refine WP.nil ?_
       refine WP.sub [(0, _), (1, _), (6, _), (9, _), (10, _), (11, _), (12, _), (13, _), (14, _), (66, _), (84, _)] ?_ ⟨rfl, rfl, rfl, rfl, rfl, rfl, rfl, rfl, rfl, rfl, rfl, trivial⟩
       exact WP.ag ⟨i + 1, xx, J, Lx, sn, at_, os, .slice Ao os.length co, Lo, st⟩ ⟨(show i + 1 ≤ ps.length by omega), hJ, hl, hb0, hp0, hm0, hw0, hgg, hrs, hsl, hal, ha2, htw0, hom, hph0, hoo⟩ (show ps.length - (i + 1) < ps.length - i by omega) ⟨rfl, rfl, rfl, rfl, rfl, rfl, rfl, rfl, trivial⟩ rfl
      ·refine WP.nil ?_
       refine WP.sub [(0, _), (1, _), (6, _), (9, _), (10, _), (11, _), (12, _), (13, _), (14, _), (66, _), (84, _)] ?_ ⟨rfl, rfl, rfl, rfl, rfl, rfl, rfl, rfl, rfl, rfl, rfl, trivial⟩
       refine WP.next ?_
       refine WP.condF rfl ?_
       refine WP.skip ?_
       refine WP.next ?_
       refine WP.cut (X := APX) (fun t : APX => [(0, .int .i64 (m : Int)), (1, .slice Ap ps.length cp), (6, .pointer (some ⟨x, 0, none⟩)), (9, .slice (some ⟨bs, 0, none⟩) m m), (10, .slice (some ⟨bt, 0, none⟩) m m), (11, .slice Ao os.length co), (12, .int .i64 (st : Int)), (13, .int .i64 (i : Int)), (14, .int .i64 (k : Int)), (16, .int .i64 t.e)]) (fun t => t.J) (fun t : APX => (x, row 43 [.pointer (some ⟨d, 0, none⟩), .pointer (some ⟨s, 0, none⟩), .pointer (some ⟨l, 0, none⟩), .pointer (some ⟨q, 0, none⟩), .pointer (some ⟨rt, 0, none⟩), .pointer (some ⟨rm, 0, none⟩), .slice none 0 0, .slice none 0 0, .slice none 0 0, .slice none 0 0]) :: (bs, row 29 (hdV sn)) :: (bt, row 3 (atV at_)) :: (Lo ++ (t.L ++ F))) (fun t : APX => J.le t.J ∧ t.e = xx.apE sn[k].1 sn[k].2 1 (ob k) ∧ ApOk xx (ob k) t.e t.hn t.hp t.x ∧ IsLog t.J l s d 8192 t.x (Dk.new 8192) t.L) ?_ ?_
       ·skip
        refine WD.start Trymixed 16 (fun c o => (c = x ∧ o = row 43 [.pointer (some ⟨d, 0, none⟩), .pointer (some ⟨s, 0, none⟩), .pointer (some ⟨l, 0, none⟩), .pointer (some ⟨q, 0, none⟩), .pointer (some ⟨rt, 0, none⟩), .pointer (some ⟨rm, 0, none⟩), .slice none 0 0, .slice none 0 0, .slice none 0 0, .slice none 0 0]) ∨ (c = bs ∧ o = row 29 (hdV sn))) (fun _ _ => False) (by rintro _ _ (⟨rfl, rfl⟩ | ⟨rfl, rfl⟩) <;> exact (by repeat (first | exact There.h | exact There.i (by assumption) | apply There.t | apply There.s))) (fun _ _ h => h.elim) 18 [false, false, false, false, false, false, false, false, false, false, false, false, false, false, false, false, false, false] rfl rfl ?_
        refine WD.val (i := 0) rfl rfl rfl rfl (by kernel_rfl) rfl (Yld.move rfl rfl) ?_
        refine WD.val (i := 1) rfl rfl rfl rfl (by kernel_rfl) rfl (Yld.nilCheck rfl rfl) ?_
        refine WD.val (i := 2) rfl rfl rfl rfl (by kernel_rfl) rfl (Yld.fieldAddr rfl ty_fd_43_2 rfl) ?_
        refine WD.val1 (i := 3) rfl rfl rfl rfl (by kernel_rfl) rfl (by kernel_rfl) (Yld.load (v := .pointer (some ⟨l, 0, none⟩)) rfl ty_sc_34 rfl (.inl (.inl ⟨rfl, rfl⟩)) rfl) ?_
        refine WD.val (i := 4) rfl rfl rfl rfl (by kernel_rfl) rfl (Yld.move rfl rfl) ?_
        refine WD.val (i := 5) rfl rfl rfl rfl (by kernel_rfl) rfl (Yld.move rfl rfl) ?_
        refine WD.val (i := 6) rfl rfl rfl rfl (by kernel_rfl) rfl (Yld.indexAddr (i := k) rfl ty_sl_57 rfl rfl (by omega)) ?_
        refine WD.val1 (i := 7) rfl rfl rfl rfl (by kernel_rfl) rfl (by kernel_rfl) (Yld.loadAgg (vs := hdF sn[k]) rfl ty_ag_29 rfl (.inl (.inr ⟨rfl, rfl⟩)) rfl (by have h := flat_seg hdF_len hks []; rw [List.append_nil] at h; exact h)) ?_
        refine WD.val (i := 8) rfl rfl rfl rfl (by kernel_rfl) rfl (Yld.move rfl rfl) ?_
        refine WD.val (i := 9) rfl rfl rfl rfl (by kernel_rfl) rfl (Yld.convN8 k rfl ty_un_3 ty_ik_5 rfl) ?_
        refine WD.both (i := 10) (j := 15) (by kernel_rfl) rfl rfl ?_ ?_
        ·refine WP.oper rfl rfl ?_
         refine Op.buildSlice rfl ty_sl_46 ty_el2_46 rfl rfl rfl rfl (vs := [_]) rfl (segs := [(0, [_])]) (cs := bytesV (ob k)) rfl rfl (by repeat (first | exact SetSeg.nil | apply SetSeg.one | exact SetAt.zero | apply SetAt.succ)) (fun b10 => ?_)
         refine WP.share (fun J1 hJ1 hb10 => ?_)
         have hl := hl.mono hJ1
         have hbk : SlRd (Im J1) (.slice (some ⟨b10, 0, none⟩) 1 1) (ob k).length 1 (bytesV (ob k)) := Im_lit (l := ob k) (sp := []) (c := 1) (by rw [List.append_nil]; exact hb10) (Nat.le_refl _)
         refine WD.go (.inr (by rintro _ _ (⟨rfl, rfl⟩ | ⟨rfl, rfl⟩) <;> exact (by repeat (first | exact There.h | exact There.i (by assumption) | apply There.t | apply There.s)))) (fun _ _ h => h.elim) ?_
         refine WD.both (i := 11) (j := 15) (by kernel_rfl) rfl rfl ?_ ?_
         ·refine WP.oper rfl rfl ?_
          refine Op.cl (log_AppendX (hn := sn[k].1) (hp := sn[k].2) (kind := 1) (b := ob k) hl hbk) rfl Try.func10 rfl rfl rfl rfl ?_
          rintro v J2 La hJ2 ⟨e, hn, hp, x2, rfl, hee, hap, hl⟩
          try simp only [nf]
          refine WD.go (.inr (by rintro _ _ (⟨rfl, rfl⟩ | ⟨rfl, rfl⟩) <;> exact (by repeat (first | exact There.h | exact There.i (by assumption) | apply There.t | apply There.s)))) (fun _ _ h => h.elim) ?_
          refine WD.val (i := 12) rfl rfl rfl rfl (by kernel_rfl) rfl (Yld.move rfl rfl) ?_
          refine WD.val (i := 13) rfl rfl rfl rfl (by kernel_rfl) rfl (Yld.extract rfl rfl rfl) ?_
          refine WD.val (i := 14) rfl rfl rfl rfl (by kernel_rfl) rfl (Yld.extract rfl rfl rfl) ?_
          refine WD.loud (i := 15) (by kernel_rfl) rfl rfl rfl ?_
          refine Op.alloc rfl rfl rfl ty_zr_29 (fun b15 => ?_)
          refine WD.go (.inr (by rintro _ _ (⟨rfl, rfl⟩ | ⟨rfl, rfl⟩) <;> exact (by repeat (first | exact There.h | exact There.i (by assumption) | apply There.t | apply There.s)))) (fun _ _ h => h.elim) ?_
          refine WD.loud (i := 16) (by kernel_rfl) rfl rfl rfl ?_
          refine Op.sA rfl rfl ty_sz_29 rfl rfl rfl rfl rfl ?_
          refine WD.go (.inl rfl) (fun _ _ h => h.elim) ?_
          refine WD.val (i := 17) rfl rfl rfl rfl (by kernel_rfl) rfl (Yld.assign rfl rfl) ?_
          refine WD.done (by kernel_rfl) ?_
          refine WP.sub [(0, _), (1, _), (6, _), (9, _), (10, _), (11, _), (12, _), (13, _), (14, _), (16, _), (66, _), (84, _)] ?_ ⟨rfl, rfl, rfl, rfl, rfl, rfl, rfl, rfl, rfl, rfl, rfl, rfl, trivial⟩
          exact WP.mt (⟨e, hn, hp, x2, J2, La, 0⟩ : APX) ⟨Imm.le_trans hJ1 hJ2, hee, hap, hl⟩ ⟨rfl, rfl, rfl, rfl, rfl, rfl, rfl, rfl, rfl, rfl, trivial⟩ rfl
         ·refine WP.oper rfl rfl ?_
          refine Op.alloc rfl rfl rfl ty_zr_29 (fun b15 => ?_)
          refine WD.go (.inr (by rintro _ _ (⟨rfl, rfl⟩ | ⟨rfl, rfl⟩) <;> exact (by repeat (first | exact There.h | exact There.i (by assumption) | apply There.t | apply There.s)))) (fun _ _ h => h.elim) ?_
          refine WD.loud (i := 11) (by kernel_rfl) rfl rfl rfl ?_
          refine Op.cl (log_AppendX (hn := sn[k].1) (hp := sn[k].2) (kind := 1) (b := ob k) hl hbk) rfl Try.func10 rfl rfl rfl rfl ?_
          rintro v J2 La hJ2 ⟨e, hn, hp, x2, rfl, hee, hap, hl⟩
          try simp only [nf]
          refine WD.go (.inr (by rintro _ _ (⟨rfl, rfl⟩ | ⟨rfl, rfl⟩) <;> exact (by repeat (first | exact There.h | exact There.i (by assumption) | apply There.t | apply There.s)))) (fun _ _ h => h.elim) ?_
          refine WD.val (i := 12) rfl rfl rfl rfl (by kernel_rfl) rfl (Yld.move rfl rfl) ?_
          refine WD.val (i := 13) rfl rfl rfl rfl (by kernel_rfl) rfl (Yld.extract rfl rfl rfl) ?_
          refine WD.val (i := 14) rfl rfl rfl rfl (by kernel_rfl) rfl (Yld.extract rfl rfl rfl) ?_
          refine WD.loud (i := 16) (by kernel_rfl) rfl rfl rfl ?_
          refine Op.sA rfl rfl ty_sz_29 rfl rfl rfl rfl rfl ?_
          refine WD.go (.inl rfl) (fun _ _ h => h.elim) ?_
          refine WD.val (i := 17) rfl rfl rfl rfl (by kernel_rfl) rfl (Yld.assign rfl rfl) ?_
          refine WD.done (by kernel_rfl) ?_
          refine WP.sub [(0, _), (1, _), (6, _), (9, _), (10, _), (11, _), (12, _), (13, _), (14, _), (16, _), (66, _), (84, _)] ?_ ⟨rfl, rfl, rfl, rfl, rfl, rfl, rfl, rfl, rfl, rfl, rfl, rfl, trivial⟩
          exact WP.mt (⟨e, hn, hp, x2, J2, La, 0⟩ : APX) ⟨Imm.le_trans hJ1 hJ2, hee, hap, hl⟩ ⟨rfl, rfl, rfl, rfl, rfl, rfl, rfl, rfl, rfl, rfl, trivial⟩ rfl
        ·refine WP.oper rfl rfl ?_
         refine Op.alloc rfl rfl rfl ty_zr_29 (fun b15 => ?_)
         refine WD.go (.inr (by rintro _ _ (⟨rfl, rfl⟩ | ⟨rfl, rfl⟩) <;> exact (by repeat (first | exact There.h | exact There.i (by assumption) | apply There.t | apply There.s)))) (fun _ _ h => h.elim) ?_
         refine WD.loud (i := 10) (by kernel_rfl) rfl rfl rfl ?_
         refine Op.buildSlice rfl ty_sl_46 ty_el2_46 rfl rfl rfl rfl (vs := [_]) rfl (segs := [(0, [_])]) (cs := bytesV (ob k)) rfl rfl (by repeat (first | exact SetSeg.nil | apply SetSeg.one | exact SetAt.zero | apply SetAt.succ)) (fun b10 => ?_)
         refine WP.share (fun J1 hJ1 hb10 => ?_)
         have hl := hl.mono hJ1
         have hbk : SlRd (Im J1) (.slice (some ⟨b10, 0, none⟩) 1 1) (ob k).length 1 (bytesV (ob k)) := Im_lit (l := ob k) (sp := []) (c := 1) (by rw [List.append_nil]; exact hb10) (Nat.le_refl _)
         refine WD.go (.inr (by rintro _ _ (⟨rfl, rfl⟩ | ⟨rfl, rfl⟩) <;> exact (by repeat (first | exact There.h | exact There.i (by assumption) | apply There.t | apply There.s)))) (fun _ _ h => h.elim) ?_
         refine WD.loud (i := 11) (by kernel_rfl) rfl rfl rfl ?_
         refine Op.cl (log_AppendX (hn := sn[k].1) (hp := sn[k].2) (kind := 1) (b := ob k) hl hbk) rfl Try.func10 rfl rfl rfl rfl ?_
         rintro v J2 La hJ2 ⟨e, hn, hp, x2, rfl, hee, hap, hl⟩
         try simp only [nf]
         refine WD.go (.inr (by rintro _ _ (⟨rfl, rfl⟩ | ⟨rfl, rfl⟩) <;> exact (by repeat (first | exact There.h | exact There.i (by assumption) | apply There.t | apply There.s)))) (fun _ _ h => h.elim) ?_
         refine WD.val (i := 12) rfl rfl rfl rfl (by kernel_rfl) rfl (Yld.move rfl rfl) ?_
         refine WD.val (i := 13) rfl rfl rfl rfl (by kernel_rfl) rfl (Yld.extract rfl rfl rfl) ?_
         refine WD.val (i := 14) rfl rfl rfl rfl (by kernel_rfl) rfl (Yld.extract rfl rfl rfl) ?_
         refine WD.loud (i := 16) (by kernel_rfl) rfl rfl rfl ?_
         refine Op.sA rfl rfl ty_sz_29 rfl rfl rfl rfl rfl ?_
         refine WD.go (.inl rfl) (fun _ _ h => h.elim) ?_
         refine WD.val (i := 17) rfl rfl rfl rfl (by kernel_rfl) rfl (Yld.assign rfl rfl) ?_
         refine WD.done (by kernel_rfl) ?_
         refine WP.sub [(0, _), (1, _), (6, _), (9, _), (10, _), (11, _), (12, _), (13, _), (14, _), (16, _), (66, _), (84, _)] ?_ ⟨rfl, rfl, rfl, rfl, rfl, rfl, rfl, rfl, rfl, rfl, rfl, rfl, trivial⟩
         exact WP.mt (⟨e, hn, hp, x2, J2, La, 0⟩ : APX) ⟨Imm.le_trans hJ1 hJ2, hee, hap, hl⟩ ⟨rfl, rfl, rfl, rfl, rfl, rfl, rfl, rfl, rfl, rfl, trivial⟩ rfl
       ·rintro ⟨e, hn, hp, x2, J2, La, _⟩ ⟨hJ2, hee, hap, hl2⟩; dsimp only at hJ2 hee hap hl2; have hk1 : at_[k] = 1 := (by omega); have hlt60 : os.length < 60 := (by have := twos_lt hka (by omega); omega); rw [mv_apE hrs hb0 hp0 hgg hlt60] at hee
        refine WP.seq ?_
        refine WP.region [0, 1, 2, 3] rfl ?_
        iterate 2 refine WP.mv rfl rfl ?_
        refine WP.vl rfl (Yld.indexAddr (i := k) rfl ty_sl_23 rfl rfl (by omega)) ?_
        refine WP.loud rfl rfl ?_
        refine Op.store1 rfl rfl ty_sz_3 rfl rfl rfl (by repeat (first | exact Upd.head | apply Upd.tail | apply Upd.tailS)) (atV_set hka 0) ?_
        refine WP.nil ?_
        refine WP.sub [(0, _), (1, _), (6, _), (9, _), (10, _), (11, _), (12, _), (13, _), (14, _), (16, _)] ?_ ⟨rfl, rfl, rfl, rfl, rfl, rfl, rfl, rfl, rfl, rfl, trivial⟩
        refine WP.next ?_
        refine WP.seq ?_
        refine WP.region [0, 1, 2] rfl ?_
        refine WP.mv rfl rfl ?_
        refine WP.vl rfl (Yld.add64 rfl rfl rfl (by omega)) ?_
        refine WP.mv rfl rfl ?_
        refine WP.nil ?_
        refine WP.sub [(0, _), (1, _), (6, _), (9, _), (10, _), (11, _), (12, _), (13, _), (14, _), (16, _)] ?_ ⟨rfl, rfl, rfl, rfl, rfl, rfl, rfl, rfl, rfl, rfl, trivial⟩
        refine WP.next ?_
        refine WP.seq ?_
        refine WP.seq ?_
        refine WP.region [0, 1] rfl ?_
        refine WP.mv rfl rfl ?_
        refine WP.split rfl rfl rfl rfl (Yld.eql rfl rfl rfl) (fun he => ?_) (fun he => ?_)
        ·obtain ⟨_, r, hrb, rfl, _, _⟩ := hap.resolve_left (fun h => h.1 he)
         refine WP.nil ?_
         refine WP.sub [(0, _), (1, _), (6, _), (9, _), (10, _), (11, _), (12, _), (13, _), (14, _), (16, _), (106, _)] ?_ ⟨rfl, rfl, rfl, rfl, rfl, rfl, rfl, rfl, rfl, rfl, rfl, trivial⟩
         refine WP.next ?_
         refine WP.condT rfl ?_
         refine WP.seq ?_
         refine WP.region [0, 1, 2, 3] rfl ?_
         iterate 2 refine WP.mv rfl rfl ?_
         refine WP.vl rfl (Yld.indexAddr (i := k) rfl ty_sl_23 rfl rfl (by omega)) ?_
         refine WP.loud rfl rfl ?_
         refine Op.store1 rfl rfl ty_sz_3 rfl rfl rfl (by repeat (first | exact Upd.head | apply Upd.tail | apply Upd.tailS)) (by have h := atV_set (l := at_.set k 0) (k := k) (by rw [List.length_set]; exact hka) 2; rw [List.set_set] at h; exact h) ?_
         refine WP.nil ?_
         refine WP.sub [(0, _), (1, _), (6, _), (9, _), (10, _), (11, _), (12, _), (13, _), (14, _), (16, _), (106, _)] ?_ ⟨rfl, rfl, rfl, rfl, rfl, rfl, rfl, rfl, rfl, rfl, rfl, trivial⟩
         refine WP.next ?_
         refine WP.seq ?_
         refine WP.region [0, 1, 2, 3, 4] rfl ?_
         iterate 2 refine WP.mv rfl rfl ?_
         refine WP.loud rfl rfl ?_
         refine Op.buildSlice rfl ty_sl_23 ty_el2_23 rfl rfl rfl rfl (vs := [_]) rfl (segs := [(0, [_])]) (cs := atV [k]) rfl rfl (by repeat (first | exact SetSeg.nil | apply SetSeg.one | exact SetAt.zero | apply SetAt.succ)) (fun bq => ?_)
         refine WP.loud rfl rfl ?_
         refine Op.append (m := 1) rfl ty_sl_23 ty_el_23 rfl rfl rfl rfl rfl hoo (SlRd.lit (m := 1) (by repeat (first | exact There.h | exact There.i (by assumption) | apply There.t | apply There.s)) rfl (Nat.le_refl _)) (by repeat (first | exact Take.nil | with_reducible apply Take.cons | apply Take.app | exact Rm.chunk | exact Rm.here | exact Rm.nil0 | apply Rm.skip | apply Rm.skipS | (focus (apply Take.all; (repeat (first | exact Rm.chunk | exact Rm.here | exact Rm.nil0 | apply Rm.skip | apply Rm.skipS)); done)) | apply Take.cons)) rfl (by omega) (by omega) (fun vn Ln hn2 => ?_)
         try simp only [nf]
         have hnew : Own 3 1 vn (atV (os ++ [k])) (os ++ [k]).length Ln := by rw [List.length_append]; show Own _ _ _ (atV (os ++ [k])) _ _; rw [show atV (os ++ [k]) = atV os ++ atV [k] from by simp [atV]]; exact hn2
         refine WP.mv rfl rfl ?_
         refine WP.nil ?_
         refine WP.sub [(0, _), (1, _), (6, _), (9, _), (10, _), (11, _), (12, _), (13, _), (14, _), (16, _), (106, _)] ?_ ⟨rfl, rfl, rfl, rfl, rfl, rfl, rfl, rfl, rfl, rfl, rfl, trivial⟩
         refine WP.next ?_
         refine WP.region [0] rfl ?_
         refine WP.mv rfl rfl ?_
         refine WP.nil ?_
         refine WP.next ?_
         refine WP.seq ?_
         refine WP.region [0, 1, 2, 3, 4, 5, 6, 7, 8, 9, 10, 11, 12] rfl ?_
         refine WP.mv rfl rfl ?_
         refine WP.vl rfl (Yld.neq rfl rfl rfl false (decide_eq_false (by omega))) ?_
         refine WP.mv rfl rfl ?_
         refine WP.passG rfl rfl rfl rfl rfl rfl rfl rfl ?_
         refine WP.passG rfl rfl rfl rfl rfl rfl rfl rfl ?_
         refine WP.vl rfl (Yld.pickF rfl rfl rfl) ?_
         refine WP.mv rfl rfl ?_
         refine WP.valG rfl rfl rfl rfl rfl rfl rfl (Yld.move rfl rfl) ?_
         refine WP.valG rfl rfl rfl rfl rfl rfl rfl (Yld.move rfl rfl) ?_
         refine WP.valG rfl rfl rfl rfl rfl rfl rfl (Yld.mul64 rfl rfl rfl (by omega)) ?_
         refine WP.valG rfl rfl rfl rfl rfl rfl rfl (Yld.add64 rfl rfl rfl (by omega)) ?_
         refine WP.valG rfl rfl rfl rfl rfl rfl rfl (Yld.gtr rfl rfl rfl false (decide_eq_false (by omega))) ?_
         refine WP.vl rfl (Yld.pickF rfl rfl rfl) ?_
         refine WP.nil ?_
         refine WP.sub [(0, _), (1, _), (6, _), (9, _), (10, _), (11, _), (12, _), (13, _), (14, _), (16, _), (106, _), (126, _)] ?_ ⟨rfl, rfl, rfl, rfl, rfl, rfl, rfl, rfl, rfl, rfl, rfl, rfl, trivial⟩
         refine WP.next ?_
         refine WP.condF rfl ?_
         refine WP.skip ?_
         refine WP.leave ?_
         refine WP.next ?_
         refine WP.region [0, 1, 2] rfl ?_
         refine WP.mv rfl rfl ?_
         refine WP.vl rfl (Yld.add64 rfl rfl rfl (by omega)) ?_
         refine WP.mv rfl rfl ?_
         refine WP.nil ?_
         refine WP.sub [(0, _), (1, _), (6, _), (9, _), (10, _), (11, _), (12, _), (13, _), (14, _), (16, _), (106, _), (126, _)] ?_ ⟨rfl, rfl, rfl, rfl, rfl, rfl, rfl, rfl, rfl, rfl, rfl, rfl, trivial⟩
         have htw := twos_set 2 at_ k (by omega)
         rw [if_neg (by omega), if_pos rfl] at htw
         have hpl2 := phi_le ((xx.push r).no, (xx.push r).pl) sn (at_.set k 2)
         rw [List.length_set] at hpl2
         exact WP.ag ⟨i + 1, xx.push r, J2, La, sn, at_.set k 2, os ++ [k], vn, Ln, 0⟩ ⟨(show i + 1 ≤ ps.length by omega), Imm.le_trans hJ hJ2, hl2, hb0, hp0, hm0, hw0, hgg, mv_push hrs hrb, hsl, (by rw [List.length_set]; exact hal), (fun a ha => by rcases List.mem_or_eq_of_mem_set ha with ha | rfl; exact ha2 a ha; decide), (by rw [List.length_append]; show twos (at_.set k 2) = os.length + 1; omega), (fun a ha => by rcases List.mem_append.1 ha with ha | ha; exact hom a ha; rw [List.mem_singleton.1 ha]; exact hk), (show 0 + phi ((xx.push r).no, (xx.push r).pl) sn (at_.set k 2) ≤ 2 * m by omega), hnew⟩ (show ps.length - (i + 1) < ps.length - i by omega) ⟨rfl, rfl, rfl, rfl, rfl, rfl, rfl, rfl, trivial⟩ rfl
        ·obtain ⟨_, hxe, _, _⟩ := hap.resolve_right (fun h => he h.1)
         rw [hxe] at hl2
         have hne : ¬ (sn[k].1 = xx.no ∧ sn[k].2 = xx.pl) := fun hc => he (by rw [hee, if_pos hc])
         rw [if_neg hne] at hee
         have hph := phi_set (xx.no, xx.pl) sn[k] 0 sn at_ k hks hka
         rw [List.set_getElem_self] at hph
         have w1 : wt (xx.no, xx.pl) sn[k] at_[k] = 2 := by unfold wt; rw [if_neg (by omega), if_pos hk1, if_neg (fun e => hne (by rw [e]; exact ⟨rfl, rfl⟩))]
         have w2 : wt (xx.no, xx.pl) sn[k] 0 = 1 := if_pos rfl
         have htw := twos_set 0 at_ k hka
         rw [if_neg (by omega), if_neg (by decide)] at htw
         have hph2 : st + 1 + phi (xx.no, xx.pl) sn (at_.set k 0) ≤ 2 * m := by omega
         refine WP.nil ?_
         refine WP.sub [(0, _), (1, _), (6, _), (9, _), (10, _), (11, _), (12, _), (13, _), (14, _), (16, _), (106, _)] ?_ ⟨rfl, rfl, rfl, rfl, rfl, rfl, rfl, rfl, rfl, rfl, rfl, trivial⟩
         refine WP.next ?_
         refine WP.condF rfl ?_
         refine WP.skip ?_
         refine WP.next ?_
         refine WP.seq ?_
         refine WP.region [0, 1, 2, 3, 4, 5, 6, 7, 8, 9, 10, 11, 12] rfl ?_
         refine WP.mv rfl rfl ?_
         refine WP.vl rfl (Yld.neq rfl rfl rfl true (decide_eq_true (by omega))) ?_
         refine WP.mv rfl rfl ?_
         refine WP.valG rfl rfl rfl rfl rfl rfl rfl (Yld.move rfl rfl) ?_
         refine WP.valG rfl rfl rfl rfl rfl rfl rfl (Yld.neq rfl rfl rfl false (decide_eq_false (by exact fun h => h hee))) ?_
         refine WP.vl rfl (Yld.pickT rfl rfl rfl) ?_
         refine WP.mv rfl rfl ?_
         refine WP.valG rfl rfl rfl rfl rfl rfl rfl (Yld.move rfl rfl) ?_
         refine WP.valG rfl rfl rfl rfl rfl rfl rfl (Yld.move rfl rfl) ?_
         refine WP.valG rfl rfl rfl rfl rfl rfl rfl (Yld.mul64 rfl rfl rfl (by omega)) ?_
         refine WP.valG rfl rfl rfl rfl rfl rfl rfl (Yld.add64 rfl rfl rfl (by omega)) ?_
         refine WP.valG rfl rfl rfl rfl rfl rfl rfl (Yld.gtr rfl rfl rfl false (decide_eq_false (by omega))) ?_
         refine WP.vl rfl (Yld.pickF rfl rfl rfl) ?_
         refine WP.nil ?_
         refine WP.sub [(0, _), (1, _), (6, _), (9, _), (10, _), (11, _), (12, _), (13, _), (14, _), (16, _), (106, _), (126, _)] ?_ ⟨rfl, rfl, rfl, rfl, rfl, rfl, rfl, rfl, rfl, rfl, rfl, rfl, trivial⟩
         refine WP.next ?_
         refine WP.condF rfl ?_
         refine WP.skip ?_
         refine WP.leave ?_
         refine WP.next ?_
         refine WP.region [0, 1, 2] rfl ?_
         refine WP.mv rfl rfl ?_
         refine WP.vl rfl (Yld.add64 rfl rfl rfl (by omega)) ?_
         refine WP.mv rfl rfl ?_
         refine WP.nil ?_
         refine WP.sub [(0, _), (1, _), (6, _), (9, _), (10, _), (11, _), (12, _), (13, _), (14, _), (16, _), (106, _), (126, _)] ?_ ⟨rfl, rfl, rfl, rfl, rfl, rfl, rfl, rfl, rfl, rfl, rfl, rfl, trivial⟩
         exact WP.ag ⟨i + 1, xx, J2, La, sn, at_.set k 0, os, .slice Ao os.length co, Lo, st + 1⟩ ⟨(show i + 1 ≤ ps.length by omega), Imm.le_trans hJ hJ2, hl2, hb0, hp0, hm0, hw0, hgg, hrs, hsl, (by rw [List.length_set]; exact hal), (fun a ha => by rcases List.mem_or_eq_of_mem_set ha with ha | rfl; exact ha2 a ha; decide), (show twos (at_.set k 0) = os.length by omega), hom, hph2, hoo⟩ (show ps.length - (i + 1) < ps.length - i by omega) ⟨rfl, rfl, rfl, rfl, rfl, rfl, rfl, rfl, trivial⟩ rfl
   ·obtain ⟨en, epl⟩ := mv_no hrs hb0 hp0
    have hrl := mv_len hrs
    have hlo := lo_zero hm0
    refine WP.nil ?_
    refine WP.sub [(0, _), (1, _), (6, _), (9, _), (10, _), (11, _), (12, _), (13, _), (48, _)] ?_ ⟨rfl, rfl, rfl, rfl, rfl, rfl, rfl, rfl, rfl, trivial⟩
    refine WP.next ?_
    refine WP.condF rfl ?_
    refine WP.exit ?_
    refine WP.thenE ?_
    refine WP.thenE ?_
    refine WP.hit ?_
    refine WP.next ?_
    refine WP.seq ?_
    refine WP.seq ?_
    refine WP.region [0] rfl ?_
    refine WP.mv rfl rfl ?_
    refine WP.nil ?_
    refine WP.next ?_
    refine WP.block ?_
    refine WP.loop (X := Nat × Chunks) (fun u : Nat × Chunks => [(6, .pointer (some ⟨x, 0, none⟩)), (11, .slice Ao os.length co), (17, .int .i64 (u.1 : Int))]) (fun _ => J) (fun u : Nat × Chunks => (x, row 43 [.pointer (some ⟨d, 0, none⟩), .pointer (some ⟨s, 0, none⟩), .pointer (some ⟨l, 0, none⟩), .pointer (some ⟨q, 0, none⟩), .pointer (some ⟨rt, 0, none⟩), .pointer (some ⟨rm, 0, none⟩), .slice none 0 0, .slice none 0 0, .slice none 0 0, .slice none 0 0]) :: (Lo ++ (Lx ++ F))) (fun u : Nat × Chunks => u.1 ≤ os.length) (fun u : Nat × Chunks => os.length - u.1) (0, []) (Nat.zero_le _) ⟨rfl, rfl, rfl, trivial⟩ rfl (by (try dsimp only); repeat (first | exact Rm.chunk | exact Rm.here | exact Rm.nil0 | apply Rm.skip | apply Rm.skipS | apply PX.cons | (apply PX.done; (repeat (first | exact Leave.done | apply Leave.drop | apply Leave.dropS)); done) | apply PX.app)) ?_
    rintro ⟨j, _⟩ hj; dsimp only at hj
    try dsimp only
    try simp only [nf]
    refine WP.seq ?_
    refine WP.seq ?_
    refine WP.region [0, 1, 2, 3] rfl ?_
    iterate 2 refine WP.mv rfl rfl ?_
    refine WP.vl rfl (Yld.len rfl ty_sl_23 rfl) ?_
    refine WP.split rfl rfl rfl rfl (Yld.lss rfl rfl rfl) (fun hlt3 => ?_) (fun hlt3 => ?_)
    ·have hj2 : j < os.length := by omega
     have hjr : j < xx.rs.length := by omega
     have hrj : xx.rs[j].b = ob os[j] := by have := congrArg (fun z => z[j]?) hrs; simp [hjr, hj2] at this; exact this
     have hom2 := hom _ (List.getElem_mem hj2)
     obtain ⟨bo, cpo, spo, ev, rfl, _, _⟩ := hoo.get (by omega)
     obtain ⟨rfl, rfl⟩ : Ao = some ⟨bo, 0, none⟩ ∧ co = cpo := by injection ev with e1 _ e2; exact ⟨e1, e2⟩
     try simp only [nf]
     refine WP.nil ?_
     refine WP.sub [(6, _), (11, _), (17, _), (130, _)] ?_ ⟨rfl, rfl, rfl, rfl, trivial⟩
     refine WP.next ?_
     refine WP.condT rfl ?_
     refine WP.skip ?_
     refine WP.next ?_
     refine WP.seq ?_
     refine WP.block ?_
     refine WP.seq ?_
     refine WP.region [0, 1, 2, 3, 4, 5, 6, 7, 8, 9, 10, 11, 12, 13, 14, 15] rfl ?_
     refine WP.mv rfl rfl ?_
     refine WP.vl rfl (Yld.nilCheck rfl rfl) ?_
     refine WP.vl rfl (Yld.fieldAddr rfl ty_fd_43_2 rfl) ?_
     refine WP.vl rfl (Yld.ld (v := .pointer (some ⟨l, 0, none⟩)) rfl ty_sc_34 rfl rfl) ?_
     refine WP.mv rfl rfl ?_
     refine WP.vl rfl (Yld.add64 rfl rfl rfl (by omega)) ?_
     rw [show (j : Int) + 1 = ((xx.base + j + 1 : Nat) : Int) by omega]
     refine WP.loud rfl rfl ?_
     refine Op.cl (log_Record hl hjr (by omega)) rfl Try.func18 rfl rfl rfl rfl ?_
     rintro v J L34 - ⟨rfl, vb, Lc, rfl, hvb, rfl⟩
     try simp only [nf]
     rw [hrj] at hvb
     obtain ⟨bc, cc, sp, rfl, rfl, _, _⟩ := hvb.get (by rw [ob_len]; decide)
     try simp only [nf]
     refine WP.mv rfl rfl ?_
     refine WP.vl rfl (Yld.extract rfl rfl rfl) ?_
     refine WP.vl rfl (Yld.extract rfl rfl rfl) ?_
     refine WP.vl rfl (Yld.extract rfl rfl rfl) ?_
     refine WP.vl rfl (Yld.extract rfl rfl rfl) ?_
     iterate 4 refine WP.mv rfl rfl ?_
     refine WP.nil ?_
     refine WP.sub [(6, _), (11, _), (17, _), (20, _), (21, _), (130, _)] ?_ ⟨rfl, rfl, rfl, rfl, rfl, rfl, trivial⟩
     refine WP.next ?_
     refine WP.seq ?_
     refine WQ.startAll Trymixed (by kernel_rfl) _ rfl ?_
     refine WQ.val rfl rfl rfl (Yld.move rfl rfl) ?_
     refine WQ.val rfl rfl rfl (Yld.not rfl rfl) ?_
     refine WQ.val rfl rfl rfl (Yld.move rfl rfl) ?_
     refine WQ.valG rfl rfl rfl rfl rfl rfl (Yld.move rfl rfl) ?_
     refine WQ.valG rfl rfl rfl rfl rfl rfl (Yld.len rfl ty_sl_46 rfl) ?_
     refine WQ.valG rfl rfl rfl rfl rfl rfl (Yld.neq rfl rfl rfl false (decide_eq_false (by simp [ob_len]))) ?_
     refine WQ.val rfl rfl rfl (Yld.pickF rfl rfl rfl) ?_
     refine WQ.val rfl rfl rfl (Yld.move rfl rfl) ?_
     refine WQ.valG rfl rfl rfl rfl rfl rfl (Yld.move rfl rfl) ?_
     refine WQ.valG rfl rfl rfl rfl rfl rfl (Yld.indexAddr (i := 0) rfl ty_sl_46 rfl rfl (by rw [ob_len]; decide)) ?_
     refine WQ.valG rfl rfl rfl rfl rfl rfl (Yld.ld (v := byteV (UInt8.ofNat os[j])) rfl ty_sc_5 rfl rfl) ?_
     refine WQ.valG rfl rfl rfl rfl rfl rfl (Yld.conv64 rfl ty_un_5 ty_ik_3 rfl (by have := (UInt8.ofNat os[j]).toNat_lt; omega)) ?_
     rw [show ((UInt8.ofNat os[j]).toNat : Int) = (os[j] : Int) by rw [UInt8.toNat_ofNat']; omega]
     refine WQ.valG rfl rfl rfl rfl rfl rfl (Yld.move rfl rfl) ?_
     refine WQ.valG rfl rfl rfl rfl rfl rfl (Yld.move rfl rfl) ?_
     refine WQ.valG rfl rfl rfl rfl rfl rfl (Yld.indexAddr (i := j) rfl ty_sl_23 rfl rfl hj2) ?_
     refine WQ.valG rfl rfl rfl rfl rfl rfl (Yld.ld (v := .int .i64 (os[j] : Int)) rfl ty_sc_3 rfl (atV_app hj2 spo)) ?_
     refine WQ.valG rfl rfl rfl rfl rfl rfl (Yld.neq rfl rfl rfl false (decide_eq_false (by simp))) ?_
     refine WQ.val rfl rfl rfl (Yld.pickF rfl rfl rfl) ?_
     refine WQ.nil ?_
     refine WP.sub [(6, _), (11, _), (17, _), (20, _), (21, _), (130, _), (162, _)] ?_ ⟨rfl, rfl, rfl, rfl, rfl, rfl, rfl, trivial⟩
     refine WP.next ?_
     refine WP.condF rfl ?_
     refine WP.skip ?_
     refine WP.leave ?_
     refine WP.next ?_
     refine WP.region [0, 1, 2] rfl ?_
     refine WP.mv rfl rfl ?_
     refine WP.vl rfl (Yld.add64 rfl rfl rfl (by omega)) ?_
     refine WP.mv rfl rfl ?_
     refine WP.nil ?_
     refine WP.sub [(6, _), (11, _), (17, _), (20, _), (21, _), (130, _), (162, _)] ?_ ⟨rfl, rfl, rfl, rfl, rfl, rfl, rfl, trivial⟩
     exact WP.ag (j + 1, []) (show j + 1 ≤ os.length by omega) (show os.length - (j + 1) < os.length - j by omega) ⟨rfl, rfl, rfl, trivial⟩ rfl
    ·refine WP.nil ?_
     refine WP.sub [(6, _), (11, _), (17, _), (130, _)] ?_ ⟨rfl, rfl, rfl, rfl, trivial⟩
     refine WP.next ?_
     refine WP.condF rfl ?_
     refine WP.exit ?_
     refine WP.thenE ?_
     refine WP.thenE ?_
     refine WP.hit ?_
     refine WP.next ?_
     refine WP.seq ?_
     refine WP.region [0, 1, 2, 3, 4, 5, 6, 7, 8, 9] rfl ?_
     refine WP.mv rfl rfl ?_
     refine WP.vl rfl (Yld.nilCheck rfl rfl) ?_
     refine WP.vl rfl (Yld.fieldAddr rfl ty_fd_43_2 rfl) ?_
     refine WP.vl rfl (Yld.ld (v := .pointer (some ⟨l, 0, none⟩)) rfl ty_sc_34 rfl rfl) ?_
     refine WP.loud rfl rfl ?_
     refine Op.cl (log_Head hl) rfl Try.func11 rfl rfl rfl rfl ?_
     rintro v J L1 - ⟨rfl, rfl, rfl⟩
     try simp only [nf]
     refine WP.vl rfl (Yld.field (v := .int .i64 (xx.no : Int)) rfl ty_fl_29_0 ty_sc_3 rfl rfl) ?_
     refine WP.mv rfl rfl ?_
     refine WP.vl rfl (Yld.len rfl ty_sl_23 rfl) ?_
     refine WP.vl rfl (Yld.eql rfl rfl rfl true (decide_eq_true (by omega))) ?_
     refine WP.mv rfl rfl ?_
     refine WP.nil ?_
     refine WP.sub [(4, _), (6, _), (11, _), (17, _), (130, _)] ?_ ⟨rfl, rfl, rfl, rfl, rfl, trivial⟩
     refine WP.next ?_
     refine WP.ret ?_
     refine WP.fn .ret (.inr rfl) (res1 rfl rfl) [] (Imm.le_trans hJa hJ) ?_
     exact ⟨rfl, rfl⟩


end Go.Hp
