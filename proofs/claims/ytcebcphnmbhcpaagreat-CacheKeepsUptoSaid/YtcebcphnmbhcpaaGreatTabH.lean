import Derived.Test.YtcebcphnmbhcpaaGreatTabD
set_option linter.unusedVariables false
set_option linter.unusedSimpArgs false
namespace Go.Hp
open Go Go.Proofs

theorem SlRd.elem {V : Nat → Obj → Prop} {A : Option Addr} {c m sz : Nat} {cs : List Value} (hv : SlRd V (.slice A m c) m sz cs) {i : Nat} (hi : i < m) : ∃ b k T fr arr, A = some ⟨b, k, none⟩ ∧ V b (.cells arr T fr) ∧ (arr.toList.drop (k + i * sz)).take sz = (cs.drop (i * sz)).take sz ∧ ∀ j, j < sz → arr[k + i * sz + j]? = cs[i * sz + j]? := by
 obtain ⟨A', c', e, hc, hl, h3⟩ := hv
 cases e
 obtain ⟨b, k, T, fr, arr, rfl, hb, h4⟩ := h3.resolve_left (by omega)
 have hle : (i + 1) * sz ≤ m * sz := Nat.mul_le_mul_right _ hi
 rw [Nat.add_mul, Nat.one_mul] at hle
 have hh : ∀ j, j < sz → arr[k + i * sz + j]? = cs[i * sz + j]? := fun j hj => by
  have e1 : cs[i * sz + j]? = ((arr.toList.drop k).take cs.length)[i * sz + j]? := by rw [h4]
  rw [e1, List.getElem?_take, if_pos (by omega), List.getElem?_drop, Array.getElem?_toList, Nat.add_assoc]
 refine ⟨b, k, T, fr, arr, rfl, hb, ?_, hh⟩
 apply List.ext_getElem?
 intro j
 rw [List.getElem?_take, List.getElem?_take]
 by_cases hj : j < sz
 ·rw [if_pos hj, if_pos hj, List.getElem?_drop, List.getElem?_drop, Array.getElem?_toList, hh j hj]
 ·rw [if_neg hj, if_neg hj]
structure Ent.mayP (e : Ent) : Prop where
 m1 : e.nodes.length ≤ 64
 m2 : 0 ≤ min (min (min (min (min e.place e.no) e.low) e.txn) e.lead) e.kept
 m3 : e.kept ≤ (e.nodes.length : Int)
 m4 : e.lead ≤ 512
 m5 : e.with_.length < 8
 m6 : ∀ w ∈ e.with_, 1 ≤ w ∧ w ≤ 512
 m7 : ∀ (i : Nat) (x : Bool × List UInt8), i + 1 < e.nodes.length → e.nodes[i]? = some x → x.1 = false
theorem tab_may {I : Imm} {e : Ent} {cs : List Value} (he : REnt I e cs) (hsz : e.sized) : Spec Tryz.prog 34 [.agg cs.toArray] I [] (fun v J L => ∃ b, v = .bool b ∧ (b = true ↔ e.mayP) ∧ I = J ∧ L = []) := by
 obtain ⟨vn, vw, nv, rfl, hn, hno, hw⟩ := he.ex
 obtain ⟨An, cn, rfl, hcn⟩ := hn.slice'
 obtain ⟨Aw, cw, rfl, hcw⟩ := hw.slice'
 refine Spec.of Tryz.func34 rfl Tryz.ntmps34 (Nat.le_of_ble_eq_true rfl) (fun F => ?_)
 try simp only [nf]
 dsimp only [argsEnv]
 refine WP.seq ?_; refine WP.region [0, 1] rfl ?_; refine WP.loud rfl rfl ?_; refine Op.box rfl rfl rfl rfl rfl (fun b1 => ?_)
 refine WP.mv rfl rfl ?_; refine WP.nil (WP.next (WP.seq (WP.seq ?_)))
 refine WP.region [0, 1, 2, 3, 4, 5, 6, 7, 8, 9, 10, 11, 12, 13, 14, 15, 16, 17, 18, 19, 20, 21, 22, 23, 24, 25, 26, 27, 28, 29, 30, 31, 32, 33, 34, 35, 36, 37, 38] rfl ?_; refine WP.vl rfl (Yld.fieldAddr rfl ty_fd_50_1 rfl) ?_; refine WP.vl rfl (Yld.ld rfl ty_sc_45 rfl rfl) ?_; refine WP.vl rfl (Yld.len rfl ty_sl_45 rfl) ?_; refine WP.split rfl rfl rfl rfl (Yld.gtr rfl rfl rfl) (fun c1 => ?_) (fun c1 => ?_)
 ·refine WP.mv rfl rfl ?_
  iterate 14 refine WP.passG rfl rfl rfl rfl rfl rfl rfl rfl ?_
  refine WP.vl rfl (Yld.pickT rfl rfl rfl) ?_; refine WP.mv rfl rfl ?_; iterate 6 refine WP.passG rfl rfl rfl rfl rfl rfl rfl rfl ?_
  refine WP.vl rfl (Yld.pickT rfl rfl rfl) ?_; refine WP.mv rfl rfl ?_; iterate 3 refine WP.passG rfl rfl rfl rfl rfl rfl rfl rfl ?_
  refine WP.vl rfl (Yld.pickT rfl rfl rfl) ?_; refine WP.mv rfl rfl ?_; iterate 4 refine WP.passG rfl rfl rfl rfl rfl rfl rfl rfl ?_
  refine WP.vl rfl (Yld.pickT rfl rfl rfl) ?_; refine WP.nil ?_; refine WP.sub [(0, _), (1, _), (2, _), (45, _)] ?_ ⟨rfl, rfl, rfl, rfl, trivial⟩
  refine WP.next ?_; refine WP.condT rfl ?_; refine WP.seq ?_; refine WP.region [0] rfl ?_; refine WP.mv rfl rfl ?_; refine WP.nil (WP.next (WP.ret ?_))
  refine WP.fn .ret (.inr rfl) (res1 rfl rfl) [] (Imm.le_refl _) ?_; refine ⟨_, rfl, ?_, rfl, rfl⟩
  first | (exact ⟨fun h => Bool.noConfusion h, fun hm => by obtain ⟨m1, m2, m3, m4, m5, m6, m7⟩ := hm; omega⟩) | (exact ⟨fun h => Bool.noConfusion h, fun hm => by obtain ⟨m1, m2, m3, m4, m5, m6, m7⟩ := hm; have := m6 _ (List.getElem_mem hwi); omega⟩) | (exact ⟨fun h => Bool.noConfusion h, fun hm => by obtain ⟨m1, m2, m3, m4, m5, m6, m7⟩ := hm; have := m7 i _ (by omega) hd1; rw [hbt] at this; cases this⟩) | exact ⟨fun _ => ⟨by omega, by omega, by omega, by omega, by omega, hall, fun i x h1 h2 => hnod i x (by omega) h1 h2⟩, fun _ => rfl⟩
 ·refine WP.mv rfl rfl ?_
  refine WP.valG rfl rfl rfl rfl rfl rfl rfl (Yld.fieldAddr rfl ty_fd_50_2 rfl) ?_; refine WP.valG rfl rfl rfl rfl rfl rfl rfl (Yld.ld rfl ty_sc_3 rfl rfl) ?_; refine WP.valG rfl rfl rfl rfl rfl rfl rfl (Yld.fieldAddr rfl ty_fd_50_3 rfl) ?_; refine WP.valG rfl rfl rfl rfl rfl rfl rfl (Yld.ld rfl ty_sc_3 rfl rfl) ?_; refine WP.valG rfl rfl rfl rfl rfl rfl rfl (Yld.fieldAddr rfl ty_fd_50_4 rfl) ?_; refine WP.valG rfl rfl rfl rfl rfl rfl rfl (Yld.ld rfl ty_sc_3 rfl rfl) ?_; refine WP.valG rfl rfl rfl rfl rfl rfl rfl (Yld.fieldAddr rfl ty_fd_50_6 rfl) ?_; refine WP.valG rfl rfl rfl rfl rfl rfl rfl (Yld.ld rfl ty_sc_3 rfl rfl) ?_; refine WP.valG rfl rfl rfl rfl rfl rfl rfl (Yld.fieldAddr rfl ty_fd_50_7 rfl) ?_; refine WP.valG rfl rfl rfl rfl rfl rfl rfl (Yld.ld rfl ty_sc_3 rfl rfl) ?_; refine WP.valG rfl rfl rfl rfl rfl rfl rfl (Yld.fieldAddr rfl ty_fd_50_5 rfl) ?_; refine WP.valG rfl rfl rfl rfl rfl rfl rfl (Yld.ld rfl ty_sc_3 rfl rfl) ?_; refine WP.valG rfl rfl rfl rfl rfl rfl rfl (Yld.min6 rfl rfl rfl rfl rfl rfl rfl) ?_; refine WP.splitG rfl rfl rfl rfl rfl rfl rfl (Yld.lss rfl rfl rfl) (fun c2 => ?_) (fun c2 => ?_)
  ·refine WP.vl rfl (Yld.pickF rfl rfl rfl) ?_
   refine WP.mv rfl rfl ?_; iterate 6 refine WP.passG rfl rfl rfl rfl rfl rfl rfl rfl ?_
   refine WP.vl rfl (Yld.pickT rfl rfl rfl) ?_; refine WP.mv rfl rfl ?_; iterate 3 refine WP.passG rfl rfl rfl rfl rfl rfl rfl rfl ?_
   refine WP.vl rfl (Yld.pickT rfl rfl rfl) ?_; refine WP.mv rfl rfl ?_; iterate 4 refine WP.passG rfl rfl rfl rfl rfl rfl rfl rfl ?_
   refine WP.vl rfl (Yld.pickT rfl rfl rfl) ?_; refine WP.nil ?_; refine WP.sub [(0, _), (1, _), (2, _), (45, _)] ?_ ⟨rfl, rfl, rfl, rfl, trivial⟩
   refine WP.next ?_; refine WP.condT rfl ?_; refine WP.seq ?_; refine WP.region [0] rfl ?_; refine WP.mv rfl rfl ?_; refine WP.nil (WP.next (WP.ret ?_))
   refine WP.fn .ret (.inr rfl) (res1 rfl rfl) [] (Imm.le_refl _) ?_; refine ⟨_, rfl, ?_, rfl, rfl⟩
   first | (exact ⟨fun h => Bool.noConfusion h, fun hm => by obtain ⟨m1, m2, m3, m4, m5, m6, m7⟩ := hm; omega⟩) | (exact ⟨fun h => Bool.noConfusion h, fun hm => by obtain ⟨m1, m2, m3, m4, m5, m6, m7⟩ := hm; have := m6 _ (List.getElem_mem hwi); omega⟩) | (exact ⟨fun h => Bool.noConfusion h, fun hm => by obtain ⟨m1, m2, m3, m4, m5, m6, m7⟩ := hm; have := m7 i _ (by omega) hd1; rw [hbt] at this; cases this⟩) | exact ⟨fun _ => ⟨by omega, by omega, by omega, by omega, by omega, hall, fun i x h1 h2 => hnod i x (by omega) h1 h2⟩, fun _ => rfl⟩
  ·refine WP.vl rfl (Yld.pickF rfl rfl rfl) ?_
   refine WP.mv rfl rfl ?_; refine WP.valG rfl rfl rfl rfl rfl rfl rfl (Yld.fieldAddr rfl ty_fd_50_5 rfl) ?_; refine WP.valG rfl rfl rfl rfl rfl rfl rfl (Yld.ld rfl ty_sc_3 rfl rfl) ?_; refine WP.valG rfl rfl rfl rfl rfl rfl rfl (Yld.fieldAddr rfl ty_fd_50_1 rfl) ?_; refine WP.valG rfl rfl rfl rfl rfl rfl rfl (Yld.ld rfl ty_sc_45 rfl rfl) ?_; refine WP.valG rfl rfl rfl rfl rfl rfl rfl (Yld.len rfl ty_sl_45 rfl) ?_; refine WP.splitG rfl rfl rfl rfl rfl rfl rfl (Yld.gtr rfl rfl rfl) (fun c3 => ?_) (fun c3 => ?_)
   ·refine WP.vl rfl (Yld.pickF rfl rfl rfl) ?_
    refine WP.mv rfl rfl ?_; iterate 3 refine WP.passG rfl rfl rfl rfl rfl rfl rfl rfl ?_
    refine WP.vl rfl (Yld.pickT rfl rfl rfl) ?_; refine WP.mv rfl rfl ?_; iterate 4 refine WP.passG rfl rfl rfl rfl rfl rfl rfl rfl ?_
    refine WP.vl rfl (Yld.pickT rfl rfl rfl) ?_; refine WP.nil ?_; refine WP.sub [(0, _), (1, _), (2, _), (45, _)] ?_ ⟨rfl, rfl, rfl, rfl, trivial⟩
    refine WP.next ?_; refine WP.condT rfl ?_; refine WP.seq ?_; refine WP.region [0] rfl ?_; refine WP.mv rfl rfl ?_; refine WP.nil (WP.next (WP.ret ?_))
    refine WP.fn .ret (.inr rfl) (res1 rfl rfl) [] (Imm.le_refl _) ?_; refine ⟨_, rfl, ?_, rfl, rfl⟩
    first | (exact ⟨fun h => Bool.noConfusion h, fun hm => by obtain ⟨m1, m2, m3, m4, m5, m6, m7⟩ := hm; omega⟩) | (exact ⟨fun h => Bool.noConfusion h, fun hm => by obtain ⟨m1, m2, m3, m4, m5, m6, m7⟩ := hm; have := m6 _ (List.getElem_mem hwi); omega⟩) | (exact ⟨fun h => Bool.noConfusion h, fun hm => by obtain ⟨m1, m2, m3, m4, m5, m6, m7⟩ := hm; have := m7 i _ (by omega) hd1; rw [hbt] at this; cases this⟩) | exact ⟨fun _ => ⟨by omega, by omega, by omega, by omega, by omega, hall, fun i x h1 h2 => hnod i x (by omega) h1 h2⟩, fun _ => rfl⟩
   ·refine WP.vl rfl (Yld.pickF rfl rfl rfl) ?_
    refine WP.mv rfl rfl ?_; refine WP.valG rfl rfl rfl rfl rfl rfl rfl (Yld.fieldAddr rfl ty_fd_50_7 rfl) ?_; refine WP.valG rfl rfl rfl rfl rfl rfl rfl (Yld.ld rfl ty_sc_3 rfl rfl) ?_; refine WP.splitG rfl rfl rfl rfl rfl rfl rfl (Yld.gtr rfl rfl rfl) (fun c4 => ?_) (fun c4 => ?_)
    ·refine WP.vl rfl (Yld.pickF rfl rfl rfl) ?_
     refine WP.mv rfl rfl ?_; iterate 4 refine WP.passG rfl rfl rfl rfl rfl rfl rfl rfl ?_
     refine WP.vl rfl (Yld.pickT rfl rfl rfl) ?_; refine WP.nil ?_; refine WP.sub [(0, _), (1, _), (2, _), (45, _)] ?_ ⟨rfl, rfl, rfl, rfl, trivial⟩
     refine WP.next ?_; refine WP.condT rfl ?_; refine WP.seq ?_; refine WP.region [0] rfl ?_; refine WP.mv rfl rfl ?_; refine WP.nil (WP.next (WP.ret ?_))
     refine WP.fn .ret (.inr rfl) (res1 rfl rfl) [] (Imm.le_refl _) ?_; refine ⟨_, rfl, ?_, rfl, rfl⟩
     first | (exact ⟨fun h => Bool.noConfusion h, fun hm => by obtain ⟨m1, m2, m3, m4, m5, m6, m7⟩ := hm; omega⟩) | (exact ⟨fun h => Bool.noConfusion h, fun hm => by obtain ⟨m1, m2, m3, m4, m5, m6, m7⟩ := hm; have := m6 _ (List.getElem_mem hwi); omega⟩) | (exact ⟨fun h => Bool.noConfusion h, fun hm => by obtain ⟨m1, m2, m3, m4, m5, m6, m7⟩ := hm; have := m7 i _ (by omega) hd1; rw [hbt] at this; cases this⟩) | exact ⟨fun _ => ⟨by omega, by omega, by omega, by omega, by omega, hall, fun i x h1 h2 => hnod i x (by omega) h1 h2⟩, fun _ => rfl⟩
    ·refine WP.vl rfl (Yld.pickF rfl rfl rfl) ?_
     refine WP.mv rfl rfl ?_; refine WP.valG rfl rfl rfl rfl rfl rfl rfl (Yld.fieldAddr rfl ty_fd_50_8 rfl) ?_; refine WP.valG rfl rfl rfl rfl rfl rfl rfl (Yld.ld rfl ty_sc_48 rfl rfl) ?_; refine WP.valG rfl rfl rfl rfl rfl rfl rfl (Yld.len rfl ty_sl_48 rfl) ?_; refine WP.splitG rfl rfl rfl rfl rfl rfl rfl (Yld.geq rfl rfl rfl) (fun c5 => ?_) (fun c5 => ?_)
     ·refine WP.vl rfl (Yld.pickF rfl rfl rfl) ?_
      refine WP.nil ?_; refine WP.sub [(0, _), (1, _), (2, _), (45, _)] ?_ ⟨rfl, rfl, rfl, rfl, trivial⟩
      refine WP.next ?_; refine WP.condT rfl ?_; refine WP.seq ?_; refine WP.region [0] rfl ?_; refine WP.mv rfl rfl ?_; refine WP.nil (WP.next (WP.ret ?_))
      refine WP.fn .ret (.inr rfl) (res1 rfl rfl) [] (Imm.le_refl _) ?_; refine ⟨_, rfl, ?_, rfl, rfl⟩
      first | (exact ⟨fun h => Bool.noConfusion h, fun hm => by obtain ⟨m1, m2, m3, m4, m5, m6, m7⟩ := hm; omega⟩) | (exact ⟨fun h => Bool.noConfusion h, fun hm => by obtain ⟨m1, m2, m3, m4, m5, m6, m7⟩ := hm; have := m6 _ (List.getElem_mem hwi); omega⟩) | (exact ⟨fun h => Bool.noConfusion h, fun hm => by obtain ⟨m1, m2, m3, m4, m5, m6, m7⟩ := hm; have := m7 i _ (by omega) hd1; rw [hbt] at this; cases this⟩) | exact ⟨fun _ => ⟨by omega, by omega, by omega, by omega, by omega, hall, fun i x h1 h2 => hnod i x (by omega) h1 h2⟩, fun _ => rfl⟩
     ·refine WP.vl rfl (Yld.pickF rfl rfl rfl) ?_
      refine WP.nil ?_; refine WP.sub [(0, _), (1, _), (2, _), (45, _)] ?_ ⟨rfl, rfl, rfl, rfl, trivial⟩
      refine WP.next ?_; refine WP.condF rfl ?_; refine WP.skip (WP.next (WP.seq (WP.seq ?_)))
      refine WP.region [0, 1, 2, 3] rfl ?_; refine WP.vl rfl (Yld.fieldAddr rfl ty_fd_50_8 rfl) ?_; refine WP.vl rfl (Yld.ld rfl ty_sc_48 rfl rfl) ?_; refine WP.vl rfl (Yld.len rfl ty_sl_48 rfl) ?_; refine WP.mv rfl rfl ?_; refine WP.nil ?_; refine WP.sub [(0, _), (1, _), (2, _), (45, _), (47, _), (48, _), (49, _)] ?_ ⟨rfl, rfl, rfl, rfl, rfl, rfl, rfl, trivial⟩
      refine WP.next (WP.block ?_)
      refine WP.loop (X := Nat) (fun i : Nat => [(1, .pointer (some ⟨b1, 0, none⟩)), (2, .bool false), (47, .slice Aw e.with_.length cw), (48, .int .i64 (e.with_.length : Int)), (49, .int .i64 (i : Int))]) (fun _ => I) (fun _ => (b1, row 50 (entV e (.slice An e.nodes.length cn) (.slice Aw e.with_.length cw))) :: F) (fun i => i ≤ e.with_.length ∧ ∀ k (h : k < e.with_.length), k < i → 1 ≤ e.with_[k] ∧ e.with_[k] ≤ 512) (fun i => e.with_.length - i) 0 ⟨Nat.zero_le _, fun k h hk => absurd hk (Nat.not_lt_zero _)⟩ ⟨rfl, rfl, rfl, rfl, rfl, trivial⟩ rfl zP ?_; rintro i ⟨hle, hpre⟩
      try dsimp only
      try simp only [nf]
      refine WP.seq ?_; refine WP.region [0] rfl ?_; refine WP.split rfl rfl rfl rfl (Yld.lss rfl rfl rfl) (fun hlt => ?_) (fun hlt => ?_)
      ·have hwi : i < e.with_.length := by first | omega | (simp only at hlt; omega)
       have hwl := hsz.with_
       obtain ⟨bw, kw, Tw, frw, arw, rfl, hbw, _, hcel⟩ := hw.elem hwi
       have hcel0 := hcel 0 (by omega)
       rw [List.getElem?_eq_getElem (by simpa using hwi)] at hcel0
       simp only [Nat.mul_one, Nat.add_zero, List.getElem_map] at hcel0
       refine WP.nil (WP.next (WP.seq ?_))
       refine WP.condT rfl ?_; refine WP.skip (WP.next (WP.seq (WP.block (WP.seq ?_))))
       refine WP.region [0, 1, 2] rfl ?_; refine WP.vl rfl (Yld.indexAddr (i := i) rfl ty_sl_48 rfl rfl hwi) ?_; refine WP.vl rfl (Yld.loadC rfl ty_sc_3 rfl (There.i hbw) (by rw [Nat.mul_one]; exact hcel0)) ?_; refine WP.mv rfl rfl ?_; refine WP.nil ?_; refine WP.sub [(1, _), (2, _), (4, _), (47, _), (48, _), (49, _), (50, _)] ?_ ⟨rfl, rfl, rfl, rfl, rfl, rfl, rfl, trivial⟩
       refine WP.next (WP.seq ?_)
       refine WP.region [0, 1, 2, 3, 4, 5] rfl ?_; refine WP.mv rfl rfl ?_; refine WP.split rfl rfl rfl rfl (Yld.lss rfl rfl rfl) (fun c6 => ?_) (fun c6 => ?_)
       ·refine WP.mv rfl rfl ?_
        iterate 2 refine WP.passG rfl rfl rfl rfl rfl rfl rfl rfl ?_
        refine WP.vl rfl (Yld.pickT rfl rfl rfl) ?_; refine WP.nil ?_; refine WP.sub [(1, _), (2, _), (4, _), (47, _), (48, _), (49, _), (50, _), (58, _)] ?_ ⟨rfl, rfl, rfl, rfl, rfl, rfl, rfl, rfl, trivial⟩
        refine WP.next ?_; refine WP.condT rfl ?_; refine WP.seq ?_; refine WP.region [0] rfl ?_; refine WP.mv rfl rfl ?_; refine WP.nil (WP.next (WP.ret ?_))
        refine WP.fn .ret (.inr rfl) (res1 rfl rfl) [] (Imm.le_refl _) ?_; refine ⟨_, rfl, ?_, rfl, rfl⟩
        first | (exact ⟨fun h => Bool.noConfusion h, fun hm => by obtain ⟨m1, m2, m3, m4, m5, m6, m7⟩ := hm; omega⟩) | (exact ⟨fun h => Bool.noConfusion h, fun hm => by obtain ⟨m1, m2, m3, m4, m5, m6, m7⟩ := hm; have := m6 _ (List.getElem_mem hwi); omega⟩) | (exact ⟨fun h => Bool.noConfusion h, fun hm => by obtain ⟨m1, m2, m3, m4, m5, m6, m7⟩ := hm; have := m7 i _ (by omega) hd1; rw [hbt] at this; cases this⟩) | exact ⟨fun _ => ⟨by omega, by omega, by omega, by omega, by omega, hall, fun i x h1 h2 => hnod i x (by omega) h1 h2⟩, fun _ => rfl⟩
       ·refine WP.mv rfl rfl ?_
        refine WP.valG rfl rfl rfl rfl rfl rfl rfl (Yld.move rfl rfl) ?_; refine WP.splitG rfl rfl rfl rfl rfl rfl rfl (Yld.gtr rfl rfl rfl) (fun c7 => ?_) (fun c7 => ?_)
        ·refine WP.vl rfl (Yld.pickF rfl rfl rfl) ?_
         refine WP.nil ?_; refine WP.sub [(1, _), (2, _), (4, _), (47, _), (48, _), (49, _), (50, _), (58, _)] ?_ ⟨rfl, rfl, rfl, rfl, rfl, rfl, rfl, rfl, trivial⟩
         refine WP.next ?_; refine WP.condT rfl ?_; refine WP.seq ?_; refine WP.region [0] rfl ?_; refine WP.mv rfl rfl ?_; refine WP.nil (WP.next (WP.ret ?_))
         refine WP.fn .ret (.inr rfl) (res1 rfl rfl) [] (Imm.le_refl _) ?_; refine ⟨_, rfl, ?_, rfl, rfl⟩
         first | (exact ⟨fun h => Bool.noConfusion h, fun hm => by obtain ⟨m1, m2, m3, m4, m5, m6, m7⟩ := hm; omega⟩) | (exact ⟨fun h => Bool.noConfusion h, fun hm => by obtain ⟨m1, m2, m3, m4, m5, m6, m7⟩ := hm; have := m6 _ (List.getElem_mem hwi); omega⟩) | (exact ⟨fun h => Bool.noConfusion h, fun hm => by obtain ⟨m1, m2, m3, m4, m5, m6, m7⟩ := hm; have := m7 i _ (by omega) hd1; rw [hbt] at this; cases this⟩) | exact ⟨fun _ => ⟨by omega, by omega, by omega, by omega, by omega, hall, fun i x h1 h2 => hnod i x (by omega) h1 h2⟩, fun _ => rfl⟩
        ·refine WP.vl rfl (Yld.pickF rfl rfl rfl) ?_
         refine WP.nil ?_; refine WP.sub [(1, _), (2, _), (4, _), (47, _), (48, _), (49, _), (50, _), (58, _)] ?_ ⟨rfl, rfl, rfl, rfl, rfl, rfl, rfl, rfl, trivial⟩
         refine WP.next ?_; refine WP.condF rfl ?_; refine WP.skip (WP.leave (WP.next ?_))
         refine WP.region [0, 1] rfl ?_; refine WP.vl rfl (Yld.add64 rfl rfl rfl (by omega)) ?_; refine WP.mv rfl rfl ?_; refine WP.nil ?_; refine WP.sub [(1, _), (2, _), (4, _), (47, _), (48, _), (49, _), (50, _), (58, _)] ?_ ⟨rfl, rfl, rfl, rfl, rfl, rfl, rfl, rfl, trivial⟩
         exact WP.ag (i + 1) ⟨hwi, fun k h hk => by rcases Nat.lt_succ_iff_lt_or_eq.1 hk with hk | rfl; exact hpre k h hk; omega⟩ (show e.with_.length - (i + 1) < e.with_.length - i by omega) ⟨rfl, rfl, rfl, rfl, rfl, trivial⟩ rfl
      ·obtain rfl : i = e.with_.length := by first | omega | (simp only at hlt; omega)
       have hall : ∀ w ∈ e.with_, 1 ≤ w ∧ w ≤ 512 := fun w hw => by obtain ⟨k, hk, rfl⟩ := List.getElem_of_mem hw; exact hpre k hk hk
       refine WP.nil (WP.next (WP.seq ?_))
       refine WP.condF rfl ?_; refine WP.exit (WP.thenE (WP.thenE (WP.hit (WP.next (WP.seq (WP.seq ?_))))))
       refine WP.region [0, 1, 2, 3] rfl ?_; refine WP.vl rfl (Yld.fieldAddr rfl ty_fd_50_1 rfl) ?_; refine WP.vl rfl (Yld.ld rfl ty_sc_45 rfl rfl) ?_; refine WP.vl rfl (Yld.len rfl ty_sl_45 rfl) ?_; refine WP.mv rfl rfl ?_; refine WP.nil ?_; refine WP.sub [(1, _), (2, _), (47, _), (48, _), (49, _), (50, _), (61, _), (62, _), (63, _)] ?_ ⟨rfl, rfl, rfl, rfl, rfl, rfl, rfl, rfl, rfl, trivial⟩
       refine WP.next (WP.block ?_)
       refine WP.loop (X := Nat) (fun i : Nat => [(1, .pointer (some ⟨b1, 0, none⟩)), (2, .bool false), (61, .slice An e.nodes.length cn), (62, .int .i64 (e.nodes.length : Int)), (63, .int .i64 (i : Int))]) (fun _ => I) (fun _ => (b1, row 50 (entV e (.slice An e.nodes.length cn) (.slice Aw e.with_.length cw))) :: F) (fun i => i ≤ e.nodes.length ∧ ∀ (k : Nat) (x : Bool × List UInt8), k < i → k + 1 < e.nodes.length → e.nodes[k]? = some x → x.1 = false) (fun i => e.nodes.length - i) 0 ⟨Nat.zero_le _, fun k x hk => absurd hk (Nat.not_lt_zero _)⟩ ⟨rfl, rfl, rfl, rfl, rfl, trivial⟩ rfl zP ?_; rintro i ⟨hle, hnod⟩
       try dsimp only
       try simp only [nf]
       refine WP.seq ?_; refine WP.region [0] rfl ?_; refine WP.split rfl rfl rfl rfl (Yld.lss rfl rfl rfl) (fun hlt => ?_) (fun hlt => ?_)
       ·have hni : i < e.nodes.length := by first | omega | (simp only at hlt; omega)
        have hnl := hsz.nodes
        have hin : i < nv.length := by rw [hno.len]; exact hni
        obtain ⟨d, hd1, hd2⟩ := hno.at_ i _ (List.getElem?_eq_getElem hin)
        obtain ⟨Ad, cd, hvd, hcd, _⟩ := id hd2
        obtain ⟨bn, kn, Tn, frn, arn, rfl, hbn, hseg, _⟩ := hn.elem hni
        have hf := flat_seg ndV_len hin []
        rw [List.append_nil, Nat.zero_add] at hf
        rw [hf] at hseg
        refine WP.nil (WP.next (WP.seq ?_))
        refine WP.condT rfl ?_; refine WP.skip (WP.next (WP.seq (WP.block (WP.seq ?_))))
        refine WP.region [0, 1, 2, 3, 4, 5] rfl ?_; refine WP.mv rfl rfl ?_; refine WP.vl rfl (Yld.indexAddr (i := i) rfl ty_sl_45 rfl rfl hni) ?_; refine WP.vl rfl (Yld.loadAggC rfl ty_ag_70 rfl (There.i hbn) hseg rfl) ?_; refine WP.loud rfl rfl ?_; refine Op.alloc rfl rfl rfl ty_zr_70 (fun b6 => ?_)
        refine WP.mv rfl rfl ?_; refine WP.loud rfl rfl ?_; refine Op.sA rfl rfl ty_sz_70 rfl rfl rfl (by simp only [ndV, hvd]; rfl) rfl ?_; refine WP.nil ?_; refine WP.sub [(1, _), (2, _), (5, _), (6, _), (61, _), (62, _), (63, _), (64, _)] ?_ ⟨rfl, rfl, rfl, rfl, rfl, rfl, rfl, rfl, trivial⟩
        refine WP.next (WP.seq ?_)
        refine WP.region [0, 1, 2, 3, 4, 5, 6, 7, 8, 9] rfl ?_; refine WP.vl rfl (Yld.fieldAddr rfl ty_fd_70_0 rfl) ?_; refine WP.splitB rfl rfl rfl rfl (Yld.ld rfl ty_sc_4 rfl rfl) (fun hbt => ?_) (fun hbt => ?_)
        ·refine WP.mv rfl rfl ?_
         refine WP.valG rfl rfl rfl rfl rfl rfl rfl (Yld.move rfl rfl) ?_; refine WP.valG rfl rfl rfl rfl rfl rfl rfl (Yld.fieldAddr rfl ty_fd_50_1 rfl) ?_; refine WP.valG rfl rfl rfl rfl rfl rfl rfl (Yld.ld rfl ty_sc_45 rfl rfl) ?_; refine WP.valG rfl rfl rfl rfl rfl rfl rfl (Yld.len rfl ty_sl_45 rfl) ?_; refine WP.valG rfl rfl rfl rfl rfl rfl rfl (Yld.sub64 rfl rfl rfl (by omega)) ?_; refine WP.splitG rfl rfl rfl rfl rfl rfl rfl (Yld.lss rfl rfl rfl) (fun c8 => ?_) (fun c8 => ?_)
         ·refine WP.vl rfl (Yld.pickT rfl rfl rfl) ?_
          refine WP.nil ?_; refine WP.sub [(1, _), (2, _), (5, _), (6, _), (61, _), (62, _), (63, _), (64, _), (77, _)] ?_ ⟨rfl, rfl, rfl, rfl, rfl, rfl, rfl, rfl, rfl, trivial⟩
          refine WP.next ?_; refine WP.condT rfl ?_; refine WP.seq ?_; refine WP.region [0] rfl ?_; refine WP.mv rfl rfl ?_; refine WP.nil (WP.next (WP.ret ?_))
          refine WP.fn .ret (.inr rfl) (res1 rfl rfl) [] (Imm.le_refl _) ?_; refine ⟨_, rfl, ?_, rfl, rfl⟩
          first | (exact ⟨fun h => Bool.noConfusion h, fun hm => by obtain ⟨m1, m2, m3, m4, m5, m6, m7⟩ := hm; omega⟩) | (exact ⟨fun h => Bool.noConfusion h, fun hm => by obtain ⟨m1, m2, m3, m4, m5, m6, m7⟩ := hm; have := m6 _ (List.getElem_mem hwi); omega⟩) | (exact ⟨fun h => Bool.noConfusion h, fun hm => by obtain ⟨m1, m2, m3, m4, m5, m6, m7⟩ := hm; have := m7 i _ (by omega) hd1; rw [hbt] at this; cases this⟩) | exact ⟨fun _ => ⟨by omega, by omega, by omega, by omega, by omega, hall, fun i x h1 h2 => hnod i x (by omega) h1 h2⟩, fun _ => rfl⟩
         ·refine WP.vl rfl (Yld.pickT rfl rfl rfl) ?_
          refine WP.nil ?_; refine WP.sub [(1, _), (2, _), (5, _), (6, _), (61, _), (62, _), (63, _), (64, _), (77, _)] ?_ ⟨rfl, rfl, rfl, rfl, rfl, rfl, rfl, rfl, rfl, trivial⟩
          refine WP.next ?_; refine WP.condF rfl ?_; refine WP.skip (WP.leave (WP.next ?_))
          refine WP.region [0, 1] rfl ?_; refine WP.vl rfl (Yld.add64 rfl rfl rfl (by omega)) ?_; refine WP.mv rfl rfl ?_; refine WP.nil ?_; refine WP.sub [(1, _), (2, _), (5, _), (6, _), (61, _), (62, _), (63, _), (64, _), (77, _)] ?_ ⟨rfl, rfl, rfl, rfl, rfl, rfl, rfl, rfl, rfl, trivial⟩
          exact WP.ag (i + 1) ⟨hni, fun k x hk h1 h2 => by rcases Nat.lt_succ_iff_lt_or_eq.1 hk with hk | rfl; exact hnod k x hk h1 h2; first | omega | (rw [hd1] at h2; cases h2; exact hbt)⟩ (show e.nodes.length - (i + 1) < e.nodes.length - i by omega) ⟨rfl, rfl, rfl, rfl, rfl, trivial⟩ rfl
        ·refine WP.mv rfl rfl ?_
         iterate 6 refine WP.passG rfl rfl rfl rfl rfl rfl rfl rfl ?_
         refine WP.vl rfl (Yld.pickF rfl rfl rfl) ?_; refine WP.nil ?_; refine WP.sub [(1, _), (2, _), (5, _), (6, _), (61, _), (62, _), (63, _), (64, _), (77, _)] ?_ ⟨rfl, rfl, rfl, rfl, rfl, rfl, rfl, rfl, rfl, trivial⟩
         refine WP.next ?_; refine WP.condF rfl ?_; refine WP.skip (WP.leave (WP.next ?_))
         refine WP.region [0, 1] rfl ?_; refine WP.vl rfl (Yld.add64 rfl rfl rfl (by omega)) ?_; refine WP.mv rfl rfl ?_; refine WP.nil ?_; refine WP.sub [(1, _), (2, _), (5, _), (6, _), (61, _), (62, _), (63, _), (64, _), (77, _)] ?_ ⟨rfl, rfl, rfl, rfl, rfl, rfl, rfl, rfl, rfl, trivial⟩
         exact WP.ag (i + 1) ⟨hni, fun k x hk h1 h2 => by rcases Nat.lt_succ_iff_lt_or_eq.1 hk with hk | rfl; exact hnod k x hk h1 h2; first | omega | (rw [hd1] at h2; cases h2; exact hbt)⟩ (show e.nodes.length - (i + 1) < e.nodes.length - i by omega) ⟨rfl, rfl, rfl, rfl, rfl, trivial⟩ rfl
       ·obtain rfl : i = e.nodes.length := by first | omega | (simp only at hlt; omega)
        refine WP.nil (WP.next (WP.seq ?_))
        refine WP.condF rfl ?_; refine WP.exit (WP.thenE (WP.thenE (WP.hit (WP.next (WP.seq ?_)))))
        refine WP.region [0] rfl ?_; refine WP.mv rfl rfl ?_; refine WP.nil (WP.next (WP.ret ?_))
        refine WP.fn .ret (.inr rfl) (res1 rfl rfl) [] (Imm.le_refl _) ?_; refine ⟨_, rfl, ?_, rfl, rfl⟩
        first | (exact ⟨fun h => Bool.noConfusion h, fun hm => by obtain ⟨m1, m2, m3, m4, m5, m6, m7⟩ := hm; omega⟩) | (exact ⟨fun h => Bool.noConfusion h, fun hm => by obtain ⟨m1, m2, m3, m4, m5, m6, m7⟩ := hm; have := m6 _ (List.getElem_mem hwi); omega⟩) | (exact ⟨fun h => Bool.noConfusion h, fun hm => by obtain ⟨m1, m2, m3, m4, m5, m6, m7⟩ := hm; have := m7 i _ (by omega) hd1; rw [hbt] at this; cases this⟩) | exact ⟨fun _ => ⟨by omega, by omega, by omega, by omega, by omega, hall, fun i x h1 h2 => hnod i x (by omega) h1 h2⟩, fun _ => rfl⟩


theorem Tb.ok.tok {J : Imm} {x : Tb} (h : x.ok J) (n : Nat) : Tb.ok J { x with tok := n } := ⟨h.n1, h.n2, h.ent, h.nx⟩
theorem Ent.sized.tok {e : Ent} (h : e.sized) (n : Nat) : Ent.sized { e with tok := n } := ⟨h.nodes, h.data, h.with_⟩
theorem Yld.addU1 {P : Program} {n : Nat} {E : Env} {V : Nat → Obj → Prop} {o : Oper} {X Y : Operand} {t t' : TypeId} (a : Nat) (hop : o.op = .binOp .add t X Y t') (hx : E.ev X = some (.int .u64 (a : Int))) (hy : E.ev Y = some (.int .u64 1)) (h : a + 1 < 18446744073709551616) : Yld P n E V o (.int .u64 ((a + 1 : Nat) : Int)) := by
 have := Yld.add (P := P) (n := n) (V := V) hop hx hy
 have e : IntKind.u64.wrap ((a : Int) + 1) = ((a + 1 : Nat) : Int) := by
  simp only [IntKind.wrap, IntKind.signed, IntKind.bits]
  first | (simp; omega) | omega
 rwa [e] at this
/-- One more chunk, all of it empty. -/
def Tb.grow (x : Tb) (b : Nat) : Tb := { x with cks := x.cks ++ [(b, fun _ => none)] }
theorem Tb.grow_get (x : Tb) (b : Nat) (p : Int) : (x.grow b).get p = x.get p := by
 unfold Tb.get
 by_cases h1 : p < 1
 ·rw [if_pos h1, if_pos h1]
 ·rw [if_neg h1, if_neg h1]
  simp only [Tb.grow]
  by_cases h2 : ((p - 1) / 16).toNat < x.cks.length
  ·rw [List.getElem?_append_left h2]
  ·rw [List.getElem?_append_right (by omega), List.getElem?_eq_none (l := x.cks) (by omega)]
   rcases hh : ((p - 1) / 16).toNat - x.cks.length with _ | k <;> rfl
theorem Tb.grow_size (x : Tb) (b : Nat) : (x.grow b).size = x.size + 16 := by simp [Tb.size, Tb.grow]; omega
theorem Tb.grow_ok {J : Imm} {x : Tb} (h : x.ok J) (b : Nat) (hs : x.size < 512) : (x.grow b).ok J where
 n1 := by simp [Tb.grow]
 n2 := by simp only [Tb.grow, List.length_append, List.length_cons, List.length_nil]; unfold Tb.size at hs; omega
 ent := fun c hc j e he => by
  rcases List.mem_append.1 hc with hc | hc
  ·exact h.ent c hc j e he
  ·cases List.mem_singleton.1 hc; cases he
 nx := h.nx
def Tb.setAt (x : Tb) (i j : Nat) (hi : i < x.cks.length) (o : Option (Nat × Ent)) : Tb := { x with cks := x.cks.set i (x.cks[i].1, putSl x.cks[i].2 j o) }
theorem Tb.setAt_get {x : Tb} {i j : Nat} (hi : i < x.cks.length) {p : Int} (hp : p = (i : Int) * 16 + j + 1) (hj : j < 16) (o : Option (Nat × Ent)) (k : Int) : (x.setAt i j hi o).get k = if k = p then o else x.get k := by
 by_cases hk : k = p
 ·rw [if_pos hk, hk, Tb.get_at (x := x.setAt i j hi o) hp hj (by simpa [Tb.setAt] using hi)]
  simp [Tb.setAt, putSl]
 ·rw [if_neg hk]
  by_cases hk1 : 1 ≤ k ∧ k ≤ x.size
  ·obtain ⟨i', j', h1, h2, h3⟩ := Tb.split hk1
   rw [Tb.get_at (x := x.setAt i j hi o) h1 h2 (by simpa [Tb.setAt] using h3), Tb.get_at h1 h2 h3]
   simp only [Tb.setAt, List.getElem_set]
   split
   ·rename_i e; subst e
    simp only [putSl]; rw [if_neg (by omega)]
   ·rfl
  ·rw [Tb.get_out (x := x) (by omega), Tb.get_out (by simp only [Tb.size, Tb.setAt, List.length_set] at *; omega)]
theorem Tb.setAt_ok {J : Imm} {x : Tb} (h : x.ok J) {i j : Nat} (hi : i < x.cks.length) {o : Option (Nat × Ent)} (ho : ∀ e, o = some e → entOk J e) : (x.setAt i j hi o).ok J where
 n1 := by simpa [Tb.setAt] using h.n1
 n2 := by simpa [Tb.setAt] using h.n2
 ent := fun c hc k e he => by
  rcases List.mem_or_eq_of_mem_set hc with hc | rfl
  ·exact h.ent c hc k e he
  ·simp only [putSl] at he
   split at he
   ·exact ho e he
   ·exact h.ent _ (List.getElem_mem hi) k e he
 nx := h.nx
theorem IsTab.setAt {J : Imm} {t q : Nat} {x : Tb} {vs : Value} {Lv : Chunks} (ok : x.ok J) (ow : Own 142 1 vs (ckps x.cks) x.cks.length Lv) {i j : Nat} (hi : i < x.cks.length) {o : Option (Nat × Ent)} (ho : ∀ e, o = some e → entOk J e) :
  IsTab J t q (x.setAt i j hi o) ((t, row 100 [.pointer (some ⟨q, 0, none⟩), .int .u64 (x.tok : Int), vs, .int .i64 x.next]) :: (Lv ++ (x.cks.set i (x.cks[i].1, putSl x.cks[i].2 j o)).flatMap ckCh)) := by
 have e1 : ckps (x.setAt i j hi o).cks = ckps x.cks := by
  simp only [ckps, Tb.setAt]
  apply List.ext_getElem?
  intro k
  rw [List.getElem?_map, List.getElem?_map, List.getElem?_set]
  split
  ·rename_i h; subst h; rw [List.getElem?_eq_getElem hi]; rfl
  ·rfl
 have e2 : (x.setAt i j hi o).cks.length = x.cks.length := by simp [Tb.setAt]
 exact IsTab.mk (x := x.setAt i j hi o) (Tb.setAt_ok ok hi ho) (by rw [e1, e2]; exact ow)
structure Tb.Used (x x' : Tb) (p : Int) (e : Ent) : Prop where
 tok : x'.tok = x.tok + 1
 next : x'.next = if x.next < p + 1 then p + 1 else x.next
 s1 : x.size ≤ x'.size
 s2 : p ≤ x'.size
 s3 : x'.size = x.size ∨ (x.size < p ∧ x'.size < p + 16)
 get : ∃ b, ∀ k, x'.get k = if k = p then some (b, { e with tok := x.tok + 1 }) else x.get k
structure TTX where
 x : Tb
 L : Chunks
theorem tab_fresh {I : Imm} {t q : Nat} {x : Tb} {L : Chunks} (hd : IsTab I t q x L) {e : Ent} {cs : List Value} (he : REnt I e cs) (hsz : e.sized) (htk : x.tok + 1 < 18446744073709551616) : Spec Tryz.prog 37 [.pointer (some ⟨t, 0, none⟩), .agg cs.toArray] I L (fun v J L' => ∃ b, v = .pointer (some ⟨b, 0, none⟩) ∧ entOk J (b, { e with tok := x.tok + 1 }) ∧ IsTab J t q ({ x with tok := x.tok + 1 } : Tb) L') := by
 cases hd with | mk ok ow =>
 obtain ⟨bv, cv, spv, rfl, rfl, hcv, hnv⟩ := ow.get (by have := ok.n1; omega)
 have hn1 := ok.n1
 have hn2 := ok.n2
 have he0 := he
 obtain ⟨vn, vw, nv, rfl, hn, hno, hw⟩ := he.ex
 obtain ⟨An, cn, rfl, hcn⟩ := hn.slice'
 obtain ⟨Aw, cw, rfl, hcw⟩ := hw.slice'
 refine Spec.of Tryz.func37 rfl Tryz.ntmps37 (Nat.le_of_ble_eq_true rfl) (fun F => ?_)
 try simp only [nf]
 dsimp only [argsEnv]
 refine WP.seq ?_; refine WP.region [0, 1] rfl ?_; refine WP.loud rfl rfl ?_; refine Op.box rfl rfl rfl rfl rfl (fun b3 => ?_)
 refine WP.mv rfl rfl ?_; refine WP.nil (WP.next (WP.seq ?_))
 refine WP.region [0, 1, 2, 3, 4, 5, 6, 7] rfl ?_; refine WP.mv rfl rfl ?_; refine WP.vl rfl (Yld.nilCheck rfl rfl) ?_; refine WP.vl rfl (Yld.fieldAddr rfl ty_fd_100_1 rfl) ?_; refine WP.vl rfl (Yld.ld rfl ty_sc_44 rfl rfl) ?_; refine WP.vl rfl (Yld.addU1 x.tok rfl rfl rfl htk) ?_; refine WP.vl rfl (Yld.nilCheck rfl rfl) ?_; refine WP.vl rfl (Yld.fieldAddr rfl ty_fd_100_1 rfl) ?_; refine WP.loud rfl rfl ?_; refine Op.s1 rfl rfl ty_sz_44 rfl rfl rfl ?_; refine WP.nil ?_; refine WP.sub [(0, _), (1, _), (3, _), (4, _)] ?_ ⟨rfl, rfl, rfl, rfl, trivial⟩
 refine WP.next (WP.seq ?_)
 refine WP.region [0, 1, 2] rfl ?_; refine WP.vl rfl (Yld.lda rfl ty_ag_50 rfl rfl) ?_; refine WP.loud rfl rfl ?_; refine Op.cl (tab_copied he0 hsz) rfl Tryz.func44 rfl rfl rfl rfl ?_; rintro v J2 L1 hJ2 ⟨cs2, rfl, hre2, rfl⟩
 try simp only [nf]
 obtain ⟨vn2, vw2, nv2, rfl, hn2, hno2, hw2⟩ := hre2.ex
 obtain ⟨An2, cn2, rfl, hcn2⟩ := hn2.slice'
 obtain ⟨Aw2, cw2, rfl, hcw2⟩ := hw2.slice'
 refine WP.loud rfl rfl ?_; refine Op.sA rfl rfl ty_sz_50 rfl rfl rfl rfl rfl ?_; refine WP.nil ?_; refine WP.sub [(0, _), (1, _), (3, _), (4, _)] ?_ ⟨rfl, rfl, rfl, rfl, trivial⟩
 refine WP.next (WP.seq ?_)
 refine WP.region [0, 1, 2, 3, 4, 5] rfl ?_; refine WP.mv rfl rfl ?_; refine WP.vl rfl (Yld.nilCheck rfl rfl) ?_; refine WP.vl rfl (Yld.fieldAddr rfl ty_fd_100_1 rfl) ?_; refine WP.vl rfl (Yld.ld rfl ty_sc_44 rfl rfl) ?_; refine WP.vl rfl (Yld.fieldAddr rfl ty_fd_50_0 rfl) ?_; refine WP.loud rfl rfl ?_; refine Op.s1 rfl rfl ty_sz_44 rfl rfl rfl ?_; refine WP.nil ?_; refine WP.sub [(0, _), (1, _), (3, _), (4, _)] ?_ ⟨rfl, rfl, rfl, rfl, trivial⟩
 refine WP.perm _ (show Take _ [(b3, _)] _ from zT).perm ?_; refine WP.share (fun J3 hJ3 hb3 => ?_)
 refine WP.next (WP.seq ?_)
 refine WP.region [0] rfl ?_; refine WP.mv rfl rfl ?_; refine WP.nil (WP.next (WP.ret ?_))
 refine WP.fn .ret (.inr rfl) (res1 rfl rfl) ((t, row 100 [.pointer (some ⟨q, 0, none⟩), .int .u64 (({ x with tok := x.tok + 1 } : Tb).tok : Int), .slice (some ⟨bv, 0, none⟩) ({ x with tok := x.tok + 1 } : Tb).cks.length cv, .int .i64 ({ x with tok := x.tok + 1 } : Tb).next]) :: ((bv, row 142 (ckps ({ x with tok := x.tok + 1 } : Tb).cks ++ spv)) :: ({ x with tok := x.tok + 1 } : Tb).cks.flatMap ckCh)) (Imm.le_trans hJ2 hJ3) ?_; exact ⟨b3, rfl, ⟨hsz.tok _, _, hb3, ⟨_, _, nv2, rfl, hn2.mono (Imv.le hJ3), hno2.mono (Imv.le hJ3), hw2.mono (Imv.le hJ3)⟩⟩, IsTab.mk (x := ({ x with tok := x.tok + 1 } : Tb)) ((ok.mono (Imm.le_trans hJ2 hJ3)).tok _) ow⟩

theorem tab_use {I : Imm} {t q : Nat} {x : Tb} {L : Chunks} (hd : IsTab I t q x L) {e : Ent} {cs : List Value} {p : Int} (he : REnt I e cs) (hsz : e.sized) (htk : x.tok + 1 < 18446744073709551616) (hp0 : 1 ≤ p ∧ p ≤ 512) : Spec Tryz.prog 33 [.pointer (some ⟨t, 0, none⟩), .int .i64 p, .agg cs.toArray] I L (fun v J L' => ∃ x', v = .tuple #[] ∧ x.Used x' p e ∧ IsTab J t q x' L') := by
 cases hd with | mk ok ow =>
 obtain ⟨bv, cv, spv, rfl, rfl, hcv, hnv⟩ := ow.get (by have := ok.n1; omega)
 have hn1 := ok.n1
 have hn2 := ok.n2
 have he0 := he
 obtain ⟨vn, vw, nv, rfl, hn, hno, hw⟩ := he.ex
 obtain ⟨An, cn, rfl, hcn⟩ := hn.slice'
 obtain ⟨Aw, cw, rfl, hcw⟩ := hw.slice'
 refine Spec.of Tryz.func33 rfl Tryz.ntmps33 (Nat.le_of_ble_eq_true rfl) (fun F => ?_)
 try simp only [nf]
 dsimp only [argsEnv]
 refine WP.seq ?_; refine WP.region [0] rfl ?_; refine WP.loud rfl rfl ?_; refine Op.box rfl rfl rfl rfl rfl (fun b5 => ?_)
 refine WP.nil (WP.next (WP.seq (WP.block ?_)))
 refine WP.loop (X := TTX) (fun s : TTX => [(0, .pointer (some ⟨t, 0, none⟩)), (1, .int .i64 p), (5, .pointer (some ⟨b5, 0, none⟩))]) (fun _ => I) (fun s : TTX => s.L ++ ((b5, row 50 (entV e (.slice An e.nodes.length cn) (.slice Aw e.with_.length cw))) :: F)) (fun s : TTX => IsTab I t q s.x s.L ∧ s.x.tok = x.tok ∧ s.x.next = x.next ∧ (∀ k, s.x.get k = x.get k) ∧ x.size ≤ s.x.size ∧ (s.x.size = x.size ∨ (x.size < p ∧ s.x.size < p + 16))) (fun s : TTX => (513 - s.x.size).toNat) ⟨x, ((t, row 100 [.pointer (some ⟨q, 0, none⟩), .int .u64 (x.tok : Int), .slice (some ⟨bv, 0, none⟩) x.cks.length cv, .int .i64 x.next]) :: ((bv, row 142 (ckps x.cks ++ spv)) :: x.cks.flatMap ckCh))⟩ ⟨IsTab.mk ok ow, rfl, rfl, fun _ => rfl, Int.le_refl _, .inl rfl⟩ ⟨rfl, rfl, rfl, trivial⟩ rfl zP ?_; rintro ⟨y, L2⟩ ⟨hy, htk2, hnx2, hget2, hs1, hs2⟩; dsimp only at hy htk2 hnx2 hget2 hs1 hs2; clear ok ow hn1 hn2 hnv hcv; cases hy with | mk ok ow => _; obtain ⟨bv, cv, spv, rfl, rfl, hcv, hnv⟩ := ow.get (by have := ok.n1; omega); have hn1 := ok.n1; have hn2 := ok.n2
 try dsimp only
 try simp only [nf]
 refine WP.seq (WP.seq ?_)
 refine WP.region [0, 1, 2, 3] rfl ?_; refine WP.mv rfl rfl ?_; refine WP.loud rfl rfl ?_; refine Op.cl (tab_Size (IsTab.mk ok ow)) rfl Tryz.func54 rfl rfl rfl rfl ?_; rintro v J L1 - ⟨rfl, rfl, rfl⟩
 try simp only [nf]
 refine WP.mv rfl rfl ?_; refine WP.split rfl rfl rfl rfl (Yld.lss rfl rfl rfl) (fun hlt => ?_) (fun hlt => ?_)
 ·have hlt2 : y.size < 512 := by omega
  refine WP.nil ?_; refine WP.sub [(0, _), (1, _), (5, _), (9, _)] ?_ ⟨rfl, rfl, rfl, rfl, trivial⟩
  refine WP.next ?_; refine WP.condT rfl ?_; refine WP.skip (WP.next (WP.block ?_))
  refine WP.region [0, 1, 2, 3, 4, 5, 6, 7, 8, 9, 10, 11] rfl ?_; iterate 2 refine WP.mv rfl rfl ?_
  refine WP.vl rfl (Yld.nilCheck rfl rfl) ?_; refine WP.vl rfl (Yld.fieldAddr rfl ty_fd_100_2 rfl) ?_; refine WP.vl rfl (Yld.ld rfl ty_sc_98 rfl rfl) ?_; refine WP.vl rfl (Yld.buildS (pl := []) rfl ty_zr_150 ty_zd_150 zK rfl (vs := []) rfl (segs := []) rfl rfl zS) ?_; refine WP.loud rfl rfl ?_; refine Op.box rfl rfl rfl rfl rfl (fun b16 => ?_)
  refine WP.loud rfl rfl ?_; refine Op.buildSlice rfl ty_sl_98 ty_el2_98 rfl rfl rfl rfl (vs := [_]) rfl (segs := [(0, [_])]) (cs := [_]) rfl rfl zS (fun bl => ?_)
  refine WP.loud rfl rfl ?_; refine Op.append rfl ty_sl_98 ty_el_98 rfl rfl rfl rfl rfl ow (SlRd.lit zM rfl (Nat.le_refl _)) zT rfl (by omega) (by omega) (fun vq Lq hq => ?_)
  obtain ⟨Aq, cq, rfl, hcq⟩ := hq.slice
  refine WP.vl rfl (Yld.nilCheck rfl rfl) ?_; refine WP.vl rfl (Yld.fieldAddr rfl ty_fd_100_2 rfl) ?_; refine WP.loud rfl rfl ?_; refine Op.s1 rfl rfl ty_sz_98 rfl rfl rfl ?_; refine WP.nil ?_; refine WP.sub [(0, _), (1, _), (5, _), (9, _)] ?_ ⟨rfl, rfl, rfl, rfl, trivial⟩
  refine WP.pushL (f := ckCh) (l := y.cks) (b16, fun _ => none) zT (by repeat (first | exact Rm.chunk | exact Rm.here | exact Rm.nil0 | apply Rm.skip | apply Rm.skipS)) ?_; refine WP.leave ?_; exact WP.again ⟨y.grow b16, (t, row 100 [.pointer (some ⟨q, 0, none⟩), .int .u64 (y.tok : Int), .slice Aq (y.cks.length + 1) cq, .int .i64 y.next]) :: (Lq ++ (y.cks ++ [(b16, fun _ => none)]).flatMap ckCh)⟩ ⟨IsTab.mk (x := y.grow b16) (Tb.grow_ok ok b16 hlt2) (by simpa [Tb.grow, ckps] using hq), htk2, hnx2, fun k => (Tb.grow_get y b16 k).trans (hget2 k), by rw [Tb.grow_size]; omega, .inr ⟨by omega, by rw [Tb.grow_size]; omega⟩⟩ (show (513 - (y.grow b16).size).toNat < (513 - y.size).toNat by rw [Tb.grow_size]; omega) ⟨rfl, rfl, rfl, trivial⟩ rfl zA
 ·obtain ⟨i, j, hp1, hj, hi⟩ := Tb.split (x := y) (p := p) ⟨by omega, by omega⟩
  refine WP.nil ?_; refine WP.sub [(0, _), (1, _), (5, _), (9, _)] ?_ ⟨rfl, rfl, rfl, rfl, trivial⟩
  refine WP.next ?_; refine WP.condF rfl ?_; refine WP.exit (WP.thenE (WP.thenE (WP.hit (WP.next (WP.seq ?_)))))
  refine WP.region [0, 1, 2, 3, 4, 5, 6, 7, 8, 9, 10] rfl ?_; iterate 2 refine WP.mv rfl rfl ?_
  refine WP.vl rfl (Yld.nilCheck rfl rfl) ?_; refine WP.vl rfl (Yld.fieldAddr rfl ty_fd_100_3 rfl) ?_; refine WP.vl rfl (Yld.ld rfl ty_sc_3 rfl rfl) ?_; refine WP.mv rfl rfl ?_; refine WP.vl rfl (Yld.add64 rfl rfl rfl (by omega)) ?_; refine WP.vl rfl (Yld.max2 rfl rfl rfl _ rfl) ?_; refine WP.vl rfl (Yld.nilCheck rfl rfl) ?_; refine WP.vl rfl (Yld.fieldAddr rfl ty_fd_100_3 rfl) ?_; refine WP.loud rfl rfl ?_; refine Op.s1 rfl rfl ty_sz_3 rfl rfl rfl ?_; refine WP.nil ?_; refine WP.sub [(0, _), (1, _), (5, _), (9, _)] ?_ ⟨rfl, rfl, rfl, rfl, trivial⟩
  refine WP.next ?_; have hok3 : Tb.ok I ({ y with next := (if y.next < p + 1 then p + 1 else y.next) } : Tb) := ⟨ok.n1, ok.n2, ok.ent, by dsimp only; have := ok.nx; split <;> omega⟩
  have ow3 : Own 142 1 _ (ckps ({ y with next := (if y.next < p + 1 then p + 1 else y.next) } : Tb).cks) ({ y with next := (if y.next < p + 1 then p + 1 else y.next) } : Tb).cks.length _ := ow
  have hy3 := IsTab.mk (q := q) (t := t) hok3 ow3
  dsimp only at hy3
  refine WQ.start Tryzmixed 5 zK _ rfl [5, 6] rfl ?_; iterate 2 refine WQ.val rfl rfl rfl (Yld.move rfl rfl) ?_
  refine WQ.call (tab_at1 hy3 hp1 hj hi) (by rintro v' J L1 ⟨rfl, rfl, rfl⟩; exact ⟨rfl, rfl, rfl⟩) rfl Tryz.func35 rfl rfl rfl rfl rfl zT ?_; refine WQ.val rfl rfl rfl (Yld.move rfl rfl) ?_; refine WQ.val rfl rfl rfl (Yld.lda rfl ty_ag_50 rfl rfl) ?_; refine WQ.nil ?_; refine WP.loud rfl rfl ?_; refine Op.cl (tab_fresh hy3 he0 hsz (by dsimp only; omega)) rfl Tryz.func37 rfl rfl rfl rfl ?_; rintro v J2 L9 hJ2 ⟨b9, rfl, hb9, hy4⟩
  try simp only [nf]
  generalize hz : ({ ({ y with next := (if y.next < p + 1 then p + 1 else y.next) } : Tb) with tok := ({ y with next := (if y.next < p + 1 then p + 1 else y.next) } : Tb).tok + 1 } : Tb) = z at hy4
  have hzc : z.cks = y.cks := by rw [← hz]
  have hzt : z.tok = x.tok + 1 := by rw [← hz]; simp only [htk2]
  have hzn : z.next = if x.next < p + 1 then p + 1 else x.next := by rw [← hz]; simp only [hnx2]
  have hiz : i < z.cks.length := by rw [hzc]; exact hi
  have hzi : z.cks[i].1 = y.cks[i].1 := by simp only [hzc]
  have hzg : ∀ k, z.get k = y.get k := fun k => by simp only [Tb.get, hzc]
  have hzs : z.size = y.size := by simp only [Tb.size, hzc]
  dsimp only at hb9
  rw [← hzi]
  cases hy4 with | mk ok4 ow4 => _
  obtain ⟨bv4, cv4, spv4, rfl, rfl, hcv4, hnv4⟩ := ow4.get (by have := ok4.n1; omega)
  simp only [nf]
  refine WP.outL (f := ckCh) (l := z.cks) i hiz (by repeat (first | exact Rm.chunk | exact Rm.here | exact Rm.nil0 | apply Rm.skip | apply Rm.skipS)) ?_; simp only [ckCh, List.cons_append, List.nil_append]
  refine WP.loud rfl rfl ?_; refine Op.cl (slot_Store (o := some (b9, { e with tok := x.tok + 1 })) (fun e' he' => by cases he'; rw [← htk2]; exact hb9) (by simpa using ckV_set (f := z.cks[i].2) hj (some (b9, { e with tok := x.tok + 1 })))) rfl Tryz.func55 rfl rfl rfl rfl ?_; rintro v J L1 - ⟨rfl, rfl, rfl⟩
  try simp only [nf]
  refine WP.nil ?_; refine WP.sub [(0, _), (1, _), (5, _), (9, _)] ?_ ⟨rfl, rfl, rfl, rfl, trivial⟩
  refine WP.backL (f := ckCh) (l := z.cks) i hiz (z.cks[i].1, putSl z.cks[i].2 j (some (b9, { e with tok := x.tok + 1 }))) zT (by repeat (first | exact Rm.chunk | exact Rm.here | exact Rm.nil0 | apply Rm.skip | apply Rm.skipS)) ?_; refine WP.fn .normal (.inl rfl) (res0 rfl) ((t, row 100 [.pointer (some ⟨q, 0, none⟩), .int .u64 (z.tok : Int), .slice (some ⟨bv4, 0, none⟩) z.cks.length cv4, .int .i64 z.next]) :: ((bv4, row 142 (ckps z.cks ++ spv4)) :: (z.cks.set i (z.cks[i].1, putSl z.cks[i].2 j (some (b9, { e with tok := x.tok + 1 })))).flatMap ckCh)) hJ2 ?_; refine ⟨z.setAt i j hiz (some (b9, { e with tok := x.tok + 1 })), rfl, ⟨hzt, hzn, ?_, ?_, ?_, b9, fun k => ?_⟩, ?_⟩
  ·simp only [Tb.size, Tb.setAt, List.length_set] at *; omega
  ·simp only [Tb.size, Tb.setAt, List.length_set] at *; omega
  ·simp only [Tb.size, Tb.setAt, List.length_set] at *; omega
  ·rw [Tb.setAt_get hiz hp1 hj, hzg, hget2]
  ·exact IsTab.setAt ok4 ow4 hiz (o := some (b9, { e with tok := x.tok + 1 })) (fun e' he' => by cases he'; rw [← htk2]; exact hb9)


inductive IsT (J : Imm) (t : Nat) (x : Tb) : Chunks → Prop
 | mk {q c : Nat} {vc l s sw m a : Int} {Lt : Chunks} (h : IsTab J t q x Lt) : IsT J t x ((q, row 165 [.int .i64 vc, .pointer (some ⟨c, 0, none⟩)]) :: (c, row 168 [.int .i64 l, .int .i64 s, .int .i64 sw, .int .i64 m, .int .i64 a]) :: Lt)
theorem IsT.mono {I J : Imm} {t : Nat} {x : Tb} {L : Chunks} (h : IsT I t x L) (hJ : I.le J) : IsT J t x L := by cases h with | mk h => exact .mk (h.mono hJ)
theorem IsTab.entOk {J : Imm} {t q : Nat} {x : Tb} {L : Chunks} (h : IsTab J t q x L) {p : Int} {e : Nat × Ent} (he : x.get p = some e) : entOk J e := by
 cases h with | mk ok ow =>
 obtain ⟨i, j, h1, h2, h3⟩ := Tb.split (Tb.in_of_get he)
 rw [Tb.get_at h1 h2 h3] at he
 exact ok.ent _ (List.getElem_mem h3) _ _ he
theorem IsTab.size_le {J : Imm} {t q : Nat} {x : Tb} {L : Chunks} (h : IsTab J t q x L) : 16 ≤ x.size ∧ x.size ≤ 512 ∧ 1 ≤ x.next ∧ x.next ≤ 513 := by
 cases h with | mk ok ow => have := ok.n1; have := ok.n2; have := ok.nx; unfold Tb.size; omega
theorem IsT.size_le {J : Imm} {t : Nat} {x : Tb} {L : Chunks} (h : IsT J t x L) : 16 ≤ x.size ∧ x.size ≤ 512 ∧ 1 ≤ x.next ∧ x.next ≤ 513 := by cases h with | mk h => exact h.size_le
theorem zero_rent (I : Imm) : REnt I zeroEnt (entV zeroEnt (.slice none 0 0) (.slice none 0 0)) := ⟨_, _, [], rfl, ⟨none, 0, rfl, Nat.le_refl _, rfl, .inl rfl⟩, ⟨rfl, fun i x hx => by simp at hx⟩, ⟨none, 0, rfl, Nat.le_refl _, rfl, .inl rfl⟩⟩
theorem zero_sized : zeroEnt.sized := ⟨Nat.zero_le _, fun x hx => (by cases hx), Nat.zero_le _⟩
structure Tb.Swapped (x x' : Tb) (p : Int) (e : Ent) : Prop where
 tok : x'.tok = x.tok + 1
 next : x'.next = x.next
 size : x'.size = x.size
 get : ∃ b, ∀ k, x'.get k = if k = p then some (b, { e with tok := x.tok + 1 }) else x.get k
theorem cell_NewInt_nil {I : Imm} {v : Int} : Spec Tryz.prog 52 [.pointer none, .int .i64 v] I [] (fun v' J L => ∃ x c, v' = .pointer (some ⟨x, 0, none⟩) ∧ I = J ∧ L = [(x, row 165 [.int .i64 v, .pointer (some ⟨c, 0, none⟩)]), (c, row 168 [.int .i64 0, .int .i64 0, .int .i64 0, .int .i64 0, .int .i64 0])]) := by
 refine Spec.of Tryz.func52 rfl Tryz.ntmps52 (Nat.le_of_ble_eq_true rfl) (fun F => ?_)
 try simp only [nf]
 dsimp only [argsEnv]
 refine WP.seq ?_; refine WP.region [0] rfl ?_; refine WP.mv rfl rfl ?_; refine WP.nil (WP.next (WP.seq (WP.seq ?_)))
 refine WP.region [0, 1] rfl ?_; refine WP.mv rfl rfl ?_; refine WP.vl rfl (Yld.eqlNil rfl ty_pt_140 rfl rfl) ?_; refine WP.nil ?_; refine WP.sub [(0, _), (1, _), (4, _), (7, _)] ?_ ⟨rfl, rfl, rfl, rfl, trivial⟩
 refine WP.next ?_; refine WP.condT rfl ?_; refine WP.region [0, 1] rfl ?_; refine WP.loud rfl rfl ?_; refine Op.cl (cell_NewCount _) rfl Tryz.func66 rfl rfl rfl rfl ?_; rintro v J L1 - ⟨c, rfl, rfl, rfl⟩
 try simp only [nf]
 refine WP.mv rfl rfl ?_; refine WP.nil ?_; refine WP.sub [(0, _), (1, _), (4, _), (7, _)] ?_ ⟨rfl, rfl, rfl, rfl, trivial⟩
 refine WP.next (WP.seq ?_)
 refine WP.region [0, 1, 2, 3] rfl ?_; refine WP.mv rfl rfl ?_; refine WP.vl rfl (Yld.buildS (pl := [(1, 1, 1)]) rfl ty_zr_165 ty_zd_165 zK rfl (vs := [_]) rfl (segs := [(1, [_])]) rfl rfl zS) ?_; refine WP.loud rfl rfl ?_; refine Op.box rfl rfl rfl rfl rfl (fun b11 => ?_)
 refine WP.mv rfl rfl ?_; refine WP.nil ?_; refine WP.sub [(0, _), (1, _), (4, _), (5, _), (7, _)] ?_ ⟨rfl, rfl, rfl, rfl, rfl, trivial⟩
 refine WP.next (WP.seq ?_)
 refine WP.region [0, 1, 2, 3, 4] rfl ?_; refine WP.mv rfl rfl ?_; refine WP.vl rfl (Yld.nilCheck rfl rfl) ?_; refine WP.vl rfl (Yld.fieldAddr rfl ty_fd_165_0 rfl) ?_; refine WP.mv rfl rfl ?_; refine WP.loud rfl rfl ?_; refine' Op.cl (atStore ?hs) rfl Tryz.func67 rfl rfl rfl rfl ?_
 case hs => repeat (first | exact SetAt.zero | apply SetAt.succ)
 rintro v J L1 - ⟨rfl, rfl, rfl⟩
 try simp only [nf]
 refine WP.nil ?_; refine WP.sub [(0, _), (1, _), (4, _), (5, _), (7, _)] ?_ ⟨rfl, rfl, rfl, rfl, rfl, trivial⟩
 refine WP.next (WP.seq ?_)
 refine WP.region [0, 1] rfl ?_; iterate 2 refine WP.mv rfl rfl ?_
 refine WP.nil ?_; refine WP.sub [(0, _), (1, _), (4, _), (5, _), (7, _)] ?_ ⟨rfl, rfl, rfl, rfl, rfl, trivial⟩
 refine WP.next (WP.ret ?_)
 refine WP.fn .ret (.inr rfl) (res1 rfl rfl) [(_, row 165 _), _] (Imm.le_refl _) ?_; exact ⟨_, _, rfl, rfl, rfl⟩


def Tb.fresh (b : Nat) : Tb := ⟨0, [(b, fun _ => none)], 1⟩
theorem Tb.fresh_ok (J : Imm) (b : Nat) : (Tb.fresh b).ok J := ⟨Nat.le_refl _, Nat.le_of_ble_eq_true rfl, fun c hc j e he => (by cases List.mem_singleton.1 hc; cases he), Int.le_refl _, show (1 : Int) ≤ 513 by decide⟩
theorem Tb.fresh_get (b : Nat) (p : Int) : (Tb.fresh b).get p = none := by
 unfold Tb.get
 split
 ·rfl
 ·simp only [Tb.fresh]
  rcases hh : ((p - 1) / 16).toNat with _ | k <;> rfl
theorem tabT_NewNil {I : Imm} : Spec Tryz.prog 30 [.pointer none] I [] (fun v J L' => ∃ t x, v = .pointer (some ⟨t, 0, none⟩) ∧ I = J ∧ IsT J t x L' ∧ x.tok = 0 ∧ x.next = 1 ∧ x.size = 16 ∧ ∀ p, x.get p = none) := by
 refine Spec.of Tryz.func30 rfl Tryz.ntmps30 (Nat.le_of_ble_eq_true rfl) (fun F => ?_)
 try simp only [nf]
 dsimp only [argsEnv]
 refine WP.seq ?_; refine WP.region [0] rfl ?_; refine WP.mv rfl rfl ?_; refine WP.nil (WP.next (WP.seq ?_))
 refine WP.region [0, 1, 2, 3, 4, 5, 6, 7] rfl ?_; refine WP.mv rfl rfl ?_; refine WP.loud rfl rfl ?_; refine Op.cl cell_NewInt_nil rfl Tryz.func52 rfl rfl rfl rfl ?_; rintro v J L1 - ⟨q, c, rfl, rfl, rfl⟩
 try simp only [nf]
 refine WP.vl rfl (Yld.buildS (pl := []) rfl ty_zr_150 ty_zd_150 zK rfl (vs := []) rfl (segs := []) rfl rfl zS) ?_; refine WP.loud rfl rfl ?_; refine Op.box rfl rfl rfl rfl rfl (fun b6 => ?_)
 refine WP.loud rfl rfl ?_; refine Op.buildSlice rfl ty_sl_98 ty_el2_98 rfl rfl rfl rfl (vs := [_]) rfl (segs := [(0, [_])]) (cs := [_]) rfl rfl zS (fun bl => ?_)
 refine WP.vl rfl (Yld.buildS (pl := [(0, 0, 1), (2, 2, 1), (3, 3, 1)]) rfl ty_zr_100 ty_zd_100 zK rfl (vs := [_, _, _]) rfl (segs := [(0, [_]), (2, [_]), (3, [_])]) rfl rfl zS) ?_; refine WP.loud rfl rfl ?_; refine Op.box rfl rfl rfl rfl rfl (fun b9 => ?_)
 refine WP.mv rfl rfl ?_; refine WP.nil ?_; refine WP.sub [(0, _), (2, _)] ?_ ⟨rfl, rfl, trivial⟩
 refine WP.next (WP.ret ?_)
 refine WP.fn .ret (.inr rfl) (res1 rfl rfl) ((q, row 165 [.int .i64 0, .pointer (some ⟨c, 0, none⟩)]) :: (c, row 168 [.int .i64 0, .int .i64 0, .int .i64 0, .int .i64 0, .int .i64 0]) :: ((b9, row 100 [.pointer (some ⟨q, 0, none⟩), .int .u64 ((Tb.fresh b6).tok : Int), .slice (some ⟨bl, 0, none⟩) (Tb.fresh b6).cks.length 1, .int .i64 (Tb.fresh b6).next]) :: ((bl, row 142 (ckps (Tb.fresh b6).cks ++ [])) :: (Tb.fresh b6).cks.flatMap ckCh))) (Imm.le_refl _) ?_; refine ⟨_, Tb.fresh b6, rfl, rfl, IsT.mk (IsTab.mk (Lv := [(bl, row 142 (ckps (Tb.fresh b6).cks ++ []))]) (Tb.fresh_ok _ b6) (Own.blk rfl rfl (Nat.le_refl _))), rfl, rfl, rfl, Tb.fresh_get b6⟩

end Go.Hp
