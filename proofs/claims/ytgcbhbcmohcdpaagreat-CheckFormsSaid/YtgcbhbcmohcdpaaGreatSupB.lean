import Derived.Test.YtgcbhbcmohcdpaaGreatSupA
set_option linter.unusedVariables false
set_option linter.unusedSimpArgs false
namespace Go.Hp
open Go Go.Proofs
set_option maxRecDepth 10000

theorem super_putI9 {I : Imm} {a : Int} {k : Nat} (hk : 1 ≤ k ∧ k ≤ 8) (hm : 0 ≤ a ∧ a < 9223372036854775808) : Spec Tryz.prog 153 [.int .i64 a, .int .i64 (k : Int)] I [] (fun v J L => ∃ b, v = .slice (some ⟨b, 0, none⟩) k k ∧ I = J ∧ L = [(b, row 5 (bytesV (leB a.toNat k)))]) := by
 have h := super_put9 (I := I) (m := a.toNat) hk (by omega)
 rwa [Int.toNat_of_nonneg hm.1] at h
def body (s : Sp) : List UInt8 := [80, 83] ++ (leB s.no.toNat 4 ++ (leB s.place.toNat 6 ++ (leB s.first.toNat 5 ++ (leB s.era.toNat 4 ++ leB s.upto.toNat 6))))
theorem body_len (s : Sp) : (body s).length = 27 := by simp [body, leB_len]
def head (s : Sp) : List UInt8 := body s ++ List.replicate 25 0
theorem head_len (s : Sp) : (head s).length = 52 := by simp [head, body_len]
/-- A superblock's bytes. -/
def enc (s : Sp) : List UInt8 := head s ++ (leB (crcOf (head s)).toNat 4 ++ leB s.no.toNat 8)
theorem enc_len (s : Sp) : (enc s).length = 64 := by simp [enc, head_len, leB_len]
theorem lay1 (s : Sp) : body s ++ List.replicate 37 0 = (List.replicate 64 (0 : UInt8)).take 0 ++ (body s).take 27 ++ (List.replicate 64 (0 : UInt8)).drop (0 + 27) := by
 rw [List.take_zero, List.nil_append, List.take_of_length_le (l := body s) (by rw [body_len]; exact Nat.le_refl _), List.drop_replicate]
theorem lay2 (s : Sp) : (body s ++ List.replicate 37 (0 : UInt8)).take 52 = head s := by
 rw [show List.replicate 37 (0 : UInt8) = List.replicate 25 0 ++ List.replicate 12 0 from rfl, ← List.append_assoc, show body s ++ List.replicate 25 0 = head s from rfl, List.take_append_of_le_length (by rw [head_len]; exact Nat.le_refl _), List.take_of_length_le (by rw [head_len]; exact Nat.le_refl _)]
theorem lay3 (s : Sp) {c : List UInt8} (hc : c.length = 4) : head s ++ (c ++ List.replicate 8 0) = (body s ++ List.replicate 37 (0 : UInt8)).take 52 ++ c.take 4 ++ (body s ++ List.replicate 37 (0 : UInt8)).drop (52 + 4) := by
 rw [lay2, List.take_of_length_le (by omega), List.append_assoc]
 congr 2
theorem lay4 (s : Sp) {c t : List UInt8} (hc : c.length = 4) (ht : t.length = 8) : head s ++ (c ++ t) = (head s ++ (c ++ List.replicate 8 0)).take 56 ++ t.take 8 ++ (head s ++ (c ++ List.replicate 8 0)).drop (56 + 8) := by
 rw [← List.append_assoc, ← List.append_assoc]
 have h1 : (head s ++ c).length = 56 := by rw [List.length_append, head_len, hc]
 rw [List.take_append_of_le_length (by omega), List.take_of_length_le (by omega), List.take_of_length_le (by omega), List.drop_of_length_le (by rw [List.length_append, h1, List.length_replicate]; exact Nat.le_refl _), List.append_nil]
set_option maxRecDepth 100000 in
theorem form_zr9 : zeroTy Tryz.prog 245 (bytesV (List.replicate 64 0)) := ⟨_, _, rfl, rfl, rfl⟩
theorem mark_mono9 {I J : Imm} (h : I.le J) {b T : Nat} {cs : Array Value} (hm : ∃ fr, I.blk b = some (.cells cs T fr)) : ∃ fr, J.blk b = some (.cells cs T fr) := by
 obtain ⟨fr, hm⟩ := hm; exact ⟨fr, h.2 _ _ hm⟩
theorem crc_OfPre {I : Imm} {b T k N : Nat} {l : List UInt8} (hk : k ≤ N) (hN : l.length = N) (hb : N ≤ 1152921504606846976) : Spec Tryz.prog 154 [subSl 1 0 k (.slice (some ⟨b, 0, none⟩) N N)] I [(b, row T (bytesV l))] (fun v J L => v = .int .u32 ((crcOf (l.take k)).toNat : Int) ∧ I = J ∧ L = [(b, row T (bytesV l))]) :=
 (Spec.lend (R := fun v _ L' => v = .int .u32 ((crcOf (l.take k)).toNat : Int) ∧ L' = []) (fun J hJ hb' => (crc_Of (bs := l.take k) (by
  have h := (SlAt.arr (b := b) (k := 0) (n := N)).sub (sz := 1) (Nat.zero_le k) hk
  have h2 := h.rdB (V := fun b o => J.blk b = some o) (T := T) (l := l) hb' (by omega)
  rw [List.length_take, Nat.min_eq_left (by omega)]
  simpa using h2) (by rw [List.length_take]; omega)).mono (by rintro v J' L' _ ⟨rfl, rfl, rfl⟩; exact ⟨rfl, rfl, rfl⟩))).mono (by rintro v J' L' _ ⟨rfl, L1, rfl, rfl, rfl⟩; exact ⟨rfl, rfl, rfl⟩)
set_option maxHeartbeats 2000000 in
theorem super_laid {I : Imm} {s : Sp} (hm : s.may) : Spec Tryz.prog 137 [.agg (spV s).toArray] I [] (fun v J L => v = .agg (bytesV (enc s)).toArray ∧ L = []) := by
 have hle : I.le I := Imm.le_refl _
 refine Spec.of Tryz.func137 rfl Tryz.ntmps137 (Nat.le_of_ble_eq_true rfl) (fun F => ?_)
 try simp only [nf]
 dsimp only [argsEnv]
 refine WP.seq ?_; refine WP.region [0, 1] rfl ?_; refine WP.loud rfl rfl ?_; refine Op.box rfl rfl rfl rfl rfl (fun b1 => ?_)
 refine WP.loud rfl rfl ?_; refine Op.alloc rfl rfl rfl form_zr9 (fun b2 => ?_)
 refine WP.nil (WP.next (WP.seq ?_))
 refine WP.region [0] rfl ?_; refine WP.loud rfl rfl ?_; refine Op.alloc rfl rfl rfl form_zr9 (fun b3 => ?_)
 refine WP.nil (WP.next ?_)
 refine WP.cut (X := Imm) (fun _ : Imm => [(1, .pointer (some ⟨b1, 0, none⟩)), (2, .pointer (some ⟨b2, 0, none⟩)), (3, .pointer (some ⟨b3, 0, none⟩))]) (fun J => J) (fun _ : Imm => (b1, row 37 (spV s)) :: ((b2, row 245 (bytesV (List.replicate 64 0))) :: ((b3, row 245 (bytesV (body s ++ List.replicate 37 0))) :: F))) (fun J => I.le J) ?_ ?_
 ·skip
  refine WD.start Tryzmixed 20 (fun b o => b = b1 ∧ o = row 37 (spV s)) (fun _ _ => False) (by rintro _ _ ⟨rfl, rfl⟩; exact zM) (fun _ _ h => h.elim) 21 [false, false, false, false, false, false, false, false, false, false, false, false, false, false, false, false, false, false, false, false, false] rfl rfl ?_; refine WD.vl (i := 0) rfl (Yld.sliceA rfl ty_ar_245 rfl Env.lim0 Env.lim0 (Nat.zero_le _) (Nat.le_refl _)) ?_; refine WD.vl (i := 3) rfl (Yld.fieldAddr rfl ty_fd_37_0 rfl) ?_; refine WD.val1 (i := 4) rfl rfl rfl rfl zK rfl zK (Yld.load rfl ty_sc_3 rfl (.inl ⟨rfl, rfl⟩) rfl) ?_; refine WD.vl (i := 6) rfl (Yld.fieldAddr rfl ty_fd_37_1 rfl) ?_; refine WD.val1 (i := 7) rfl rfl rfl rfl zK rfl zK (Yld.load rfl ty_sc_3 rfl (.inl ⟨rfl, rfl⟩) rfl) ?_; refine WD.vl (i := 9) rfl (Yld.fieldAddr rfl ty_fd_37_2 rfl) ?_; refine WD.val1 (i := 10) rfl rfl rfl rfl zK rfl zK (Yld.load rfl ty_sc_3 rfl (.inl ⟨rfl, rfl⟩) rfl) ?_; refine WD.vl (i := 12) rfl (Yld.fieldAddr rfl ty_fd_37_3 rfl) ?_; refine WD.val1 (i := 13) rfl rfl rfl rfl zK rfl zK (Yld.load rfl ty_sc_3 rfl (.inl ⟨rfl, rfl⟩) rfl) ?_; refine WD.vl (i := 15) rfl (Yld.fieldAddr rfl ty_fd_37_4 rfl) ?_; refine WD.val1 (i := 16) rfl rfl rfl rfl zK rfl zK (Yld.load rfl ty_sc_3 rfl (.inl ⟨rfl, rfl⟩) rfl) ?_; refine WD.both (i := 1) (j := 5) zK rfl rfl ?_ ?_
  ·refine WP.oper rfl rfl ?_
   refine Op.buildSlice rfl ty_sl_25 ty_el2_25 rfl rfl rfl rfl (vs := [_, _]) rfl (segs := [(0, [_]), (1, [_])]) (cs := bytesV [80, 83]) rfl rfl zS (fun bz => ?_)
   refine WD.gR ?_; refine WD.both (i := 2) (j := 5) zK rfl rfl ?_ ?_
   ·refine WP.oper rfl rfl ?_
    refine Op.mark (cs := bytesV [80, 83]) rfl Tryz.underlying25 zK rfl rfl rfl (by repeat (first | exact Rm.chunk | exact Rm.here | exact Rm.nil0 | apply Rm.skip | apply Rm.skipS)) (fun Jn hJn hmz => ?_)
    replace hle := Imm.le_trans hle hJn
    try replace hb5 := hJn.2 _ _ hb5
    try replace hb8 := hJn.2 _ _ hb8
    try replace hb11 := hJn.2 _ _ hb11
    try replace hb14 := hJn.2 _ _ hb14
    try replace hb17 := hJn.2 _ _ hb17
    refine WD.gR ?_; refine WD.loud (i := 5) zK rfl rfl rfl ?_; refine Op.cl (super_putI9 (k := 4) ⟨by decide, by decide⟩ ⟨by have := hm.no; omega, by have := hm.no; omega⟩) rfl Tryz.func153 rfl rfl rfl rfl ?_; rintro v J L1 - ⟨b5, rfl, rfl, rfl⟩
    try simp only [nf]
    refine WP.share (fun Jn hJn hb5 => ?_)
    replace hle := Imm.le_trans hle hJn
    try replace hb8 := hJn.2 _ _ hb8
    try replace hb11 := hJn.2 _ _ hb11
    try replace hb14 := hJn.2 _ _ hb14
    try replace hb17 := hJn.2 _ _ hb17
    try replace hmz := mark_mono9 hJn hmz
    refine WD.gR ?_; refine WD.loud (i := 8) zK rfl rfl rfl ?_; refine Op.cl (super_putI9 (k := 6) ⟨by decide, by decide⟩ ⟨by have := hm.place; omega, by have := hm.place; omega⟩) rfl Tryz.func153 rfl rfl rfl rfl ?_; rintro v J L1 - ⟨b8, rfl, rfl, rfl⟩
    try simp only [nf]
    refine WP.share (fun Jn hJn hb8 => ?_)
    replace hle := Imm.le_trans hle hJn
    try replace hb5 := hJn.2 _ _ hb5
    try replace hb11 := hJn.2 _ _ hb11
    try replace hb14 := hJn.2 _ _ hb14
    try replace hb17 := hJn.2 _ _ hb17
    try replace hmz := mark_mono9 hJn hmz
    refine WD.gR ?_; refine WD.loud (i := 11) zK rfl rfl rfl ?_; refine Op.cl (super_putI9 (k := 5) ⟨by decide, by decide⟩ ⟨by have := hm.first; omega, by have := hm.first; omega⟩) rfl Tryz.func153 rfl rfl rfl rfl ?_; rintro v J L1 - ⟨b11, rfl, rfl, rfl⟩
    try simp only [nf]
    refine WP.share (fun Jn hJn hb11 => ?_)
    replace hle := Imm.le_trans hle hJn
    try replace hb5 := hJn.2 _ _ hb5
    try replace hb8 := hJn.2 _ _ hb8
    try replace hb14 := hJn.2 _ _ hb14
    try replace hb17 := hJn.2 _ _ hb17
    try replace hmz := mark_mono9 hJn hmz
    refine WD.gR ?_; refine WD.loud (i := 14) zK rfl rfl rfl ?_; refine Op.cl (super_putI9 (k := 4) ⟨by decide, by decide⟩ ⟨by have := hm.era; omega, by have := hm.era; omega⟩) rfl Tryz.func153 rfl rfl rfl rfl ?_; rintro v J L1 - ⟨b14, rfl, rfl, rfl⟩
    try simp only [nf]
    refine WP.share (fun Jn hJn hb14 => ?_)
    replace hle := Imm.le_trans hle hJn
    try replace hb5 := hJn.2 _ _ hb5
    try replace hb8 := hJn.2 _ _ hb8
    try replace hb11 := hJn.2 _ _ hb11
    try replace hb17 := hJn.2 _ _ hb17
    try replace hmz := mark_mono9 hJn hmz
    refine WD.gR ?_; refine WD.loud (i := 17) zK rfl rfl rfl ?_; refine Op.cl (super_putI9 (k := 6) ⟨by decide, by decide⟩ ⟨by have := hm.upto; omega, by have := hm.upto; omega⟩) rfl Tryz.func153 rfl rfl rfl rfl ?_; rintro v J L1 - ⟨b17, rfl, rfl, rfl⟩
    try simp only [nf]
    refine WP.share (fun Jn hJn hb17 => ?_)
    replace hle := Imm.le_trans hle hJn
    try replace hb5 := hJn.2 _ _ hb5
    try replace hb8 := hJn.2 _ _ hb8
    try replace hb11 := hJn.2 _ _ hb11
    try replace hb14 := hJn.2 _ _ hb14
    try replace hmz := mark_mono9 hJn hmz
    refine WD.gR ?_; refine WD.loud (i := 18) zK rfl rfl rfl ?_; refine Op.buildSlice rfl ty_sl_116 ty_el2_116 rfl rfl rfl rfl (vs := [_, _, _, _, _, _]) rfl (segs := [(0, [_]), (1, [_]), (2, [_]), (3, [_]), (4, [_]), (5, [_])]) (cs := ([(.slice (some ⟨bz, 0, none⟩) 2 2, [80, 83]), (.slice (some ⟨b5, 0, none⟩) 4 4, leB s.no.toNat 4), (.slice (some ⟨b8, 0, none⟩) 6 6, leB s.place.toNat 6), (.slice (some ⟨b11, 0, none⟩) 5 5, leB s.first.toNat 5), (.slice (some ⟨b14, 0, none⟩) 4 4, leB s.era.toNat 4), (.slice (some ⟨b17, 0, none⟩) 6 6, leB s.upto.toNat 6)]).map (·.1)) rfl rfl zS (fun bx => ?_)
    refine WD.gR ?_; refine WD.loud (i := 19) zK rfl rfl rfl ?_; refine Op.cl (slices_Concat (bx := bx) (ls := [(.slice (some ⟨bz, 0, none⟩) 2 2, [80, 83]), (.slice (some ⟨b5, 0, none⟩) 4 4, leB s.no.toNat 4), (.slice (some ⟨b8, 0, none⟩) 6 6, leB s.place.toNat 6), (.slice (some ⟨b11, 0, none⟩) 5 5, leB s.first.toNat 5), (.slice (some ⟨b14, 0, none⟩) 4 4, leB s.era.toNat 4), (.slice (some ⟨b17, 0, none⟩) 6 6, leB s.upto.toNat 6)]) (by intro e he; simp only [List.mem_cons, List.not_mem_nil, or_false] at he; rcases he with rfl | rfl | rfl | rfl | rfl | rfl; exact Im_lit' hmz (Nat.le_refl _); exact (by have q := Im_lit (l := leB s.no.toNat 4) (sp := []) (c := 4) (by rw [List.append_nil]; exact hb5) (by rw [leB_len]; exact Nat.le_refl _); simpa [leB_len] using q); exact (by have q := Im_lit (l := leB s.place.toNat 6) (sp := []) (c := 6) (by rw [List.append_nil]; exact hb8) (by rw [leB_len]; exact Nat.le_refl _); simpa [leB_len] using q); exact (by have q := Im_lit (l := leB s.first.toNat 5) (sp := []) (c := 5) (by rw [List.append_nil]; exact hb11) (by rw [leB_len]; exact Nat.le_refl _); simpa [leB_len] using q); exact (by have q := Im_lit (l := leB s.era.toNat 4) (sp := []) (c := 4) (by rw [List.append_nil]; exact hb14) (by rw [leB_len]; exact Nat.le_refl _); simpa [leB_len] using q); exact (by have q := Im_lit (l := leB s.upto.toNat 6) (sp := []) (c := 6) (by rw [List.append_nil]; exact hb17) (by rw [leB_len]; exact Nat.le_refl _); simpa [leB_len] using q)) (by simp [total, leB_len]) (by simp [total, leB_len]) (Nat.le_of_ble_eq_true rfl)) rfl Tryz.func152 rfl rfl rfl rfl ?_
    rintro v J Lo - ⟨rfl, hown⟩
    try simp only [nf]
    have hown2 : Own 5 1 v (bytesV (body s)) 27 Lo := by have e : ([(.slice (some ⟨bz, 0, none⟩) 2 2, [80, 83]), (.slice (some ⟨b5, 0, none⟩) 4 4, leB s.no.toNat 4), (.slice (some ⟨b8, 0, none⟩) 6 6, leB s.place.toNat 6), (.slice (some ⟨b11, 0, none⟩) 5 5, leB s.first.toNat 5), (.slice (some ⟨b14, 0, none⟩) 4 4, leB s.era.toNat 4), (.slice (some ⟨b17, 0, none⟩) 6 6, leB s.upto.toNat 6)] : List (Value × List UInt8)).flatMap (·.2) = body s := (by simp [body]); have e2 : total ([(.slice (some ⟨bz, 0, none⟩) 2 2, [80, 83]), (.slice (some ⟨b5, 0, none⟩) 4 4, leB s.no.toNat 4), (.slice (some ⟨b8, 0, none⟩) 6 6, leB s.place.toNat 6), (.slice (some ⟨b11, 0, none⟩) 5 5, leB s.first.toNat 5), (.slice (some ⟨b14, 0, none⟩) 4 4, leB s.era.toNat 4), (.slice (some ⟨b17, 0, none⟩) 6 6, leB s.upto.toNat 6)] : List (Value × List UInt8)) = 27 := (by unfold total; rw [e, body_len]); rw [e, e2] at hown; exact hown
    refine WD.gR ?_; refine WD.loud (i := 20) zK rfl rfl rfl ?_; refine Op.copyB (k := 0) (m := 64) (m2 := 27) (q := 27) (old := List.replicate 64 0) (new := body s ++ List.replicate 37 0) (s := body s) rfl ty_sl_25 rfl rfl rfl rfl (SlAt.arr.sub (sz := 1) (Nat.zero_le _) (Nat.le_refl _)) (hown2.rd (by intro p hp; simp [hp])) rfl (by simp) (lay1 s) (by repeat (first | exact Upd.head | apply Upd.tail | apply Upd.tailS)) ?_; refine WD.go (.inl rfl) (fun _ _ h => h.elim) ?_; refine WD.done zK ?_; refine WP.sub [(0, _), (1, _), (2, _), (3, _)] ?_ ⟨rfl, rfl, rfl, rfl, trivial⟩
    exact WP.mt Jn hle ⟨rfl, rfl, rfl, trivial⟩ rfl
   ·refine WP.oper rfl rfl ?_
    refine Op.cl (super_putI9 (k := 4) ⟨by decide, by decide⟩ ⟨by have := hm.no; omega, by have := hm.no; omega⟩) rfl Tryz.func153 rfl rfl rfl rfl ?_; rintro v J L1 - ⟨b5, rfl, rfl, rfl⟩
    try simp only [nf]
    refine WP.share (fun Jn hJn hb5 => ?_)
    replace hle := Imm.le_trans hle hJn
    try replace hb8 := hJn.2 _ _ hb8
    try replace hb11 := hJn.2 _ _ hb11
    try replace hb14 := hJn.2 _ _ hb14
    try replace hb17 := hJn.2 _ _ hb17
    try replace hmz := mark_mono9 hJn hmz
    refine WD.gR ?_; refine WD.both (i := 2) (j := 8) zK rfl rfl ?_ ?_
    ·refine WP.oper rfl rfl ?_
     refine Op.mark (cs := bytesV [80, 83]) rfl Tryz.underlying25 zK rfl rfl rfl (by repeat (first | exact Rm.chunk | exact Rm.here | exact Rm.nil0 | apply Rm.skip | apply Rm.skipS)) (fun Jn hJn hmz => ?_)
     replace hle := Imm.le_trans hle hJn
     try replace hb5 := hJn.2 _ _ hb5
     try replace hb8 := hJn.2 _ _ hb8
     try replace hb11 := hJn.2 _ _ hb11
     try replace hb14 := hJn.2 _ _ hb14
     try replace hb17 := hJn.2 _ _ hb17
     refine WD.gR ?_; refine WD.loud (i := 8) zK rfl rfl rfl ?_; refine Op.cl (super_putI9 (k := 6) ⟨by decide, by decide⟩ ⟨by have := hm.place; omega, by have := hm.place; omega⟩) rfl Tryz.func153 rfl rfl rfl rfl ?_; rintro v J L1 - ⟨b8, rfl, rfl, rfl⟩
     try simp only [nf]
     refine WP.share (fun Jn hJn hb8 => ?_)
     replace hle := Imm.le_trans hle hJn
     try replace hb5 := hJn.2 _ _ hb5
     try replace hb11 := hJn.2 _ _ hb11
     try replace hb14 := hJn.2 _ _ hb14
     try replace hb17 := hJn.2 _ _ hb17
     try replace hmz := mark_mono9 hJn hmz
     refine WD.gR ?_; refine WD.loud (i := 11) zK rfl rfl rfl ?_; refine Op.cl (super_putI9 (k := 5) ⟨by decide, by decide⟩ ⟨by have := hm.first; omega, by have := hm.first; omega⟩) rfl Tryz.func153 rfl rfl rfl rfl ?_; rintro v J L1 - ⟨b11, rfl, rfl, rfl⟩
     try simp only [nf]
     refine WP.share (fun Jn hJn hb11 => ?_)
     replace hle := Imm.le_trans hle hJn
     try replace hb5 := hJn.2 _ _ hb5
     try replace hb8 := hJn.2 _ _ hb8
     try replace hb14 := hJn.2 _ _ hb14
     try replace hb17 := hJn.2 _ _ hb17
     try replace hmz := mark_mono9 hJn hmz
     refine WD.gR ?_; refine WD.loud (i := 14) zK rfl rfl rfl ?_; refine Op.cl (super_putI9 (k := 4) ⟨by decide, by decide⟩ ⟨by have := hm.era; omega, by have := hm.era; omega⟩) rfl Tryz.func153 rfl rfl rfl rfl ?_; rintro v J L1 - ⟨b14, rfl, rfl, rfl⟩
     try simp only [nf]
     refine WP.share (fun Jn hJn hb14 => ?_)
     replace hle := Imm.le_trans hle hJn
     try replace hb5 := hJn.2 _ _ hb5
     try replace hb8 := hJn.2 _ _ hb8
     try replace hb11 := hJn.2 _ _ hb11
     try replace hb17 := hJn.2 _ _ hb17
     try replace hmz := mark_mono9 hJn hmz
     refine WD.gR ?_; refine WD.loud (i := 17) zK rfl rfl rfl ?_; refine Op.cl (super_putI9 (k := 6) ⟨by decide, by decide⟩ ⟨by have := hm.upto; omega, by have := hm.upto; omega⟩) rfl Tryz.func153 rfl rfl rfl rfl ?_; rintro v J L1 - ⟨b17, rfl, rfl, rfl⟩
     try simp only [nf]
     refine WP.share (fun Jn hJn hb17 => ?_)
     replace hle := Imm.le_trans hle hJn
     try replace hb5 := hJn.2 _ _ hb5
     try replace hb8 := hJn.2 _ _ hb8
     try replace hb11 := hJn.2 _ _ hb11
     try replace hb14 := hJn.2 _ _ hb14
     try replace hmz := mark_mono9 hJn hmz
     refine WD.gR ?_; refine WD.loud (i := 18) zK rfl rfl rfl ?_; refine Op.buildSlice rfl ty_sl_116 ty_el2_116 rfl rfl rfl rfl (vs := [_, _, _, _, _, _]) rfl (segs := [(0, [_]), (1, [_]), (2, [_]), (3, [_]), (4, [_]), (5, [_])]) (cs := ([(.slice (some ⟨bz, 0, none⟩) 2 2, [80, 83]), (.slice (some ⟨b5, 0, none⟩) 4 4, leB s.no.toNat 4), (.slice (some ⟨b8, 0, none⟩) 6 6, leB s.place.toNat 6), (.slice (some ⟨b11, 0, none⟩) 5 5, leB s.first.toNat 5), (.slice (some ⟨b14, 0, none⟩) 4 4, leB s.era.toNat 4), (.slice (some ⟨b17, 0, none⟩) 6 6, leB s.upto.toNat 6)]).map (·.1)) rfl rfl zS (fun bx => ?_)
     refine WD.gR ?_; refine WD.loud (i := 19) zK rfl rfl rfl ?_; refine Op.cl (slices_Concat (bx := bx) (ls := [(.slice (some ⟨bz, 0, none⟩) 2 2, [80, 83]), (.slice (some ⟨b5, 0, none⟩) 4 4, leB s.no.toNat 4), (.slice (some ⟨b8, 0, none⟩) 6 6, leB s.place.toNat 6), (.slice (some ⟨b11, 0, none⟩) 5 5, leB s.first.toNat 5), (.slice (some ⟨b14, 0, none⟩) 4 4, leB s.era.toNat 4), (.slice (some ⟨b17, 0, none⟩) 6 6, leB s.upto.toNat 6)]) (by intro e he; simp only [List.mem_cons, List.not_mem_nil, or_false] at he; rcases he with rfl | rfl | rfl | rfl | rfl | rfl; exact Im_lit' hmz (Nat.le_refl _); exact (by have q := Im_lit (l := leB s.no.toNat 4) (sp := []) (c := 4) (by rw [List.append_nil]; exact hb5) (by rw [leB_len]; exact Nat.le_refl _); simpa [leB_len] using q); exact (by have q := Im_lit (l := leB s.place.toNat 6) (sp := []) (c := 6) (by rw [List.append_nil]; exact hb8) (by rw [leB_len]; exact Nat.le_refl _); simpa [leB_len] using q); exact (by have q := Im_lit (l := leB s.first.toNat 5) (sp := []) (c := 5) (by rw [List.append_nil]; exact hb11) (by rw [leB_len]; exact Nat.le_refl _); simpa [leB_len] using q); exact (by have q := Im_lit (l := leB s.era.toNat 4) (sp := []) (c := 4) (by rw [List.append_nil]; exact hb14) (by rw [leB_len]; exact Nat.le_refl _); simpa [leB_len] using q); exact (by have q := Im_lit (l := leB s.upto.toNat 6) (sp := []) (c := 6) (by rw [List.append_nil]; exact hb17) (by rw [leB_len]; exact Nat.le_refl _); simpa [leB_len] using q)) (by simp [total, leB_len]) (by simp [total, leB_len]) (Nat.le_of_ble_eq_true rfl)) rfl Tryz.func152 rfl rfl rfl rfl ?_
     rintro v J Lo - ⟨rfl, hown⟩
     try simp only [nf]
     have hown2 : Own 5 1 v (bytesV (body s)) 27 Lo := by have e : ([(.slice (some ⟨bz, 0, none⟩) 2 2, [80, 83]), (.slice (some ⟨b5, 0, none⟩) 4 4, leB s.no.toNat 4), (.slice (some ⟨b8, 0, none⟩) 6 6, leB s.place.toNat 6), (.slice (some ⟨b11, 0, none⟩) 5 5, leB s.first.toNat 5), (.slice (some ⟨b14, 0, none⟩) 4 4, leB s.era.toNat 4), (.slice (some ⟨b17, 0, none⟩) 6 6, leB s.upto.toNat 6)] : List (Value × List UInt8)).flatMap (·.2) = body s := (by simp [body]); have e2 : total ([(.slice (some ⟨bz, 0, none⟩) 2 2, [80, 83]), (.slice (some ⟨b5, 0, none⟩) 4 4, leB s.no.toNat 4), (.slice (some ⟨b8, 0, none⟩) 6 6, leB s.place.toNat 6), (.slice (some ⟨b11, 0, none⟩) 5 5, leB s.first.toNat 5), (.slice (some ⟨b14, 0, none⟩) 4 4, leB s.era.toNat 4), (.slice (some ⟨b17, 0, none⟩) 6 6, leB s.upto.toNat 6)] : List (Value × List UInt8)) = 27 := (by unfold total; rw [e, body_len]); rw [e, e2] at hown; exact hown
     refine WD.gR ?_; refine WD.loud (i := 20) zK rfl rfl rfl ?_; refine Op.copyB (k := 0) (m := 64) (m2 := 27) (q := 27) (old := List.replicate 64 0) (new := body s ++ List.replicate 37 0) (s := body s) rfl ty_sl_25 rfl rfl rfl rfl (SlAt.arr.sub (sz := 1) (Nat.zero_le _) (Nat.le_refl _)) (hown2.rd (by intro p hp; simp [hp])) rfl (by simp) (lay1 s) (by repeat (first | exact Upd.head | apply Upd.tail | apply Upd.tailS)) ?_; refine WD.go (.inl rfl) (fun _ _ h => h.elim) ?_; refine WD.done zK ?_; refine WP.sub [(0, _), (1, _), (2, _), (3, _)] ?_ ⟨rfl, rfl, rfl, rfl, trivial⟩
     exact WP.mt Jn hle ⟨rfl, rfl, rfl, trivial⟩ rfl
    ·refine WP.oper rfl rfl ?_
     refine Op.cl (super_putI9 (k := 6) ⟨by decide, by decide⟩ ⟨by have := hm.place; omega, by have := hm.place; omega⟩) rfl Tryz.func153 rfl rfl rfl rfl ?_; rintro v J L1 - ⟨b8, rfl, rfl, rfl⟩
     try simp only [nf]
     refine WP.share (fun Jn hJn hb8 => ?_)
     replace hle := Imm.le_trans hle hJn
     try replace hb5 := hJn.2 _ _ hb5
     try replace hb11 := hJn.2 _ _ hb11
     try replace hb14 := hJn.2 _ _ hb14
     try replace hb17 := hJn.2 _ _ hb17
     try replace hmz := mark_mono9 hJn hmz
     refine WD.gR ?_; refine WD.both (i := 2) (j := 11) zK rfl rfl ?_ ?_
     ·refine WP.oper rfl rfl ?_
      refine Op.mark (cs := bytesV [80, 83]) rfl Tryz.underlying25 zK rfl rfl rfl (by repeat (first | exact Rm.chunk | exact Rm.here | exact Rm.nil0 | apply Rm.skip | apply Rm.skipS)) (fun Jn hJn hmz => ?_)
      replace hle := Imm.le_trans hle hJn
      try replace hb5 := hJn.2 _ _ hb5
      try replace hb8 := hJn.2 _ _ hb8
      try replace hb11 := hJn.2 _ _ hb11
      try replace hb14 := hJn.2 _ _ hb14
      try replace hb17 := hJn.2 _ _ hb17
      refine WD.gR ?_; refine WD.loud (i := 11) zK rfl rfl rfl ?_; refine Op.cl (super_putI9 (k := 5) ⟨by decide, by decide⟩ ⟨by have := hm.first; omega, by have := hm.first; omega⟩) rfl Tryz.func153 rfl rfl rfl rfl ?_; rintro v J L1 - ⟨b11, rfl, rfl, rfl⟩
      try simp only [nf]
      refine WP.share (fun Jn hJn hb11 => ?_)
      replace hle := Imm.le_trans hle hJn
      try replace hb5 := hJn.2 _ _ hb5
      try replace hb8 := hJn.2 _ _ hb8
      try replace hb14 := hJn.2 _ _ hb14
      try replace hb17 := hJn.2 _ _ hb17
      try replace hmz := mark_mono9 hJn hmz
      refine WD.gR ?_; refine WD.loud (i := 14) zK rfl rfl rfl ?_; refine Op.cl (super_putI9 (k := 4) ⟨by decide, by decide⟩ ⟨by have := hm.era; omega, by have := hm.era; omega⟩) rfl Tryz.func153 rfl rfl rfl rfl ?_; rintro v J L1 - ⟨b14, rfl, rfl, rfl⟩
      try simp only [nf]
      refine WP.share (fun Jn hJn hb14 => ?_)
      replace hle := Imm.le_trans hle hJn
      try replace hb5 := hJn.2 _ _ hb5
      try replace hb8 := hJn.2 _ _ hb8
      try replace hb11 := hJn.2 _ _ hb11
      try replace hb17 := hJn.2 _ _ hb17
      try replace hmz := mark_mono9 hJn hmz
      refine WD.gR ?_; refine WD.loud (i := 17) zK rfl rfl rfl ?_; refine Op.cl (super_putI9 (k := 6) ⟨by decide, by decide⟩ ⟨by have := hm.upto; omega, by have := hm.upto; omega⟩) rfl Tryz.func153 rfl rfl rfl rfl ?_; rintro v J L1 - ⟨b17, rfl, rfl, rfl⟩
      try simp only [nf]
      refine WP.share (fun Jn hJn hb17 => ?_)
      replace hle := Imm.le_trans hle hJn
      try replace hb5 := hJn.2 _ _ hb5
      try replace hb8 := hJn.2 _ _ hb8
      try replace hb11 := hJn.2 _ _ hb11
      try replace hb14 := hJn.2 _ _ hb14
      try replace hmz := mark_mono9 hJn hmz
      refine WD.gR ?_; refine WD.loud (i := 18) zK rfl rfl rfl ?_; refine Op.buildSlice rfl ty_sl_116 ty_el2_116 rfl rfl rfl rfl (vs := [_, _, _, _, _, _]) rfl (segs := [(0, [_]), (1, [_]), (2, [_]), (3, [_]), (4, [_]), (5, [_])]) (cs := ([(.slice (some ⟨bz, 0, none⟩) 2 2, [80, 83]), (.slice (some ⟨b5, 0, none⟩) 4 4, leB s.no.toNat 4), (.slice (some ⟨b8, 0, none⟩) 6 6, leB s.place.toNat 6), (.slice (some ⟨b11, 0, none⟩) 5 5, leB s.first.toNat 5), (.slice (some ⟨b14, 0, none⟩) 4 4, leB s.era.toNat 4), (.slice (some ⟨b17, 0, none⟩) 6 6, leB s.upto.toNat 6)]).map (·.1)) rfl rfl zS (fun bx => ?_)
      refine WD.gR ?_; refine WD.loud (i := 19) zK rfl rfl rfl ?_; refine Op.cl (slices_Concat (bx := bx) (ls := [(.slice (some ⟨bz, 0, none⟩) 2 2, [80, 83]), (.slice (some ⟨b5, 0, none⟩) 4 4, leB s.no.toNat 4), (.slice (some ⟨b8, 0, none⟩) 6 6, leB s.place.toNat 6), (.slice (some ⟨b11, 0, none⟩) 5 5, leB s.first.toNat 5), (.slice (some ⟨b14, 0, none⟩) 4 4, leB s.era.toNat 4), (.slice (some ⟨b17, 0, none⟩) 6 6, leB s.upto.toNat 6)]) (by intro e he; simp only [List.mem_cons, List.not_mem_nil, or_false] at he; rcases he with rfl | rfl | rfl | rfl | rfl | rfl; exact Im_lit' hmz (Nat.le_refl _); exact (by have q := Im_lit (l := leB s.no.toNat 4) (sp := []) (c := 4) (by rw [List.append_nil]; exact hb5) (by rw [leB_len]; exact Nat.le_refl _); simpa [leB_len] using q); exact (by have q := Im_lit (l := leB s.place.toNat 6) (sp := []) (c := 6) (by rw [List.append_nil]; exact hb8) (by rw [leB_len]; exact Nat.le_refl _); simpa [leB_len] using q); exact (by have q := Im_lit (l := leB s.first.toNat 5) (sp := []) (c := 5) (by rw [List.append_nil]; exact hb11) (by rw [leB_len]; exact Nat.le_refl _); simpa [leB_len] using q); exact (by have q := Im_lit (l := leB s.era.toNat 4) (sp := []) (c := 4) (by rw [List.append_nil]; exact hb14) (by rw [leB_len]; exact Nat.le_refl _); simpa [leB_len] using q); exact (by have q := Im_lit (l := leB s.upto.toNat 6) (sp := []) (c := 6) (by rw [List.append_nil]; exact hb17) (by rw [leB_len]; exact Nat.le_refl _); simpa [leB_len] using q)) (by simp [total, leB_len]) (by simp [total, leB_len]) (Nat.le_of_ble_eq_true rfl)) rfl Tryz.func152 rfl rfl rfl rfl ?_
      rintro v J Lo - ⟨rfl, hown⟩
      try simp only [nf]
      have hown2 : Own 5 1 v (bytesV (body s)) 27 Lo := by have e : ([(.slice (some ⟨bz, 0, none⟩) 2 2, [80, 83]), (.slice (some ⟨b5, 0, none⟩) 4 4, leB s.no.toNat 4), (.slice (some ⟨b8, 0, none⟩) 6 6, leB s.place.toNat 6), (.slice (some ⟨b11, 0, none⟩) 5 5, leB s.first.toNat 5), (.slice (some ⟨b14, 0, none⟩) 4 4, leB s.era.toNat 4), (.slice (some ⟨b17, 0, none⟩) 6 6, leB s.upto.toNat 6)] : List (Value × List UInt8)).flatMap (·.2) = body s := (by simp [body]); have e2 : total ([(.slice (some ⟨bz, 0, none⟩) 2 2, [80, 83]), (.slice (some ⟨b5, 0, none⟩) 4 4, leB s.no.toNat 4), (.slice (some ⟨b8, 0, none⟩) 6 6, leB s.place.toNat 6), (.slice (some ⟨b11, 0, none⟩) 5 5, leB s.first.toNat 5), (.slice (some ⟨b14, 0, none⟩) 4 4, leB s.era.toNat 4), (.slice (some ⟨b17, 0, none⟩) 6 6, leB s.upto.toNat 6)] : List (Value × List UInt8)) = 27 := (by unfold total; rw [e, body_len]); rw [e, e2] at hown; exact hown
      refine WD.gR ?_; refine WD.loud (i := 20) zK rfl rfl rfl ?_; refine Op.copyB (k := 0) (m := 64) (m2 := 27) (q := 27) (old := List.replicate 64 0) (new := body s ++ List.replicate 37 0) (s := body s) rfl ty_sl_25 rfl rfl rfl rfl (SlAt.arr.sub (sz := 1) (Nat.zero_le _) (Nat.le_refl _)) (hown2.rd (by intro p hp; simp [hp])) rfl (by simp) (lay1 s) (by repeat (first | exact Upd.head | apply Upd.tail | apply Upd.tailS)) ?_; refine WD.go (.inl rfl) (fun _ _ h => h.elim) ?_; refine WD.done zK ?_; refine WP.sub [(0, _), (1, _), (2, _), (3, _)] ?_ ⟨rfl, rfl, rfl, rfl, trivial⟩
      exact WP.mt Jn hle ⟨rfl, rfl, rfl, trivial⟩ rfl
     ·refine WP.oper rfl rfl ?_
      refine Op.cl (super_putI9 (k := 5) ⟨by decide, by decide⟩ ⟨by have := hm.first; omega, by have := hm.first; omega⟩) rfl Tryz.func153 rfl rfl rfl rfl ?_; rintro v J L1 - ⟨b11, rfl, rfl, rfl⟩
      try simp only [nf]
      refine WP.share (fun Jn hJn hb11 => ?_)
      replace hle := Imm.le_trans hle hJn
      try replace hb5 := hJn.2 _ _ hb5
      try replace hb8 := hJn.2 _ _ hb8
      try replace hb14 := hJn.2 _ _ hb14
      try replace hb17 := hJn.2 _ _ hb17
      try replace hmz := mark_mono9 hJn hmz
      refine WD.gR ?_; refine WD.both (i := 2) (j := 14) zK rfl rfl ?_ ?_
      ·refine WP.oper rfl rfl ?_
       refine Op.mark (cs := bytesV [80, 83]) rfl Tryz.underlying25 zK rfl rfl rfl (by repeat (first | exact Rm.chunk | exact Rm.here | exact Rm.nil0 | apply Rm.skip | apply Rm.skipS)) (fun Jn hJn hmz => ?_)
       replace hle := Imm.le_trans hle hJn
       try replace hb5 := hJn.2 _ _ hb5
       try replace hb8 := hJn.2 _ _ hb8
       try replace hb11 := hJn.2 _ _ hb11
       try replace hb14 := hJn.2 _ _ hb14
       try replace hb17 := hJn.2 _ _ hb17
       refine WD.gR ?_; refine WD.loud (i := 14) zK rfl rfl rfl ?_; refine Op.cl (super_putI9 (k := 4) ⟨by decide, by decide⟩ ⟨by have := hm.era; omega, by have := hm.era; omega⟩) rfl Tryz.func153 rfl rfl rfl rfl ?_; rintro v J L1 - ⟨b14, rfl, rfl, rfl⟩
       try simp only [nf]
       refine WP.share (fun Jn hJn hb14 => ?_)
       replace hle := Imm.le_trans hle hJn
       try replace hb5 := hJn.2 _ _ hb5
       try replace hb8 := hJn.2 _ _ hb8
       try replace hb11 := hJn.2 _ _ hb11
       try replace hb17 := hJn.2 _ _ hb17
       try replace hmz := mark_mono9 hJn hmz
       refine WD.gR ?_; refine WD.loud (i := 17) zK rfl rfl rfl ?_; refine Op.cl (super_putI9 (k := 6) ⟨by decide, by decide⟩ ⟨by have := hm.upto; omega, by have := hm.upto; omega⟩) rfl Tryz.func153 rfl rfl rfl rfl ?_; rintro v J L1 - ⟨b17, rfl, rfl, rfl⟩
       try simp only [nf]
       refine WP.share (fun Jn hJn hb17 => ?_)
       replace hle := Imm.le_trans hle hJn
       try replace hb5 := hJn.2 _ _ hb5
       try replace hb8 := hJn.2 _ _ hb8
       try replace hb11 := hJn.2 _ _ hb11
       try replace hb14 := hJn.2 _ _ hb14
       try replace hmz := mark_mono9 hJn hmz
       refine WD.gR ?_; refine WD.loud (i := 18) zK rfl rfl rfl ?_; refine Op.buildSlice rfl ty_sl_116 ty_el2_116 rfl rfl rfl rfl (vs := [_, _, _, _, _, _]) rfl (segs := [(0, [_]), (1, [_]), (2, [_]), (3, [_]), (4, [_]), (5, [_])]) (cs := ([(.slice (some ⟨bz, 0, none⟩) 2 2, [80, 83]), (.slice (some ⟨b5, 0, none⟩) 4 4, leB s.no.toNat 4), (.slice (some ⟨b8, 0, none⟩) 6 6, leB s.place.toNat 6), (.slice (some ⟨b11, 0, none⟩) 5 5, leB s.first.toNat 5), (.slice (some ⟨b14, 0, none⟩) 4 4, leB s.era.toNat 4), (.slice (some ⟨b17, 0, none⟩) 6 6, leB s.upto.toNat 6)]).map (·.1)) rfl rfl zS (fun bx => ?_)
       refine WD.gR ?_; refine WD.loud (i := 19) zK rfl rfl rfl ?_; refine Op.cl (slices_Concat (bx := bx) (ls := [(.slice (some ⟨bz, 0, none⟩) 2 2, [80, 83]), (.slice (some ⟨b5, 0, none⟩) 4 4, leB s.no.toNat 4), (.slice (some ⟨b8, 0, none⟩) 6 6, leB s.place.toNat 6), (.slice (some ⟨b11, 0, none⟩) 5 5, leB s.first.toNat 5), (.slice (some ⟨b14, 0, none⟩) 4 4, leB s.era.toNat 4), (.slice (some ⟨b17, 0, none⟩) 6 6, leB s.upto.toNat 6)]) (by intro e he; simp only [List.mem_cons, List.not_mem_nil, or_false] at he; rcases he with rfl | rfl | rfl | rfl | rfl | rfl; exact Im_lit' hmz (Nat.le_refl _); exact (by have q := Im_lit (l := leB s.no.toNat 4) (sp := []) (c := 4) (by rw [List.append_nil]; exact hb5) (by rw [leB_len]; exact Nat.le_refl _); simpa [leB_len] using q); exact (by have q := Im_lit (l := leB s.place.toNat 6) (sp := []) (c := 6) (by rw [List.append_nil]; exact hb8) (by rw [leB_len]; exact Nat.le_refl _); simpa [leB_len] using q); exact (by have q := Im_lit (l := leB s.first.toNat 5) (sp := []) (c := 5) (by rw [List.append_nil]; exact hb11) (by rw [leB_len]; exact Nat.le_refl _); simpa [leB_len] using q); exact (by have q := Im_lit (l := leB s.era.toNat 4) (sp := []) (c := 4) (by rw [List.append_nil]; exact hb14) (by rw [leB_len]; exact Nat.le_refl _); simpa [leB_len] using q); exact (by have q := Im_lit (l := leB s.upto.toNat 6) (sp := []) (c := 6) (by rw [List.append_nil]; exact hb17) (by rw [leB_len]; exact Nat.le_refl _); simpa [leB_len] using q)) (by simp [total, leB_len]) (by simp [total, leB_len]) (Nat.le_of_ble_eq_true rfl)) rfl Tryz.func152 rfl rfl rfl rfl ?_
       rintro v J Lo - ⟨rfl, hown⟩
       try simp only [nf]
       have hown2 : Own 5 1 v (bytesV (body s)) 27 Lo := by have e : ([(.slice (some ⟨bz, 0, none⟩) 2 2, [80, 83]), (.slice (some ⟨b5, 0, none⟩) 4 4, leB s.no.toNat 4), (.slice (some ⟨b8, 0, none⟩) 6 6, leB s.place.toNat 6), (.slice (some ⟨b11, 0, none⟩) 5 5, leB s.first.toNat 5), (.slice (some ⟨b14, 0, none⟩) 4 4, leB s.era.toNat 4), (.slice (some ⟨b17, 0, none⟩) 6 6, leB s.upto.toNat 6)] : List (Value × List UInt8)).flatMap (·.2) = body s := (by simp [body]); have e2 : total ([(.slice (some ⟨bz, 0, none⟩) 2 2, [80, 83]), (.slice (some ⟨b5, 0, none⟩) 4 4, leB s.no.toNat 4), (.slice (some ⟨b8, 0, none⟩) 6 6, leB s.place.toNat 6), (.slice (some ⟨b11, 0, none⟩) 5 5, leB s.first.toNat 5), (.slice (some ⟨b14, 0, none⟩) 4 4, leB s.era.toNat 4), (.slice (some ⟨b17, 0, none⟩) 6 6, leB s.upto.toNat 6)] : List (Value × List UInt8)) = 27 := (by unfold total; rw [e, body_len]); rw [e, e2] at hown; exact hown
       refine WD.gR ?_; refine WD.loud (i := 20) zK rfl rfl rfl ?_; refine Op.copyB (k := 0) (m := 64) (m2 := 27) (q := 27) (old := List.replicate 64 0) (new := body s ++ List.replicate 37 0) (s := body s) rfl ty_sl_25 rfl rfl rfl rfl (SlAt.arr.sub (sz := 1) (Nat.zero_le _) (Nat.le_refl _)) (hown2.rd (by intro p hp; simp [hp])) rfl (by simp) (lay1 s) (by repeat (first | exact Upd.head | apply Upd.tail | apply Upd.tailS)) ?_; refine WD.go (.inl rfl) (fun _ _ h => h.elim) ?_; refine WD.done zK ?_; refine WP.sub [(0, _), (1, _), (2, _), (3, _)] ?_ ⟨rfl, rfl, rfl, rfl, trivial⟩
       exact WP.mt Jn hle ⟨rfl, rfl, rfl, trivial⟩ rfl
      ·refine WP.oper rfl rfl ?_
       refine Op.cl (super_putI9 (k := 4) ⟨by decide, by decide⟩ ⟨by have := hm.era; omega, by have := hm.era; omega⟩) rfl Tryz.func153 rfl rfl rfl rfl ?_; rintro v J L1 - ⟨b14, rfl, rfl, rfl⟩
       try simp only [nf]
       refine WP.share (fun Jn hJn hb14 => ?_)
       replace hle := Imm.le_trans hle hJn
       try replace hb5 := hJn.2 _ _ hb5
       try replace hb8 := hJn.2 _ _ hb8
       try replace hb11 := hJn.2 _ _ hb11
       try replace hb17 := hJn.2 _ _ hb17
       try replace hmz := mark_mono9 hJn hmz
       refine WD.gR ?_; refine WD.both (i := 2) (j := 17) zK rfl rfl ?_ ?_
       ·refine WP.oper rfl rfl ?_
        refine Op.mark (cs := bytesV [80, 83]) rfl Tryz.underlying25 zK rfl rfl rfl (by repeat (first | exact Rm.chunk | exact Rm.here | exact Rm.nil0 | apply Rm.skip | apply Rm.skipS)) (fun Jn hJn hmz => ?_)
        replace hle := Imm.le_trans hle hJn
        try replace hb5 := hJn.2 _ _ hb5
        try replace hb8 := hJn.2 _ _ hb8
        try replace hb11 := hJn.2 _ _ hb11
        try replace hb14 := hJn.2 _ _ hb14
        try replace hb17 := hJn.2 _ _ hb17
        refine WD.gR ?_; refine WD.loud (i := 17) zK rfl rfl rfl ?_; refine Op.cl (super_putI9 (k := 6) ⟨by decide, by decide⟩ ⟨by have := hm.upto; omega, by have := hm.upto; omega⟩) rfl Tryz.func153 rfl rfl rfl rfl ?_; rintro v J L1 - ⟨b17, rfl, rfl, rfl⟩
        try simp only [nf]
        refine WP.share (fun Jn hJn hb17 => ?_)
        replace hle := Imm.le_trans hle hJn
        try replace hb5 := hJn.2 _ _ hb5
        try replace hb8 := hJn.2 _ _ hb8
        try replace hb11 := hJn.2 _ _ hb11
        try replace hb14 := hJn.2 _ _ hb14
        try replace hmz := mark_mono9 hJn hmz
        refine WD.gR ?_; refine WD.loud (i := 18) zK rfl rfl rfl ?_; refine Op.buildSlice rfl ty_sl_116 ty_el2_116 rfl rfl rfl rfl (vs := [_, _, _, _, _, _]) rfl (segs := [(0, [_]), (1, [_]), (2, [_]), (3, [_]), (4, [_]), (5, [_])]) (cs := ([(.slice (some ⟨bz, 0, none⟩) 2 2, [80, 83]), (.slice (some ⟨b5, 0, none⟩) 4 4, leB s.no.toNat 4), (.slice (some ⟨b8, 0, none⟩) 6 6, leB s.place.toNat 6), (.slice (some ⟨b11, 0, none⟩) 5 5, leB s.first.toNat 5), (.slice (some ⟨b14, 0, none⟩) 4 4, leB s.era.toNat 4), (.slice (some ⟨b17, 0, none⟩) 6 6, leB s.upto.toNat 6)]).map (·.1)) rfl rfl zS (fun bx => ?_)
        refine WD.gR ?_; refine WD.loud (i := 19) zK rfl rfl rfl ?_; refine Op.cl (slices_Concat (bx := bx) (ls := [(.slice (some ⟨bz, 0, none⟩) 2 2, [80, 83]), (.slice (some ⟨b5, 0, none⟩) 4 4, leB s.no.toNat 4), (.slice (some ⟨b8, 0, none⟩) 6 6, leB s.place.toNat 6), (.slice (some ⟨b11, 0, none⟩) 5 5, leB s.first.toNat 5), (.slice (some ⟨b14, 0, none⟩) 4 4, leB s.era.toNat 4), (.slice (some ⟨b17, 0, none⟩) 6 6, leB s.upto.toNat 6)]) (by intro e he; simp only [List.mem_cons, List.not_mem_nil, or_false] at he; rcases he with rfl | rfl | rfl | rfl | rfl | rfl; exact Im_lit' hmz (Nat.le_refl _); exact (by have q := Im_lit (l := leB s.no.toNat 4) (sp := []) (c := 4) (by rw [List.append_nil]; exact hb5) (by rw [leB_len]; exact Nat.le_refl _); simpa [leB_len] using q); exact (by have q := Im_lit (l := leB s.place.toNat 6) (sp := []) (c := 6) (by rw [List.append_nil]; exact hb8) (by rw [leB_len]; exact Nat.le_refl _); simpa [leB_len] using q); exact (by have q := Im_lit (l := leB s.first.toNat 5) (sp := []) (c := 5) (by rw [List.append_nil]; exact hb11) (by rw [leB_len]; exact Nat.le_refl _); simpa [leB_len] using q); exact (by have q := Im_lit (l := leB s.era.toNat 4) (sp := []) (c := 4) (by rw [List.append_nil]; exact hb14) (by rw [leB_len]; exact Nat.le_refl _); simpa [leB_len] using q); exact (by have q := Im_lit (l := leB s.upto.toNat 6) (sp := []) (c := 6) (by rw [List.append_nil]; exact hb17) (by rw [leB_len]; exact Nat.le_refl _); simpa [leB_len] using q)) (by simp [total, leB_len]) (by simp [total, leB_len]) (Nat.le_of_ble_eq_true rfl)) rfl Tryz.func152 rfl rfl rfl rfl ?_
        rintro v J Lo - ⟨rfl, hown⟩
        try simp only [nf]
        have hown2 : Own 5 1 v (bytesV (body s)) 27 Lo := by have e : ([(.slice (some ⟨bz, 0, none⟩) 2 2, [80, 83]), (.slice (some ⟨b5, 0, none⟩) 4 4, leB s.no.toNat 4), (.slice (some ⟨b8, 0, none⟩) 6 6, leB s.place.toNat 6), (.slice (some ⟨b11, 0, none⟩) 5 5, leB s.first.toNat 5), (.slice (some ⟨b14, 0, none⟩) 4 4, leB s.era.toNat 4), (.slice (some ⟨b17, 0, none⟩) 6 6, leB s.upto.toNat 6)] : List (Value × List UInt8)).flatMap (·.2) = body s := (by simp [body]); have e2 : total ([(.slice (some ⟨bz, 0, none⟩) 2 2, [80, 83]), (.slice (some ⟨b5, 0, none⟩) 4 4, leB s.no.toNat 4), (.slice (some ⟨b8, 0, none⟩) 6 6, leB s.place.toNat 6), (.slice (some ⟨b11, 0, none⟩) 5 5, leB s.first.toNat 5), (.slice (some ⟨b14, 0, none⟩) 4 4, leB s.era.toNat 4), (.slice (some ⟨b17, 0, none⟩) 6 6, leB s.upto.toNat 6)] : List (Value × List UInt8)) = 27 := (by unfold total; rw [e, body_len]); rw [e, e2] at hown; exact hown
        refine WD.gR ?_; refine WD.loud (i := 20) zK rfl rfl rfl ?_; refine Op.copyB (k := 0) (m := 64) (m2 := 27) (q := 27) (old := List.replicate 64 0) (new := body s ++ List.replicate 37 0) (s := body s) rfl ty_sl_25 rfl rfl rfl rfl (SlAt.arr.sub (sz := 1) (Nat.zero_le _) (Nat.le_refl _)) (hown2.rd (by intro p hp; simp [hp])) rfl (by simp) (lay1 s) (by repeat (first | exact Upd.head | apply Upd.tail | apply Upd.tailS)) ?_; refine WD.go (.inl rfl) (fun _ _ h => h.elim) ?_; refine WD.done zK ?_; refine WP.sub [(0, _), (1, _), (2, _), (3, _)] ?_ ⟨rfl, rfl, rfl, rfl, trivial⟩
        exact WP.mt Jn hle ⟨rfl, rfl, rfl, trivial⟩ rfl
       ·refine WP.oper rfl rfl ?_
        refine Op.cl (super_putI9 (k := 6) ⟨by decide, by decide⟩ ⟨by have := hm.upto; omega, by have := hm.upto; omega⟩) rfl Tryz.func153 rfl rfl rfl rfl ?_; rintro v J L1 - ⟨b17, rfl, rfl, rfl⟩
        try simp only [nf]
        refine WP.share (fun Jn hJn hb17 => ?_)
        replace hle := Imm.le_trans hle hJn
        try replace hb5 := hJn.2 _ _ hb5
        try replace hb8 := hJn.2 _ _ hb8
        try replace hb11 := hJn.2 _ _ hb11
        try replace hb14 := hJn.2 _ _ hb14
        try replace hmz := mark_mono9 hJn hmz
        refine WD.gR ?_; refine WD.loud (i := 2) zK rfl rfl rfl ?_; refine Op.mark (cs := bytesV [80, 83]) rfl Tryz.underlying25 zK rfl rfl rfl (by repeat (first | exact Rm.chunk | exact Rm.here | exact Rm.nil0 | apply Rm.skip | apply Rm.skipS)) (fun Jn hJn hmz => ?_)
        replace hle := Imm.le_trans hle hJn
        try replace hb5 := hJn.2 _ _ hb5
        try replace hb8 := hJn.2 _ _ hb8
        try replace hb11 := hJn.2 _ _ hb11
        try replace hb14 := hJn.2 _ _ hb14
        try replace hb17 := hJn.2 _ _ hb17
        refine WD.gR ?_; refine WD.loud (i := 18) zK rfl rfl rfl ?_; refine Op.buildSlice rfl ty_sl_116 ty_el2_116 rfl rfl rfl rfl (vs := [_, _, _, _, _, _]) rfl (segs := [(0, [_]), (1, [_]), (2, [_]), (3, [_]), (4, [_]), (5, [_])]) (cs := ([(.slice (some ⟨bz, 0, none⟩) 2 2, [80, 83]), (.slice (some ⟨b5, 0, none⟩) 4 4, leB s.no.toNat 4), (.slice (some ⟨b8, 0, none⟩) 6 6, leB s.place.toNat 6), (.slice (some ⟨b11, 0, none⟩) 5 5, leB s.first.toNat 5), (.slice (some ⟨b14, 0, none⟩) 4 4, leB s.era.toNat 4), (.slice (some ⟨b17, 0, none⟩) 6 6, leB s.upto.toNat 6)]).map (·.1)) rfl rfl zS (fun bx => ?_)
        refine WD.gR ?_; refine WD.loud (i := 19) zK rfl rfl rfl ?_; refine Op.cl (slices_Concat (bx := bx) (ls := [(.slice (some ⟨bz, 0, none⟩) 2 2, [80, 83]), (.slice (some ⟨b5, 0, none⟩) 4 4, leB s.no.toNat 4), (.slice (some ⟨b8, 0, none⟩) 6 6, leB s.place.toNat 6), (.slice (some ⟨b11, 0, none⟩) 5 5, leB s.first.toNat 5), (.slice (some ⟨b14, 0, none⟩) 4 4, leB s.era.toNat 4), (.slice (some ⟨b17, 0, none⟩) 6 6, leB s.upto.toNat 6)]) (by intro e he; simp only [List.mem_cons, List.not_mem_nil, or_false] at he; rcases he with rfl | rfl | rfl | rfl | rfl | rfl; exact Im_lit' hmz (Nat.le_refl _); exact (by have q := Im_lit (l := leB s.no.toNat 4) (sp := []) (c := 4) (by rw [List.append_nil]; exact hb5) (by rw [leB_len]; exact Nat.le_refl _); simpa [leB_len] using q); exact (by have q := Im_lit (l := leB s.place.toNat 6) (sp := []) (c := 6) (by rw [List.append_nil]; exact hb8) (by rw [leB_len]; exact Nat.le_refl _); simpa [leB_len] using q); exact (by have q := Im_lit (l := leB s.first.toNat 5) (sp := []) (c := 5) (by rw [List.append_nil]; exact hb11) (by rw [leB_len]; exact Nat.le_refl _); simpa [leB_len] using q); exact (by have q := Im_lit (l := leB s.era.toNat 4) (sp := []) (c := 4) (by rw [List.append_nil]; exact hb14) (by rw [leB_len]; exact Nat.le_refl _); simpa [leB_len] using q); exact (by have q := Im_lit (l := leB s.upto.toNat 6) (sp := []) (c := 6) (by rw [List.append_nil]; exact hb17) (by rw [leB_len]; exact Nat.le_refl _); simpa [leB_len] using q)) (by simp [total, leB_len]) (by simp [total, leB_len]) (Nat.le_of_ble_eq_true rfl)) rfl Tryz.func152 rfl rfl rfl rfl ?_
        rintro v J Lo - ⟨rfl, hown⟩
        try simp only [nf]
        have hown2 : Own 5 1 v (bytesV (body s)) 27 Lo := by have e : ([(.slice (some ⟨bz, 0, none⟩) 2 2, [80, 83]), (.slice (some ⟨b5, 0, none⟩) 4 4, leB s.no.toNat 4), (.slice (some ⟨b8, 0, none⟩) 6 6, leB s.place.toNat 6), (.slice (some ⟨b11, 0, none⟩) 5 5, leB s.first.toNat 5), (.slice (some ⟨b14, 0, none⟩) 4 4, leB s.era.toNat 4), (.slice (some ⟨b17, 0, none⟩) 6 6, leB s.upto.toNat 6)] : List (Value × List UInt8)).flatMap (·.2) = body s := (by simp [body]); have e2 : total ([(.slice (some ⟨bz, 0, none⟩) 2 2, [80, 83]), (.slice (some ⟨b5, 0, none⟩) 4 4, leB s.no.toNat 4), (.slice (some ⟨b8, 0, none⟩) 6 6, leB s.place.toNat 6), (.slice (some ⟨b11, 0, none⟩) 5 5, leB s.first.toNat 5), (.slice (some ⟨b14, 0, none⟩) 4 4, leB s.era.toNat 4), (.slice (some ⟨b17, 0, none⟩) 6 6, leB s.upto.toNat 6)] : List (Value × List UInt8)) = 27 := (by unfold total; rw [e, body_len]); rw [e, e2] at hown; exact hown
        refine WD.gR ?_; refine WD.loud (i := 20) zK rfl rfl rfl ?_; refine Op.copyB (k := 0) (m := 64) (m2 := 27) (q := 27) (old := List.replicate 64 0) (new := body s ++ List.replicate 37 0) (s := body s) rfl ty_sl_25 rfl rfl rfl rfl (SlAt.arr.sub (sz := 1) (Nat.zero_le _) (Nat.le_refl _)) (hown2.rd (by intro p hp; simp [hp])) rfl (by simp) (lay1 s) (by repeat (first | exact Upd.head | apply Upd.tail | apply Upd.tailS)) ?_; refine WD.go (.inl rfl) (fun _ _ h => h.elim) ?_; refine WD.done zK ?_; refine WP.sub [(0, _), (1, _), (2, _), (3, _)] ?_ ⟨rfl, rfl, rfl, rfl, trivial⟩
        exact WP.mt Jn hle ⟨rfl, rfl, rfl, trivial⟩ rfl
  ·refine WP.oper rfl rfl ?_
   refine Op.cl (super_putI9 (k := 4) ⟨by decide, by decide⟩ ⟨by have := hm.no; omega, by have := hm.no; omega⟩) rfl Tryz.func153 rfl rfl rfl rfl ?_; rintro v J L1 - ⟨b5, rfl, rfl, rfl⟩
   try simp only [nf]
   refine WP.share (fun Jn hJn hb5 => ?_)
   replace hle := Imm.le_trans hle hJn
   try replace hb8 := hJn.2 _ _ hb8
   try replace hb11 := hJn.2 _ _ hb11
   try replace hb14 := hJn.2 _ _ hb14
   try replace hb17 := hJn.2 _ _ hb17
   try replace hmz := mark_mono9 hJn hmz
   refine WD.gR ?_; refine WD.both (i := 1) (j := 8) zK rfl rfl ?_ ?_
   ·refine WP.oper rfl rfl ?_
    refine Op.buildSlice rfl ty_sl_25 ty_el2_25 rfl rfl rfl rfl (vs := [_, _]) rfl (segs := [(0, [_]), (1, [_])]) (cs := bytesV [80, 83]) rfl rfl zS (fun bz => ?_)
    refine WD.gR ?_; refine WD.both (i := 2) (j := 8) zK rfl rfl ?_ ?_
    ·refine WP.oper rfl rfl ?_
     refine Op.mark (cs := bytesV [80, 83]) rfl Tryz.underlying25 zK rfl rfl rfl (by repeat (first | exact Rm.chunk | exact Rm.here | exact Rm.nil0 | apply Rm.skip | apply Rm.skipS)) (fun Jn hJn hmz => ?_)
     replace hle := Imm.le_trans hle hJn
     try replace hb5 := hJn.2 _ _ hb5
     try replace hb8 := hJn.2 _ _ hb8
     try replace hb11 := hJn.2 _ _ hb11
     try replace hb14 := hJn.2 _ _ hb14
     try replace hb17 := hJn.2 _ _ hb17
     refine WD.gR ?_; refine WD.loud (i := 8) zK rfl rfl rfl ?_; refine Op.cl (super_putI9 (k := 6) ⟨by decide, by decide⟩ ⟨by have := hm.place; omega, by have := hm.place; omega⟩) rfl Tryz.func153 rfl rfl rfl rfl ?_; rintro v J L1 - ⟨b8, rfl, rfl, rfl⟩
     try simp only [nf]
     refine WP.share (fun Jn hJn hb8 => ?_)
     replace hle := Imm.le_trans hle hJn
     try replace hb5 := hJn.2 _ _ hb5
     try replace hb11 := hJn.2 _ _ hb11
     try replace hb14 := hJn.2 _ _ hb14
     try replace hb17 := hJn.2 _ _ hb17
     try replace hmz := mark_mono9 hJn hmz
     refine WD.gR ?_; refine WD.loud (i := 11) zK rfl rfl rfl ?_; refine Op.cl (super_putI9 (k := 5) ⟨by decide, by decide⟩ ⟨by have := hm.first; omega, by have := hm.first; omega⟩) rfl Tryz.func153 rfl rfl rfl rfl ?_; rintro v J L1 - ⟨b11, rfl, rfl, rfl⟩
     try simp only [nf]
     refine WP.share (fun Jn hJn hb11 => ?_)
     replace hle := Imm.le_trans hle hJn
     try replace hb5 := hJn.2 _ _ hb5
     try replace hb8 := hJn.2 _ _ hb8
     try replace hb14 := hJn.2 _ _ hb14
     try replace hb17 := hJn.2 _ _ hb17
     try replace hmz := mark_mono9 hJn hmz
     refine WD.gR ?_; refine WD.loud (i := 14) zK rfl rfl rfl ?_; refine Op.cl (super_putI9 (k := 4) ⟨by decide, by decide⟩ ⟨by have := hm.era; omega, by have := hm.era; omega⟩) rfl Tryz.func153 rfl rfl rfl rfl ?_; rintro v J L1 - ⟨b14, rfl, rfl, rfl⟩
     try simp only [nf]
     refine WP.share (fun Jn hJn hb14 => ?_)
     replace hle := Imm.le_trans hle hJn
     try replace hb5 := hJn.2 _ _ hb5
     try replace hb8 := hJn.2 _ _ hb8
     try replace hb11 := hJn.2 _ _ hb11
     try replace hb17 := hJn.2 _ _ hb17
     try replace hmz := mark_mono9 hJn hmz
     refine WD.gR ?_; refine WD.loud (i := 17) zK rfl rfl rfl ?_; refine Op.cl (super_putI9 (k := 6) ⟨by decide, by decide⟩ ⟨by have := hm.upto; omega, by have := hm.upto; omega⟩) rfl Tryz.func153 rfl rfl rfl rfl ?_; rintro v J L1 - ⟨b17, rfl, rfl, rfl⟩
     try simp only [nf]
     refine WP.share (fun Jn hJn hb17 => ?_)
     replace hle := Imm.le_trans hle hJn
     try replace hb5 := hJn.2 _ _ hb5
     try replace hb8 := hJn.2 _ _ hb8
     try replace hb11 := hJn.2 _ _ hb11
     try replace hb14 := hJn.2 _ _ hb14
     try replace hmz := mark_mono9 hJn hmz
     refine WD.gR ?_; refine WD.loud (i := 18) zK rfl rfl rfl ?_; refine Op.buildSlice rfl ty_sl_116 ty_el2_116 rfl rfl rfl rfl (vs := [_, _, _, _, _, _]) rfl (segs := [(0, [_]), (1, [_]), (2, [_]), (3, [_]), (4, [_]), (5, [_])]) (cs := ([(.slice (some ⟨bz, 0, none⟩) 2 2, [80, 83]), (.slice (some ⟨b5, 0, none⟩) 4 4, leB s.no.toNat 4), (.slice (some ⟨b8, 0, none⟩) 6 6, leB s.place.toNat 6), (.slice (some ⟨b11, 0, none⟩) 5 5, leB s.first.toNat 5), (.slice (some ⟨b14, 0, none⟩) 4 4, leB s.era.toNat 4), (.slice (some ⟨b17, 0, none⟩) 6 6, leB s.upto.toNat 6)]).map (·.1)) rfl rfl zS (fun bx => ?_)
     refine WD.gR ?_; refine WD.loud (i := 19) zK rfl rfl rfl ?_; refine Op.cl (slices_Concat (bx := bx) (ls := [(.slice (some ⟨bz, 0, none⟩) 2 2, [80, 83]), (.slice (some ⟨b5, 0, none⟩) 4 4, leB s.no.toNat 4), (.slice (some ⟨b8, 0, none⟩) 6 6, leB s.place.toNat 6), (.slice (some ⟨b11, 0, none⟩) 5 5, leB s.first.toNat 5), (.slice (some ⟨b14, 0, none⟩) 4 4, leB s.era.toNat 4), (.slice (some ⟨b17, 0, none⟩) 6 6, leB s.upto.toNat 6)]) (by intro e he; simp only [List.mem_cons, List.not_mem_nil, or_false] at he; rcases he with rfl | rfl | rfl | rfl | rfl | rfl; exact Im_lit' hmz (Nat.le_refl _); exact (by have q := Im_lit (l := leB s.no.toNat 4) (sp := []) (c := 4) (by rw [List.append_nil]; exact hb5) (by rw [leB_len]; exact Nat.le_refl _); simpa [leB_len] using q); exact (by have q := Im_lit (l := leB s.place.toNat 6) (sp := []) (c := 6) (by rw [List.append_nil]; exact hb8) (by rw [leB_len]; exact Nat.le_refl _); simpa [leB_len] using q); exact (by have q := Im_lit (l := leB s.first.toNat 5) (sp := []) (c := 5) (by rw [List.append_nil]; exact hb11) (by rw [leB_len]; exact Nat.le_refl _); simpa [leB_len] using q); exact (by have q := Im_lit (l := leB s.era.toNat 4) (sp := []) (c := 4) (by rw [List.append_nil]; exact hb14) (by rw [leB_len]; exact Nat.le_refl _); simpa [leB_len] using q); exact (by have q := Im_lit (l := leB s.upto.toNat 6) (sp := []) (c := 6) (by rw [List.append_nil]; exact hb17) (by rw [leB_len]; exact Nat.le_refl _); simpa [leB_len] using q)) (by simp [total, leB_len]) (by simp [total, leB_len]) (Nat.le_of_ble_eq_true rfl)) rfl Tryz.func152 rfl rfl rfl rfl ?_
     rintro v J Lo - ⟨rfl, hown⟩
     try simp only [nf]
     have hown2 : Own 5 1 v (bytesV (body s)) 27 Lo := by have e : ([(.slice (some ⟨bz, 0, none⟩) 2 2, [80, 83]), (.slice (some ⟨b5, 0, none⟩) 4 4, leB s.no.toNat 4), (.slice (some ⟨b8, 0, none⟩) 6 6, leB s.place.toNat 6), (.slice (some ⟨b11, 0, none⟩) 5 5, leB s.first.toNat 5), (.slice (some ⟨b14, 0, none⟩) 4 4, leB s.era.toNat 4), (.slice (some ⟨b17, 0, none⟩) 6 6, leB s.upto.toNat 6)] : List (Value × List UInt8)).flatMap (·.2) = body s := (by simp [body]); have e2 : total ([(.slice (some ⟨bz, 0, none⟩) 2 2, [80, 83]), (.slice (some ⟨b5, 0, none⟩) 4 4, leB s.no.toNat 4), (.slice (some ⟨b8, 0, none⟩) 6 6, leB s.place.toNat 6), (.slice (some ⟨b11, 0, none⟩) 5 5, leB s.first.toNat 5), (.slice (some ⟨b14, 0, none⟩) 4 4, leB s.era.toNat 4), (.slice (some ⟨b17, 0, none⟩) 6 6, leB s.upto.toNat 6)] : List (Value × List UInt8)) = 27 := (by unfold total; rw [e, body_len]); rw [e, e2] at hown; exact hown
     refine WD.gR ?_; refine WD.loud (i := 20) zK rfl rfl rfl ?_; refine Op.copyB (k := 0) (m := 64) (m2 := 27) (q := 27) (old := List.replicate 64 0) (new := body s ++ List.replicate 37 0) (s := body s) rfl ty_sl_25 rfl rfl rfl rfl (SlAt.arr.sub (sz := 1) (Nat.zero_le _) (Nat.le_refl _)) (hown2.rd (by intro p hp; simp [hp])) rfl (by simp) (lay1 s) (by repeat (first | exact Upd.head | apply Upd.tail | apply Upd.tailS)) ?_; refine WD.go (.inl rfl) (fun _ _ h => h.elim) ?_; refine WD.done zK ?_; refine WP.sub [(0, _), (1, _), (2, _), (3, _)] ?_ ⟨rfl, rfl, rfl, rfl, trivial⟩
     exact WP.mt Jn hle ⟨rfl, rfl, rfl, trivial⟩ rfl
    ·refine WP.oper rfl rfl ?_
     refine Op.cl (super_putI9 (k := 6) ⟨by decide, by decide⟩ ⟨by have := hm.place; omega, by have := hm.place; omega⟩) rfl Tryz.func153 rfl rfl rfl rfl ?_; rintro v J L1 - ⟨b8, rfl, rfl, rfl⟩
     try simp only [nf]
     refine WP.share (fun Jn hJn hb8 => ?_)
     replace hle := Imm.le_trans hle hJn
     try replace hb5 := hJn.2 _ _ hb5
     try replace hb11 := hJn.2 _ _ hb11
     try replace hb14 := hJn.2 _ _ hb14
     try replace hb17 := hJn.2 _ _ hb17
     try replace hmz := mark_mono9 hJn hmz
     refine WD.gR ?_; refine WD.both (i := 2) (j := 11) zK rfl rfl ?_ ?_
     ·refine WP.oper rfl rfl ?_
      refine Op.mark (cs := bytesV [80, 83]) rfl Tryz.underlying25 zK rfl rfl rfl (by repeat (first | exact Rm.chunk | exact Rm.here | exact Rm.nil0 | apply Rm.skip | apply Rm.skipS)) (fun Jn hJn hmz => ?_)
      replace hle := Imm.le_trans hle hJn
      try replace hb5 := hJn.2 _ _ hb5
      try replace hb8 := hJn.2 _ _ hb8
      try replace hb11 := hJn.2 _ _ hb11
      try replace hb14 := hJn.2 _ _ hb14
      try replace hb17 := hJn.2 _ _ hb17
      refine WD.gR ?_; refine WD.loud (i := 11) zK rfl rfl rfl ?_; refine Op.cl (super_putI9 (k := 5) ⟨by decide, by decide⟩ ⟨by have := hm.first; omega, by have := hm.first; omega⟩) rfl Tryz.func153 rfl rfl rfl rfl ?_; rintro v J L1 - ⟨b11, rfl, rfl, rfl⟩
      try simp only [nf]
      refine WP.share (fun Jn hJn hb11 => ?_)
      replace hle := Imm.le_trans hle hJn
      try replace hb5 := hJn.2 _ _ hb5
      try replace hb8 := hJn.2 _ _ hb8
      try replace hb14 := hJn.2 _ _ hb14
      try replace hb17 := hJn.2 _ _ hb17
      try replace hmz := mark_mono9 hJn hmz
      refine WD.gR ?_; refine WD.loud (i := 14) zK rfl rfl rfl ?_; refine Op.cl (super_putI9 (k := 4) ⟨by decide, by decide⟩ ⟨by have := hm.era; omega, by have := hm.era; omega⟩) rfl Tryz.func153 rfl rfl rfl rfl ?_; rintro v J L1 - ⟨b14, rfl, rfl, rfl⟩
      try simp only [nf]
      refine WP.share (fun Jn hJn hb14 => ?_)
      replace hle := Imm.le_trans hle hJn
      try replace hb5 := hJn.2 _ _ hb5
      try replace hb8 := hJn.2 _ _ hb8
      try replace hb11 := hJn.2 _ _ hb11
      try replace hb17 := hJn.2 _ _ hb17
      try replace hmz := mark_mono9 hJn hmz
      refine WD.gR ?_; refine WD.loud (i := 17) zK rfl rfl rfl ?_; refine Op.cl (super_putI9 (k := 6) ⟨by decide, by decide⟩ ⟨by have := hm.upto; omega, by have := hm.upto; omega⟩) rfl Tryz.func153 rfl rfl rfl rfl ?_; rintro v J L1 - ⟨b17, rfl, rfl, rfl⟩
      try simp only [nf]
      refine WP.share (fun Jn hJn hb17 => ?_)
      replace hle := Imm.le_trans hle hJn
      try replace hb5 := hJn.2 _ _ hb5
      try replace hb8 := hJn.2 _ _ hb8
      try replace hb11 := hJn.2 _ _ hb11
      try replace hb14 := hJn.2 _ _ hb14
      try replace hmz := mark_mono9 hJn hmz
      refine WD.gR ?_; refine WD.loud (i := 18) zK rfl rfl rfl ?_; refine Op.buildSlice rfl ty_sl_116 ty_el2_116 rfl rfl rfl rfl (vs := [_, _, _, _, _, _]) rfl (segs := [(0, [_]), (1, [_]), (2, [_]), (3, [_]), (4, [_]), (5, [_])]) (cs := ([(.slice (some ⟨bz, 0, none⟩) 2 2, [80, 83]), (.slice (some ⟨b5, 0, none⟩) 4 4, leB s.no.toNat 4), (.slice (some ⟨b8, 0, none⟩) 6 6, leB s.place.toNat 6), (.slice (some ⟨b11, 0, none⟩) 5 5, leB s.first.toNat 5), (.slice (some ⟨b14, 0, none⟩) 4 4, leB s.era.toNat 4), (.slice (some ⟨b17, 0, none⟩) 6 6, leB s.upto.toNat 6)]).map (·.1)) rfl rfl zS (fun bx => ?_)
      refine WD.gR ?_; refine WD.loud (i := 19) zK rfl rfl rfl ?_; refine Op.cl (slices_Concat (bx := bx) (ls := [(.slice (some ⟨bz, 0, none⟩) 2 2, [80, 83]), (.slice (some ⟨b5, 0, none⟩) 4 4, leB s.no.toNat 4), (.slice (some ⟨b8, 0, none⟩) 6 6, leB s.place.toNat 6), (.slice (some ⟨b11, 0, none⟩) 5 5, leB s.first.toNat 5), (.slice (some ⟨b14, 0, none⟩) 4 4, leB s.era.toNat 4), (.slice (some ⟨b17, 0, none⟩) 6 6, leB s.upto.toNat 6)]) (by intro e he; simp only [List.mem_cons, List.not_mem_nil, or_false] at he; rcases he with rfl | rfl | rfl | rfl | rfl | rfl; exact Im_lit' hmz (Nat.le_refl _); exact (by have q := Im_lit (l := leB s.no.toNat 4) (sp := []) (c := 4) (by rw [List.append_nil]; exact hb5) (by rw [leB_len]; exact Nat.le_refl _); simpa [leB_len] using q); exact (by have q := Im_lit (l := leB s.place.toNat 6) (sp := []) (c := 6) (by rw [List.append_nil]; exact hb8) (by rw [leB_len]; exact Nat.le_refl _); simpa [leB_len] using q); exact (by have q := Im_lit (l := leB s.first.toNat 5) (sp := []) (c := 5) (by rw [List.append_nil]; exact hb11) (by rw [leB_len]; exact Nat.le_refl _); simpa [leB_len] using q); exact (by have q := Im_lit (l := leB s.era.toNat 4) (sp := []) (c := 4) (by rw [List.append_nil]; exact hb14) (by rw [leB_len]; exact Nat.le_refl _); simpa [leB_len] using q); exact (by have q := Im_lit (l := leB s.upto.toNat 6) (sp := []) (c := 6) (by rw [List.append_nil]; exact hb17) (by rw [leB_len]; exact Nat.le_refl _); simpa [leB_len] using q)) (by simp [total, leB_len]) (by simp [total, leB_len]) (Nat.le_of_ble_eq_true rfl)) rfl Tryz.func152 rfl rfl rfl rfl ?_
      rintro v J Lo - ⟨rfl, hown⟩
      try simp only [nf]
      have hown2 : Own 5 1 v (bytesV (body s)) 27 Lo := by have e : ([(.slice (some ⟨bz, 0, none⟩) 2 2, [80, 83]), (.slice (some ⟨b5, 0, none⟩) 4 4, leB s.no.toNat 4), (.slice (some ⟨b8, 0, none⟩) 6 6, leB s.place.toNat 6), (.slice (some ⟨b11, 0, none⟩) 5 5, leB s.first.toNat 5), (.slice (some ⟨b14, 0, none⟩) 4 4, leB s.era.toNat 4), (.slice (some ⟨b17, 0, none⟩) 6 6, leB s.upto.toNat 6)] : List (Value × List UInt8)).flatMap (·.2) = body s := (by simp [body]); have e2 : total ([(.slice (some ⟨bz, 0, none⟩) 2 2, [80, 83]), (.slice (some ⟨b5, 0, none⟩) 4 4, leB s.no.toNat 4), (.slice (some ⟨b8, 0, none⟩) 6 6, leB s.place.toNat 6), (.slice (some ⟨b11, 0, none⟩) 5 5, leB s.first.toNat 5), (.slice (some ⟨b14, 0, none⟩) 4 4, leB s.era.toNat 4), (.slice (some ⟨b17, 0, none⟩) 6 6, leB s.upto.toNat 6)] : List (Value × List UInt8)) = 27 := (by unfold total; rw [e, body_len]); rw [e, e2] at hown; exact hown
      refine WD.gR ?_; refine WD.loud (i := 20) zK rfl rfl rfl ?_; refine Op.copyB (k := 0) (m := 64) (m2 := 27) (q := 27) (old := List.replicate 64 0) (new := body s ++ List.replicate 37 0) (s := body s) rfl ty_sl_25 rfl rfl rfl rfl (SlAt.arr.sub (sz := 1) (Nat.zero_le _) (Nat.le_refl _)) (hown2.rd (by intro p hp; simp [hp])) rfl (by simp) (lay1 s) (by repeat (first | exact Upd.head | apply Upd.tail | apply Upd.tailS)) ?_; refine WD.go (.inl rfl) (fun _ _ h => h.elim) ?_; refine WD.done zK ?_; refine WP.sub [(0, _), (1, _), (2, _), (3, _)] ?_ ⟨rfl, rfl, rfl, rfl, trivial⟩
      exact WP.mt Jn hle ⟨rfl, rfl, rfl, trivial⟩ rfl
     ·refine WP.oper rfl rfl ?_
      refine Op.cl (super_putI9 (k := 5) ⟨by decide, by decide⟩ ⟨by have := hm.first; omega, by have := hm.first; omega⟩) rfl Tryz.func153 rfl rfl rfl rfl ?_; rintro v J L1 - ⟨b11, rfl, rfl, rfl⟩
      try simp only [nf]
      refine WP.share (fun Jn hJn hb11 => ?_)
      replace hle := Imm.le_trans hle hJn
      try replace hb5 := hJn.2 _ _ hb5
      try replace hb8 := hJn.2 _ _ hb8
      try replace hb14 := hJn.2 _ _ hb14
      try replace hb17 := hJn.2 _ _ hb17
      try replace hmz := mark_mono9 hJn hmz
      refine WD.gR ?_; refine WD.both (i := 2) (j := 14) zK rfl rfl ?_ ?_
      ·refine WP.oper rfl rfl ?_
       refine Op.mark (cs := bytesV [80, 83]) rfl Tryz.underlying25 zK rfl rfl rfl (by repeat (first | exact Rm.chunk | exact Rm.here | exact Rm.nil0 | apply Rm.skip | apply Rm.skipS)) (fun Jn hJn hmz => ?_)
       replace hle := Imm.le_trans hle hJn
       try replace hb5 := hJn.2 _ _ hb5
       try replace hb8 := hJn.2 _ _ hb8
       try replace hb11 := hJn.2 _ _ hb11
       try replace hb14 := hJn.2 _ _ hb14
       try replace hb17 := hJn.2 _ _ hb17
       refine WD.gR ?_; refine WD.loud (i := 14) zK rfl rfl rfl ?_; refine Op.cl (super_putI9 (k := 4) ⟨by decide, by decide⟩ ⟨by have := hm.era; omega, by have := hm.era; omega⟩) rfl Tryz.func153 rfl rfl rfl rfl ?_; rintro v J L1 - ⟨b14, rfl, rfl, rfl⟩
       try simp only [nf]
       refine WP.share (fun Jn hJn hb14 => ?_)
       replace hle := Imm.le_trans hle hJn
       try replace hb5 := hJn.2 _ _ hb5
       try replace hb8 := hJn.2 _ _ hb8
       try replace hb11 := hJn.2 _ _ hb11
       try replace hb17 := hJn.2 _ _ hb17
       try replace hmz := mark_mono9 hJn hmz
       refine WD.gR ?_; refine WD.loud (i := 17) zK rfl rfl rfl ?_; refine Op.cl (super_putI9 (k := 6) ⟨by decide, by decide⟩ ⟨by have := hm.upto; omega, by have := hm.upto; omega⟩) rfl Tryz.func153 rfl rfl rfl rfl ?_; rintro v J L1 - ⟨b17, rfl, rfl, rfl⟩
       try simp only [nf]
       refine WP.share (fun Jn hJn hb17 => ?_)
       replace hle := Imm.le_trans hle hJn
       try replace hb5 := hJn.2 _ _ hb5
       try replace hb8 := hJn.2 _ _ hb8
       try replace hb11 := hJn.2 _ _ hb11
       try replace hb14 := hJn.2 _ _ hb14
       try replace hmz := mark_mono9 hJn hmz
       refine WD.gR ?_; refine WD.loud (i := 18) zK rfl rfl rfl ?_; refine Op.buildSlice rfl ty_sl_116 ty_el2_116 rfl rfl rfl rfl (vs := [_, _, _, _, _, _]) rfl (segs := [(0, [_]), (1, [_]), (2, [_]), (3, [_]), (4, [_]), (5, [_])]) (cs := ([(.slice (some ⟨bz, 0, none⟩) 2 2, [80, 83]), (.slice (some ⟨b5, 0, none⟩) 4 4, leB s.no.toNat 4), (.slice (some ⟨b8, 0, none⟩) 6 6, leB s.place.toNat 6), (.slice (some ⟨b11, 0, none⟩) 5 5, leB s.first.toNat 5), (.slice (some ⟨b14, 0, none⟩) 4 4, leB s.era.toNat 4), (.slice (some ⟨b17, 0, none⟩) 6 6, leB s.upto.toNat 6)]).map (·.1)) rfl rfl zS (fun bx => ?_)
       refine WD.gR ?_; refine WD.loud (i := 19) zK rfl rfl rfl ?_; refine Op.cl (slices_Concat (bx := bx) (ls := [(.slice (some ⟨bz, 0, none⟩) 2 2, [80, 83]), (.slice (some ⟨b5, 0, none⟩) 4 4, leB s.no.toNat 4), (.slice (some ⟨b8, 0, none⟩) 6 6, leB s.place.toNat 6), (.slice (some ⟨b11, 0, none⟩) 5 5, leB s.first.toNat 5), (.slice (some ⟨b14, 0, none⟩) 4 4, leB s.era.toNat 4), (.slice (some ⟨b17, 0, none⟩) 6 6, leB s.upto.toNat 6)]) (by intro e he; simp only [List.mem_cons, List.not_mem_nil, or_false] at he; rcases he with rfl | rfl | rfl | rfl | rfl | rfl; exact Im_lit' hmz (Nat.le_refl _); exact (by have q := Im_lit (l := leB s.no.toNat 4) (sp := []) (c := 4) (by rw [List.append_nil]; exact hb5) (by rw [leB_len]; exact Nat.le_refl _); simpa [leB_len] using q); exact (by have q := Im_lit (l := leB s.place.toNat 6) (sp := []) (c := 6) (by rw [List.append_nil]; exact hb8) (by rw [leB_len]; exact Nat.le_refl _); simpa [leB_len] using q); exact (by have q := Im_lit (l := leB s.first.toNat 5) (sp := []) (c := 5) (by rw [List.append_nil]; exact hb11) (by rw [leB_len]; exact Nat.le_refl _); simpa [leB_len] using q); exact (by have q := Im_lit (l := leB s.era.toNat 4) (sp := []) (c := 4) (by rw [List.append_nil]; exact hb14) (by rw [leB_len]; exact Nat.le_refl _); simpa [leB_len] using q); exact (by have q := Im_lit (l := leB s.upto.toNat 6) (sp := []) (c := 6) (by rw [List.append_nil]; exact hb17) (by rw [leB_len]; exact Nat.le_refl _); simpa [leB_len] using q)) (by simp [total, leB_len]) (by simp [total, leB_len]) (Nat.le_of_ble_eq_true rfl)) rfl Tryz.func152 rfl rfl rfl rfl ?_
       rintro v J Lo - ⟨rfl, hown⟩
       try simp only [nf]
       have hown2 : Own 5 1 v (bytesV (body s)) 27 Lo := by have e : ([(.slice (some ⟨bz, 0, none⟩) 2 2, [80, 83]), (.slice (some ⟨b5, 0, none⟩) 4 4, leB s.no.toNat 4), (.slice (some ⟨b8, 0, none⟩) 6 6, leB s.place.toNat 6), (.slice (some ⟨b11, 0, none⟩) 5 5, leB s.first.toNat 5), (.slice (some ⟨b14, 0, none⟩) 4 4, leB s.era.toNat 4), (.slice (some ⟨b17, 0, none⟩) 6 6, leB s.upto.toNat 6)] : List (Value × List UInt8)).flatMap (·.2) = body s := (by simp [body]); have e2 : total ([(.slice (some ⟨bz, 0, none⟩) 2 2, [80, 83]), (.slice (some ⟨b5, 0, none⟩) 4 4, leB s.no.toNat 4), (.slice (some ⟨b8, 0, none⟩) 6 6, leB s.place.toNat 6), (.slice (some ⟨b11, 0, none⟩) 5 5, leB s.first.toNat 5), (.slice (some ⟨b14, 0, none⟩) 4 4, leB s.era.toNat 4), (.slice (some ⟨b17, 0, none⟩) 6 6, leB s.upto.toNat 6)] : List (Value × List UInt8)) = 27 := (by unfold total; rw [e, body_len]); rw [e, e2] at hown; exact hown
       refine WD.gR ?_; refine WD.loud (i := 20) zK rfl rfl rfl ?_; refine Op.copyB (k := 0) (m := 64) (m2 := 27) (q := 27) (old := List.replicate 64 0) (new := body s ++ List.replicate 37 0) (s := body s) rfl ty_sl_25 rfl rfl rfl rfl (SlAt.arr.sub (sz := 1) (Nat.zero_le _) (Nat.le_refl _)) (hown2.rd (by intro p hp; simp [hp])) rfl (by simp) (lay1 s) (by repeat (first | exact Upd.head | apply Upd.tail | apply Upd.tailS)) ?_; refine WD.go (.inl rfl) (fun _ _ h => h.elim) ?_; refine WD.done zK ?_; refine WP.sub [(0, _), (1, _), (2, _), (3, _)] ?_ ⟨rfl, rfl, rfl, rfl, trivial⟩
       exact WP.mt Jn hle ⟨rfl, rfl, rfl, trivial⟩ rfl
      ·refine WP.oper rfl rfl ?_
       refine Op.cl (super_putI9 (k := 4) ⟨by decide, by decide⟩ ⟨by have := hm.era; omega, by have := hm.era; omega⟩) rfl Tryz.func153 rfl rfl rfl rfl ?_; rintro v J L1 - ⟨b14, rfl, rfl, rfl⟩
       try simp only [nf]
       refine WP.share (fun Jn hJn hb14 => ?_)
       replace hle := Imm.le_trans hle hJn
       try replace hb5 := hJn.2 _ _ hb5
       try replace hb8 := hJn.2 _ _ hb8
       try replace hb11 := hJn.2 _ _ hb11
       try replace hb17 := hJn.2 _ _ hb17
       try replace hmz := mark_mono9 hJn hmz
       refine WD.gR ?_; refine WD.both (i := 2) (j := 17) zK rfl rfl ?_ ?_
       ·refine WP.oper rfl rfl ?_
        refine Op.mark (cs := bytesV [80, 83]) rfl Tryz.underlying25 zK rfl rfl rfl (by repeat (first | exact Rm.chunk | exact Rm.here | exact Rm.nil0 | apply Rm.skip | apply Rm.skipS)) (fun Jn hJn hmz => ?_)
        replace hle := Imm.le_trans hle hJn
        try replace hb5 := hJn.2 _ _ hb5
        try replace hb8 := hJn.2 _ _ hb8
        try replace hb11 := hJn.2 _ _ hb11
        try replace hb14 := hJn.2 _ _ hb14
        try replace hb17 := hJn.2 _ _ hb17
        refine WD.gR ?_; refine WD.loud (i := 17) zK rfl rfl rfl ?_; refine Op.cl (super_putI9 (k := 6) ⟨by decide, by decide⟩ ⟨by have := hm.upto; omega, by have := hm.upto; omega⟩) rfl Tryz.func153 rfl rfl rfl rfl ?_; rintro v J L1 - ⟨b17, rfl, rfl, rfl⟩
        try simp only [nf]
        refine WP.share (fun Jn hJn hb17 => ?_)
        replace hle := Imm.le_trans hle hJn
        try replace hb5 := hJn.2 _ _ hb5
        try replace hb8 := hJn.2 _ _ hb8
        try replace hb11 := hJn.2 _ _ hb11
        try replace hb14 := hJn.2 _ _ hb14
        try replace hmz := mark_mono9 hJn hmz
        refine WD.gR ?_; refine WD.loud (i := 18) zK rfl rfl rfl ?_; refine Op.buildSlice rfl ty_sl_116 ty_el2_116 rfl rfl rfl rfl (vs := [_, _, _, _, _, _]) rfl (segs := [(0, [_]), (1, [_]), (2, [_]), (3, [_]), (4, [_]), (5, [_])]) (cs := ([(.slice (some ⟨bz, 0, none⟩) 2 2, [80, 83]), (.slice (some ⟨b5, 0, none⟩) 4 4, leB s.no.toNat 4), (.slice (some ⟨b8, 0, none⟩) 6 6, leB s.place.toNat 6), (.slice (some ⟨b11, 0, none⟩) 5 5, leB s.first.toNat 5), (.slice (some ⟨b14, 0, none⟩) 4 4, leB s.era.toNat 4), (.slice (some ⟨b17, 0, none⟩) 6 6, leB s.upto.toNat 6)]).map (·.1)) rfl rfl zS (fun bx => ?_)
        refine WD.gR ?_; refine WD.loud (i := 19) zK rfl rfl rfl ?_; refine Op.cl (slices_Concat (bx := bx) (ls := [(.slice (some ⟨bz, 0, none⟩) 2 2, [80, 83]), (.slice (some ⟨b5, 0, none⟩) 4 4, leB s.no.toNat 4), (.slice (some ⟨b8, 0, none⟩) 6 6, leB s.place.toNat 6), (.slice (some ⟨b11, 0, none⟩) 5 5, leB s.first.toNat 5), (.slice (some ⟨b14, 0, none⟩) 4 4, leB s.era.toNat 4), (.slice (some ⟨b17, 0, none⟩) 6 6, leB s.upto.toNat 6)]) (by intro e he; simp only [List.mem_cons, List.not_mem_nil, or_false] at he; rcases he with rfl | rfl | rfl | rfl | rfl | rfl; exact Im_lit' hmz (Nat.le_refl _); exact (by have q := Im_lit (l := leB s.no.toNat 4) (sp := []) (c := 4) (by rw [List.append_nil]; exact hb5) (by rw [leB_len]; exact Nat.le_refl _); simpa [leB_len] using q); exact (by have q := Im_lit (l := leB s.place.toNat 6) (sp := []) (c := 6) (by rw [List.append_nil]; exact hb8) (by rw [leB_len]; exact Nat.le_refl _); simpa [leB_len] using q); exact (by have q := Im_lit (l := leB s.first.toNat 5) (sp := []) (c := 5) (by rw [List.append_nil]; exact hb11) (by rw [leB_len]; exact Nat.le_refl _); simpa [leB_len] using q); exact (by have q := Im_lit (l := leB s.era.toNat 4) (sp := []) (c := 4) (by rw [List.append_nil]; exact hb14) (by rw [leB_len]; exact Nat.le_refl _); simpa [leB_len] using q); exact (by have q := Im_lit (l := leB s.upto.toNat 6) (sp := []) (c := 6) (by rw [List.append_nil]; exact hb17) (by rw [leB_len]; exact Nat.le_refl _); simpa [leB_len] using q)) (by simp [total, leB_len]) (by simp [total, leB_len]) (Nat.le_of_ble_eq_true rfl)) rfl Tryz.func152 rfl rfl rfl rfl ?_
        rintro v J Lo - ⟨rfl, hown⟩
        try simp only [nf]
        have hown2 : Own 5 1 v (bytesV (body s)) 27 Lo := by have e : ([(.slice (some ⟨bz, 0, none⟩) 2 2, [80, 83]), (.slice (some ⟨b5, 0, none⟩) 4 4, leB s.no.toNat 4), (.slice (some ⟨b8, 0, none⟩) 6 6, leB s.place.toNat 6), (.slice (some ⟨b11, 0, none⟩) 5 5, leB s.first.toNat 5), (.slice (some ⟨b14, 0, none⟩) 4 4, leB s.era.toNat 4), (.slice (some ⟨b17, 0, none⟩) 6 6, leB s.upto.toNat 6)] : List (Value × List UInt8)).flatMap (·.2) = body s := (by simp [body]); have e2 : total ([(.slice (some ⟨bz, 0, none⟩) 2 2, [80, 83]), (.slice (some ⟨b5, 0, none⟩) 4 4, leB s.no.toNat 4), (.slice (some ⟨b8, 0, none⟩) 6 6, leB s.place.toNat 6), (.slice (some ⟨b11, 0, none⟩) 5 5, leB s.first.toNat 5), (.slice (some ⟨b14, 0, none⟩) 4 4, leB s.era.toNat 4), (.slice (some ⟨b17, 0, none⟩) 6 6, leB s.upto.toNat 6)] : List (Value × List UInt8)) = 27 := (by unfold total; rw [e, body_len]); rw [e, e2] at hown; exact hown
        refine WD.gR ?_; refine WD.loud (i := 20) zK rfl rfl rfl ?_; refine Op.copyB (k := 0) (m := 64) (m2 := 27) (q := 27) (old := List.replicate 64 0) (new := body s ++ List.replicate 37 0) (s := body s) rfl ty_sl_25 rfl rfl rfl rfl (SlAt.arr.sub (sz := 1) (Nat.zero_le _) (Nat.le_refl _)) (hown2.rd (by intro p hp; simp [hp])) rfl (by simp) (lay1 s) (by repeat (first | exact Upd.head | apply Upd.tail | apply Upd.tailS)) ?_; refine WD.go (.inl rfl) (fun _ _ h => h.elim) ?_; refine WD.done zK ?_; refine WP.sub [(0, _), (1, _), (2, _), (3, _)] ?_ ⟨rfl, rfl, rfl, rfl, trivial⟩
        exact WP.mt Jn hle ⟨rfl, rfl, rfl, trivial⟩ rfl
       ·refine WP.oper rfl rfl ?_
        refine Op.cl (super_putI9 (k := 6) ⟨by decide, by decide⟩ ⟨by have := hm.upto; omega, by have := hm.upto; omega⟩) rfl Tryz.func153 rfl rfl rfl rfl ?_; rintro v J L1 - ⟨b17, rfl, rfl, rfl⟩
        try simp only [nf]
        refine WP.share (fun Jn hJn hb17 => ?_)
        replace hle := Imm.le_trans hle hJn
        try replace hb5 := hJn.2 _ _ hb5
        try replace hb8 := hJn.2 _ _ hb8
        try replace hb11 := hJn.2 _ _ hb11
        try replace hb14 := hJn.2 _ _ hb14
        try replace hmz := mark_mono9 hJn hmz
        refine WD.gR ?_; refine WD.loud (i := 2) zK rfl rfl rfl ?_; refine Op.mark (cs := bytesV [80, 83]) rfl Tryz.underlying25 zK rfl rfl rfl (by repeat (first | exact Rm.chunk | exact Rm.here | exact Rm.nil0 | apply Rm.skip | apply Rm.skipS)) (fun Jn hJn hmz => ?_)
        replace hle := Imm.le_trans hle hJn
        try replace hb5 := hJn.2 _ _ hb5
        try replace hb8 := hJn.2 _ _ hb8
        try replace hb11 := hJn.2 _ _ hb11
        try replace hb14 := hJn.2 _ _ hb14
        try replace hb17 := hJn.2 _ _ hb17
        refine WD.gR ?_; refine WD.loud (i := 18) zK rfl rfl rfl ?_; refine Op.buildSlice rfl ty_sl_116 ty_el2_116 rfl rfl rfl rfl (vs := [_, _, _, _, _, _]) rfl (segs := [(0, [_]), (1, [_]), (2, [_]), (3, [_]), (4, [_]), (5, [_])]) (cs := ([(.slice (some ⟨bz, 0, none⟩) 2 2, [80, 83]), (.slice (some ⟨b5, 0, none⟩) 4 4, leB s.no.toNat 4), (.slice (some ⟨b8, 0, none⟩) 6 6, leB s.place.toNat 6), (.slice (some ⟨b11, 0, none⟩) 5 5, leB s.first.toNat 5), (.slice (some ⟨b14, 0, none⟩) 4 4, leB s.era.toNat 4), (.slice (some ⟨b17, 0, none⟩) 6 6, leB s.upto.toNat 6)]).map (·.1)) rfl rfl zS (fun bx => ?_)
        refine WD.gR ?_; refine WD.loud (i := 19) zK rfl rfl rfl ?_; refine Op.cl (slices_Concat (bx := bx) (ls := [(.slice (some ⟨bz, 0, none⟩) 2 2, [80, 83]), (.slice (some ⟨b5, 0, none⟩) 4 4, leB s.no.toNat 4), (.slice (some ⟨b8, 0, none⟩) 6 6, leB s.place.toNat 6), (.slice (some ⟨b11, 0, none⟩) 5 5, leB s.first.toNat 5), (.slice (some ⟨b14, 0, none⟩) 4 4, leB s.era.toNat 4), (.slice (some ⟨b17, 0, none⟩) 6 6, leB s.upto.toNat 6)]) (by intro e he; simp only [List.mem_cons, List.not_mem_nil, or_false] at he; rcases he with rfl | rfl | rfl | rfl | rfl | rfl; exact Im_lit' hmz (Nat.le_refl _); exact (by have q := Im_lit (l := leB s.no.toNat 4) (sp := []) (c := 4) (by rw [List.append_nil]; exact hb5) (by rw [leB_len]; exact Nat.le_refl _); simpa [leB_len] using q); exact (by have q := Im_lit (l := leB s.place.toNat 6) (sp := []) (c := 6) (by rw [List.append_nil]; exact hb8) (by rw [leB_len]; exact Nat.le_refl _); simpa [leB_len] using q); exact (by have q := Im_lit (l := leB s.first.toNat 5) (sp := []) (c := 5) (by rw [List.append_nil]; exact hb11) (by rw [leB_len]; exact Nat.le_refl _); simpa [leB_len] using q); exact (by have q := Im_lit (l := leB s.era.toNat 4) (sp := []) (c := 4) (by rw [List.append_nil]; exact hb14) (by rw [leB_len]; exact Nat.le_refl _); simpa [leB_len] using q); exact (by have q := Im_lit (l := leB s.upto.toNat 6) (sp := []) (c := 6) (by rw [List.append_nil]; exact hb17) (by rw [leB_len]; exact Nat.le_refl _); simpa [leB_len] using q)) (by simp [total, leB_len]) (by simp [total, leB_len]) (Nat.le_of_ble_eq_true rfl)) rfl Tryz.func152 rfl rfl rfl rfl ?_
        rintro v J Lo - ⟨rfl, hown⟩
        try simp only [nf]
        have hown2 : Own 5 1 v (bytesV (body s)) 27 Lo := by have e : ([(.slice (some ⟨bz, 0, none⟩) 2 2, [80, 83]), (.slice (some ⟨b5, 0, none⟩) 4 4, leB s.no.toNat 4), (.slice (some ⟨b8, 0, none⟩) 6 6, leB s.place.toNat 6), (.slice (some ⟨b11, 0, none⟩) 5 5, leB s.first.toNat 5), (.slice (some ⟨b14, 0, none⟩) 4 4, leB s.era.toNat 4), (.slice (some ⟨b17, 0, none⟩) 6 6, leB s.upto.toNat 6)] : List (Value × List UInt8)).flatMap (·.2) = body s := (by simp [body]); have e2 : total ([(.slice (some ⟨bz, 0, none⟩) 2 2, [80, 83]), (.slice (some ⟨b5, 0, none⟩) 4 4, leB s.no.toNat 4), (.slice (some ⟨b8, 0, none⟩) 6 6, leB s.place.toNat 6), (.slice (some ⟨b11, 0, none⟩) 5 5, leB s.first.toNat 5), (.slice (some ⟨b14, 0, none⟩) 4 4, leB s.era.toNat 4), (.slice (some ⟨b17, 0, none⟩) 6 6, leB s.upto.toNat 6)] : List (Value × List UInt8)) = 27 := (by unfold total; rw [e, body_len]); rw [e, e2] at hown; exact hown
        refine WD.gR ?_; refine WD.loud (i := 20) zK rfl rfl rfl ?_; refine Op.copyB (k := 0) (m := 64) (m2 := 27) (q := 27) (old := List.replicate 64 0) (new := body s ++ List.replicate 37 0) (s := body s) rfl ty_sl_25 rfl rfl rfl rfl (SlAt.arr.sub (sz := 1) (Nat.zero_le _) (Nat.le_refl _)) (hown2.rd (by intro p hp; simp [hp])) rfl (by simp) (lay1 s) (by repeat (first | exact Upd.head | apply Upd.tail | apply Upd.tailS)) ?_; refine WD.go (.inl rfl) (fun _ _ h => h.elim) ?_; refine WD.done zK ?_; refine WP.sub [(0, _), (1, _), (2, _), (3, _)] ?_ ⟨rfl, rfl, rfl, rfl, trivial⟩
        exact WP.mt Jn hle ⟨rfl, rfl, rfl, trivial⟩ rfl
   ·refine WP.oper rfl rfl ?_
    refine Op.cl (super_putI9 (k := 6) ⟨by decide, by decide⟩ ⟨by have := hm.place; omega, by have := hm.place; omega⟩) rfl Tryz.func153 rfl rfl rfl rfl ?_; rintro v J L1 - ⟨b8, rfl, rfl, rfl⟩
    try simp only [nf]
    refine WP.share (fun Jn hJn hb8 => ?_)
    replace hle := Imm.le_trans hle hJn
    try replace hb5 := hJn.2 _ _ hb5
    try replace hb11 := hJn.2 _ _ hb11
    try replace hb14 := hJn.2 _ _ hb14
    try replace hb17 := hJn.2 _ _ hb17
    try replace hmz := mark_mono9 hJn hmz
    refine WD.gR ?_; refine WD.both (i := 1) (j := 11) zK rfl rfl ?_ ?_
    ·refine WP.oper rfl rfl ?_
     refine Op.buildSlice rfl ty_sl_25 ty_el2_25 rfl rfl rfl rfl (vs := [_, _]) rfl (segs := [(0, [_]), (1, [_])]) (cs := bytesV [80, 83]) rfl rfl zS (fun bz => ?_)
     refine WD.gR ?_; refine WD.both (i := 2) (j := 11) zK rfl rfl ?_ ?_
     ·refine WP.oper rfl rfl ?_
      refine Op.mark (cs := bytesV [80, 83]) rfl Tryz.underlying25 zK rfl rfl rfl (by repeat (first | exact Rm.chunk | exact Rm.here | exact Rm.nil0 | apply Rm.skip | apply Rm.skipS)) (fun Jn hJn hmz => ?_)
      replace hle := Imm.le_trans hle hJn
      try replace hb5 := hJn.2 _ _ hb5
      try replace hb8 := hJn.2 _ _ hb8
      try replace hb11 := hJn.2 _ _ hb11
      try replace hb14 := hJn.2 _ _ hb14
      try replace hb17 := hJn.2 _ _ hb17
      refine WD.gR ?_; refine WD.loud (i := 11) zK rfl rfl rfl ?_; refine Op.cl (super_putI9 (k := 5) ⟨by decide, by decide⟩ ⟨by have := hm.first; omega, by have := hm.first; omega⟩) rfl Tryz.func153 rfl rfl rfl rfl ?_; rintro v J L1 - ⟨b11, rfl, rfl, rfl⟩
      try simp only [nf]
      refine WP.share (fun Jn hJn hb11 => ?_)
      replace hle := Imm.le_trans hle hJn
      try replace hb5 := hJn.2 _ _ hb5
      try replace hb8 := hJn.2 _ _ hb8
      try replace hb14 := hJn.2 _ _ hb14
      try replace hb17 := hJn.2 _ _ hb17
      try replace hmz := mark_mono9 hJn hmz
      refine WD.gR ?_; refine WD.loud (i := 14) zK rfl rfl rfl ?_; refine Op.cl (super_putI9 (k := 4) ⟨by decide, by decide⟩ ⟨by have := hm.era; omega, by have := hm.era; omega⟩) rfl Tryz.func153 rfl rfl rfl rfl ?_; rintro v J L1 - ⟨b14, rfl, rfl, rfl⟩
      try simp only [nf]
      refine WP.share (fun Jn hJn hb14 => ?_)
      replace hle := Imm.le_trans hle hJn
      try replace hb5 := hJn.2 _ _ hb5
      try replace hb8 := hJn.2 _ _ hb8
      try replace hb11 := hJn.2 _ _ hb11
      try replace hb17 := hJn.2 _ _ hb17
      try replace hmz := mark_mono9 hJn hmz
      refine WD.gR ?_; refine WD.loud (i := 17) zK rfl rfl rfl ?_; refine Op.cl (super_putI9 (k := 6) ⟨by decide, by decide⟩ ⟨by have := hm.upto; omega, by have := hm.upto; omega⟩) rfl Tryz.func153 rfl rfl rfl rfl ?_; rintro v J L1 - ⟨b17, rfl, rfl, rfl⟩
      try simp only [nf]
      refine WP.share (fun Jn hJn hb17 => ?_)
      replace hle := Imm.le_trans hle hJn
      try replace hb5 := hJn.2 _ _ hb5
      try replace hb8 := hJn.2 _ _ hb8
      try replace hb11 := hJn.2 _ _ hb11
      try replace hb14 := hJn.2 _ _ hb14
      try replace hmz := mark_mono9 hJn hmz
      refine WD.gR ?_; refine WD.loud (i := 18) zK rfl rfl rfl ?_; refine Op.buildSlice rfl ty_sl_116 ty_el2_116 rfl rfl rfl rfl (vs := [_, _, _, _, _, _]) rfl (segs := [(0, [_]), (1, [_]), (2, [_]), (3, [_]), (4, [_]), (5, [_])]) (cs := ([(.slice (some ⟨bz, 0, none⟩) 2 2, [80, 83]), (.slice (some ⟨b5, 0, none⟩) 4 4, leB s.no.toNat 4), (.slice (some ⟨b8, 0, none⟩) 6 6, leB s.place.toNat 6), (.slice (some ⟨b11, 0, none⟩) 5 5, leB s.first.toNat 5), (.slice (some ⟨b14, 0, none⟩) 4 4, leB s.era.toNat 4), (.slice (some ⟨b17, 0, none⟩) 6 6, leB s.upto.toNat 6)]).map (·.1)) rfl rfl zS (fun bx => ?_)
      refine WD.gR ?_; refine WD.loud (i := 19) zK rfl rfl rfl ?_; refine Op.cl (slices_Concat (bx := bx) (ls := [(.slice (some ⟨bz, 0, none⟩) 2 2, [80, 83]), (.slice (some ⟨b5, 0, none⟩) 4 4, leB s.no.toNat 4), (.slice (some ⟨b8, 0, none⟩) 6 6, leB s.place.toNat 6), (.slice (some ⟨b11, 0, none⟩) 5 5, leB s.first.toNat 5), (.slice (some ⟨b14, 0, none⟩) 4 4, leB s.era.toNat 4), (.slice (some ⟨b17, 0, none⟩) 6 6, leB s.upto.toNat 6)]) (by intro e he; simp only [List.mem_cons, List.not_mem_nil, or_false] at he; rcases he with rfl | rfl | rfl | rfl | rfl | rfl; exact Im_lit' hmz (Nat.le_refl _); exact (by have q := Im_lit (l := leB s.no.toNat 4) (sp := []) (c := 4) (by rw [List.append_nil]; exact hb5) (by rw [leB_len]; exact Nat.le_refl _); simpa [leB_len] using q); exact (by have q := Im_lit (l := leB s.place.toNat 6) (sp := []) (c := 6) (by rw [List.append_nil]; exact hb8) (by rw [leB_len]; exact Nat.le_refl _); simpa [leB_len] using q); exact (by have q := Im_lit (l := leB s.first.toNat 5) (sp := []) (c := 5) (by rw [List.append_nil]; exact hb11) (by rw [leB_len]; exact Nat.le_refl _); simpa [leB_len] using q); exact (by have q := Im_lit (l := leB s.era.toNat 4) (sp := []) (c := 4) (by rw [List.append_nil]; exact hb14) (by rw [leB_len]; exact Nat.le_refl _); simpa [leB_len] using q); exact (by have q := Im_lit (l := leB s.upto.toNat 6) (sp := []) (c := 6) (by rw [List.append_nil]; exact hb17) (by rw [leB_len]; exact Nat.le_refl _); simpa [leB_len] using q)) (by simp [total, leB_len]) (by simp [total, leB_len]) (Nat.le_of_ble_eq_true rfl)) rfl Tryz.func152 rfl rfl rfl rfl ?_
      rintro v J Lo - ⟨rfl, hown⟩
      try simp only [nf]
      have hown2 : Own 5 1 v (bytesV (body s)) 27 Lo := by have e : ([(.slice (some ⟨bz, 0, none⟩) 2 2, [80, 83]), (.slice (some ⟨b5, 0, none⟩) 4 4, leB s.no.toNat 4), (.slice (some ⟨b8, 0, none⟩) 6 6, leB s.place.toNat 6), (.slice (some ⟨b11, 0, none⟩) 5 5, leB s.first.toNat 5), (.slice (some ⟨b14, 0, none⟩) 4 4, leB s.era.toNat 4), (.slice (some ⟨b17, 0, none⟩) 6 6, leB s.upto.toNat 6)] : List (Value × List UInt8)).flatMap (·.2) = body s := (by simp [body]); have e2 : total ([(.slice (some ⟨bz, 0, none⟩) 2 2, [80, 83]), (.slice (some ⟨b5, 0, none⟩) 4 4, leB s.no.toNat 4), (.slice (some ⟨b8, 0, none⟩) 6 6, leB s.place.toNat 6), (.slice (some ⟨b11, 0, none⟩) 5 5, leB s.first.toNat 5), (.slice (some ⟨b14, 0, none⟩) 4 4, leB s.era.toNat 4), (.slice (some ⟨b17, 0, none⟩) 6 6, leB s.upto.toNat 6)] : List (Value × List UInt8)) = 27 := (by unfold total; rw [e, body_len]); rw [e, e2] at hown; exact hown
      refine WD.gR ?_; refine WD.loud (i := 20) zK rfl rfl rfl ?_; refine Op.copyB (k := 0) (m := 64) (m2 := 27) (q := 27) (old := List.replicate 64 0) (new := body s ++ List.replicate 37 0) (s := body s) rfl ty_sl_25 rfl rfl rfl rfl (SlAt.arr.sub (sz := 1) (Nat.zero_le _) (Nat.le_refl _)) (hown2.rd (by intro p hp; simp [hp])) rfl (by simp) (lay1 s) (by repeat (first | exact Upd.head | apply Upd.tail | apply Upd.tailS)) ?_; refine WD.go (.inl rfl) (fun _ _ h => h.elim) ?_; refine WD.done zK ?_; refine WP.sub [(0, _), (1, _), (2, _), (3, _)] ?_ ⟨rfl, rfl, rfl, rfl, trivial⟩
      exact WP.mt Jn hle ⟨rfl, rfl, rfl, trivial⟩ rfl
     ·refine WP.oper rfl rfl ?_
      refine Op.cl (super_putI9 (k := 5) ⟨by decide, by decide⟩ ⟨by have := hm.first; omega, by have := hm.first; omega⟩) rfl Tryz.func153 rfl rfl rfl rfl ?_; rintro v J L1 - ⟨b11, rfl, rfl, rfl⟩
      try simp only [nf]
      refine WP.share (fun Jn hJn hb11 => ?_)
      replace hle := Imm.le_trans hle hJn
      try replace hb5 := hJn.2 _ _ hb5
      try replace hb8 := hJn.2 _ _ hb8
      try replace hb14 := hJn.2 _ _ hb14
      try replace hb17 := hJn.2 _ _ hb17
      try replace hmz := mark_mono9 hJn hmz
      refine WD.gR ?_; refine WD.both (i := 2) (j := 14) zK rfl rfl ?_ ?_
      ·refine WP.oper rfl rfl ?_
       refine Op.mark (cs := bytesV [80, 83]) rfl Tryz.underlying25 zK rfl rfl rfl (by repeat (first | exact Rm.chunk | exact Rm.here | exact Rm.nil0 | apply Rm.skip | apply Rm.skipS)) (fun Jn hJn hmz => ?_)
       replace hle := Imm.le_trans hle hJn
       try replace hb5 := hJn.2 _ _ hb5
       try replace hb8 := hJn.2 _ _ hb8
       try replace hb11 := hJn.2 _ _ hb11
       try replace hb14 := hJn.2 _ _ hb14
       try replace hb17 := hJn.2 _ _ hb17
       refine WD.gR ?_; refine WD.loud (i := 14) zK rfl rfl rfl ?_; refine Op.cl (super_putI9 (k := 4) ⟨by decide, by decide⟩ ⟨by have := hm.era; omega, by have := hm.era; omega⟩) rfl Tryz.func153 rfl rfl rfl rfl ?_; rintro v J L1 - ⟨b14, rfl, rfl, rfl⟩
       try simp only [nf]
       refine WP.share (fun Jn hJn hb14 => ?_)
       replace hle := Imm.le_trans hle hJn
       try replace hb5 := hJn.2 _ _ hb5
       try replace hb8 := hJn.2 _ _ hb8
       try replace hb11 := hJn.2 _ _ hb11
       try replace hb17 := hJn.2 _ _ hb17
       try replace hmz := mark_mono9 hJn hmz
       refine WD.gR ?_; refine WD.loud (i := 17) zK rfl rfl rfl ?_; refine Op.cl (super_putI9 (k := 6) ⟨by decide, by decide⟩ ⟨by have := hm.upto; omega, by have := hm.upto; omega⟩) rfl Tryz.func153 rfl rfl rfl rfl ?_; rintro v J L1 - ⟨b17, rfl, rfl, rfl⟩
       try simp only [nf]
       refine WP.share (fun Jn hJn hb17 => ?_)
       replace hle := Imm.le_trans hle hJn
       try replace hb5 := hJn.2 _ _ hb5
       try replace hb8 := hJn.2 _ _ hb8
       try replace hb11 := hJn.2 _ _ hb11
       try replace hb14 := hJn.2 _ _ hb14
       try replace hmz := mark_mono9 hJn hmz
       refine WD.gR ?_; refine WD.loud (i := 18) zK rfl rfl rfl ?_; refine Op.buildSlice rfl ty_sl_116 ty_el2_116 rfl rfl rfl rfl (vs := [_, _, _, _, _, _]) rfl (segs := [(0, [_]), (1, [_]), (2, [_]), (3, [_]), (4, [_]), (5, [_])]) (cs := ([(.slice (some ⟨bz, 0, none⟩) 2 2, [80, 83]), (.slice (some ⟨b5, 0, none⟩) 4 4, leB s.no.toNat 4), (.slice (some ⟨b8, 0, none⟩) 6 6, leB s.place.toNat 6), (.slice (some ⟨b11, 0, none⟩) 5 5, leB s.first.toNat 5), (.slice (some ⟨b14, 0, none⟩) 4 4, leB s.era.toNat 4), (.slice (some ⟨b17, 0, none⟩) 6 6, leB s.upto.toNat 6)]).map (·.1)) rfl rfl zS (fun bx => ?_)
       refine WD.gR ?_; refine WD.loud (i := 19) zK rfl rfl rfl ?_; refine Op.cl (slices_Concat (bx := bx) (ls := [(.slice (some ⟨bz, 0, none⟩) 2 2, [80, 83]), (.slice (some ⟨b5, 0, none⟩) 4 4, leB s.no.toNat 4), (.slice (some ⟨b8, 0, none⟩) 6 6, leB s.place.toNat 6), (.slice (some ⟨b11, 0, none⟩) 5 5, leB s.first.toNat 5), (.slice (some ⟨b14, 0, none⟩) 4 4, leB s.era.toNat 4), (.slice (some ⟨b17, 0, none⟩) 6 6, leB s.upto.toNat 6)]) (by intro e he; simp only [List.mem_cons, List.not_mem_nil, or_false] at he; rcases he with rfl | rfl | rfl | rfl | rfl | rfl; exact Im_lit' hmz (Nat.le_refl _); exact (by have q := Im_lit (l := leB s.no.toNat 4) (sp := []) (c := 4) (by rw [List.append_nil]; exact hb5) (by rw [leB_len]; exact Nat.le_refl _); simpa [leB_len] using q); exact (by have q := Im_lit (l := leB s.place.toNat 6) (sp := []) (c := 6) (by rw [List.append_nil]; exact hb8) (by rw [leB_len]; exact Nat.le_refl _); simpa [leB_len] using q); exact (by have q := Im_lit (l := leB s.first.toNat 5) (sp := []) (c := 5) (by rw [List.append_nil]; exact hb11) (by rw [leB_len]; exact Nat.le_refl _); simpa [leB_len] using q); exact (by have q := Im_lit (l := leB s.era.toNat 4) (sp := []) (c := 4) (by rw [List.append_nil]; exact hb14) (by rw [leB_len]; exact Nat.le_refl _); simpa [leB_len] using q); exact (by have q := Im_lit (l := leB s.upto.toNat 6) (sp := []) (c := 6) (by rw [List.append_nil]; exact hb17) (by rw [leB_len]; exact Nat.le_refl _); simpa [leB_len] using q)) (by simp [total, leB_len]) (by simp [total, leB_len]) (Nat.le_of_ble_eq_true rfl)) rfl Tryz.func152 rfl rfl rfl rfl ?_
       rintro v J Lo - ⟨rfl, hown⟩
       try simp only [nf]
       have hown2 : Own 5 1 v (bytesV (body s)) 27 Lo := by have e : ([(.slice (some ⟨bz, 0, none⟩) 2 2, [80, 83]), (.slice (some ⟨b5, 0, none⟩) 4 4, leB s.no.toNat 4), (.slice (some ⟨b8, 0, none⟩) 6 6, leB s.place.toNat 6), (.slice (some ⟨b11, 0, none⟩) 5 5, leB s.first.toNat 5), (.slice (some ⟨b14, 0, none⟩) 4 4, leB s.era.toNat 4), (.slice (some ⟨b17, 0, none⟩) 6 6, leB s.upto.toNat 6)] : List (Value × List UInt8)).flatMap (·.2) = body s := (by simp [body]); have e2 : total ([(.slice (some ⟨bz, 0, none⟩) 2 2, [80, 83]), (.slice (some ⟨b5, 0, none⟩) 4 4, leB s.no.toNat 4), (.slice (some ⟨b8, 0, none⟩) 6 6, leB s.place.toNat 6), (.slice (some ⟨b11, 0, none⟩) 5 5, leB s.first.toNat 5), (.slice (some ⟨b14, 0, none⟩) 4 4, leB s.era.toNat 4), (.slice (some ⟨b17, 0, none⟩) 6 6, leB s.upto.toNat 6)] : List (Value × List UInt8)) = 27 := (by unfold total; rw [e, body_len]); rw [e, e2] at hown; exact hown
       refine WD.gR ?_; refine WD.loud (i := 20) zK rfl rfl rfl ?_; refine Op.copyB (k := 0) (m := 64) (m2 := 27) (q := 27) (old := List.replicate 64 0) (new := body s ++ List.replicate 37 0) (s := body s) rfl ty_sl_25 rfl rfl rfl rfl (SlAt.arr.sub (sz := 1) (Nat.zero_le _) (Nat.le_refl _)) (hown2.rd (by intro p hp; simp [hp])) rfl (by simp) (lay1 s) (by repeat (first | exact Upd.head | apply Upd.tail | apply Upd.tailS)) ?_; refine WD.go (.inl rfl) (fun _ _ h => h.elim) ?_; refine WD.done zK ?_; refine WP.sub [(0, _), (1, _), (2, _), (3, _)] ?_ ⟨rfl, rfl, rfl, rfl, trivial⟩
       exact WP.mt Jn hle ⟨rfl, rfl, rfl, trivial⟩ rfl
      ·refine WP.oper rfl rfl ?_
       refine Op.cl (super_putI9 (k := 4) ⟨by decide, by decide⟩ ⟨by have := hm.era; omega, by have := hm.era; omega⟩) rfl Tryz.func153 rfl rfl rfl rfl ?_; rintro v J L1 - ⟨b14, rfl, rfl, rfl⟩
       try simp only [nf]
       refine WP.share (fun Jn hJn hb14 => ?_)
       replace hle := Imm.le_trans hle hJn
       try replace hb5 := hJn.2 _ _ hb5
       try replace hb8 := hJn.2 _ _ hb8
       try replace hb11 := hJn.2 _ _ hb11
       try replace hb17 := hJn.2 _ _ hb17
       try replace hmz := mark_mono9 hJn hmz
       refine WD.gR ?_; refine WD.both (i := 2) (j := 17) zK rfl rfl ?_ ?_
       ·refine WP.oper rfl rfl ?_
        refine Op.mark (cs := bytesV [80, 83]) rfl Tryz.underlying25 zK rfl rfl rfl (by repeat (first | exact Rm.chunk | exact Rm.here | exact Rm.nil0 | apply Rm.skip | apply Rm.skipS)) (fun Jn hJn hmz => ?_)
        replace hle := Imm.le_trans hle hJn
        try replace hb5 := hJn.2 _ _ hb5
        try replace hb8 := hJn.2 _ _ hb8
        try replace hb11 := hJn.2 _ _ hb11
        try replace hb14 := hJn.2 _ _ hb14
        try replace hb17 := hJn.2 _ _ hb17
        refine WD.gR ?_; refine WD.loud (i := 17) zK rfl rfl rfl ?_; refine Op.cl (super_putI9 (k := 6) ⟨by decide, by decide⟩ ⟨by have := hm.upto; omega, by have := hm.upto; omega⟩) rfl Tryz.func153 rfl rfl rfl rfl ?_; rintro v J L1 - ⟨b17, rfl, rfl, rfl⟩
        try simp only [nf]
        refine WP.share (fun Jn hJn hb17 => ?_)
        replace hle := Imm.le_trans hle hJn
        try replace hb5 := hJn.2 _ _ hb5
        try replace hb8 := hJn.2 _ _ hb8
        try replace hb11 := hJn.2 _ _ hb11
        try replace hb14 := hJn.2 _ _ hb14
        try replace hmz := mark_mono9 hJn hmz
        refine WD.gR ?_; refine WD.loud (i := 18) zK rfl rfl rfl ?_; refine Op.buildSlice rfl ty_sl_116 ty_el2_116 rfl rfl rfl rfl (vs := [_, _, _, _, _, _]) rfl (segs := [(0, [_]), (1, [_]), (2, [_]), (3, [_]), (4, [_]), (5, [_])]) (cs := ([(.slice (some ⟨bz, 0, none⟩) 2 2, [80, 83]), (.slice (some ⟨b5, 0, none⟩) 4 4, leB s.no.toNat 4), (.slice (some ⟨b8, 0, none⟩) 6 6, leB s.place.toNat 6), (.slice (some ⟨b11, 0, none⟩) 5 5, leB s.first.toNat 5), (.slice (some ⟨b14, 0, none⟩) 4 4, leB s.era.toNat 4), (.slice (some ⟨b17, 0, none⟩) 6 6, leB s.upto.toNat 6)]).map (·.1)) rfl rfl zS (fun bx => ?_)
        refine WD.gR ?_; refine WD.loud (i := 19) zK rfl rfl rfl ?_; refine Op.cl (slices_Concat (bx := bx) (ls := [(.slice (some ⟨bz, 0, none⟩) 2 2, [80, 83]), (.slice (some ⟨b5, 0, none⟩) 4 4, leB s.no.toNat 4), (.slice (some ⟨b8, 0, none⟩) 6 6, leB s.place.toNat 6), (.slice (some ⟨b11, 0, none⟩) 5 5, leB s.first.toNat 5), (.slice (some ⟨b14, 0, none⟩) 4 4, leB s.era.toNat 4), (.slice (some ⟨b17, 0, none⟩) 6 6, leB s.upto.toNat 6)]) (by intro e he; simp only [List.mem_cons, List.not_mem_nil, or_false] at he; rcases he with rfl | rfl | rfl | rfl | rfl | rfl; exact Im_lit' hmz (Nat.le_refl _); exact (by have q := Im_lit (l := leB s.no.toNat 4) (sp := []) (c := 4) (by rw [List.append_nil]; exact hb5) (by rw [leB_len]; exact Nat.le_refl _); simpa [leB_len] using q); exact (by have q := Im_lit (l := leB s.place.toNat 6) (sp := []) (c := 6) (by rw [List.append_nil]; exact hb8) (by rw [leB_len]; exact Nat.le_refl _); simpa [leB_len] using q); exact (by have q := Im_lit (l := leB s.first.toNat 5) (sp := []) (c := 5) (by rw [List.append_nil]; exact hb11) (by rw [leB_len]; exact Nat.le_refl _); simpa [leB_len] using q); exact (by have q := Im_lit (l := leB s.era.toNat 4) (sp := []) (c := 4) (by rw [List.append_nil]; exact hb14) (by rw [leB_len]; exact Nat.le_refl _); simpa [leB_len] using q); exact (by have q := Im_lit (l := leB s.upto.toNat 6) (sp := []) (c := 6) (by rw [List.append_nil]; exact hb17) (by rw [leB_len]; exact Nat.le_refl _); simpa [leB_len] using q)) (by simp [total, leB_len]) (by simp [total, leB_len]) (Nat.le_of_ble_eq_true rfl)) rfl Tryz.func152 rfl rfl rfl rfl ?_
        rintro v J Lo - ⟨rfl, hown⟩
        try simp only [nf]
        have hown2 : Own 5 1 v (bytesV (body s)) 27 Lo := by have e : ([(.slice (some ⟨bz, 0, none⟩) 2 2, [80, 83]), (.slice (some ⟨b5, 0, none⟩) 4 4, leB s.no.toNat 4), (.slice (some ⟨b8, 0, none⟩) 6 6, leB s.place.toNat 6), (.slice (some ⟨b11, 0, none⟩) 5 5, leB s.first.toNat 5), (.slice (some ⟨b14, 0, none⟩) 4 4, leB s.era.toNat 4), (.slice (some ⟨b17, 0, none⟩) 6 6, leB s.upto.toNat 6)] : List (Value × List UInt8)).flatMap (·.2) = body s := (by simp [body]); have e2 : total ([(.slice (some ⟨bz, 0, none⟩) 2 2, [80, 83]), (.slice (some ⟨b5, 0, none⟩) 4 4, leB s.no.toNat 4), (.slice (some ⟨b8, 0, none⟩) 6 6, leB s.place.toNat 6), (.slice (some ⟨b11, 0, none⟩) 5 5, leB s.first.toNat 5), (.slice (some ⟨b14, 0, none⟩) 4 4, leB s.era.toNat 4), (.slice (some ⟨b17, 0, none⟩) 6 6, leB s.upto.toNat 6)] : List (Value × List UInt8)) = 27 := (by unfold total; rw [e, body_len]); rw [e, e2] at hown; exact hown
        refine WD.gR ?_; refine WD.loud (i := 20) zK rfl rfl rfl ?_; refine Op.copyB (k := 0) (m := 64) (m2 := 27) (q := 27) (old := List.replicate 64 0) (new := body s ++ List.replicate 37 0) (s := body s) rfl ty_sl_25 rfl rfl rfl rfl (SlAt.arr.sub (sz := 1) (Nat.zero_le _) (Nat.le_refl _)) (hown2.rd (by intro p hp; simp [hp])) rfl (by simp) (lay1 s) (by repeat (first | exact Upd.head | apply Upd.tail | apply Upd.tailS)) ?_; refine WD.go (.inl rfl) (fun _ _ h => h.elim) ?_; refine WD.done zK ?_; refine WP.sub [(0, _), (1, _), (2, _), (3, _)] ?_ ⟨rfl, rfl, rfl, rfl, trivial⟩
        exact WP.mt Jn hle ⟨rfl, rfl, rfl, trivial⟩ rfl
       ·refine WP.oper rfl rfl ?_
        refine Op.cl (super_putI9 (k := 6) ⟨by decide, by decide⟩ ⟨by have := hm.upto; omega, by have := hm.upto; omega⟩) rfl Tryz.func153 rfl rfl rfl rfl ?_; rintro v J L1 - ⟨b17, rfl, rfl, rfl⟩
        try simp only [nf]
        refine WP.share (fun Jn hJn hb17 => ?_)
        replace hle := Imm.le_trans hle hJn
        try replace hb5 := hJn.2 _ _ hb5
        try replace hb8 := hJn.2 _ _ hb8
        try replace hb11 := hJn.2 _ _ hb11
        try replace hb14 := hJn.2 _ _ hb14
        try replace hmz := mark_mono9 hJn hmz
        refine WD.gR ?_; refine WD.loud (i := 2) zK rfl rfl rfl ?_; refine Op.mark (cs := bytesV [80, 83]) rfl Tryz.underlying25 zK rfl rfl rfl (by repeat (first | exact Rm.chunk | exact Rm.here | exact Rm.nil0 | apply Rm.skip | apply Rm.skipS)) (fun Jn hJn hmz => ?_)
        replace hle := Imm.le_trans hle hJn
        try replace hb5 := hJn.2 _ _ hb5
        try replace hb8 := hJn.2 _ _ hb8
        try replace hb11 := hJn.2 _ _ hb11
        try replace hb14 := hJn.2 _ _ hb14
        try replace hb17 := hJn.2 _ _ hb17
        refine WD.gR ?_; refine WD.loud (i := 18) zK rfl rfl rfl ?_; refine Op.buildSlice rfl ty_sl_116 ty_el2_116 rfl rfl rfl rfl (vs := [_, _, _, _, _, _]) rfl (segs := [(0, [_]), (1, [_]), (2, [_]), (3, [_]), (4, [_]), (5, [_])]) (cs := ([(.slice (some ⟨bz, 0, none⟩) 2 2, [80, 83]), (.slice (some ⟨b5, 0, none⟩) 4 4, leB s.no.toNat 4), (.slice (some ⟨b8, 0, none⟩) 6 6, leB s.place.toNat 6), (.slice (some ⟨b11, 0, none⟩) 5 5, leB s.first.toNat 5), (.slice (some ⟨b14, 0, none⟩) 4 4, leB s.era.toNat 4), (.slice (some ⟨b17, 0, none⟩) 6 6, leB s.upto.toNat 6)]).map (·.1)) rfl rfl zS (fun bx => ?_)
        refine WD.gR ?_; refine WD.loud (i := 19) zK rfl rfl rfl ?_; refine Op.cl (slices_Concat (bx := bx) (ls := [(.slice (some ⟨bz, 0, none⟩) 2 2, [80, 83]), (.slice (some ⟨b5, 0, none⟩) 4 4, leB s.no.toNat 4), (.slice (some ⟨b8, 0, none⟩) 6 6, leB s.place.toNat 6), (.slice (some ⟨b11, 0, none⟩) 5 5, leB s.first.toNat 5), (.slice (some ⟨b14, 0, none⟩) 4 4, leB s.era.toNat 4), (.slice (some ⟨b17, 0, none⟩) 6 6, leB s.upto.toNat 6)]) (by intro e he; simp only [List.mem_cons, List.not_mem_nil, or_false] at he; rcases he with rfl | rfl | rfl | rfl | rfl | rfl; exact Im_lit' hmz (Nat.le_refl _); exact (by have q := Im_lit (l := leB s.no.toNat 4) (sp := []) (c := 4) (by rw [List.append_nil]; exact hb5) (by rw [leB_len]; exact Nat.le_refl _); simpa [leB_len] using q); exact (by have q := Im_lit (l := leB s.place.toNat 6) (sp := []) (c := 6) (by rw [List.append_nil]; exact hb8) (by rw [leB_len]; exact Nat.le_refl _); simpa [leB_len] using q); exact (by have q := Im_lit (l := leB s.first.toNat 5) (sp := []) (c := 5) (by rw [List.append_nil]; exact hb11) (by rw [leB_len]; exact Nat.le_refl _); simpa [leB_len] using q); exact (by have q := Im_lit (l := leB s.era.toNat 4) (sp := []) (c := 4) (by rw [List.append_nil]; exact hb14) (by rw [leB_len]; exact Nat.le_refl _); simpa [leB_len] using q); exact (by have q := Im_lit (l := leB s.upto.toNat 6) (sp := []) (c := 6) (by rw [List.append_nil]; exact hb17) (by rw [leB_len]; exact Nat.le_refl _); simpa [leB_len] using q)) (by simp [total, leB_len]) (by simp [total, leB_len]) (Nat.le_of_ble_eq_true rfl)) rfl Tryz.func152 rfl rfl rfl rfl ?_
        rintro v J Lo - ⟨rfl, hown⟩
        try simp only [nf]
        have hown2 : Own 5 1 v (bytesV (body s)) 27 Lo := by have e : ([(.slice (some ⟨bz, 0, none⟩) 2 2, [80, 83]), (.slice (some ⟨b5, 0, none⟩) 4 4, leB s.no.toNat 4), (.slice (some ⟨b8, 0, none⟩) 6 6, leB s.place.toNat 6), (.slice (some ⟨b11, 0, none⟩) 5 5, leB s.first.toNat 5), (.slice (some ⟨b14, 0, none⟩) 4 4, leB s.era.toNat 4), (.slice (some ⟨b17, 0, none⟩) 6 6, leB s.upto.toNat 6)] : List (Value × List UInt8)).flatMap (·.2) = body s := (by simp [body]); have e2 : total ([(.slice (some ⟨bz, 0, none⟩) 2 2, [80, 83]), (.slice (some ⟨b5, 0, none⟩) 4 4, leB s.no.toNat 4), (.slice (some ⟨b8, 0, none⟩) 6 6, leB s.place.toNat 6), (.slice (some ⟨b11, 0, none⟩) 5 5, leB s.first.toNat 5), (.slice (some ⟨b14, 0, none⟩) 4 4, leB s.era.toNat 4), (.slice (some ⟨b17, 0, none⟩) 6 6, leB s.upto.toNat 6)] : List (Value × List UInt8)) = 27 := (by unfold total; rw [e, body_len]); rw [e, e2] at hown; exact hown
        refine WD.gR ?_; refine WD.loud (i := 20) zK rfl rfl rfl ?_; refine Op.copyB (k := 0) (m := 64) (m2 := 27) (q := 27) (old := List.replicate 64 0) (new := body s ++ List.replicate 37 0) (s := body s) rfl ty_sl_25 rfl rfl rfl rfl (SlAt.arr.sub (sz := 1) (Nat.zero_le _) (Nat.le_refl _)) (hown2.rd (by intro p hp; simp [hp])) rfl (by simp) (lay1 s) (by repeat (first | exact Upd.head | apply Upd.tail | apply Upd.tailS)) ?_; refine WD.go (.inl rfl) (fun _ _ h => h.elim) ?_; refine WD.done zK ?_; refine WP.sub [(0, _), (1, _), (2, _), (3, _)] ?_ ⟨rfl, rfl, rfl, rfl, trivial⟩
        exact WP.mt Jn hle ⟨rfl, rfl, rfl, trivial⟩ rfl
    ·refine WP.oper rfl rfl ?_
     refine Op.cl (super_putI9 (k := 5) ⟨by decide, by decide⟩ ⟨by have := hm.first; omega, by have := hm.first; omega⟩) rfl Tryz.func153 rfl rfl rfl rfl ?_; rintro v J L1 - ⟨b11, rfl, rfl, rfl⟩
     try simp only [nf]
     refine WP.share (fun Jn hJn hb11 => ?_)
     replace hle := Imm.le_trans hle hJn
     try replace hb5 := hJn.2 _ _ hb5
     try replace hb8 := hJn.2 _ _ hb8
     try replace hb14 := hJn.2 _ _ hb14
     try replace hb17 := hJn.2 _ _ hb17
     try replace hmz := mark_mono9 hJn hmz
     refine WD.gR ?_; refine WD.both (i := 1) (j := 14) zK rfl rfl ?_ ?_
     ·refine WP.oper rfl rfl ?_
      refine Op.buildSlice rfl ty_sl_25 ty_el2_25 rfl rfl rfl rfl (vs := [_, _]) rfl (segs := [(0, [_]), (1, [_])]) (cs := bytesV [80, 83]) rfl rfl zS (fun bz => ?_)
      refine WD.gR ?_; refine WD.both (i := 2) (j := 14) zK rfl rfl ?_ ?_
      ·refine WP.oper rfl rfl ?_
       refine Op.mark (cs := bytesV [80, 83]) rfl Tryz.underlying25 zK rfl rfl rfl (by repeat (first | exact Rm.chunk | exact Rm.here | exact Rm.nil0 | apply Rm.skip | apply Rm.skipS)) (fun Jn hJn hmz => ?_)
       replace hle := Imm.le_trans hle hJn
       try replace hb5 := hJn.2 _ _ hb5
       try replace hb8 := hJn.2 _ _ hb8
       try replace hb11 := hJn.2 _ _ hb11
       try replace hb14 := hJn.2 _ _ hb14
       try replace hb17 := hJn.2 _ _ hb17
       refine WD.gR ?_; refine WD.loud (i := 14) zK rfl rfl rfl ?_; refine Op.cl (super_putI9 (k := 4) ⟨by decide, by decide⟩ ⟨by have := hm.era; omega, by have := hm.era; omega⟩) rfl Tryz.func153 rfl rfl rfl rfl ?_; rintro v J L1 - ⟨b14, rfl, rfl, rfl⟩
       try simp only [nf]
       refine WP.share (fun Jn hJn hb14 => ?_)
       replace hle := Imm.le_trans hle hJn
       try replace hb5 := hJn.2 _ _ hb5
       try replace hb8 := hJn.2 _ _ hb8
       try replace hb11 := hJn.2 _ _ hb11
       try replace hb17 := hJn.2 _ _ hb17
       try replace hmz := mark_mono9 hJn hmz
       refine WD.gR ?_; refine WD.loud (i := 17) zK rfl rfl rfl ?_; refine Op.cl (super_putI9 (k := 6) ⟨by decide, by decide⟩ ⟨by have := hm.upto; omega, by have := hm.upto; omega⟩) rfl Tryz.func153 rfl rfl rfl rfl ?_; rintro v J L1 - ⟨b17, rfl, rfl, rfl⟩
       try simp only [nf]
       refine WP.share (fun Jn hJn hb17 => ?_)
       replace hle := Imm.le_trans hle hJn
       try replace hb5 := hJn.2 _ _ hb5
       try replace hb8 := hJn.2 _ _ hb8
       try replace hb11 := hJn.2 _ _ hb11
       try replace hb14 := hJn.2 _ _ hb14
       try replace hmz := mark_mono9 hJn hmz
       refine WD.gR ?_; refine WD.loud (i := 18) zK rfl rfl rfl ?_; refine Op.buildSlice rfl ty_sl_116 ty_el2_116 rfl rfl rfl rfl (vs := [_, _, _, _, _, _]) rfl (segs := [(0, [_]), (1, [_]), (2, [_]), (3, [_]), (4, [_]), (5, [_])]) (cs := ([(.slice (some ⟨bz, 0, none⟩) 2 2, [80, 83]), (.slice (some ⟨b5, 0, none⟩) 4 4, leB s.no.toNat 4), (.slice (some ⟨b8, 0, none⟩) 6 6, leB s.place.toNat 6), (.slice (some ⟨b11, 0, none⟩) 5 5, leB s.first.toNat 5), (.slice (some ⟨b14, 0, none⟩) 4 4, leB s.era.toNat 4), (.slice (some ⟨b17, 0, none⟩) 6 6, leB s.upto.toNat 6)]).map (·.1)) rfl rfl zS (fun bx => ?_)
       refine WD.gR ?_; refine WD.loud (i := 19) zK rfl rfl rfl ?_; refine Op.cl (slices_Concat (bx := bx) (ls := [(.slice (some ⟨bz, 0, none⟩) 2 2, [80, 83]), (.slice (some ⟨b5, 0, none⟩) 4 4, leB s.no.toNat 4), (.slice (some ⟨b8, 0, none⟩) 6 6, leB s.place.toNat 6), (.slice (some ⟨b11, 0, none⟩) 5 5, leB s.first.toNat 5), (.slice (some ⟨b14, 0, none⟩) 4 4, leB s.era.toNat 4), (.slice (some ⟨b17, 0, none⟩) 6 6, leB s.upto.toNat 6)]) (by intro e he; simp only [List.mem_cons, List.not_mem_nil, or_false] at he; rcases he with rfl | rfl | rfl | rfl | rfl | rfl; exact Im_lit' hmz (Nat.le_refl _); exact (by have q := Im_lit (l := leB s.no.toNat 4) (sp := []) (c := 4) (by rw [List.append_nil]; exact hb5) (by rw [leB_len]; exact Nat.le_refl _); simpa [leB_len] using q); exact (by have q := Im_lit (l := leB s.place.toNat 6) (sp := []) (c := 6) (by rw [List.append_nil]; exact hb8) (by rw [leB_len]; exact Nat.le_refl _); simpa [leB_len] using q); exact (by have q := Im_lit (l := leB s.first.toNat 5) (sp := []) (c := 5) (by rw [List.append_nil]; exact hb11) (by rw [leB_len]; exact Nat.le_refl _); simpa [leB_len] using q); exact (by have q := Im_lit (l := leB s.era.toNat 4) (sp := []) (c := 4) (by rw [List.append_nil]; exact hb14) (by rw [leB_len]; exact Nat.le_refl _); simpa [leB_len] using q); exact (by have q := Im_lit (l := leB s.upto.toNat 6) (sp := []) (c := 6) (by rw [List.append_nil]; exact hb17) (by rw [leB_len]; exact Nat.le_refl _); simpa [leB_len] using q)) (by simp [total, leB_len]) (by simp [total, leB_len]) (Nat.le_of_ble_eq_true rfl)) rfl Tryz.func152 rfl rfl rfl rfl ?_
       rintro v J Lo - ⟨rfl, hown⟩
       try simp only [nf]
       have hown2 : Own 5 1 v (bytesV (body s)) 27 Lo := by have e : ([(.slice (some ⟨bz, 0, none⟩) 2 2, [80, 83]), (.slice (some ⟨b5, 0, none⟩) 4 4, leB s.no.toNat 4), (.slice (some ⟨b8, 0, none⟩) 6 6, leB s.place.toNat 6), (.slice (some ⟨b11, 0, none⟩) 5 5, leB s.first.toNat 5), (.slice (some ⟨b14, 0, none⟩) 4 4, leB s.era.toNat 4), (.slice (some ⟨b17, 0, none⟩) 6 6, leB s.upto.toNat 6)] : List (Value × List UInt8)).flatMap (·.2) = body s := (by simp [body]); have e2 : total ([(.slice (some ⟨bz, 0, none⟩) 2 2, [80, 83]), (.slice (some ⟨b5, 0, none⟩) 4 4, leB s.no.toNat 4), (.slice (some ⟨b8, 0, none⟩) 6 6, leB s.place.toNat 6), (.slice (some ⟨b11, 0, none⟩) 5 5, leB s.first.toNat 5), (.slice (some ⟨b14, 0, none⟩) 4 4, leB s.era.toNat 4), (.slice (some ⟨b17, 0, none⟩) 6 6, leB s.upto.toNat 6)] : List (Value × List UInt8)) = 27 := (by unfold total; rw [e, body_len]); rw [e, e2] at hown; exact hown
       refine WD.gR ?_; refine WD.loud (i := 20) zK rfl rfl rfl ?_; refine Op.copyB (k := 0) (m := 64) (m2 := 27) (q := 27) (old := List.replicate 64 0) (new := body s ++ List.replicate 37 0) (s := body s) rfl ty_sl_25 rfl rfl rfl rfl (SlAt.arr.sub (sz := 1) (Nat.zero_le _) (Nat.le_refl _)) (hown2.rd (by intro p hp; simp [hp])) rfl (by simp) (lay1 s) (by repeat (first | exact Upd.head | apply Upd.tail | apply Upd.tailS)) ?_; refine WD.go (.inl rfl) (fun _ _ h => h.elim) ?_; refine WD.done zK ?_; refine WP.sub [(0, _), (1, _), (2, _), (3, _)] ?_ ⟨rfl, rfl, rfl, rfl, trivial⟩
       exact WP.mt Jn hle ⟨rfl, rfl, rfl, trivial⟩ rfl
      ·refine WP.oper rfl rfl ?_
       refine Op.cl (super_putI9 (k := 4) ⟨by decide, by decide⟩ ⟨by have := hm.era; omega, by have := hm.era; omega⟩) rfl Tryz.func153 rfl rfl rfl rfl ?_; rintro v J L1 - ⟨b14, rfl, rfl, rfl⟩
       try simp only [nf]
       refine WP.share (fun Jn hJn hb14 => ?_)
       replace hle := Imm.le_trans hle hJn
       try replace hb5 := hJn.2 _ _ hb5
       try replace hb8 := hJn.2 _ _ hb8
       try replace hb11 := hJn.2 _ _ hb11
       try replace hb17 := hJn.2 _ _ hb17
       try replace hmz := mark_mono9 hJn hmz
       refine WD.gR ?_; refine WD.both (i := 2) (j := 17) zK rfl rfl ?_ ?_
       ·refine WP.oper rfl rfl ?_
        refine Op.mark (cs := bytesV [80, 83]) rfl Tryz.underlying25 zK rfl rfl rfl (by repeat (first | exact Rm.chunk | exact Rm.here | exact Rm.nil0 | apply Rm.skip | apply Rm.skipS)) (fun Jn hJn hmz => ?_)
        replace hle := Imm.le_trans hle hJn
        try replace hb5 := hJn.2 _ _ hb5
        try replace hb8 := hJn.2 _ _ hb8
        try replace hb11 := hJn.2 _ _ hb11
        try replace hb14 := hJn.2 _ _ hb14
        try replace hb17 := hJn.2 _ _ hb17
        refine WD.gR ?_; refine WD.loud (i := 17) zK rfl rfl rfl ?_; refine Op.cl (super_putI9 (k := 6) ⟨by decide, by decide⟩ ⟨by have := hm.upto; omega, by have := hm.upto; omega⟩) rfl Tryz.func153 rfl rfl rfl rfl ?_; rintro v J L1 - ⟨b17, rfl, rfl, rfl⟩
        try simp only [nf]
        refine WP.share (fun Jn hJn hb17 => ?_)
        replace hle := Imm.le_trans hle hJn
        try replace hb5 := hJn.2 _ _ hb5
        try replace hb8 := hJn.2 _ _ hb8
        try replace hb11 := hJn.2 _ _ hb11
        try replace hb14 := hJn.2 _ _ hb14
        try replace hmz := mark_mono9 hJn hmz
        refine WD.gR ?_; refine WD.loud (i := 18) zK rfl rfl rfl ?_; refine Op.buildSlice rfl ty_sl_116 ty_el2_116 rfl rfl rfl rfl (vs := [_, _, _, _, _, _]) rfl (segs := [(0, [_]), (1, [_]), (2, [_]), (3, [_]), (4, [_]), (5, [_])]) (cs := ([(.slice (some ⟨bz, 0, none⟩) 2 2, [80, 83]), (.slice (some ⟨b5, 0, none⟩) 4 4, leB s.no.toNat 4), (.slice (some ⟨b8, 0, none⟩) 6 6, leB s.place.toNat 6), (.slice (some ⟨b11, 0, none⟩) 5 5, leB s.first.toNat 5), (.slice (some ⟨b14, 0, none⟩) 4 4, leB s.era.toNat 4), (.slice (some ⟨b17, 0, none⟩) 6 6, leB s.upto.toNat 6)]).map (·.1)) rfl rfl zS (fun bx => ?_)
        refine WD.gR ?_; refine WD.loud (i := 19) zK rfl rfl rfl ?_; refine Op.cl (slices_Concat (bx := bx) (ls := [(.slice (some ⟨bz, 0, none⟩) 2 2, [80, 83]), (.slice (some ⟨b5, 0, none⟩) 4 4, leB s.no.toNat 4), (.slice (some ⟨b8, 0, none⟩) 6 6, leB s.place.toNat 6), (.slice (some ⟨b11, 0, none⟩) 5 5, leB s.first.toNat 5), (.slice (some ⟨b14, 0, none⟩) 4 4, leB s.era.toNat 4), (.slice (some ⟨b17, 0, none⟩) 6 6, leB s.upto.toNat 6)]) (by intro e he; simp only [List.mem_cons, List.not_mem_nil, or_false] at he; rcases he with rfl | rfl | rfl | rfl | rfl | rfl; exact Im_lit' hmz (Nat.le_refl _); exact (by have q := Im_lit (l := leB s.no.toNat 4) (sp := []) (c := 4) (by rw [List.append_nil]; exact hb5) (by rw [leB_len]; exact Nat.le_refl _); simpa [leB_len] using q); exact (by have q := Im_lit (l := leB s.place.toNat 6) (sp := []) (c := 6) (by rw [List.append_nil]; exact hb8) (by rw [leB_len]; exact Nat.le_refl _); simpa [leB_len] using q); exact (by have q := Im_lit (l := leB s.first.toNat 5) (sp := []) (c := 5) (by rw [List.append_nil]; exact hb11) (by rw [leB_len]; exact Nat.le_refl _); simpa [leB_len] using q); exact (by have q := Im_lit (l := leB s.era.toNat 4) (sp := []) (c := 4) (by rw [List.append_nil]; exact hb14) (by rw [leB_len]; exact Nat.le_refl _); simpa [leB_len] using q); exact (by have q := Im_lit (l := leB s.upto.toNat 6) (sp := []) (c := 6) (by rw [List.append_nil]; exact hb17) (by rw [leB_len]; exact Nat.le_refl _); simpa [leB_len] using q)) (by simp [total, leB_len]) (by simp [total, leB_len]) (Nat.le_of_ble_eq_true rfl)) rfl Tryz.func152 rfl rfl rfl rfl ?_
        rintro v J Lo - ⟨rfl, hown⟩
        try simp only [nf]
        have hown2 : Own 5 1 v (bytesV (body s)) 27 Lo := by have e : ([(.slice (some ⟨bz, 0, none⟩) 2 2, [80, 83]), (.slice (some ⟨b5, 0, none⟩) 4 4, leB s.no.toNat 4), (.slice (some ⟨b8, 0, none⟩) 6 6, leB s.place.toNat 6), (.slice (some ⟨b11, 0, none⟩) 5 5, leB s.first.toNat 5), (.slice (some ⟨b14, 0, none⟩) 4 4, leB s.era.toNat 4), (.slice (some ⟨b17, 0, none⟩) 6 6, leB s.upto.toNat 6)] : List (Value × List UInt8)).flatMap (·.2) = body s := (by simp [body]); have e2 : total ([(.slice (some ⟨bz, 0, none⟩) 2 2, [80, 83]), (.slice (some ⟨b5, 0, none⟩) 4 4, leB s.no.toNat 4), (.slice (some ⟨b8, 0, none⟩) 6 6, leB s.place.toNat 6), (.slice (some ⟨b11, 0, none⟩) 5 5, leB s.first.toNat 5), (.slice (some ⟨b14, 0, none⟩) 4 4, leB s.era.toNat 4), (.slice (some ⟨b17, 0, none⟩) 6 6, leB s.upto.toNat 6)] : List (Value × List UInt8)) = 27 := (by unfold total; rw [e, body_len]); rw [e, e2] at hown; exact hown
        refine WD.gR ?_; refine WD.loud (i := 20) zK rfl rfl rfl ?_; refine Op.copyB (k := 0) (m := 64) (m2 := 27) (q := 27) (old := List.replicate 64 0) (new := body s ++ List.replicate 37 0) (s := body s) rfl ty_sl_25 rfl rfl rfl rfl (SlAt.arr.sub (sz := 1) (Nat.zero_le _) (Nat.le_refl _)) (hown2.rd (by intro p hp; simp [hp])) rfl (by simp) (lay1 s) (by repeat (first | exact Upd.head | apply Upd.tail | apply Upd.tailS)) ?_; refine WD.go (.inl rfl) (fun _ _ h => h.elim) ?_; refine WD.done zK ?_; refine WP.sub [(0, _), (1, _), (2, _), (3, _)] ?_ ⟨rfl, rfl, rfl, rfl, trivial⟩
        exact WP.mt Jn hle ⟨rfl, rfl, rfl, trivial⟩ rfl
       ·refine WP.oper rfl rfl ?_
        refine Op.cl (super_putI9 (k := 6) ⟨by decide, by decide⟩ ⟨by have := hm.upto; omega, by have := hm.upto; omega⟩) rfl Tryz.func153 rfl rfl rfl rfl ?_; rintro v J L1 - ⟨b17, rfl, rfl, rfl⟩
        try simp only [nf]
        refine WP.share (fun Jn hJn hb17 => ?_)
        replace hle := Imm.le_trans hle hJn
        try replace hb5 := hJn.2 _ _ hb5
        try replace hb8 := hJn.2 _ _ hb8
        try replace hb11 := hJn.2 _ _ hb11
        try replace hb14 := hJn.2 _ _ hb14
        try replace hmz := mark_mono9 hJn hmz
        refine WD.gR ?_; refine WD.loud (i := 2) zK rfl rfl rfl ?_; refine Op.mark (cs := bytesV [80, 83]) rfl Tryz.underlying25 zK rfl rfl rfl (by repeat (first | exact Rm.chunk | exact Rm.here | exact Rm.nil0 | apply Rm.skip | apply Rm.skipS)) (fun Jn hJn hmz => ?_)
        replace hle := Imm.le_trans hle hJn
        try replace hb5 := hJn.2 _ _ hb5
        try replace hb8 := hJn.2 _ _ hb8
        try replace hb11 := hJn.2 _ _ hb11
        try replace hb14 := hJn.2 _ _ hb14
        try replace hb17 := hJn.2 _ _ hb17
        refine WD.gR ?_; refine WD.loud (i := 18) zK rfl rfl rfl ?_; refine Op.buildSlice rfl ty_sl_116 ty_el2_116 rfl rfl rfl rfl (vs := [_, _, _, _, _, _]) rfl (segs := [(0, [_]), (1, [_]), (2, [_]), (3, [_]), (4, [_]), (5, [_])]) (cs := ([(.slice (some ⟨bz, 0, none⟩) 2 2, [80, 83]), (.slice (some ⟨b5, 0, none⟩) 4 4, leB s.no.toNat 4), (.slice (some ⟨b8, 0, none⟩) 6 6, leB s.place.toNat 6), (.slice (some ⟨b11, 0, none⟩) 5 5, leB s.first.toNat 5), (.slice (some ⟨b14, 0, none⟩) 4 4, leB s.era.toNat 4), (.slice (some ⟨b17, 0, none⟩) 6 6, leB s.upto.toNat 6)]).map (·.1)) rfl rfl zS (fun bx => ?_)
        refine WD.gR ?_; refine WD.loud (i := 19) zK rfl rfl rfl ?_; refine Op.cl (slices_Concat (bx := bx) (ls := [(.slice (some ⟨bz, 0, none⟩) 2 2, [80, 83]), (.slice (some ⟨b5, 0, none⟩) 4 4, leB s.no.toNat 4), (.slice (some ⟨b8, 0, none⟩) 6 6, leB s.place.toNat 6), (.slice (some ⟨b11, 0, none⟩) 5 5, leB s.first.toNat 5), (.slice (some ⟨b14, 0, none⟩) 4 4, leB s.era.toNat 4), (.slice (some ⟨b17, 0, none⟩) 6 6, leB s.upto.toNat 6)]) (by intro e he; simp only [List.mem_cons, List.not_mem_nil, or_false] at he; rcases he with rfl | rfl | rfl | rfl | rfl | rfl; exact Im_lit' hmz (Nat.le_refl _); exact (by have q := Im_lit (l := leB s.no.toNat 4) (sp := []) (c := 4) (by rw [List.append_nil]; exact hb5) (by rw [leB_len]; exact Nat.le_refl _); simpa [leB_len] using q); exact (by have q := Im_lit (l := leB s.place.toNat 6) (sp := []) (c := 6) (by rw [List.append_nil]; exact hb8) (by rw [leB_len]; exact Nat.le_refl _); simpa [leB_len] using q); exact (by have q := Im_lit (l := leB s.first.toNat 5) (sp := []) (c := 5) (by rw [List.append_nil]; exact hb11) (by rw [leB_len]; exact Nat.le_refl _); simpa [leB_len] using q); exact (by have q := Im_lit (l := leB s.era.toNat 4) (sp := []) (c := 4) (by rw [List.append_nil]; exact hb14) (by rw [leB_len]; exact Nat.le_refl _); simpa [leB_len] using q); exact (by have q := Im_lit (l := leB s.upto.toNat 6) (sp := []) (c := 6) (by rw [List.append_nil]; exact hb17) (by rw [leB_len]; exact Nat.le_refl _); simpa [leB_len] using q)) (by simp [total, leB_len]) (by simp [total, leB_len]) (Nat.le_of_ble_eq_true rfl)) rfl Tryz.func152 rfl rfl rfl rfl ?_
        rintro v J Lo - ⟨rfl, hown⟩
        try simp only [nf]
        have hown2 : Own 5 1 v (bytesV (body s)) 27 Lo := by have e : ([(.slice (some ⟨bz, 0, none⟩) 2 2, [80, 83]), (.slice (some ⟨b5, 0, none⟩) 4 4, leB s.no.toNat 4), (.slice (some ⟨b8, 0, none⟩) 6 6, leB s.place.toNat 6), (.slice (some ⟨b11, 0, none⟩) 5 5, leB s.first.toNat 5), (.slice (some ⟨b14, 0, none⟩) 4 4, leB s.era.toNat 4), (.slice (some ⟨b17, 0, none⟩) 6 6, leB s.upto.toNat 6)] : List (Value × List UInt8)).flatMap (·.2) = body s := (by simp [body]); have e2 : total ([(.slice (some ⟨bz, 0, none⟩) 2 2, [80, 83]), (.slice (some ⟨b5, 0, none⟩) 4 4, leB s.no.toNat 4), (.slice (some ⟨b8, 0, none⟩) 6 6, leB s.place.toNat 6), (.slice (some ⟨b11, 0, none⟩) 5 5, leB s.first.toNat 5), (.slice (some ⟨b14, 0, none⟩) 4 4, leB s.era.toNat 4), (.slice (some ⟨b17, 0, none⟩) 6 6, leB s.upto.toNat 6)] : List (Value × List UInt8)) = 27 := (by unfold total; rw [e, body_len]); rw [e, e2] at hown; exact hown
        refine WD.gR ?_; refine WD.loud (i := 20) zK rfl rfl rfl ?_; refine Op.copyB (k := 0) (m := 64) (m2 := 27) (q := 27) (old := List.replicate 64 0) (new := body s ++ List.replicate 37 0) (s := body s) rfl ty_sl_25 rfl rfl rfl rfl (SlAt.arr.sub (sz := 1) (Nat.zero_le _) (Nat.le_refl _)) (hown2.rd (by intro p hp; simp [hp])) rfl (by simp) (lay1 s) (by repeat (first | exact Upd.head | apply Upd.tail | apply Upd.tailS)) ?_; refine WD.go (.inl rfl) (fun _ _ h => h.elim) ?_; refine WD.done zK ?_; refine WP.sub [(0, _), (1, _), (2, _), (3, _)] ?_ ⟨rfl, rfl, rfl, rfl, trivial⟩
        exact WP.mt Jn hle ⟨rfl, rfl, rfl, trivial⟩ rfl
     ·refine WP.oper rfl rfl ?_
      refine Op.cl (super_putI9 (k := 4) ⟨by decide, by decide⟩ ⟨by have := hm.era; omega, by have := hm.era; omega⟩) rfl Tryz.func153 rfl rfl rfl rfl ?_; rintro v J L1 - ⟨b14, rfl, rfl, rfl⟩
      try simp only [nf]
      refine WP.share (fun Jn hJn hb14 => ?_)
      replace hle := Imm.le_trans hle hJn
      try replace hb5 := hJn.2 _ _ hb5
      try replace hb8 := hJn.2 _ _ hb8
      try replace hb11 := hJn.2 _ _ hb11
      try replace hb17 := hJn.2 _ _ hb17
      try replace hmz := mark_mono9 hJn hmz
      refine WD.gR ?_; refine WD.both (i := 1) (j := 17) zK rfl rfl ?_ ?_
      ·refine WP.oper rfl rfl ?_
       refine Op.buildSlice rfl ty_sl_25 ty_el2_25 rfl rfl rfl rfl (vs := [_, _]) rfl (segs := [(0, [_]), (1, [_])]) (cs := bytesV [80, 83]) rfl rfl zS (fun bz => ?_)
       refine WD.gR ?_; refine WD.both (i := 2) (j := 17) zK rfl rfl ?_ ?_
       ·refine WP.oper rfl rfl ?_
        refine Op.mark (cs := bytesV [80, 83]) rfl Tryz.underlying25 zK rfl rfl rfl (by repeat (first | exact Rm.chunk | exact Rm.here | exact Rm.nil0 | apply Rm.skip | apply Rm.skipS)) (fun Jn hJn hmz => ?_)
        replace hle := Imm.le_trans hle hJn
        try replace hb5 := hJn.2 _ _ hb5
        try replace hb8 := hJn.2 _ _ hb8
        try replace hb11 := hJn.2 _ _ hb11
        try replace hb14 := hJn.2 _ _ hb14
        try replace hb17 := hJn.2 _ _ hb17
        refine WD.gR ?_; refine WD.loud (i := 17) zK rfl rfl rfl ?_; refine Op.cl (super_putI9 (k := 6) ⟨by decide, by decide⟩ ⟨by have := hm.upto; omega, by have := hm.upto; omega⟩) rfl Tryz.func153 rfl rfl rfl rfl ?_; rintro v J L1 - ⟨b17, rfl, rfl, rfl⟩
        try simp only [nf]
        refine WP.share (fun Jn hJn hb17 => ?_)
        replace hle := Imm.le_trans hle hJn
        try replace hb5 := hJn.2 _ _ hb5
        try replace hb8 := hJn.2 _ _ hb8
        try replace hb11 := hJn.2 _ _ hb11
        try replace hb14 := hJn.2 _ _ hb14
        try replace hmz := mark_mono9 hJn hmz
        refine WD.gR ?_; refine WD.loud (i := 18) zK rfl rfl rfl ?_; refine Op.buildSlice rfl ty_sl_116 ty_el2_116 rfl rfl rfl rfl (vs := [_, _, _, _, _, _]) rfl (segs := [(0, [_]), (1, [_]), (2, [_]), (3, [_]), (4, [_]), (5, [_])]) (cs := ([(.slice (some ⟨bz, 0, none⟩) 2 2, [80, 83]), (.slice (some ⟨b5, 0, none⟩) 4 4, leB s.no.toNat 4), (.slice (some ⟨b8, 0, none⟩) 6 6, leB s.place.toNat 6), (.slice (some ⟨b11, 0, none⟩) 5 5, leB s.first.toNat 5), (.slice (some ⟨b14, 0, none⟩) 4 4, leB s.era.toNat 4), (.slice (some ⟨b17, 0, none⟩) 6 6, leB s.upto.toNat 6)]).map (·.1)) rfl rfl zS (fun bx => ?_)
        refine WD.gR ?_; refine WD.loud (i := 19) zK rfl rfl rfl ?_; refine Op.cl (slices_Concat (bx := bx) (ls := [(.slice (some ⟨bz, 0, none⟩) 2 2, [80, 83]), (.slice (some ⟨b5, 0, none⟩) 4 4, leB s.no.toNat 4), (.slice (some ⟨b8, 0, none⟩) 6 6, leB s.place.toNat 6), (.slice (some ⟨b11, 0, none⟩) 5 5, leB s.first.toNat 5), (.slice (some ⟨b14, 0, none⟩) 4 4, leB s.era.toNat 4), (.slice (some ⟨b17, 0, none⟩) 6 6, leB s.upto.toNat 6)]) (by intro e he; simp only [List.mem_cons, List.not_mem_nil, or_false] at he; rcases he with rfl | rfl | rfl | rfl | rfl | rfl; exact Im_lit' hmz (Nat.le_refl _); exact (by have q := Im_lit (l := leB s.no.toNat 4) (sp := []) (c := 4) (by rw [List.append_nil]; exact hb5) (by rw [leB_len]; exact Nat.le_refl _); simpa [leB_len] using q); exact (by have q := Im_lit (l := leB s.place.toNat 6) (sp := []) (c := 6) (by rw [List.append_nil]; exact hb8) (by rw [leB_len]; exact Nat.le_refl _); simpa [leB_len] using q); exact (by have q := Im_lit (l := leB s.first.toNat 5) (sp := []) (c := 5) (by rw [List.append_nil]; exact hb11) (by rw [leB_len]; exact Nat.le_refl _); simpa [leB_len] using q); exact (by have q := Im_lit (l := leB s.era.toNat 4) (sp := []) (c := 4) (by rw [List.append_nil]; exact hb14) (by rw [leB_len]; exact Nat.le_refl _); simpa [leB_len] using q); exact (by have q := Im_lit (l := leB s.upto.toNat 6) (sp := []) (c := 6) (by rw [List.append_nil]; exact hb17) (by rw [leB_len]; exact Nat.le_refl _); simpa [leB_len] using q)) (by simp [total, leB_len]) (by simp [total, leB_len]) (Nat.le_of_ble_eq_true rfl)) rfl Tryz.func152 rfl rfl rfl rfl ?_
        rintro v J Lo - ⟨rfl, hown⟩
        try simp only [nf]
        have hown2 : Own 5 1 v (bytesV (body s)) 27 Lo := by have e : ([(.slice (some ⟨bz, 0, none⟩) 2 2, [80, 83]), (.slice (some ⟨b5, 0, none⟩) 4 4, leB s.no.toNat 4), (.slice (some ⟨b8, 0, none⟩) 6 6, leB s.place.toNat 6), (.slice (some ⟨b11, 0, none⟩) 5 5, leB s.first.toNat 5), (.slice (some ⟨b14, 0, none⟩) 4 4, leB s.era.toNat 4), (.slice (some ⟨b17, 0, none⟩) 6 6, leB s.upto.toNat 6)] : List (Value × List UInt8)).flatMap (·.2) = body s := (by simp [body]); have e2 : total ([(.slice (some ⟨bz, 0, none⟩) 2 2, [80, 83]), (.slice (some ⟨b5, 0, none⟩) 4 4, leB s.no.toNat 4), (.slice (some ⟨b8, 0, none⟩) 6 6, leB s.place.toNat 6), (.slice (some ⟨b11, 0, none⟩) 5 5, leB s.first.toNat 5), (.slice (some ⟨b14, 0, none⟩) 4 4, leB s.era.toNat 4), (.slice (some ⟨b17, 0, none⟩) 6 6, leB s.upto.toNat 6)] : List (Value × List UInt8)) = 27 := (by unfold total; rw [e, body_len]); rw [e, e2] at hown; exact hown
        refine WD.gR ?_; refine WD.loud (i := 20) zK rfl rfl rfl ?_; refine Op.copyB (k := 0) (m := 64) (m2 := 27) (q := 27) (old := List.replicate 64 0) (new := body s ++ List.replicate 37 0) (s := body s) rfl ty_sl_25 rfl rfl rfl rfl (SlAt.arr.sub (sz := 1) (Nat.zero_le _) (Nat.le_refl _)) (hown2.rd (by intro p hp; simp [hp])) rfl (by simp) (lay1 s) (by repeat (first | exact Upd.head | apply Upd.tail | apply Upd.tailS)) ?_; refine WD.go (.inl rfl) (fun _ _ h => h.elim) ?_; refine WD.done zK ?_; refine WP.sub [(0, _), (1, _), (2, _), (3, _)] ?_ ⟨rfl, rfl, rfl, rfl, trivial⟩
        exact WP.mt Jn hle ⟨rfl, rfl, rfl, trivial⟩ rfl
       ·refine WP.oper rfl rfl ?_
        refine Op.cl (super_putI9 (k := 6) ⟨by decide, by decide⟩ ⟨by have := hm.upto; omega, by have := hm.upto; omega⟩) rfl Tryz.func153 rfl rfl rfl rfl ?_; rintro v J L1 - ⟨b17, rfl, rfl, rfl⟩
        try simp only [nf]
        refine WP.share (fun Jn hJn hb17 => ?_)
        replace hle := Imm.le_trans hle hJn
        try replace hb5 := hJn.2 _ _ hb5
        try replace hb8 := hJn.2 _ _ hb8
        try replace hb11 := hJn.2 _ _ hb11
        try replace hb14 := hJn.2 _ _ hb14
        try replace hmz := mark_mono9 hJn hmz
        refine WD.gR ?_; refine WD.loud (i := 2) zK rfl rfl rfl ?_; refine Op.mark (cs := bytesV [80, 83]) rfl Tryz.underlying25 zK rfl rfl rfl (by repeat (first | exact Rm.chunk | exact Rm.here | exact Rm.nil0 | apply Rm.skip | apply Rm.skipS)) (fun Jn hJn hmz => ?_)
        replace hle := Imm.le_trans hle hJn
        try replace hb5 := hJn.2 _ _ hb5
        try replace hb8 := hJn.2 _ _ hb8
        try replace hb11 := hJn.2 _ _ hb11
        try replace hb14 := hJn.2 _ _ hb14
        try replace hb17 := hJn.2 _ _ hb17
        refine WD.gR ?_; refine WD.loud (i := 18) zK rfl rfl rfl ?_; refine Op.buildSlice rfl ty_sl_116 ty_el2_116 rfl rfl rfl rfl (vs := [_, _, _, _, _, _]) rfl (segs := [(0, [_]), (1, [_]), (2, [_]), (3, [_]), (4, [_]), (5, [_])]) (cs := ([(.slice (some ⟨bz, 0, none⟩) 2 2, [80, 83]), (.slice (some ⟨b5, 0, none⟩) 4 4, leB s.no.toNat 4), (.slice (some ⟨b8, 0, none⟩) 6 6, leB s.place.toNat 6), (.slice (some ⟨b11, 0, none⟩) 5 5, leB s.first.toNat 5), (.slice (some ⟨b14, 0, none⟩) 4 4, leB s.era.toNat 4), (.slice (some ⟨b17, 0, none⟩) 6 6, leB s.upto.toNat 6)]).map (·.1)) rfl rfl zS (fun bx => ?_)
        refine WD.gR ?_; refine WD.loud (i := 19) zK rfl rfl rfl ?_; refine Op.cl (slices_Concat (bx := bx) (ls := [(.slice (some ⟨bz, 0, none⟩) 2 2, [80, 83]), (.slice (some ⟨b5, 0, none⟩) 4 4, leB s.no.toNat 4), (.slice (some ⟨b8, 0, none⟩) 6 6, leB s.place.toNat 6), (.slice (some ⟨b11, 0, none⟩) 5 5, leB s.first.toNat 5), (.slice (some ⟨b14, 0, none⟩) 4 4, leB s.era.toNat 4), (.slice (some ⟨b17, 0, none⟩) 6 6, leB s.upto.toNat 6)]) (by intro e he; simp only [List.mem_cons, List.not_mem_nil, or_false] at he; rcases he with rfl | rfl | rfl | rfl | rfl | rfl; exact Im_lit' hmz (Nat.le_refl _); exact (by have q := Im_lit (l := leB s.no.toNat 4) (sp := []) (c := 4) (by rw [List.append_nil]; exact hb5) (by rw [leB_len]; exact Nat.le_refl _); simpa [leB_len] using q); exact (by have q := Im_lit (l := leB s.place.toNat 6) (sp := []) (c := 6) (by rw [List.append_nil]; exact hb8) (by rw [leB_len]; exact Nat.le_refl _); simpa [leB_len] using q); exact (by have q := Im_lit (l := leB s.first.toNat 5) (sp := []) (c := 5) (by rw [List.append_nil]; exact hb11) (by rw [leB_len]; exact Nat.le_refl _); simpa [leB_len] using q); exact (by have q := Im_lit (l := leB s.era.toNat 4) (sp := []) (c := 4) (by rw [List.append_nil]; exact hb14) (by rw [leB_len]; exact Nat.le_refl _); simpa [leB_len] using q); exact (by have q := Im_lit (l := leB s.upto.toNat 6) (sp := []) (c := 6) (by rw [List.append_nil]; exact hb17) (by rw [leB_len]; exact Nat.le_refl _); simpa [leB_len] using q)) (by simp [total, leB_len]) (by simp [total, leB_len]) (Nat.le_of_ble_eq_true rfl)) rfl Tryz.func152 rfl rfl rfl rfl ?_
        rintro v J Lo - ⟨rfl, hown⟩
        try simp only [nf]
        have hown2 : Own 5 1 v (bytesV (body s)) 27 Lo := by have e : ([(.slice (some ⟨bz, 0, none⟩) 2 2, [80, 83]), (.slice (some ⟨b5, 0, none⟩) 4 4, leB s.no.toNat 4), (.slice (some ⟨b8, 0, none⟩) 6 6, leB s.place.toNat 6), (.slice (some ⟨b11, 0, none⟩) 5 5, leB s.first.toNat 5), (.slice (some ⟨b14, 0, none⟩) 4 4, leB s.era.toNat 4), (.slice (some ⟨b17, 0, none⟩) 6 6, leB s.upto.toNat 6)] : List (Value × List UInt8)).flatMap (·.2) = body s := (by simp [body]); have e2 : total ([(.slice (some ⟨bz, 0, none⟩) 2 2, [80, 83]), (.slice (some ⟨b5, 0, none⟩) 4 4, leB s.no.toNat 4), (.slice (some ⟨b8, 0, none⟩) 6 6, leB s.place.toNat 6), (.slice (some ⟨b11, 0, none⟩) 5 5, leB s.first.toNat 5), (.slice (some ⟨b14, 0, none⟩) 4 4, leB s.era.toNat 4), (.slice (some ⟨b17, 0, none⟩) 6 6, leB s.upto.toNat 6)] : List (Value × List UInt8)) = 27 := (by unfold total; rw [e, body_len]); rw [e, e2] at hown; exact hown
        refine WD.gR ?_; refine WD.loud (i := 20) zK rfl rfl rfl ?_; refine Op.copyB (k := 0) (m := 64) (m2 := 27) (q := 27) (old := List.replicate 64 0) (new := body s ++ List.replicate 37 0) (s := body s) rfl ty_sl_25 rfl rfl rfl rfl (SlAt.arr.sub (sz := 1) (Nat.zero_le _) (Nat.le_refl _)) (hown2.rd (by intro p hp; simp [hp])) rfl (by simp) (lay1 s) (by repeat (first | exact Upd.head | apply Upd.tail | apply Upd.tailS)) ?_; refine WD.go (.inl rfl) (fun _ _ h => h.elim) ?_; refine WD.done zK ?_; refine WP.sub [(0, _), (1, _), (2, _), (3, _)] ?_ ⟨rfl, rfl, rfl, rfl, trivial⟩
        exact WP.mt Jn hle ⟨rfl, rfl, rfl, trivial⟩ rfl
      ·refine WP.oper rfl rfl ?_
       refine Op.cl (super_putI9 (k := 6) ⟨by decide, by decide⟩ ⟨by have := hm.upto; omega, by have := hm.upto; omega⟩) rfl Tryz.func153 rfl rfl rfl rfl ?_; rintro v J L1 - ⟨b17, rfl, rfl, rfl⟩
       try simp only [nf]
       refine WP.share (fun Jn hJn hb17 => ?_)
       replace hle := Imm.le_trans hle hJn
       try replace hb5 := hJn.2 _ _ hb5
       try replace hb8 := hJn.2 _ _ hb8
       try replace hb11 := hJn.2 _ _ hb11
       try replace hb14 := hJn.2 _ _ hb14
       try replace hmz := mark_mono9 hJn hmz
       refine WD.gR ?_; refine WD.loud (i := 1) zK rfl rfl rfl ?_; refine Op.buildSlice rfl ty_sl_25 ty_el2_25 rfl rfl rfl rfl (vs := [_, _]) rfl (segs := [(0, [_]), (1, [_])]) (cs := bytesV [80, 83]) rfl rfl zS (fun bz => ?_)
       refine WD.gR ?_; refine WD.loud (i := 2) zK rfl rfl rfl ?_; refine Op.mark (cs := bytesV [80, 83]) rfl Tryz.underlying25 zK rfl rfl rfl (by repeat (first | exact Rm.chunk | exact Rm.here | exact Rm.nil0 | apply Rm.skip | apply Rm.skipS)) (fun Jn hJn hmz => ?_)
       replace hle := Imm.le_trans hle hJn
       try replace hb5 := hJn.2 _ _ hb5
       try replace hb8 := hJn.2 _ _ hb8
       try replace hb11 := hJn.2 _ _ hb11
       try replace hb14 := hJn.2 _ _ hb14
       try replace hb17 := hJn.2 _ _ hb17
       refine WD.gR ?_; refine WD.loud (i := 18) zK rfl rfl rfl ?_; refine Op.buildSlice rfl ty_sl_116 ty_el2_116 rfl rfl rfl rfl (vs := [_, _, _, _, _, _]) rfl (segs := [(0, [_]), (1, [_]), (2, [_]), (3, [_]), (4, [_]), (5, [_])]) (cs := ([(.slice (some ⟨bz, 0, none⟩) 2 2, [80, 83]), (.slice (some ⟨b5, 0, none⟩) 4 4, leB s.no.toNat 4), (.slice (some ⟨b8, 0, none⟩) 6 6, leB s.place.toNat 6), (.slice (some ⟨b11, 0, none⟩) 5 5, leB s.first.toNat 5), (.slice (some ⟨b14, 0, none⟩) 4 4, leB s.era.toNat 4), (.slice (some ⟨b17, 0, none⟩) 6 6, leB s.upto.toNat 6)]).map (·.1)) rfl rfl zS (fun bx => ?_)
       refine WD.gR ?_; refine WD.loud (i := 19) zK rfl rfl rfl ?_; refine Op.cl (slices_Concat (bx := bx) (ls := [(.slice (some ⟨bz, 0, none⟩) 2 2, [80, 83]), (.slice (some ⟨b5, 0, none⟩) 4 4, leB s.no.toNat 4), (.slice (some ⟨b8, 0, none⟩) 6 6, leB s.place.toNat 6), (.slice (some ⟨b11, 0, none⟩) 5 5, leB s.first.toNat 5), (.slice (some ⟨b14, 0, none⟩) 4 4, leB s.era.toNat 4), (.slice (some ⟨b17, 0, none⟩) 6 6, leB s.upto.toNat 6)]) (by intro e he; simp only [List.mem_cons, List.not_mem_nil, or_false] at he; rcases he with rfl | rfl | rfl | rfl | rfl | rfl; exact Im_lit' hmz (Nat.le_refl _); exact (by have q := Im_lit (l := leB s.no.toNat 4) (sp := []) (c := 4) (by rw [List.append_nil]; exact hb5) (by rw [leB_len]; exact Nat.le_refl _); simpa [leB_len] using q); exact (by have q := Im_lit (l := leB s.place.toNat 6) (sp := []) (c := 6) (by rw [List.append_nil]; exact hb8) (by rw [leB_len]; exact Nat.le_refl _); simpa [leB_len] using q); exact (by have q := Im_lit (l := leB s.first.toNat 5) (sp := []) (c := 5) (by rw [List.append_nil]; exact hb11) (by rw [leB_len]; exact Nat.le_refl _); simpa [leB_len] using q); exact (by have q := Im_lit (l := leB s.era.toNat 4) (sp := []) (c := 4) (by rw [List.append_nil]; exact hb14) (by rw [leB_len]; exact Nat.le_refl _); simpa [leB_len] using q); exact (by have q := Im_lit (l := leB s.upto.toNat 6) (sp := []) (c := 6) (by rw [List.append_nil]; exact hb17) (by rw [leB_len]; exact Nat.le_refl _); simpa [leB_len] using q)) (by simp [total, leB_len]) (by simp [total, leB_len]) (Nat.le_of_ble_eq_true rfl)) rfl Tryz.func152 rfl rfl rfl rfl ?_
       rintro v J Lo - ⟨rfl, hown⟩
       try simp only [nf]
       have hown2 : Own 5 1 v (bytesV (body s)) 27 Lo := by have e : ([(.slice (some ⟨bz, 0, none⟩) 2 2, [80, 83]), (.slice (some ⟨b5, 0, none⟩) 4 4, leB s.no.toNat 4), (.slice (some ⟨b8, 0, none⟩) 6 6, leB s.place.toNat 6), (.slice (some ⟨b11, 0, none⟩) 5 5, leB s.first.toNat 5), (.slice (some ⟨b14, 0, none⟩) 4 4, leB s.era.toNat 4), (.slice (some ⟨b17, 0, none⟩) 6 6, leB s.upto.toNat 6)] : List (Value × List UInt8)).flatMap (·.2) = body s := (by simp [body]); have e2 : total ([(.slice (some ⟨bz, 0, none⟩) 2 2, [80, 83]), (.slice (some ⟨b5, 0, none⟩) 4 4, leB s.no.toNat 4), (.slice (some ⟨b8, 0, none⟩) 6 6, leB s.place.toNat 6), (.slice (some ⟨b11, 0, none⟩) 5 5, leB s.first.toNat 5), (.slice (some ⟨b14, 0, none⟩) 4 4, leB s.era.toNat 4), (.slice (some ⟨b17, 0, none⟩) 6 6, leB s.upto.toNat 6)] : List (Value × List UInt8)) = 27 := (by unfold total; rw [e, body_len]); rw [e, e2] at hown; exact hown
       refine WD.gR ?_; refine WD.loud (i := 20) zK rfl rfl rfl ?_; refine Op.copyB (k := 0) (m := 64) (m2 := 27) (q := 27) (old := List.replicate 64 0) (new := body s ++ List.replicate 37 0) (s := body s) rfl ty_sl_25 rfl rfl rfl rfl (SlAt.arr.sub (sz := 1) (Nat.zero_le _) (Nat.le_refl _)) (hown2.rd (by intro p hp; simp [hp])) rfl (by simp) (lay1 s) (by repeat (first | exact Upd.head | apply Upd.tail | apply Upd.tailS)) ?_; refine WD.go (.inl rfl) (fun _ _ h => h.elim) ?_; refine WD.done zK ?_; refine WP.sub [(0, _), (1, _), (2, _), (3, _)] ?_ ⟨rfl, rfl, rfl, rfl, trivial⟩
       exact WP.mt Jn hle ⟨rfl, rfl, rfl, trivial⟩ rfl
 ·intro Jn hle; have hle : I.le Jn := hle
  refine WP.seq ?_; refine WD.start Tryzmixed 5 (fun _ _ => False) (fun _ _ => False) (fun _ _ h => h.elim) (fun _ _ h => h.elim) 6 [false, false, false, false, false, false] rfl rfl ?_; refine WD.vl (i := 0) rfl (Yld.sliceA rfl ty_ar_245 rfl (Env.limS (n := 52) rfl) Env.lim0 (Nat.le_of_ble_eq_true rfl) (Nat.le_refl _)) ?_; refine WD.vl (i := 1) rfl (Yld.sliceA rfl ty_ar_245 rfl Env.lim0 (Env.limS (n := 52) rfl) (Nat.zero_le _) (Nat.le_of_ble_eq_true rfl)) ?_; refine WD.loud (i := 2) zK rfl rfl rfl ?_; refine Op.cl (crc_OfPre (l := body s ++ List.replicate 37 0) (k := 52) (N := 64) (by decide) (by simp [body_len]) (by decide)) rfl Tryz.func154 rfl rfl rfl rfl ?_; rintro v J L1 - ⟨rfl, rfl, rfl⟩
  try simp only [nf]
  rw [lay2]
  refine WD.go (.inr (fun _ _ h => h.elim)) (fun _ _ h => h.elim) ?_; refine WD.vl (i := 3) rfl (Yld.conv64 rfl ty_un_260 ty_ik_3 rfl (by have := (crcOf (head s)).isLt; omega)) ?_; refine WD.loud (i := 4) zK rfl rfl rfl ?_; refine Op.cl (super_put9 (m := (crcOf (head s)).toNat) (k := 4) ⟨by decide, by decide⟩ (by have := (crcOf (head s)).isLt; omega)) rfl Tryz.func153 rfl rfl rfl rfl ?_; rintro v J L1 - ⟨b29, rfl, rfl, rfl⟩
  try simp only [nf]
  refine WD.go (.inr (fun _ _ h => h.elim)) (fun _ _ h => h.elim) ?_; refine WD.loud (i := 5) zK rfl rfl rfl ?_; refine Op.copyB (k := 52) (m := 12) (m2 := 4) (q := 4) (old := body s ++ List.replicate 37 0) (new := head s ++ ((leB (crcOf (head s)).toNat 4) ++ List.replicate 8 0)) (s := (leB (crcOf (head s)).toNat 4)) rfl ty_sl_25 rfl rfl rfl rfl (SlAt.arr.sub (sz := 1) (Nat.le_of_ble_eq_true rfl) (Nat.le_refl _)) (SlRd.lit zM (by rw [bytesV_len, leB_len]) (Nat.le_refl _)) rfl (by simp [body_len]) (lay3 s (leB_len _ _)) (by repeat (first | exact Upd.head | apply Upd.tail | apply Upd.tailS)) ?_; refine WD.go (.inl rfl) (fun _ _ h => h.elim) ?_; refine WD.done zK ?_; refine WP.sub [(1, _), (2, _), (3, _)] ?_ ⟨rfl, rfl, rfl, trivial⟩
  refine WP.next (WP.seq ?_)
  refine WD.start Tryzmixed 4 (fun b o => b = b1 ∧ o = row 37 (spV s)) (fun _ _ => False) (by rintro _ _ ⟨rfl, rfl⟩; exact zM) (fun _ _ h => h.elim) 5 [false, false, false, false, false] rfl rfl ?_; refine WD.vl (i := 0) rfl (Yld.sliceA rfl ty_ar_245 rfl (Env.limS (n := 56) rfl) Env.lim0 (Nat.le_of_ble_eq_true rfl) (Nat.le_refl _)) ?_; refine WD.vl (i := 1) rfl (Yld.fieldAddr rfl ty_fd_37_0 rfl) ?_; refine WD.val1 (i := 2) rfl rfl rfl rfl zK rfl zK (Yld.load rfl ty_sc_3 rfl (.inl ⟨rfl, rfl⟩) rfl) ?_; refine WD.loud (i := 3) zK rfl rfl rfl ?_; refine Op.cl (super_putI9 (k := 8) ⟨by decide, by decide⟩ ⟨by have := hm.no; omega, by have := hm.no; omega⟩) rfl Tryz.func153 rfl rfl rfl rfl ?_; rintro v J L1 - ⟨b34, rfl, rfl, rfl⟩
  try simp only [nf]
  refine WD.gR ?_; refine WD.loud (i := 4) zK rfl rfl rfl ?_; refine Op.copyB (k := 56) (m := 8) (m2 := 8) (q := 8) (old := head s ++ ((leB (crcOf (head s)).toNat 4) ++ List.replicate 8 0)) (new := enc s) (s := leB s.no.toNat 8) rfl ty_sl_25 rfl rfl rfl rfl (SlAt.arr.sub (sz := 1) (Nat.le_of_ble_eq_true rfl) (Nat.le_refl _)) (SlRd.lit zM (by rw [bytesV_len, leB_len]) (Nat.le_refl _)) rfl (by simp [head_len, leB_len]) (lay4 s (leB_len _ _) (leB_len _ _)) (by repeat (first | exact Upd.head | apply Upd.tail | apply Upd.tailS)) ?_; refine WD.go (.inl rfl) (fun _ _ h => h.elim) ?_; refine WD.done zK ?_; refine WP.sub [(1, _), (2, _), (3, _)] ?_ ⟨rfl, rfl, rfl, trivial⟩
  refine WP.next (WP.seq ?_)
  refine WP.region [0, 1] rfl ?_; refine WP.vl rfl (Yld.lda (cs := bytesV (enc s)) rfl ty_ag_245 rfl (by rw [bytesV_len, enc_len])) ?_; refine WP.loud rfl rfl ?_; refine Op.sA rfl rfl ty_sz_245 rfl rfl (by rw [bytesV_len, enc_len]) (bytesV_one _) (show (bytesV (List.replicate 64 0)).length = 64 by rw [bytesV_len]; rfl) ?_; refine WP.nil ?_; refine WP.sub [(1, _), (2, _), (3, _)] ?_ ⟨rfl, rfl, rfl, trivial⟩
  refine WP.next (WP.ret ?_)
  refine WP.fn .ret (.inr rfl) (resC rfl ty_ag_245 rfl zM (by rw [bytesV_len, enc_len])) [] hle ?_; exact ⟨rfl, rfl⟩


end Go.Hp
