/-
  A range over a function: the call of the function, handed yield; a round of the body.
-/
import Derived.Test.YtgcbhbcmohcdpaaGreatHpNum
import Derived.RangeFuncLeaves
import Derived.RangeFuncRecord
set_option linter.unusedVariables false
set_option linter.unusedSimpArgs false
namespace Go.Hp
open Go
section
variable {P : Program} {n m : Nat} {E : Env} {I : Imm} {L L' : Chunks} {Q : Exit → Act → World → Prop} {ops : Array Oper} {K K' : Act → World → Prop} {o : Oper}
theorem Has.putObj {b : Nat} {o o' : Obj} {W : World} (h : Has I L W) (u : Upd L b o o' L') : Has I L' (W.putObj b o') :=
  h.upd u rfl rfl rfl (World.putObj_heap_same (Array.getElem?_eq_some_iff.1 (h.own _ u.mem)).1) (fun c hc => World.putObj_heap_other hc)
theorem rows_in {row : String} {args : Array Value} {w : World} {R : Value → World → Prop} (h : Rows P row args w R) : RowsIn Fence.wide m P row args w R := fun c cs _ =>
  let ⟨v, w', r, s⟩ := h c cs; ⟨v, w', r, stepsIn_wide.2 s⟩
/-- An operation that is no defer statement goes in a round as everywhere. -/
theorem upon_in {a : Act} (lr : Option Nat) (hK : ∀ a w, K a w → K' a w) (hQ : ¬ LetsOut Q) : ∀ r : Result Next, o.upon P a K Q r → o.uponIn { Fence.wide with round := lr } m P a K' Q r
  | .ok (.value v) w', h => hK _ _ h
  | .ok .skip w', h => hK _ _ h
  | .ok (.defer d) w', h => hK _ _ h
  | .ok (.enter f args) w', h => ⟨fun hd => (by cases hd), by
      have h1 : Calls P f args w' _ := h
      have h2 := callsIn_wide (n := m - 1).2 (h1.mono (R' := fun
        | .returned v, w'' => K' (a.put o.dst v) w''
        | .panicked chain, w'' => Q (.panic chain) a w''
        | .outgrown, _ => LetsOut Q) (fun e w'' he => by cases e with
          | returned v => exact hK _ _ he
          | panicked c => exact he
          | outgrown => exact he))
      exact h2⟩
  | .ok (.row row args) w', h => ⟨fun hd => (by cases hd), by
      have h1 : Rows P row args w' _ := h
      exact rows_in (h1.mono fun v w'' he => hK _ _ he)⟩
  | .ok (.round ..) w', h => h.elim
  | .halt (.panic v) w', h => h
  | .ok (.callThen ..) w', h => h
  | .ok (.stack ..) w', h => h
  | .ok .recover w', h => h
  | .ok (.comm ..) w', h => h
  | .ok .numGoroutine w', h => h
  | .ok .collect w', h => h
  | .ok (.watch _) w', h => h
  | .ok (.newcoro ..) w', h => h
  | .ok (.coroswitch ..) w', h => h
  | .ok (.sleep _) w', h => h
  | .ok (.timer _) w', h => h
  | .ok (.alone ..) w', h => h
  | .ok (.spawn _) w', h => h
  | .halt .goexit w', h => h
  | .halt .blocked w', h => h
  | .halt .waiting w', h => h
  | .halt (.exit _) w', h => h
  | .halt (.fatal _) w', h => h
  | .halt (.throw _) w', h => h
  | .halt (.unsupported _) w', h => h
  | .halt (.stuck _) w', h => h
theorem wp_in {a : Act} {w : World} (lr : Option Nat) (hnd : ∀ c : Call, o.op ≠ Go.Op.defer c) (hK : ∀ a w, K a w → K' a w) (hQ : ¬ LetsOut Q) (h : o.wp P a w K Q) : o.wpIn { Fence.wide with round := lr } m P a w K' Q :=
  ⟨fun _ _ => trivial, by
    have e : o.semAt ({ Fence.wide with round := lr } : Fence).round a.eval = execOp a.eval o := Oper.semAt_eq _ _ _ hnd
    rw [e]; exact upon_in lr hK hQ _ h⟩
theorem wpOps_in (lr : Option Nat) (hnd : ∀ (i : Nat) (o : Oper), ops[i]? = some o → ∀ c : Call, o.op ≠ Go.Op.defer c) (hQ : ¬ LetsOut Q) : ∀ (l : List Nat) (a : Act) (w : World), wpOps P ops Q l a w → wpOpsIn { Fence.wide with round := lr } m P ops Q l a w
  | [], a, w, h => h
  | i :: r, a, w, h => by
    unfold wpOps at h
    unfold wpOpsIn
    cases ho : ops[i]? with
    | none => rw [ho] at h; exact wpOps_in lr hnd hQ r a w h
    | some o =>
      rw [ho] at h
      simp only at h ⊢
      split
      · rename_i hw
        rw [if_pos hw] at h
        rcases h with h | h
        · exact wp_in lr (hnd i o ho) (wpOps_in lr hnd hQ r) hQ h
        · exact absurd h.2 hQ
      · rename_i hw
        rw [if_neg hw] at h
        exact ⟨fun _ _ => trivial, wpOps_in lr hnd hQ r _ _ h⟩
/-- A region in a round. -/
theorem WP.regionIn {id : Nat} (lr : Option Nat) (l : List Nat) (hl : List.range ops.size = l) (hnd : (ops.toList.all fun o => match o.op with | .defer _ => false | _ => true) = true) (hQ : ¬ LetsOut Q) (h : WP n (wpOps P ops Q l) E I L) :
    WP n ((Code.region id ops false).wpIn { Fence.wide with round := lr } m P Q) E I L := .mk fun a W ha hW =>
  wpIn_region (wpOps_in lr (fun i o ho c he => by
    have h1 := List.all_eq_true.1 hnd o (by rw [Array.mem_toList_iff]; exact Array.mem_of_getElem? ho)
    rw [he] at h1; cases h1) hQ _ a W (by rw [hl]; exact h.out a W ha hW))
theorem noOut_onlyN {K : Act → World → Prop} : ¬ LetsOut (onlyN K) := fun ⟨_, _, h⟩ => h
theorem all_nd (hnd : (ops.toList.all fun o => match o.op with | .defer _ => false | _ => true) = true) : ∀ (i : Nat) (o : Oper), ops[i]? = some o → ∀ c : Call, o.op ≠ Go.Op.defer c := fun i o ho c he => by
  have h1 := List.all_eq_true.1 hnd o (by rw [Array.mem_toList_iff]; exact Array.mem_of_getElem? ho)
  rw [he] at h1; cases h1
/-- A region in a round that draws its order. -/
theorem WD.startIn {id : Nat} (lr : Option Nat) (hnd : (ops.toList.all fun o => match o.op with | .defer _ => false | _ => true) = true) (hm : P.follows .mixedOrders = true) (s : Nat) (V1 V2 : Nat → Obj → Prop) (h1 : SubL V1 I L) (h2 : SubL V2 I L) (fuel : Nat) (l : List Bool) (hf : ops.size = fuel) (hl : List.replicate fuel false = l)
    (h : WD P n ops (fun a w => Q .normal a w) s V1 V2 fuel l E I L) : WP n ((Code.region id ops true).wpIn { Fence.wide with round := lr } m P Q) E I L := by
  subst hf; subst hl
  refine .mk fun a w ha hw => ?_; have hw' := hw.drew
  have hl : (List.replicate ops.size false).toArray = Array.replicate ops.size false := by simp
  have H := h.out a _ ha hw'
  rw [hl] at H
  refine wpIn_mono (Q := onlyN fun a w => Q .normal a w) (wpIn_region_draw fun t => ?_) (fun e a w q => by cases e <;> first | exact q | exact q.elim)
  simp only [Region.schedule, hm, Bool.true_or, if_true]
  exact wpOps_in lr (all_nd hnd) noOut_onlyN _ a _ (wpAny_sound ops.size t _ a _ (wpAny_of_I _ _ _ _ (H Closed.start ⟨fun _ => h1.keeps hw', h2.keeps hw'⟩)))
/-- A region in which yield is called. -/
theorem WP.regionY {id : Nat} (l : List Nat) (hl : List.range ops.size = l) (h : WP n (wpOpsIn Fence.wide 0 P ops Q l) E I L) : WP n ((Code.region id ops false).wp P Q) E I L := .mk fun a W ha hW =>
  wpIn_wide.1 (wpIn_region (by rw [hl]; exact h.out a W ha hW))
theorem WPI.nil (h : WP n (fun a w => Q .normal a w) E I L) : WP n (wpOpsIn Fence.wide m P ops Q []) E I L := h
theorem WPI.val {i d : Nat} {r : List Nat} {o : Oper} {v : Value} (ho : ops[i]? = some o) (hg : o.guard = none) (hd : o.dst = some d) (hlt : Nat.blt d n = true) (y : Yld P n E (There I L) o v)
    (k : WP n (wpOpsIn Fence.wide m P ops Q r) ((d, v) :: E) I L) : WP n (wpOpsIn Fence.wide m P ops Q (i :: r)) E I L := .mk fun a W ha hW => by
  unfold wpOpsIn
  simp only [ho, Region.wanted, hg, if_true]
  refine ⟨fun _ _ => trivial, ?_⟩
  have e : o.semAt Fence.wide.round a.eval = execOp a.eval o := rfl
  rw [e, y a W ha (fun b o h => h.heap hW)]
  simp only [Oper.uponIn, hd]
  exact k.out _ _ (ha.put hlt v) hW
/-- What a call of yield does, in each state t: from t to t'. -/
def Yields (P : Program) (l : Nat) {X : Type} (I0 : X → Imm) (L0 : X → Chunks) (good : X → Value → Prop) (step : X → Value → X → Prop) : Prop :=
  ∀ (t : X) (v : Value) (F : Chunks) (W : World) (R : Ending → World → Prop), Has (I0 t) (L0 t ++ F) W → good t v →
    (∀ t' W', step t v t' → Has (I0 t') (L0 t' ++ F) W' → R (.returned (.bool true)) W') →
    ∃ f tmps assign body, (Instr.yield l #[v]).run P W = .ok (.round l f tmps assign body) W ∧ RoundIn Fence.wide 0 P l f tmps assign body W R
theorem WPI.yield {l : Nat} {X : Type} {I0 : X → Imm} {L0 : X → Chunks} {good : X → Value → Prop} {step : X → Value → X → Prop} (hY : Yields P l I0 L0 good step) {i d : Nat} {r : List Nat} {o : Oper} {v : Value} {x y : Operand} {ts : Array TypeId} {t : X} {F : Chunks}
    (ho : ops[i]? = some o) (hg : o.guard = none) (hd : o.dst = some d) (hlt : Nat.blt d n = true) (hop : o.op = .call { callee := .value x, args := #[y], argTypes := ts }) (hx : E.ev x = some (.func (.yield l) #[] #[])) (hy : E.ev y = some v)
    (hI : I = I0 t) (hL : Take L (L0 t) F) (hs : good t v) (k : ∀ t', step t v t' → WP n (wpOpsIn Fence.wide m P ops Q r) ((d, .bool true) :: E) (I0 t') (L0 t' ++ F)) : WP n (wpOpsIn Fence.wide m P ops Q (i :: r)) E I L := .mk fun a W ha hW => by
  subst hI
  obtain ⟨f, tmps, assign, body, e1, e2⟩ := hY t v F W (fun e W' => ∃ t', e = .returned (.bool true) ∧ step t v t' ∧ Has (I0 t') (L0 t' ++ F) W') (hW.perm hL.perm) hs (fun t' W' h1 h2 => ⟨t', rfl, h1, h2⟩)
  unfold wpOpsIn
  simp only [ho, Region.wanted, hg, if_true]
  refine ⟨fun _ _ => trivial, ?_⟩
  have e : o.semAt Fence.wide.round a.eval = execOp a.eval o := rfl
  have hrun : (execOp a.eval o).run P W = .ok (.round l f tmps assign body) W := by
    have h : (execOp a.eval o).run P W = (Instr.yield l #[v]).run P W := by
      simp [execOp, hop, resolve, Deferred.ofValue, Go.invoke, ha.ev hx, ha.ev hy]
    rw [h]; exact e1
  rw [e, hrun, Oper.uponIn_round]
  refine ⟨fun hd => (by cases hd), ?_⟩
  have e3 : RoundIn Fence.wide (m - 1) P l f tmps assign body W (fun e W' => ∃ t', e = .returned (.bool true) ∧ step t v t' ∧ Has (I0 t') (L0 t' ++ F) W') := ⟨e2.1, fun c cs _ => e2.2 c cs (room_wide _)⟩
  refine e3.mono ?_; rintro en W' ⟨t', rfl, h1, h2⟩
  simp only [hd]
  exact (k t' h1).out _ _ (ha.put hlt _) h2
theorem Yld.or8 {V : Nat → Obj → Prop} {X Y : Operand} {t t' : TypeId} (x y : UInt8) (hop : o.op = .binOp .or t X Y t') (hx : E.ev X = some (byteV x)) (hy : E.ev Y = some (byteV y)) : Yld P n E V o (byteV ⟨x.toBitVec ||| y.toBitVec⟩) :=
  Yld.arith hop hx hy fun W => by
    have e1 : BitVec.ofInt 8 (x.toNat : Int) = x.toBitVec := bv_ofInt x.toBitVec
    have e2 : BitVec.ofInt 8 (y.toNat : Int) = y.toBitVec := bv_ofInt y.toBitVec
    simp only [binOp, Op.intBits, IntKind.bits, e1, e2]
    simp only [wrap_u8, ne_eq, not_true_eq_false, if_false, Sem.run_pure]
    rfl
theorem Yld.quoU64 {V : Nat → Obj → Prop} {X Y : Operand} {t t' : TypeId} {a b : Nat} (hop : o.op = .binOp .quo t X Y t') (hx : E.ev X = some (.int .u64 (a : Int))) (hy : E.ev Y = some (.int .u64 (b : Int))) (h : a < 18446744073709551616 ∧ 0 < b) : Yld P n E V o (.int .u64 ((a / b : Nat) : Int)) :=
  Yld.arith hop hx hy fun W => by
    have h1 : (b : Int) ≠ 0 := by omega
    have h2 : (a : Int).tdiv (b : Int) = ((a / b : Nat) : Int) := (Int.ofNat_tdiv _ _).symm
    have h3 : a / b ≤ a := Nat.div_le_self a b
    have h4 : ∀ q : Nat, q ≤ a → IntKind.u64.wrap (q : Int) = (q : Int) := fun q hq => by simp [IntKind.wrap, IntKind.bits, IntKind.signed]; omega
    simp only [binOp, Op.intDiv, h1, if_false, h2, h4 _ h3, ne_eq, not_true_eq_false, Sem.run_pure]
/-- A number's bytes. -/
def numB (n : Nat) : List UInt8 := if h : n < 128 then [UInt8.ofNat n] else UInt8.ofNat (n % 128 + 128) :: numB (n / 128)
termination_by n
decreasing_by omega
theorem numB_lo {n : Nat} (h : n < 128) : numB n = [UInt8.ofNat n] := by rw [numB, dif_pos h]
theorem numB_hi {n : Nat} (h : ¬ n < 128) : numB n = UInt8.ofNat (n % 128 + 128) :: numB (n / 128) := by rw [numB, dif_neg h]
theorem numB_len : ∀ (k n : Nat), n < 128 ^ (k + 1) → (numB n).length ≤ k + 1
  | 0, n, h => by rw [numB_lo (by simpa using h)]; exact Nat.le_refl _
  | k + 1, n, h => by
    by_cases h1 : n < 128
    · rw [numB_lo h1]; simp
    · rw [numB_hi h1, List.length_cons]
      have := numB_len k (n / 128) (by rw [Nat.div_lt_iff_lt_mul (by decide)]; rw [Nat.pow_succ] at h; exact h)
      omega
theorem numB_pos (n : Nat) : 1 ≤ (numB n).length := by
  by_cases h : n < 128
  · rw [numB_lo h]; simp
  · rw [numB_hi h]; simp
theorem numB_10 {n : Nat} (h : n < 18446744073709551616) : (numB n).length ≤ 10 := numB_len 9 n (Nat.lt_of_lt_of_le h (by decide))
theorem or_hi (n : Nat) : (⟨(UInt8.ofNat n).toBitVec ||| (128 : UInt8).toBitVec⟩ : UInt8) = UInt8.ofNat (n % 128 + 128) := by
  apply UInt8.toNat_inj.1
  show ((UInt8.ofNat n).toBitVec ||| (128 : UInt8).toBitVec).toNat = _
  rw [BitVec.toNat_or]
  have e1 : (UInt8.ofNat n).toBitVec.toNat = n % 256 := by rw [UInt8.toNat_toBitVec, UInt8.toNat_ofNat']
  have e2 : ((128 : UInt8).toBitVec).toNat = 128 := rfl
  have e3 : (UInt8.ofNat (n % 128 + 128)).toNat = n % 128 + 128 := by rw [UInt8.toNat_ofNat']; omega
  rw [e1, e2, e3]
  have h : ∀ k : Fin 256, k.val ||| 128 = k.val % 128 + 128 := by decide +kernel
  have := h ⟨n % 256, Nat.mod_lt _ (by decide)⟩
  simp only at this
  rw [this]; omega
/-- The loop's record. -/
def rec0 (fn : FuncId) (tmps : Array Value) (ps : Array Tmp) (assign body : Code) (D : Nat) : Loop := { state := .ready, pending := none, fn, tmps, params := ps, assign, body, defers := D }
/-- A round whose body is walked. -/
theorem round_of {l D : Nat} {fn : FuncId} {tmps : Array Value} {p : Tmp} {assign body : Code} {v : Value} {W : World} {F : Chunks} {R : Ending → World → Prop}
    (htm : ∃ a0 : Act, tmps = a0.tmps ∧ EnvOk n E a0) (hp : Nat.blt p n = true) (hW : Has I ((l, .loop (rec0 fn tmps #[p] assign body D)) :: F) W)
    (h : WP n (assign.wpIn { Fence.wide with round := some l } 0 P (Exit.then (fun a w => ∃ w2, (Instr.beginRound l).run P w = .ok () w2 ∧ body.wpIn { Fence.wide with round := some l } 0 P (roundPost P l R) a w2) (fun _ _ _ => False))) ((p, v) :: E) I ((l, .loop (rec0 fn tmps #[p] assign body D)) :: F)) :
    ∃ f tmps' assign' body', (Instr.yield l #[v]).run P W = .ok (.round l f tmps' assign' body') W ∧ RoundIn Fence.wide 0 P l f tmps' assign' body' W R := by
  have hl := hW.own _ (List.mem_cons_self)
  refine ⟨fn, _, assign, body, run_yield hl rfl, ?_⟩
  have h2 : RoundIn ({ Fence.wide with round := some l } : Fence) 0 P l fn ((#[p].zip #[v]).foldl (fun t (p, v) => t.setIfInBounds p v) tmps) assign body W R := by
    obtain ⟨a0, rfl, ha0⟩ := htm
    refine roundIn_of_wpIn trivial ?_; have ha := ha0.put hp v
    have ht : (#[p].zip #[v]).foldl (fun (t : Array Value) (x : Tmp × Value) => t.setIfInBounds x.1 x.2) a0.tmps = a0.tmps.setIfInBounds p v := by simp
    have hact : ({ tmps := (#[p].zip #[v]).foldl (fun (t : Array Value) (x : Tmp × Value) => t.setIfInBounds x.1 x.2) a0.tmps, defers := [] } : Act) = a0.put (some p) v := by
      rw [ht]; have := ha0.defers; cases a0; simp_all [Act.put]
    exact hact ▸ h.out _ W ha hW
  exact h2
end
/-- The assignment and the body of a round: the record is ready, then busy, then ready again. -/
theorem WP.beginRound {P : Program} {n l D : Nat} {fn : FuncId} {tmps : Array Value} {ps : Array Tmp} {assign body : Code} {E : Env} {I : Imm} {L F : Chunks} {R : Ending → World → Prop} (ht : Take L [(l, .loop (rec0 fn tmps ps assign body D))] F)
    (h : WP n (body.wpIn { Fence.wide with round := some l } 0 P (roundPost P l R)) E I ((l, .loop { rec0 fn tmps ps assign body D with state := .busy }) :: F)) :
    WP n (fun a w => Exit.then (fun a w => ∃ w2, (Instr.beginRound l).run P w = .ok () w2 ∧ body.wpIn { Fence.wide with round := some l } 0 P (roundPost P l R) a w2) (fun _ _ _ => False) .normal a w) E I L := .mk fun a W ha hW => by
  have hW2 := hW.perm ht.perm
  have hl := hW2.own _ (List.mem_cons_self)
  exact ⟨_, run_beginRound hl rfl, h.out a _ ha (hW2.putObj Upd.head)⟩
theorem WP.endRound {P : Program} {n l D : Nat} {fn : FuncId} {tmps : Array Value} {ps : Array Tmp} {assign body : Code} {E : Env} {I : Imm} {L F : Chunks} {R : Ending → World → Prop} (ht : Take L [(l, .loop { rec0 fn tmps ps assign body D with state := .busy })] F)
    (h : ∀ W, Has I ((l, .loop (rec0 fn tmps ps assign body D)) :: F) W → R (.returned (.bool true)) W) :
    WP n (fun a w => roundPost P l R .normal a w) E I L := .mk fun a W ha hW => by
  have hW2 := hW.perm ht.perm
  have hl := hW2.own _ (List.mem_cons_self)
  exact ⟨_, _, run_endRound none hl, h _ (hW2.putObj Upd.head)⟩
theorem noOut_then {K : Act → World → Prop} : ¬ LetsOut (Exit.then K (fun _ _ _ => False)) := fun ⟨_, _, h⟩ => h
theorem WP.blockIn {P : Program} {n m : Nat} {F : Fence} {E : Env} {I : Imm} {L : Chunks} {Q : Exit → Act → World → Prop} {id : Nat} {c : Code} (h : WP n (c.wpIn F m P (Exit.inBlock id Q)) E I L) : WP n ((Code.block id c).wpIn F m P Q) E I L := .mk fun a W ha hW => wpIn_block (h.out a W ha hW)
/-- A function whose last statement is a range over a function: its end. -/
def PostM (P : Program) (fn : Func) (I : Imm) (F : Chunks) (R : Value → Imm → Chunks → Prop) : Exit → Act → World → Prop :=
  bodyPostM Fence.wide 0 P fn fun e W' => ∃ v J L', e = .returned v ∧ I.le J ∧ R v J L' ∧ Has J (L' ++ F) W'
theorem Spec.ofM {P : Program} {n : Nat} {I : Imm} {L : Chunks} {f : FuncId} {fn : Func} {c : Code} {args : List Value} {R : Value → Imm → Chunks → Prop} (hf : P.funcs[f]? = some fn) (hb : fn.body = some c) (hn : fn.ntmps = n) (hle : args.length ≤ n)
    (h : ∀ F, WP n (c.wp P (PostM P fn I F R)) (argsEnv args 0) I (L ++ F)) : Spec P f args I L R := fun F W hW => by
  refine callsIn_wide (n := 0).1 (callsIn_of_wp_marks hf hb trivial (wpIn_wide.2 ((h F).out _ _ ⟨rfl, ?_, ?_⟩ hW)))
  · simp [hn]; omega
  · intro i v hv
    obtain ⟨_, h2⟩ := argsEnv_get args 0 i v hv
    have hi : i < args.length := (List.getElem?_eq_some_iff.1 (by simpa using h2)).1
    simp only [Nat.sub_zero] at h2
    rw [Array.getElem?_append_left (by simpa using hi)]
    simpa using h2
/-- The statement, as the last one of a function without results: the function is called, handed yield. -/
theorem WP.rangeFunc {P : Program} {n : Nat} {E : Env} {I : Imm} {L L1 : Chunks} {id : Nat} {g : Operand} {p : Tmp} {assign body : Code} {gf : Nat} {us : List Value} {fnG fnC : Func} {F : Chunks} {R : Value → Imm → Chunks → Prop}
    (hg : E.ev g = some (.func (.func gf) #[] us.toArray)) (hf : P.funcs[gf]? = some fnG) (hfn : ((fnG.name == "runtime.NumGoroutine") || fnG.body.isNone) = false) (hres : fnC.results = #[]) (hL : PX L (L1 ++ F))
    (h : ∀ (fn : FuncId) (a : Act) (D : Nat), EnvOk n E a → Spec P gf (.func (.yield (D + 1)) #[] #[] :: us) I ((D + 1, .loop (rec0 fn a.tmps #[p] assign body D)) :: (D, .deferred (some [])) :: L1)
      (fun _ J L' => ∃ L2 L3, L' = (D + 1, .loop (rec0 fn a.tmps #[p] assign body D)) :: (D, .deferred (some [])) :: L2 ∧ L3.Sublist L2 ∧ R (.tuple #[]) J L3)) :
    WP n ((Code.block id (.rangeFunc g #[p] assign body)).wp P (PostM P fnC I F R)) E I L := .mk fun a W ha hW => by
  simp only [Bool.or_eq_false_iff] at hfn
  have hfn1 : fnG.name ≠ "runtime.NumGoroutine" := by simpa using hfn.1
  have hfn2 : fnG.body ≠ none := fun e => by simp [e] at hfn
  refine wp_block ?_; refine wpIn_wide (n := 0).1 (wpIn_rangeFunc fun fn _ => ?_)
  have hW1 : Has I ((W.heap.size + 1, .loop (rec0 fn a.tmps #[p] assign body W.heap.size)) :: (W.heap.size, .deferred (some [])) :: (L1 ++ F)) ((W.alloc (.deferred (some []))).alloc (.loop (rec0 fn a.tmps #[p] assign body W.heap.size))) := by
    have h1 := (hL.has hW).alloc (.deferred (some []))
    have h2 := h1.alloc (.loop (rec0 fn a.tmps #[p] assign body W.heap.size))
    rwa [World.size_alloc] at h2
  refine ⟨W.heap.size + 1, [{ target := .collected W.heap.size, args := #[] }], (W.alloc (.deferred (some []))).alloc (.loop (rec0 fn a.tmps #[p] assign body W.heap.size)), { target := .fn (.func gf) us.toArray, args := #[.func (.yield (W.heap.size + 1)) #[] #[]] }, (W.alloc (.deferred (some []))).alloc (.loop (rec0 fn a.tmps #[p] assign body W.heap.size)), gf,
    #[.func (.yield (W.heap.size + 1)) #[] #[]] ++ us.toArray, (W.alloc (.deferred (some []))).alloc (.loop (rec0 fn a.tmps #[p] assign body W.heap.size)), run_enterLoop_outer _ _ _ _ _, ?_, fun _ _ => trivial, ?_, fun hd => (by cases hd), ?_⟩
  · simp only [resolve, ha.ev hg]
    simp [go_sem]
  · simp [Go.invoke, callFunc, hf, hfn1, hfn2]
  · refine callsIn_wide.2 ?_
    have hs := (h fn a W.heap.size ha) F _ hW1
    have e1 : (#[.func (.yield (W.heap.size + 1)) #[] #[]] ++ us.toArray : Array Value) = (Value.func (.yield (W.heap.size + 1)) #[] #[] :: us).toArray := by simp
    rw [e1]
    refine hs.mono ?_; rintro e W2 ⟨v, J, L', rfl, hJ, ⟨L2, L3, rfl, hsub, hR⟩, hW2⟩
    have hl := hW2.own (W.heap.size + 1, _) (List.mem_cons_self)
    refine ⟨_, _, run_endLoop hl (by simp [rec0]), ?_⟩
    have hW3 : Has J ((W.heap.size + 1, .loop { rec0 fn a.tmps #[p] assign body W.heap.size with state := .exhausted }) :: (W.heap.size, .deferred (some [])) :: (L2 ++ F)) _ := hW2.putObj Upd.head
    have hk := hW3.own (W.heap.size, _) (List.mem_cons_of_mem _ List.mem_cons_self)
    have hW4 := hW3.putObj (.tail Upd.head) (o' := .deferred none)
    have hd : a.defers = [] := ha.defers
    show LeavesInM Fence.wide 0 P fnC a.tmps _ ([{ target := .collected W.heap.size, args := #[] }] ++ a.defers) .returning _
    rw [hd]
    refine ⟨by simp, .inl ⟨_, _, rfl, run_takeDeferred hk, ?_⟩⟩
    exact ⟨_, results_none hres _ _ _, _, J, L3, rfl, hJ, hR, hW4.drop.drop.sublist (hsub.append (List.Sublist.refl F))⟩
end Go.Hp
