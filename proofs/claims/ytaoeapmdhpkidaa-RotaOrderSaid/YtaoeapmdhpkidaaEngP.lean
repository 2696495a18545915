/-
  The proof engine, part P: the code of a function is named by the way that leads to it, so that goals stay small.
-/
import Derived.Test.YtaoeapmdhpkidaaEngE
namespace Go.Eng
def cl : Code → Code
  | .seq a _ => a
  | .cond _ a _ => a
  | .block _ b => b
  | .loop b => b
  | .scope b => b
  | c => c
def cr : Code → Code
  | .seq _ b => b
  | .cond _ _ b => b
  | c => c
def cops : Code → Array Oper
  | .region _ ops _ => ops
  | _ => #[]
def cid : Code → Nat
  | .region id _ _ => id
  | .block id _ => id
  | .exit id => id
  | _ => 0
def ccnd : Code → Operand
  | .cond c _ _ => c
  | _ => .tmp 0
def ck : Code → Nat
  | .skip => 0
  | .region _ _ false => 1
  | .region _ _ true => 2
  | .seq _ _ => 3
  | .cond _ _ _ => 4
  | .block _ _ => 5
  | .loop _ => 6
  | .exit _ => 7
  | .ret => 8
  | .label _ => 9
  | .scope _ => 10
  | .goto _ => 11
  | .rangeFunc _ _ _ _ => 12
  | .refuse _ => 13
def bodyOf (fn : Func) : Code := match fn.body with
  | some c => c
  | none => .skip
/-- Operation number i, laid open. -/
def opAt : List Oper → Nat → Option Oper
  | [], _ => none
  | ⟨a, b, c, d, e, f⟩ :: _, 0 => some ⟨a, b, c, d, e, f⟩
  | _ :: r, i + 1 => opAt r i
theorem opAt_eq : ∀ {l : List Oper} {i : Nat}, opAt l i = l[i]?
  | [], i => by simp [opAt]
  | _ :: _, 0 => rfl
  | _ :: r, i + 1 => by simp only [opAt, List.getElem?_cons_succ]; exact opAt_eq
theorem opAt_arr {ops : Array Oper} {i : Nat} {o : Option Oper} (h : opAt ops.toList i = o) : ops[i]? = o := by
  rw [opAt_eq] at h
  rw [← h]
  simp
/-- The operations from number i on. -/
def wpAt (P : Program) (ops : Array Oper) (Q : Exit → Act → World → Prop) (i : Nat) : Act → World → Prop := wpList P ops Q (ops.toList.drop i)
theorem FnSpec.enterP {P : Program} {f : FuncId} {fn : Func} {args : List Value} {I : PH} {Rpre : List Res} {Post : Value → List Res → Prop} {n : Nat}
    (hf : P.funcs[f]? = some fn) (hb : fn.body.isSome = true) (hn : fn.ntmps = n) (hle : Nat.ble args.length n = true)
    (h : ∀ w F, Nx ⟨P, n, w⟩ (argEnv args 0) I (Rpre ++ [F]) ((bodyOf fn).wp P (fnPost P fn I F w Post))) : FnSpec P f args I Rpre Post := by
  obtain ⟨c, hc⟩ := Option.isSome_iff_exists.1 hb
  have : bodyOf fn = c := by unfold bodyOf; rw [hc]
  rw [this] at h
  exact FnSpec.enter hf hc hn hle h
section
variable {C : Cx} {e e' : Env} {I : PH} {R R' : List Res} {K K' : Act → World → Prop} {Q : Exit → Act → World → Prop} {c : Code}
/-! Which kind of goal: the identity, failing at once elsewhere. -/
theorem Nx.is_at {ops : Array Oper} {i : Nat} (h : Nx C e I R (wpAt C.P ops Q i)) : Nx C e I R (wpAt C.P ops Q i) := h
theorem Nx.is_wp (h : Nx C e I R (c.wp C.P Q)) : Nx C e I R (c.wp C.P Q) := h
theorem Nx.is_mix {ops : Array Oper} {S : World → Prop} {l r : List Nat} (h : Nx C e I R (wpMix C.P ops Q S l r)) : Nx C e I R (wpMix C.P ops Q S l r) := h
theorem Nx.is_mixS {S : World → Prop} (h : Nx C e I R (fun a w => S w ∧ K a w)) : Nx C e I R (fun a w => S w ∧ K a w) := h
theorem Nx.p_seq (hk : ck c = 3) (h : Nx C e I R ((cl c).wp C.P (Exit.then ((cr c).wp C.P Q) Q))) : Nx C e I R (c.wp C.P Q) := by
  cases c <;> first | exact Nx.seq h | (simp [ck] at hk; done) | (rename_i d; cases d <;> simp [ck] at hk)
theorem Nx.p_skip (hk : ck c = 0) (h : Nx C e I R (Q .normal)) : Nx C e I R (c.wp C.P Q) := by
  cases c <;> first | exact Nx.skip h | (simp [ck] at hk; done) | (rename_i d; cases d <;> simp [ck] at hk)
theorem Nx.p_ret (hk : ck c = 8) (h : Nx C e I R (Q .ret)) : Nx C e I R (c.wp C.P Q) := by
  cases c <;> first | exact Nx.ret h | (simp [ck] at hk; done) | (rename_i d; cases d <;> simp [ck] at hk)
theorem Nx.p_label (hk : ck c = 9) (h : Nx C e I R (Q .normal)) : Nx C e I R (c.wp C.P Q) := by
  cases c <;> first | exact Nx.label h | (simp [ck] at hk; done) | (rename_i d; cases d <;> simp [ck] at hk)
theorem Nx.p_exit {id : Nat} (hk : ck c = 7) (hid : forced (cid c) = some id) (h : Nx C e I R (Q (.exit id))) : Nx C e I R (c.wp C.P Q) := by
  have hid := forced_eq hid
  subst hid
  cases c <;> first | exact Nx.exit h | (simp [ck] at hk; done) | (rename_i d; cases d <;> simp [ck] at hk)
theorem Nx.p_block {id : Nat} (hk : ck c = 5) (hid : forced (cid c) = some id) (h : Nx C e I R ((cl c).wp C.P (Exit.inBlock id Q))) : Nx C e I R (c.wp C.P Q) := by
  have hid := forced_eq hid
  subst hid
  cases c <;> first | exact Nx.block h | (simp [ck] at hk; done) | (rename_i d; cases d <;> simp [ck] at hk)
theorem Nx.p_region (hk : ck c = 1) (h : Nx C e I R (wpAt C.P (cops c) Q 0)) : Nx C e I R (c.wp C.P Q) := by
  cases c <;> first | (simp [ck] at hk; done) | skip
  rename_i id ops d
  cases d with
  | true => simp [ck] at hk
  | false =>
    intro a w ha hw
    have h1 := h a w ha hw
    unfold wpAt at h1
    rw [List.drop_zero] at h1
    exact wp_region_list h1
theorem Nx.p_t (hk : ck c = 4) (hc : evo e (ccnd c) = some (.bool true)) (h : Nx C e I R ((cl c).wp C.P Q)) : Nx C e I R (c.wp C.P Q) := by
  cases c <;> first | exact Nx.cond_true hc h | (simp [ck] at hk; done) | (rename_i d; cases d <;> simp [ck] at hk)
theorem Nx.p_f (hk : ck c = 4) (hc : evo e (ccnd c) = some (.bool false)) (h : Nx C e I R ((cr c).wp C.P Q)) : Nx C e I R (c.wp C.P Q) := by
  cases c <;> first | exact Nx.cond_false hc h | (simp [ck] at hk; done) | (rename_i d; cases d <;> simp [ck] at hk)
theorem Nx.p_dec {p : Prop} [Decidable p] (hk : ck c = 4) (hc : evo e (ccnd c) = some (.bool (decide p))) (ht : p → Nx C e I R ((cl c).wp C.P Q)) (hf : ¬p → Nx C e I R ((cr c).wp C.P Q)) : Nx C e I R (c.wp C.P Q) := by
  cases c <;> first | exact Nx.cond_dec hc ht hf | (simp [ck] at hk; done) | (rename_i d; cases d <;> simp [ck] at hk)
theorem Nx.p_bool {b : Bool} (hk : ck c = 4) (hc : evo e (ccnd c) = some (.bool b)) (ht : b = true → Nx C e I R ((cl c).wp C.P Q)) (hf : b = false → Nx C e I R ((cr c).wp C.P Q)) : Nx C e I R (c.wp C.P Q) := by
  cases c <;> first | exact Nx.cond_bool hc ht hf | (simp [ck] at hk; done) | (rename_i d; cases d <;> simp [ck] at hk)
theorem Nx.p_dec_t {p : Prop} [Decidable p] (hk : ck c = 4) (hc : evo e (ccnd c) = some (.bool (decide p))) (hp : p) (h : Nx C e I R ((cl c).wp C.P Q)) : Nx C e I R (c.wp C.P Q) := Nx.p_dec hk hc (fun _ => h) (fun hn => absurd hp hn)
theorem Nx.p_dec_f {p : Prop} [Decidable p] (hk : ck c = 4) (hc : evo e (ccnd c) = some (.bool (decide p))) (hp : ¬p) (h : Nx C e I R ((cr c).wp C.P Q)) : Nx C e I R (c.wp C.P Q) := Nx.p_dec hk hc (fun hn => absurd hn hp) (fun _ => h)
theorem Nx.p_draw {id : Nat} (hid : cid c = id) (ord loud : List Nat) (R0 : List Res) (hk : ck c = 2) (hm : C.P.follows .mixedOrders = true) (hs : Region.noSelect (cops c) = true) (hok : mixOk (cops c) loud ord (Array.replicate (cops c).size false) = true) (hlen : Nat.ble ord.length (cops c).size = true) (hQ : PanicOk Q) (hR : Ent R R0)
    (h : Nx C e I R (wpMix C.P (cops c) Q (St C.W I R0) loud ord)) : Nx C e I R (c.wp C.P Q) := by
  have hc : c = .region (cid c) (cops c) true := by
    cases c <;> first | (simp [ck] at hk; done) | skip
    rename_i b
    cases b with
    | false => simp [ck] at hk
    | true => rfl
  clear hid
  rw [hc]
  exact Nx.draw ord loud R0 hm hs hok hlen hQ hR h
theorem Nx.p_loop {σ : Type} (E : σ → Env) (T : σ → List Res) (ok : σ → Prop) (μ : σ → Nat) (s0 : σ) (hk : ck c = 6) (h0 : ok s0) (he : EnvSub (E s0) e) (hR : Ent R (T s0))
    (round : ∀ s, ok s → Nx C (E s) I (T s) ((cl c).wp C.P (Exit.then (Again C E I T ok μ s) Q))) : Nx C e I R (c.wp C.P Q) := by
  cases c <;> first | exact Nx.loop E T ok μ s0 h0 he hR round | (simp [ck] at hk; done) | (rename_i d; cases d <;> simp [ck] at hk)

/-! ### The operations of a region -/
variable {ops : Array Oper} {i : Nat} {o : Oper}
theorem drop_of {ops : Array Oper} {i : Nat} {o : Oper} (ho : ops[i]? = some o) : ops.toList.drop i = o :: ops.toList.drop (i + 1) := by
  obtain ⟨hlt, he⟩ := Array.getElem?_eq_some_iff.1 ho
  rw [List.drop_eq_getElem_cons (by simpa using hlt)]
  congr 1
theorem Nx.at_end (ho : opAt ops.toList i = none) (h : Nx C e I R (Q .normal)) : Nx C e I R (wpAt C.P ops Q i) := by
  unfold wpAt
  rw [List.drop_eq_nil_of_le (by have := Array.getElem?_eq_none_iff.1 (opAt_arr ho); simpa using this)]
  exact Nx.nil h
theorem Nx.at_endt (ho : opAt ops.toList i = none) (h : Nx C e I R K) : Nx C e I R (wpAt C.P ops (Exit.then K Q) i) := Nx.at_end ho h
theorem Nx.at_op (ho : opAt ops.toList i = some o) (hg : o.guard = none) (h : Nx C e I R (opK C.P o (wpAt C.P ops Q (i + 1)) Q)) : Nx C e I R (wpAt C.P ops Q i) := by
  unfold wpAt at *
  rw [drop_of (opAt_arr ho)]
  exact Nx.cons hg h
theorem Nx.at_do {j d : Nat} {want : Bool} (ho : opAt ops.toList i = some o) (hg : o.guard = some (j, want)) (hd : (ops[j]?).bind (·.dst) = some d) (hb : lk e d = some (.bool want)) (h : Nx C e I R (opK C.P o (wpAt C.P ops Q (i + 1)) Q)) : Nx C e I R (wpAt C.P ops Q i) := by
  unfold wpAt at *
  rw [drop_of (opAt_arr ho)]
  exact Nx.cons_do hg hd hb h
theorem Nx.at_no {j d t : Nat} {want : Bool} (ho : opAt ops.toList i = some o) (hg : o.guard = some (j, want)) (hd : (ops[j]?).bind (·.dst) = some d) (hb : lk e d = some (.bool (!want))) (ht : o.dst = some t) (hlt : Nat.blt t C.n = true)
    (h : Nx C ((t, undef) :: e) I R (wpAt C.P ops Q (i + 1))) : Nx C e I R (wpAt C.P ops Q i) := by
  unfold wpAt at *
  rw [drop_of (opAt_arr ho)]
  exact Nx.cons_no hg hd hb ht hlt h
theorem Nx.at_no0 {j d : Nat} {want : Bool} (ho : opAt ops.toList i = some o) (hg : o.guard = some (j, want)) (hd : (ops[j]?).bind (·.dst) = some d) (hb : lk e d = some (.bool (!want))) (ht : o.dst = none)
    (h : Nx C e I R (wpAt C.P ops Q (i + 1))) : Nx C e I R (wpAt C.P ops Q i) := by
  unfold wpAt at *
  rw [drop_of (opAt_arr ho)]
  intro a w ha hw
  unfold wpList
  rw [if_neg (by simp [Region.wanted, hg, yielded_of ha hd hb]), ht]
  exact h _ w ha hw
theorem Nx.at_split {j d : Nat} {want : Bool} {p : Prop} [Decidable p] (ho : opAt ops.toList i = some o) (hg : o.guard = some (j, want)) (hd : (ops[j]?).bind (·.dst) = some d) (hb : lk e d = some (.bool (decide p)))
    (ht : p → Nx C ((d, .bool true) :: e) I R (wpAt C.P ops Q i)) (hf : ¬p → Nx C ((d, .bool false) :: e) I R (wpAt C.P ops Q i)) : Nx C e I R (wpAt C.P ops Q i) :=
  have _ := ho; have _ := hg; have _ := hd; Nx.force d hb ht hf
theorem Nx.at_splitb {j d : Nat} {want b : Bool} (ho : opAt ops.toList i = some o) (hg : o.guard = some (j, want)) (hd : (ops[j]?).bind (·.dst) = some d) (hb : lk e d = some (.bool b))
    (ht : b = true → Nx C ((d, .bool true) :: e) I R (wpAt C.P ops Q i)) (hf : b = false → Nx C ((d, .bool false) :: e) I R (wpAt C.P ops Q i)) : Nx C e I R (wpAt C.P ops Q i) :=
  have _ := ho; have _ := hg; have _ := hd; Nx.force_bool d hb ht hf

theorem Nx.at_dec_t {j d : Nat} {want : Bool} {p : Prop} [Decidable p] (ho : opAt ops.toList i = some o) (hg : o.guard = some (j, want)) (hd : (ops[j]?).bind (·.dst) = some d) (hb : lk e d = some (.bool (decide p))) (hp : p)
    (ht : Nx C ((d, .bool true) :: e) I R (wpAt C.P ops Q i)) : Nx C e I R (wpAt C.P ops Q i) := Nx.at_split ho hg hd hb (fun _ => ht) (fun h => absurd hp h)
theorem Nx.at_dec_f {j d : Nat} {want : Bool} {p : Prop} [Decidable p] (ho : opAt ops.toList i = some o) (hg : o.guard = some (j, want)) (hd : (ops[j]?).bind (·.dst) = some d) (hb : lk e d = some (.bool (decide p))) (hp : ¬p)
    (ht : Nx C ((d, .bool false) :: e) I R (wpAt C.P ops Q i)) : Nx C e I R (wpAt C.P ops Q i) := Nx.at_split ho hg hd hb (fun h => absurd h hp) (fun _ => ht)
/-! ### The operations of a region whose order is open -/
variable {S : World → Prop} {loud r : List Nat} {k d : Nat} {v : Value}
theorem Nx.m_quiet (ho : opAt ops.toList k = some o) (hl : loud.contains k = false) (hg : o.guard = none) (hd : o.dst = some d) (hlt : Nat.blt d C.n = true) (hrun : QRun C e S o v) (h : Nx C ((d, v) :: e) I R (wpMix C.P ops Q S loud r)) : Nx C e I R (wpMix C.P ops Q S loud (k :: r)) := Nx.mix_q (opAt_arr ho) hl hg hd hlt hrun h
theorem Nx.m_quiet_do {j dj : Nat} {want : Bool} (ho : opAt ops.toList k = some o) (hl : loud.contains k = false) (hg : o.guard = some (j, want)) (hdj : (ops[j]?).bind (·.dst) = some dj) (hb : lk e dj = some (.bool want)) (hd : o.dst = some d) (hlt : Nat.blt d C.n = true) (hrun : QRun C e S o v)
    (h : Nx C ((d, v) :: e) I R (wpMix C.P ops Q S loud r)) : Nx C e I R (wpMix C.P ops Q S loud (k :: r)) := Nx.mix_q_do (opAt_arr ho) hl hg hdj hb hd hlt hrun h
theorem Nx.m_quiet_no {j dj : Nat} {want : Bool} (ho : opAt ops.toList k = some o) (hl : loud.contains k = false) (hg : o.guard = some (j, want)) (hdj : (ops[j]?).bind (·.dst) = some dj) (hb : lk e dj = some (.bool (!want))) (hd : o.dst = some d) (hlt : Nat.blt d C.n = true)
    (h : Nx C ((d, undef) :: e) I R (wpMix C.P ops Q S loud r)) : Nx C e I R (wpMix C.P ops Q S loud (k :: r)) := Nx.mix_q_no (opAt_arr ho) hl hg hdj hb hd hlt h
theorem Nx.m_loud (ho : opAt ops.toList k = some o) (hl : loud.contains k = true) (hg : o.guard = none) (h : Nx C e I R (opK C.P o (fun a w => S w ∧ wpMix C.P ops Q S loud r a w) Q)) : Nx C e I R (wpMix C.P ops Q S loud (k :: r)) := Nx.mix_l (opAt_arr ho) hl hg h
theorem Nx.m_loud_do {j dj : Nat} {want : Bool} (ho : opAt ops.toList k = some o) (hl : loud.contains k = true) (hg : o.guard = some (j, want)) (hdj : (ops[j]?).bind (·.dst) = some dj) (hb : lk e dj = some (.bool want))
    (h : Nx C e I R (opK C.P o (fun a w => S w ∧ wpMix C.P ops Q S loud r a w) Q)) : Nx C e I R (wpMix C.P ops Q S loud (k :: r)) := Nx.mix_l_do (opAt_arr ho) hl hg hdj hb h
theorem Nx.m_loud_no {j dj : Nat} {want : Bool} (ho : opAt ops.toList k = some o) (hl : loud.contains k = true) (hg : o.guard = some (j, want)) (hdj : (ops[j]?).bind (·.dst) = some dj) (hb : lk e dj = some (.bool (!want))) (hd : o.dst = some d) (hlt : Nat.blt d C.n = true)
    (h : Nx C ((d, undef) :: e) I R (fun a w => S w ∧ wpMix C.P ops Q S loud r a w)) : Nx C e I R (wpMix C.P ops Q S loud (k :: r)) := Nx.mix_l_no (opAt_arr ho) hl hg hdj hb hd hlt h
theorem Nx.m_split {j dj : Nat} {want : Bool} {p : Prop} [Decidable p] (ho : opAt ops.toList k = some o) (hg : o.guard = some (j, want)) (hdj : (ops[j]?).bind (·.dst) = some dj) (hb : lk e dj = some (.bool (decide p)))
    (ht : p → Nx C ((dj, .bool true) :: e) I R (wpMix C.P ops Q S loud (k :: r))) (hf : ¬p → Nx C ((dj, .bool false) :: e) I R (wpMix C.P ops Q S loud (k :: r))) : Nx C e I R (wpMix C.P ops Q S loud (k :: r)) :=
  have _ := ho; have _ := hg; have _ := hdj; Nx.force dj hb ht hf
theorem Nx.m_splitb {j dj : Nat} {want b : Bool} (ho : opAt ops.toList k = some o) (hg : o.guard = some (j, want)) (hdj : (ops[j]?).bind (·.dst) = some dj) (hb : lk e dj = some (.bool b))
    (ht : b = true → Nx C ((dj, .bool true) :: e) I R (wpMix C.P ops Q S loud (k :: r))) (hf : b = false → Nx C ((dj, .bool false) :: e) I R (wpMix C.P ops Q S loud (k :: r))) : Nx C e I R (wpMix C.P ops Q S loud (k :: r)) :=
  have _ := ho; have _ := hg; have _ := hdj; Nx.force_bool dj hb ht hf

theorem Nx.m_dec_t {j dj : Nat} {want : Bool} {p : Prop} [Decidable p] (ho : opAt ops.toList k = some o) (hg : o.guard = some (j, want)) (hdj : (ops[j]?).bind (·.dst) = some dj) (hb : lk e dj = some (.bool (decide p))) (hp : p)
    (ht : Nx C ((dj, .bool true) :: e) I R (wpMix C.P ops Q S loud (k :: r))) : Nx C e I R (wpMix C.P ops Q S loud (k :: r)) := Nx.m_split ho hg hdj hb (fun _ => ht) (fun h => absurd hp h)
theorem Nx.m_dec_f {j dj : Nat} {want : Bool} {p : Prop} [Decidable p] (ho : opAt ops.toList k = some o) (hg : o.guard = some (j, want)) (hdj : (ops[j]?).bind (·.dst) = some dj) (hb : lk e dj = some (.bool (decide p))) (hp : ¬p)
    (ht : Nx C ((dj, .bool false) :: e) I R (wpMix C.P ops Q S loud (k :: r))) : Nx C e I R (wpMix C.P ops Q S loud (k :: r)) := Nx.m_split ho hg hdj hb (fun h => absurd h hp) (fun _ => ht)

/-! ### Ways that meet again -/
def isIf (c : Code) (id : Nat) : Bool := Nat.beq (ck c) 3 && Nat.beq (ck (cl c)) 3 && (Nat.beq (ck (cl (cl c))) 1 || Nat.beq (ck (cl (cl c))) 2) && Nat.beq (cid (cl (cl c))) id && Nat.beq (ck (cr (cl c))) 4
def isBlk (c : Code) (id : Nat) : Bool := Nat.beq (ck c) 3 && Nat.beq (ck (cl c)) 5 && Nat.beq (cid (cl c)) id
def isReg (c : Code) (id : Nat) : Bool := Nat.beq (ck c) 3 && (Nat.beq (ck (cl c)) 1 || Nat.beq (ck (cl c)) 2) && Nat.beq (cid (cl c)) id
theorem Nx.p_stop (id : Nat) (hi : isIf c id = true) (h : Nx C e I R (Stop (c.wp C.P Q))) : Nx C e I R (c.wp C.P Q) := have _ := hi; h
theorem Nx.p_stopb (id : Nat) (hi : isBlk c id = true) (h : Nx C e I R (Stop (c.wp C.P Q))) : Nx C e I R (c.wp C.P Q) := have _ := hi; h
theorem Nx.p_stopr (id : Nat) (hi : isReg c id = true) (h : Nx C e I R (Stop (c.wp C.P Q))) : Nx C e I R (c.wp C.P Q) := have _ := hi; h
theorem Nx.p_go (hk : ck c = 3) (h : Nx C e I R ((cl c).wp C.P (Exit.then ((cr c).wp C.P Q) Q))) : Nx C e I R (Stop (c.wp C.P Q)) := Nx.p_seq hk h
theorem Nx.p_merge {σ : Type} (E : σ → Env) (T : σ → List Res) (ok : σ → Prop) (hk : ck c = 3) (h1 : Nx C e I R ((cl c).wp C.P (Exit.then (Upto C E I T ok) Q))) (h2 : ∀ s, ok s → Nx C (E s) I (T s) ((cr c).wp C.P Q)) : Nx C e I R (Stop (c.wp C.P Q)) := by
  cases c <;> first | exact Nx.merge E T ok h1 h2 | (simp [ck] at hk; done) | (rename_i d; cases d <;> simp [ck] at hk)
end
end Go.Eng
