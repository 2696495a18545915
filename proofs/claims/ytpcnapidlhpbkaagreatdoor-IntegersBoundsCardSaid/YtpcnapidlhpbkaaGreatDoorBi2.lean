/- Contracts of functions of the given program, and lemmas. -/
import Derived.ChangeSame
import Derived.ChangeSlices
import Derived.Carry
import Derived.OpenShut
import Derived.Test.YtpcnapidlhpbkaaGreatDoorProg
import Derived.Test.YtpcnapidlhpbkaaGreatDoorBi1
set_option maxHeartbeats 32000000
namespace Go.Eng
def cl : Code → Code
  | .seq a _ => a
  | .cond _ a _ => a
  | .block _ b => b
  | .loop b => b
  | .scope b => b
  | c => c
def cr : Code → Code
  | .seq _ b => b
  | .cond _ _ b => b
  | c => c
def cops : Code → Array Oper
  | .region _ ops _ => ops
  | _ => #[]
def cid : Code → Nat
  | .region id _ _ => id
  | .block id _ => id
  | .exit id => id
  | _ => 0
def ccnd : Code → Operand
  | .cond c _ _ => c
  | _ => .tmp 0
def ck : Code → Nat
  | .skip => 0
  | .region _ _ false => 1
  | .region _ _ true => 2
  | .seq _ _ => 3
  | .cond _ _ _ => 4
  | .block _ _ => 5
  | .loop _ => 6
  | .exit _ => 7
  | .ret => 8
  | .label _ => 9
  | .scope _ => 10
  | .goto _ => 11
  | .rangeFunc _ _ _ _ => 12
  | .refuse _ => 13
def bodyOf (fn : Func) : Code := match fn.body with
  | some c => c
  | none => .skip
def opAt : List Oper → Nat → Option Oper
  | [], _ => none
  | ⟨a, b, c, d, e, f⟩ :: _, 0 => some ⟨a, b, c, d, e, f⟩
  | _ :: r, i + 1 => opAt r i
theorem opAt_eq : ∀ {l : List Oper} {i : Nat}, opAt l i = l[i]?
  | [], i => by simp [opAt]
  | _ :: _, 0 => rfl
  | _ :: r, i + 1 => by simp only [opAt, List.getElem?_cons_succ]; exact opAt_eq
theorem opAt_arr {ops : Array Oper} {i : Nat} {o : Option Oper} (h : opAt ops.toList i = o) : ops[i]? = o := by
  rw [opAt_eq] at h
  rw [← h]
  simp
def wpAt (P : Program) (ops : Array Oper) (Q : Exit → Act → World → Prop) (i : Nat) : Act → World → Prop := wpList P ops Q (ops.toList.drop i)
theorem FnSpec.enterP {P : Program} {f : FuncId} {fn : Func} {args : List Value} {I : PH} {Rpre : List Res} {Post : Value → List Res → Prop} {n : Nat}
    (hf : P.funcs[f]? = some fn) (hb : fn.body.isSome = true) (hn : fn.ntmps = n) (hle : Nat.ble args.length n = true)
    (h : ∀ w F, Nx ⟨P, n, w⟩ (argEnv args 0) I (Rpre ++ [F]) ((bodyOf fn).wp P (fnPost P fn I F w Post))) : FnSpec P f args I Rpre Post := by
  obtain ⟨c, hc⟩ := Option.isSome_iff_exists.1 hb
  have : bodyOf fn = c := by unfold bodyOf; rw [hc]
  rw [this] at h
  exact FnSpec.enter hf hc hn hle h
section
variable {C : Cx} {e e' : Env} {I : PH} {R R' : List Res} {K K' : Act → World → Prop} {Q : Exit → Act → World → Prop} {c : Code}
theorem Nx.is_at {ops : Array Oper} {i : Nat} (h : Nx C e I R (wpAt C.P ops Q i)) : Nx C e I R (wpAt C.P ops Q i) := h
theorem Nx.is_wp (h : Nx C e I R (c.wp C.P Q)) : Nx C e I R (c.wp C.P Q) := h
theorem Nx.is_mix {ops : Array Oper} {S : World → Prop} {l r : List Nat} (h : Nx C e I R (wpMix C.P ops Q S l r)) : Nx C e I R (wpMix C.P ops Q S l r) := h
theorem Nx.p_seq (hk : ck c = 3) (h : Nx C e I R ((cl c).wp C.P (Exit.then ((cr c).wp C.P Q) Q))) : Nx C e I R (c.wp C.P Q) := by
  cases c <;> first | exact Nx.seq h | (simp [ck] at hk; done) | (rename_i d; cases d <;> simp [ck] at hk)
theorem Nx.p_skip (hk : ck c = 0) (h : Nx C e I R (Q .normal)) : Nx C e I R (c.wp C.P Q) := by
  cases c <;> first | exact Nx.skip h | (simp [ck] at hk; done) | (rename_i d; cases d <;> simp [ck] at hk)
theorem Nx.p_ret (hk : ck c = 8) (h : Nx C e I R (Q .ret)) : Nx C e I R (c.wp C.P Q) := by
  cases c <;> first | exact Nx.ret h | (simp [ck] at hk; done) | (rename_i d; cases d <;> simp [ck] at hk)
theorem Nx.p_label (hk : ck c = 9) (h : Nx C e I R (Q .normal)) : Nx C e I R (c.wp C.P Q) := by
  cases c <;> first | exact Nx.label h | (simp [ck] at hk; done) | (rename_i d; cases d <;> simp [ck] at hk)
theorem Nx.p_exit {id : Nat} (hk : ck c = 7) (hid : forced (cid c) = some id) (h : Nx C e I R (Q (.exit id))) : Nx C e I R (c.wp C.P Q) := by
  have hid := forced_eq hid
  subst hid
  cases c <;> first | exact Nx.exit h | (simp [ck] at hk; done) | (rename_i d; cases d <;> simp [ck] at hk)
theorem Nx.p_block {id : Nat} (hk : ck c = 5) (hid : forced (cid c) = some id) (h : Nx C e I R ((cl c).wp C.P (Exit.inBlock id Q))) : Nx C e I R (c.wp C.P Q) := by
  have hid := forced_eq hid
  subst hid
  cases c <;> first | exact Nx.block h | (simp [ck] at hk; done) | (rename_i d; cases d <;> simp [ck] at hk)
theorem Nx.p_region (hk : ck c = 1) (h : Nx C e I R (wpAt C.P (cops c) Q 0)) : Nx C e I R (c.wp C.P Q) := by
  cases c <;> first | (simp [ck] at hk; done) | skip
  rename_i id ops d
  cases d with
  | true => simp [ck] at hk
  | false =>
    intro a w ha hw
    have h1 := h a w ha hw
    unfold wpAt at h1
    rw [List.drop_zero] at h1
    exact wp_region_list h1
theorem Nx.p_t (hk : ck c = 4) (hc : evo e (ccnd c) = some (.bool true)) (h : Nx C e I R ((cl c).wp C.P Q)) : Nx C e I R (c.wp C.P Q) := by
  cases c <;> first | exact Nx.cond_true hc h | (simp [ck] at hk; done) | (rename_i d; cases d <;> simp [ck] at hk)
theorem Nx.p_f (hk : ck c = 4) (hc : evo e (ccnd c) = some (.bool false)) (h : Nx C e I R ((cr c).wp C.P Q)) : Nx C e I R (c.wp C.P Q) := by
  cases c <;> first | exact Nx.cond_false hc h | (simp [ck] at hk; done) | (rename_i d; cases d <;> simp [ck] at hk)
theorem Nx.p_dec {p : Prop} [Decidable p] (hk : ck c = 4) (hc : evo e (ccnd c) = some (.bool (decide p))) (ht : p → Nx C e I R ((cl c).wp C.P Q)) (hf : ¬p → Nx C e I R ((cr c).wp C.P Q)) : Nx C e I R (c.wp C.P Q) := by
  cases c <;> first | exact Nx.cond_dec hc ht hf | (simp [ck] at hk; done) | (rename_i d; cases d <;> simp [ck] at hk)
theorem Nx.p_bool {b : Bool} (hk : ck c = 4) (hc : evo e (ccnd c) = some (.bool b)) (ht : b = true → Nx C e I R ((cl c).wp C.P Q)) (hf : b = false → Nx C e I R ((cr c).wp C.P Q)) : Nx C e I R (c.wp C.P Q) := by
  cases c <;> first | exact Nx.cond_bool hc ht hf | (simp [ck] at hk; done) | (rename_i d; cases d <;> simp [ck] at hk)
theorem Nx.p_dec_t {p : Prop} [Decidable p] (hk : ck c = 4) (hc : evo e (ccnd c) = some (.bool (decide p))) (hp : p) (h : Nx C e I R ((cl c).wp C.P Q)) : Nx C e I R (c.wp C.P Q) := Nx.p_dec hk hc (fun _ => h) (fun hn => absurd hp hn)
theorem Nx.p_dec_f {p : Prop} [Decidable p] (hk : ck c = 4) (hc : evo e (ccnd c) = some (.bool (decide p))) (hp : ¬p) (h : Nx C e I R ((cr c).wp C.P Q)) : Nx C e I R (c.wp C.P Q) := Nx.p_dec hk hc (fun hn => absurd hn hp) (fun _ => h)
theorem Nx.p_draw {id : Nat} (hid : cid c = id) (ord loud : List Nat) (R0 : List Res) (hk : ck c = 2) (hm : C.P.follows .mixedOrders = true) (hs : Region.noSelect (cops c) = true) (hok : mixOk (cops c) loud ord (Array.replicate (cops c).size false) = true) (hlen : Nat.ble ord.length (cops c).size = true) (hQ : PanicOk Q) (hR : Ent R R0)
    (h : Nx C e I R (wpMix C.P (cops c) Q (St C.W I R0) loud ord)) : Nx C e I R (c.wp C.P Q) := by
  have hc : c = .region (cid c) (cops c) true := by
    cases c <;> first | (simp [ck] at hk; done) | skip
    rename_i b
    cases b with
    | false => simp [ck] at hk
    | true => rfl
  clear hid
  rw [hc]
  exact Nx.draw ord loud R0 hm hs hok hlen hQ hR h
theorem Nx.p_loop {σ : Type} (E : σ → Env) (T : σ → List Res) (ok : σ → Prop) (μ : σ → Nat) (s0 : σ) (hk : ck c = 6) (h0 : ok s0) (he : EnvSub (E s0) e) (hR : Ent R (T s0))
    (round : ∀ s, ok s → Nx C (E s) I (T s) ((cl c).wp C.P (Exit.then (Again C E I T ok μ s) Q))) : Nx C e I R (c.wp C.P Q) := by
  cases c <;> first | exact Nx.loop E T ok μ s0 h0 he hR round | (simp [ck] at hk; done) | (rename_i d; cases d <;> simp [ck] at hk)
variable {ops : Array Oper} {i : Nat} {o : Oper}
theorem drop_of {ops : Array Oper} {i : Nat} {o : Oper} (ho : ops[i]? = some o) : ops.toList.drop i = o :: ops.toList.drop (i + 1) := by
  obtain ⟨hlt, he⟩ := Array.getElem?_eq_some_iff.1 ho
  rw [List.drop_eq_getElem_cons (by simpa using hlt)]
  congr 1
theorem Nx.at_end (ho : opAt ops.toList i = none) (h : Nx C e I R (Q .normal)) : Nx C e I R (wpAt C.P ops Q i) := by
  unfold wpAt
  rw [List.drop_eq_nil_of_le (by have := Array.getElem?_eq_none_iff.1 (opAt_arr ho); simpa using this)]
  exact Nx.nil h
theorem Nx.at_endt (ho : opAt ops.toList i = none) (h : Nx C e I R K) : Nx C e I R (wpAt C.P ops (Exit.then K Q) i) := Nx.at_end ho h
theorem Nx.at_op (ho : opAt ops.toList i = some o) (hg : o.guard = none) (h : Nx C e I R (opK C.P o (wpAt C.P ops Q (i + 1)) Q)) : Nx C e I R (wpAt C.P ops Q i) := by
  unfold wpAt at *
  rw [drop_of (opAt_arr ho)]
  exact Nx.cons hg h
theorem Nx.at_do {j d : Nat} {want : Bool} (ho : opAt ops.toList i = some o) (hg : o.guard = some (j, want)) (hd : (ops[j]?).bind (·.dst) = some d) (hb : lk e d = some (.bool want)) (h : Nx C e I R (opK C.P o (wpAt C.P ops Q (i + 1)) Q)) : Nx C e I R (wpAt C.P ops Q i) := by
  unfold wpAt at *
  rw [drop_of (opAt_arr ho)]
  exact Nx.cons_do hg hd hb h
theorem Nx.at_no {j d t : Nat} {want : Bool} (ho : opAt ops.toList i = some o) (hg : o.guard = some (j, want)) (hd : (ops[j]?).bind (·.dst) = some d) (hb : lk e d = some (.bool (!want))) (ht : o.dst = some t) (hlt : Nat.blt t C.n = true)
    (h : Nx C ((t, undef) :: e) I R (wpAt C.P ops Q (i + 1))) : Nx C e I R (wpAt C.P ops Q i) := by
  unfold wpAt at *
  rw [drop_of (opAt_arr ho)]
  exact Nx.cons_no hg hd hb ht hlt h
theorem Nx.at_no0 {j d : Nat} {want : Bool} (ho : opAt ops.toList i = some o) (hg : o.guard = some (j, want)) (hd : (ops[j]?).bind (·.dst) = some d) (hb : lk e d = some (.bool (!want))) (ht : o.dst = none)
    (h : Nx C e I R (wpAt C.P ops Q (i + 1))) : Nx C e I R (wpAt C.P ops Q i) := by
  unfold wpAt at *
  rw [drop_of (opAt_arr ho)]
  intro a w ha hw
  unfold wpList
  rw [if_neg (by simp [Region.wanted, hg, yielded_of ha hd hb]), ht]
  exact h _ w ha hw
theorem Nx.at_split {j d : Nat} {want : Bool} {p : Prop} [Decidable p] (ho : opAt ops.toList i = some o) (hg : o.guard = some (j, want)) (hd : (ops[j]?).bind (·.dst) = some d) (hb : lk e d = some (.bool (decide p)))
    (ht : p → Nx C ((d, .bool true) :: e) I R (wpAt C.P ops Q i)) (hf : ¬p → Nx C ((d, .bool false) :: e) I R (wpAt C.P ops Q i)) : Nx C e I R (wpAt C.P ops Q i) :=
  have _ := ho; have _ := hg; have _ := hd; Nx.force d hb ht hf
theorem Nx.at_splitb {j d : Nat} {want b : Bool} (ho : opAt ops.toList i = some o) (hg : o.guard = some (j, want)) (hd : (ops[j]?).bind (·.dst) = some d) (hb : lk e d = some (.bool b))
    (ht : b = true → Nx C ((d, .bool true) :: e) I R (wpAt C.P ops Q i)) (hf : b = false → Nx C ((d, .bool false) :: e) I R (wpAt C.P ops Q i)) : Nx C e I R (wpAt C.P ops Q i) :=
  have _ := ho; have _ := hg; have _ := hd; Nx.force_bool d hb ht hf
theorem Nx.at_dec_t {j d : Nat} {want : Bool} {p : Prop} [Decidable p] (ho : opAt ops.toList i = some o) (hg : o.guard = some (j, want)) (hd : (ops[j]?).bind (·.dst) = some d) (hb : lk e d = some (.bool (decide p))) (hp : p)
    (ht : Nx C ((d, .bool true) :: e) I R (wpAt C.P ops Q i)) : Nx C e I R (wpAt C.P ops Q i) := Nx.at_split ho hg hd hb (fun _ => ht) (fun h => absurd hp h)
theorem Nx.at_dec_f {j d : Nat} {want : Bool} {p : Prop} [Decidable p] (ho : opAt ops.toList i = some o) (hg : o.guard = some (j, want)) (hd : (ops[j]?).bind (·.dst) = some d) (hb : lk e d = some (.bool (decide p))) (hp : ¬p)
    (ht : Nx C ((d, .bool false) :: e) I R (wpAt C.P ops Q i)) : Nx C e I R (wpAt C.P ops Q i) := Nx.at_split ho hg hd hb (fun h => absurd h hp) (fun _ => ht)
variable {S : World → Prop} {loud r : List Nat} {k d : Nat} {v : Value}
theorem Nx.m_quiet (ho : opAt ops.toList k = some o) (hl : loud.contains k = false) (hg : o.guard = none) (hd : o.dst = some d) (hlt : Nat.blt d C.n = true) (hrun : QRun C e S o v) (h : Nx C ((d, v) :: e) I R (wpMix C.P ops Q S loud r)) : Nx C e I R (wpMix C.P ops Q S loud (k :: r)) := Nx.mix_q (opAt_arr ho) hl hg hd hlt hrun h
theorem Nx.m_quiet_do {j dj : Nat} {want : Bool} (ho : opAt ops.toList k = some o) (hl : loud.contains k = false) (hg : o.guard = some (j, want)) (hdj : (ops[j]?).bind (·.dst) = some dj) (hb : lk e dj = some (.bool want)) (hd : o.dst = some d) (hlt : Nat.blt d C.n = true) (hrun : QRun C e S o v)
    (h : Nx C ((d, v) :: e) I R (wpMix C.P ops Q S loud r)) : Nx C e I R (wpMix C.P ops Q S loud (k :: r)) := Nx.mix_q_do (opAt_arr ho) hl hg hdj hb hd hlt hrun h
theorem Nx.m_quiet_no {j dj : Nat} {want : Bool} (ho : opAt ops.toList k = some o) (hl : loud.contains k = false) (hg : o.guard = some (j, want)) (hdj : (ops[j]?).bind (·.dst) = some dj) (hb : lk e dj = some (.bool (!want))) (hd : o.dst = some d) (hlt : Nat.blt d C.n = true)
    (h : Nx C ((d, undef) :: e) I R (wpMix C.P ops Q S loud r)) : Nx C e I R (wpMix C.P ops Q S loud (k :: r)) := Nx.mix_q_no (opAt_arr ho) hl hg hdj hb hd hlt h
theorem Nx.m_loud (ho : opAt ops.toList k = some o) (hl : loud.contains k = true) (hg : o.guard = none) (h : Nx C e I R (opK C.P o (fun a w => S w ∧ wpMix C.P ops Q S loud r a w) Q)) : Nx C e I R (wpMix C.P ops Q S loud (k :: r)) := Nx.mix_l (opAt_arr ho) hl hg h
theorem Nx.m_loud_do {j dj : Nat} {want : Bool} (ho : opAt ops.toList k = some o) (hl : loud.contains k = true) (hg : o.guard = some (j, want)) (hdj : (ops[j]?).bind (·.dst) = some dj) (hb : lk e dj = some (.bool want))
    (h : Nx C e I R (opK C.P o (fun a w => S w ∧ wpMix C.P ops Q S loud r a w) Q)) : Nx C e I R (wpMix C.P ops Q S loud (k :: r)) := Nx.mix_l_do (opAt_arr ho) hl hg hdj hb h
theorem Nx.m_loud_no {j dj : Nat} {want : Bool} (ho : opAt ops.toList k = some o) (hl : loud.contains k = true) (hg : o.guard = some (j, want)) (hdj : (ops[j]?).bind (·.dst) = some dj) (hb : lk e dj = some (.bool (!want))) (hd : o.dst = some d) (hlt : Nat.blt d C.n = true)
    (h : Nx C ((d, undef) :: e) I R (fun a w => S w ∧ wpMix C.P ops Q S loud r a w)) : Nx C e I R (wpMix C.P ops Q S loud (k :: r)) := Nx.mix_l_no (opAt_arr ho) hl hg hdj hb hd hlt h
theorem Nx.m_split {j dj : Nat} {want : Bool} {p : Prop} [Decidable p] (ho : opAt ops.toList k = some o) (hg : o.guard = some (j, want)) (hdj : (ops[j]?).bind (·.dst) = some dj) (hb : lk e dj = some (.bool (decide p)))
    (ht : p → Nx C ((dj, .bool true) :: e) I R (wpMix C.P ops Q S loud (k :: r))) (hf : ¬p → Nx C ((dj, .bool false) :: e) I R (wpMix C.P ops Q S loud (k :: r))) : Nx C e I R (wpMix C.P ops Q S loud (k :: r)) :=
  have _ := ho; have _ := hg; have _ := hdj; Nx.force dj hb ht hf
theorem Nx.m_splitb {j dj : Nat} {want b : Bool} (ho : opAt ops.toList k = some o) (hg : o.guard = some (j, want)) (hdj : (ops[j]?).bind (·.dst) = some dj) (hb : lk e dj = some (.bool b))
    (ht : b = true → Nx C ((dj, .bool true) :: e) I R (wpMix C.P ops Q S loud (k :: r))) (hf : b = false → Nx C ((dj, .bool false) :: e) I R (wpMix C.P ops Q S loud (k :: r))) : Nx C e I R (wpMix C.P ops Q S loud (k :: r)) :=
  have _ := ho; have _ := hg; have _ := hdj; Nx.force_bool dj hb ht hf
theorem Nx.m_dec_t {j dj : Nat} {want : Bool} {p : Prop} [Decidable p] (ho : opAt ops.toList k = some o) (hg : o.guard = some (j, want)) (hdj : (ops[j]?).bind (·.dst) = some dj) (hb : lk e dj = some (.bool (decide p))) (hp : p)
    (ht : Nx C ((dj, .bool true) :: e) I R (wpMix C.P ops Q S loud (k :: r))) : Nx C e I R (wpMix C.P ops Q S loud (k :: r)) := Nx.m_split ho hg hdj hb (fun _ => ht) (fun h => absurd hp h)
theorem Nx.m_dec_f {j dj : Nat} {want : Bool} {p : Prop} [Decidable p] (ho : opAt ops.toList k = some o) (hg : o.guard = some (j, want)) (hdj : (ops[j]?).bind (·.dst) = some dj) (hb : lk e dj = some (.bool (decide p))) (hp : ¬p)
    (ht : Nx C ((dj, .bool false) :: e) I R (wpMix C.P ops Q S loud (k :: r))) : Nx C e I R (wpMix C.P ops Q S loud (k :: r)) := Nx.m_split ho hg hdj hb (fun h => absurd h hp) (fun _ => ht)
def isIf (c : Code) (id : Nat) : Bool := Nat.beq (ck c) 3 && Nat.beq (ck (cl c)) 3 && (Nat.beq (ck (cl (cl c))) 1 || Nat.beq (ck (cl (cl c))) 2) && Nat.beq (cid (cl (cl c))) id && Nat.beq (ck (cr (cl c))) 4
def isReg (c : Code) (id : Nat) : Bool := Nat.beq (ck c) 3 && (Nat.beq (ck (cl c)) 1 || Nat.beq (ck (cl c)) 2) && Nat.beq (cid (cl c)) id
theorem Nx.p_stop (id : Nat) (hi : isIf c id = true) (h : Nx C e I R (Stop (c.wp C.P Q))) : Nx C e I R (c.wp C.P Q) := have _ := hi; h
theorem Nx.p_stopr (id : Nat) (hi : isReg c id = true) (h : Nx C e I R (Stop (c.wp C.P Q))) : Nx C e I R (c.wp C.P Q) := have _ := hi; h
theorem Nx.p_go (hk : ck c = 3) (h : Nx C e I R ((cl c).wp C.P (Exit.then ((cr c).wp C.P Q) Q))) : Nx C e I R (Stop (c.wp C.P Q)) := Nx.p_seq hk h
end
end Go.Eng
namespace Go.Eng
section
variable {C : Cx} {e e' : Env} {I : PH} {R R' : List Res} {K K' : Act → World → Prop} {Q : Exit → Act → World → Prop} {W : World} {o : Oper}
variable {ty t u : TypeId} {pos : String} {after : Array Edge} {g : Option (Nat × Bool)} {x y z : Operand} {v : Value} {dst : Option Tmp}
variable {ops : Array Oper} {i : Nat} {S : World → Prop} {loud r : List Nat}
theorem yielded_undef {n : Nat} {ops : Array Oper} {a : Act} {j d : Nat} (ha : Mod n e a) (hd : (ops[j]?).bind (·.dst) = some d) (hb : lk e d = some undef) : yielded ops a.tmps j = none := by
  have := ha.get d _ hb
  simp [yielded, hd, this, undef]
theorem Nx.at_noU {j d t : Nat} {want : Bool} (ho : opAt ops.toList i = some o) (hg : o.guard = some (j, want)) (hd : (ops[j]?).bind (·.dst) = some d) (hb : lk e d = some undef) (ht : o.dst = some t) (hlt : Nat.blt t C.n = true)
    (h : Nx C ((t, undef) :: e) I R (wpAt C.P ops Q (i + 1))) : Nx C e I R (wpAt C.P ops Q i) := by
  unfold wpAt at *
  rw [drop_of (opAt_arr ho)]
  intro a w ha hw
  unfold wpList
  rw [if_neg (by simp [Region.wanted, hg, yielded_undef ha hd hb]), ht]
  exact h _ w (ha.put hlt _) hw
theorem Nx.at_noU0 {j d : Nat} {want : Bool} (ho : opAt ops.toList i = some o) (hg : o.guard = some (j, want)) (hd : (ops[j]?).bind (·.dst) = some d) (hb : lk e d = some undef) (ht : o.dst = none)
    (h : Nx C e I R (wpAt C.P ops Q (i + 1))) : Nx C e I R (wpAt C.P ops Q i) := by
  unfold wpAt at *
  rw [drop_of (opAt_arr ho)]
  intro a w ha hw
  unfold wpList
  rw [if_neg (by simp [Region.wanted, hg, yielded_undef ha hd hb]), ht]
  exact h _ w ha hw
theorem Nx.m_quiet_noU {k d : Nat} {j dj : Nat} {want : Bool} (ho : opAt ops.toList k = some o) (hl : loud.contains k = false) (hg : o.guard = some (j, want)) (hdj : (ops[j]?).bind (·.dst) = some dj) (hb : lk e dj = some undef) (hd : o.dst = some d) (hlt : Nat.blt d C.n = true)
    (h : Nx C ((d, undef) :: e) I R (wpMix C.P ops Q S loud r)) : Nx C e I R (wpMix C.P ops Q S loud (k :: r)) := by
  intro a w ha hw
  refine ⟨o, opAt_arr ho, ?_⟩
  rw [if_neg (by rw [hl]; simp)]
  refine ⟨undef, .inr ⟨by simp [Region.wanted, hg, yielded_undef ha hdj hb], rfl⟩, ?_⟩
  rw [hd]
  exact h _ w (ha.put hlt undef) hw
theorem Nx.m_loud_noU {k d : Nat} {j dj : Nat} {want : Bool} (ho : opAt ops.toList k = some o) (hl : loud.contains k = true) (hg : o.guard = some (j, want)) (hdj : (ops[j]?).bind (·.dst) = some dj) (hb : lk e dj = some undef) (hd : o.dst = some d) (hlt : Nat.blt d C.n = true)
    (h : Nx C ((d, undef) :: e) I R (fun a w => S w ∧ wpMix C.P ops Q S loud r a w)) : Nx C e I R (wpMix C.P ops Q S loud (k :: r)) := by
  intro a w ha hw
  refine ⟨o, opAt_arr ho, ?_⟩
  rw [if_pos hl]
  unfold wpOp
  simp only [opAt_arr ho]
  rw [if_neg (by simp [Region.wanted, hg, yielded_undef ha hdj hb]), hd]
  exact h _ w (ha.put hlt undef) hw
def OpTo (C : Cx) (o : Oper) (e : Env) (I : PH) (R : List Res) (e' : Env) (R' : List Res) : Prop := ∀ (K : Act → World → Prop) (Q : Exit → Act → World → Prop), Nx C e' I R' K → Nx C e I R (opK C.P o K Q)
def OpToB (C : Cx) (o : Oper) (e : Env) (I : PH) (R : List Res) (e' : Nat → Env) (R' : Nat → List Res) : Prop := ∀ (K : Act → World → Prop) (Q : Exit → Act → World → Prop), (∀ b, Nx C (e' b) I (R' b) K) → Nx C e I R (opK C.P o K Q)
def OpToA (C : Cx) (o : Oper) (e : Env) (I : PH) (R : List Res) (e' : Option Addr → Nat → Env) (R' : Option Addr → Nat → List Res) : Prop := ∀ (K : Act → World → Prop) (Q : Exit → Act → World → Prop), (∀ A c, Nx C (e' A c) I (R' A c) K) → Nx C e I R (opK C.P o K Q)
theorem OpTo.is_load {e1 : Env} {r1 : List Res} (h : OpTo C ⟨dst, .load t x, ty, pos, after, g⟩ e I R e1 r1) : OpTo C ⟨dst, .load t x, ty, pos, after, g⟩ e I R e1 r1 := h
theorem OpTo.is_store {e1 : Env} {r1 : List Res} (h : OpTo C ⟨dst, .store t x y, ty, pos, after, g⟩ e I R e1 r1) : OpTo C ⟨dst, .store t x y, ty, pos, after, g⟩ e I R e1 r1 := h
theorem OpTo.is_bin {e1 : Env} {r1 : List Res} {op : BinOp} (h : OpTo C ⟨dst, .binOp op t x y u, ty, pos, after, g⟩ e I R e1 r1) : OpTo C ⟨dst, .binOp op t x y u, ty, pos, after, g⟩ e I R e1 r1 := h
theorem OpTo.is_un {e1 : Env} {r1 : List Res} {op : UnOp} (h : OpTo C ⟨dst, .unOp op t x, ty, pos, after, g⟩ e I R e1 r1) : OpTo C ⟨dst, .unOp op t x, ty, pos, after, g⟩ e I R e1 r1 := h
theorem OpTo.is_conv {e1 : Env} {r1 : List Res} (h : OpTo C ⟨dst, .convert t u x, ty, pos, after, g⟩ e I R e1 r1) : OpTo C ⟨dst, .convert t u x, ty, pos, after, g⟩ e I R e1 r1 := h
theorem OpTo.is_build {e1 : Env} {r1 : List Res} {p : Array (Nat × Operand)} (h : OpTo C ⟨dst, .build t p, ty, pos, after, g⟩ e I R e1 r1) : OpTo C ⟨dst, .build t p, ty, pos, after, g⟩ e I R e1 r1 := h
theorem OpTo.is_call {e1 : Env} {r1 : List Res} {c : Call} (h : OpTo C ⟨dst, .call c, ty, pos, after, g⟩ e I R e1 r1) : OpTo C ⟨dst, .call c, ty, pos, after, g⟩ e I R e1 r1 := h
theorem OpToB.is_lit {e1 : Nat → Env} {r1 : Nat → List Res} {p : Array (Nat × Operand)} {n : Nat} (h : OpToB C ⟨dst, .buildSlice t n p, ty, pos, after, g⟩ e I R e1 r1) : OpToB C ⟨dst, .buildSlice t n p, ty, pos, after, g⟩ e I R e1 r1 := h
theorem OpToB.is_box {e1 : Nat → Env} {r1 : Nat → List Res} (h : OpToB C ⟨dst, .box t x, ty, pos, after, g⟩ e I R e1 r1) : OpToB C ⟨dst, .box t x, ty, pos, after, g⟩ e I R e1 r1 := h
theorem OpToB.is_alloc {e1 : Nat → Env} {r1 : Nat → List Res} (h : OpToB C ⟨dst, .alloc t, ty, pos, after, g⟩ e I R e1 r1) : OpToB C ⟨dst, .alloc t, ty, pos, after, g⟩ e I R e1 r1 := h
theorem OpToA.is_append {e1 : Option Addr → Nat → Env} {r1 : Option Addr → Nat → List Res} {xs : Array Operand} {tys : Array TypeId} (h : OpToA C ⟨dst, .call { callee := .builtin .append, args := xs, argTypes := tys }, ty, pos, after, g⟩ e I R e1 r1) : OpToA C ⟨dst, .call { callee := .builtin .append, args := xs, argTypes := tys }, ty, pos, after, g⟩ e I R e1 r1 := h
theorem Nx.so {e1 : Env} {r1 : List Res} (h : Nx C e1 I r1 K) (s : OpTo C o e I R e1 r1 := by first | ((with_reducible apply OpTo.is_load); first | exact fun _ _ h => Nx.load rfl rfl rfl (by first | exact Rd.at_ 0 rfl rfl | exact Rd.at_ 1 rfl rfl | exact Rd.at_ 2 rfl rfl | exact Rd.at_ 3 rfl rfl | exact Rd.at_ 4 rfl rfl | exact Rd.at_ 5 rfl rfl | exact Rd.at_ 6 rfl rfl | exact Rd.at_ 7 rfl rfl | exact Rd.at_ 8 rfl rfl | exact Rd.at_ 9 rfl rfl | exact Rd.at_ 10 rfl rfl | exact Rd.at_ 11 rfl rfl) h | exact fun _ _ h => Nx.loads rfl rfl rfl rfl (by first | exact Rds.at_ 0 rfl | exact Rds.at_ 1 rfl | exact Rds.at_ 2 rfl | exact Rds.at_ 3 rfl | exact Rds.at_ 4 rfl | exact Rds.at_ 5 rfl | exact Rds.at_ 6 rfl | exact Rds.at_ 7 rfl | exact Rds.at_ 8 rfl | exact Rds.at_ 9 rfl | exact Rds.at_ 10 rfl | exact Rds.at_ 11 rfl) rfl h) | ((with_reducible apply OpTo.is_bin); first | exact fun _ _ h => Nx.add rfl rfl (by unfold I64; omega) rfl h | exact fun _ _ h => Nx.sub rfl rfl (by unfold I64; omega) rfl h | exact fun _ _ h => Nx.mul rfl rfl (by unfold I64; omega) rfl h | exact fun _ _ h => Nx.rem rfl rfl (by omega) (by omega) rfl h | exact fun _ _ h => Nx.quo rfl rfl (by omega) (by omega) (by unfold I64; omega) rfl h) | ((with_reducible apply OpTo.is_conv); first | exact fun _ _ h => Nx.conv_i64 rfl rfl rfl (by unfold I64; omega) rfl h) | ((with_reducible apply OpTo.is_un); first | exact fun _ _ h => Nx.not_dec rfl rfl h | exact fun _ _ h => Nx.neg rfl (by unfold I64; omega) rfl h) | ((with_reducible apply OpTo.is_build); first | exact fun _ _ h => Nx.build rfl rfl (by kernel_rfl) rfl h) | ((with_reducible apply OpTo.is_store); first | exact fun _ _ h => Nx.store_blk 0 rfl rfl rfl rfl rfl rfl rfl h | exact fun _ _ h => Nx.store_blk 1 rfl rfl rfl rfl rfl rfl rfl h | exact fun _ _ h => Nx.store_blk 2 rfl rfl rfl rfl rfl rfl rfl h | exact fun _ _ h => Nx.store_blk 3 rfl rfl rfl rfl rfl rfl rfl h | exact fun _ _ h => Nx.store_blk 4 rfl rfl rfl rfl rfl rfl rfl h | exact fun _ _ h => Nx.store_blk 5 rfl rfl rfl rfl rfl rfl rfl h | exact fun _ _ h => Nx.store_blk 6 rfl rfl rfl rfl rfl rfl rfl h | exact fun _ _ h => Nx.store_blk 7 rfl rfl rfl rfl rfl rfl rfl h | exact fun _ _ h => Nx.store_blk 8 rfl rfl rfl rfl rfl rfl rfl h | exact fun _ _ h => Nx.store_blk 9 rfl rfl rfl rfl rfl rfl rfl h | exact fun _ _ h => Nx.store_blk 10 rfl rfl rfl rfl rfl rfl rfl h | exact fun _ _ h => Nx.store_blk 11 rfl rfl rfl rfl rfl rfl rfl h | exact fun _ _ h => Nx.store_ints 0 rfl rfl rfl rfl (by omega) h | exact fun _ _ h => Nx.store_ints 1 rfl rfl rfl rfl (by omega) h | exact fun _ _ h => Nx.store_ints 2 rfl rfl rfl rfl (by omega) h | exact fun _ _ h => Nx.store_ints 3 rfl rfl rfl rfl (by omega) h) | ((with_reducible apply OpTo.is_call); first | exact fun _ _ h => Nx.min2 rfl rfl rfl h | exact fun _ _ h => Nx.max2 rfl rfl rfl h) | exact fun _ _ h => Nx.makeFunc rfl rfl rfl h | exact fun _ _ h => Nx.fieldAddr rfl rfl rfl h) : Nx C e I R (opK C.P o K Q) := s K Q h
theorem Nx.sb {e1 : Nat → Env} {r1 : Nat → List Res} (h : ∀ b, Nx C (e1 b) I (r1 b) K) (s : OpToB C o e I R e1 r1 := by first | ((with_reducible apply OpToB.is_box); first | exact fun _ _ h => Nx.box_agg rfl rfl h | exact fun _ _ h => Nx.box1 rfl rfl rfl h) | ((with_reducible apply OpToB.is_alloc); first | exact fun _ _ h => Nx.alloc rfl rfl h) | ((with_reducible apply OpToB.is_lit); first | exact fun _ _ h => Nx.buildSlice0 rfl rfl rfl h | exact fun _ _ h => Nx.buildSlice rfl rfl rfl rfl rfl rfl rfl rfl rfl h) | exact fun _ _ h => Nx.makeInts rfl rfl rfl rfl rfl rfl rfl rfl (by omega) h) : Nx C e I R (opK C.P o K Q) := s K Q h
theorem Nx.sa {e1 : Option Addr → Nat → Env} {r1 : Option Addr → Nat → List Res} (h : ∀ A c, Nx C (e1 A c) I (r1 A c) K) (s : OpToA C o e I R e1 r1 := by first | ((with_reducible apply OpToA.is_append); first | exact fun _ _ h => Nx.append_lit 0 rfl rfl rfl rfl (by kernel_rfl) rfl rfl rfl rfl (by omega) h | exact fun _ _ h => Nx.append_lit 1 rfl rfl rfl rfl (by kernel_rfl) rfl rfl rfl rfl (by omega) h | exact fun _ _ h => Nx.append_lit 2 rfl rfl rfl rfl (by kernel_rfl) rfl rfl rfl rfl (by omega) h | exact fun _ _ h => Nx.append_lit 3 rfl rfl rfl rfl (by kernel_rfl) rfl rfl rfl rfl (by omega) h | exact fun _ _ h => Nx.append_lit 4 rfl rfl rfl rfl (by kernel_rfl) rfl rfl rfl rfl (by omega) h) ) : Nx C e I R (opK C.P o K Q) := s K Q h
theorem QRun.std {S : World → Prop} (s : QRun C e S o v := by first | exact QRun.load rfl rfl (by first | exact Rd.at_ 0 rfl rfl | exact Rd.at_ 1 rfl rfl | exact Rd.at_ 2 rfl rfl | exact Rd.at_ 3 rfl rfl | exact Rd.at_ 4 rfl rfl | exact Rd.at_ 5 rfl rfl | exact Rd.at_ 6 rfl rfl | exact Rd.at_ 7 rfl rfl | exact Rd.at_ 8 rfl rfl | exact Rd.at_ 9 rfl rfl | exact Rd.at_ 10 rfl rfl | exact Rd.at_ 11 rfl rfl) | exact QRun.loads rfl rfl rfl (by first | exact Rds.at_ 0 rfl | exact Rds.at_ 1 rfl | exact Rds.at_ 2 rfl | exact Rds.at_ 3 rfl | exact Rds.at_ 4 rfl | exact Rds.at_ 5 rfl | exact Rds.at_ 6 rfl | exact Rds.at_ 7 rfl | exact Rds.at_ 8 rfl | exact Rds.at_ 9 rfl | exact Rds.at_ 10 rfl | exact Rds.at_ 11 rfl) rfl | exact QRun.add rfl rfl (by unfold I64; omega) | exact QRun.sub rfl rfl (by unfold I64; omega) | exact QRun.mul rfl rfl (by unfold I64; omega) | exact QRun.rem rfl rfl (by omega) (by omega) | exact QRun.quo rfl rfl (by omega) (by omega) (by unfold I64; omega) | exact QRun.conv_i64 rfl rfl rfl (by unfold I64; omega) | exact QRun.build rfl rfl (by kernel_rfl) | exact QRun.min2 rfl rfl | exact QRun.max2 rfl rfl) : QRun C e S o v := s
def Adv (C : Cx) (e : Env) (I : PH) (R : List Res) (K : Act → World → Prop) (e1 : Env) (r1 : List Res) (K1 : Act → World → Prop) : Prop := Nx C e1 I r1 K1 → Nx C e I R K
theorem Adv.is_at {e1 : Env} {r1 : List Res} {ops : Array Oper} {i : Nat} (h : Adv C e I R (wpAt C.P ops Q i) e1 r1 K') : Adv C e I R (wpAt C.P ops Q i) e1 r1 K' := h
theorem Adv.is_wp {e1 : Env} {r1 : List Res} {c : Code} (h : Adv C e I R (c.wp C.P Q) e1 r1 K') : Adv C e I R (c.wp C.P Q) e1 r1 K' := h
theorem Adv.is_mix {e1 : Env} {r1 : List Res} {ops : Array Oper} {S : World → Prop} {l r : List Nat} (h : Adv C e I R (wpMix C.P ops Q S l r) e1 r1 K') : Adv C e I R (wpMix C.P ops Q S l r) e1 r1 K' := h
theorem Adv.is_mixS {e1 : Env} {r1 : List Res} {S : World → Prop} (h : Adv C e I R (fun a w => S w ∧ K a w) e1 r1 K') : Adv C e I R (fun a w => S w ∧ K a w) e1 r1 K' := h
theorem Nx.a {e1 : Env} {r1 : List Res} (h : Nx C e1 I r1 K') (s : Adv C e I R K e1 r1 K' := by first | exact fun h => Nx.at_no rfl rfl rfl rfl rfl rfl h | exact fun h => Nx.at_noU rfl rfl rfl rfl rfl rfl h | exact fun h => Nx.at_noU0 rfl rfl rfl rfl rfl h | exact fun h => Nx.at_endt rfl h | exact fun h => Nx.at_no0 rfl rfl rfl rfl rfl h | exact fun h => Nx.at_end rfl h) : Nx C e I R K := s h
theorem Nx.wo {e1 : Env} {r1 : List Res} (h : Nx C e1 I r1 K') (s : Adv C e I R K e1 r1 K' := by first | exact fun h => Nx.p_seq rfl h | exact fun h => Nx.p_region rfl h | exact fun h => Nx.p_ret rfl h | exact fun h => Nx.p_skip rfl h | exact fun h => Nx.p_exit rfl rfl h | exact fun h => Nx.p_block rfl rfl h | exact fun h => Nx.p_t rfl rfl h | exact fun h => Nx.p_f rfl rfl h | exact fun h => Nx.p_label rfl h | exact fun h => Nx.p_dec_t rfl rfl (by omega) h | exact fun h => Nx.p_dec_f rfl rfl (by omega) h) : Nx C e I R K := s h
theorem Nx.m {e1 : Env} {r1 : List Res} (h : Nx C e1 I r1 K') (s : Adv C e I R K e1 r1 K' := by first | exact fun h => Nx.mix_nil_then h | exact fun h => Nx.mix_nil h | exact fun h => Nx.m_quiet_no rfl rfl rfl rfl rfl rfl rfl h | exact fun h => Nx.m_loud_no rfl rfl rfl rfl rfl rfl rfl h | exact fun h => Nx.m_quiet_noU rfl rfl rfl rfl rfl rfl rfl h | exact fun h => Nx.m_loud_noU rfl rfl rfl rfl rfl rfl rfl h | exact fun h => Nx.m_quiet rfl rfl rfl rfl rfl (by first | exact QRun.opr rfl | exact QRun.std) h | exact fun h => Nx.m_quiet_do rfl rfl rfl rfl rfl rfl rfl (by first | exact QRun.opr rfl | exact QRun.std) h) : Nx C e I R K := s h
theorem Nx.ex {e1 : Env} {r1 : List Res} (h : Nx C e1 I r1 K') (s : Adv C e I R K e1 r1 K' := by first | exact fun h => Nx.then_ret h | exact fun h => Nx.in_ret h | exact fun h => Nx.then_normal h | exact fun h => Nx.in_normal h | exact fun h => Nx.then_exit h | exact fun h => Nx.in_exit h | exact fun h => Nx.in_other rfl h | exact fun h => Nx.mix_T h | ((with_reducible apply Adv.is_mixS); exact fun h => Nx.mix_S (by first | exact Ent.refl _ | exact Ent.drop (Ent.refl _) | exact Ent.drop (Ent.drop (Ent.refl _)) | exact Ent.drop (Ent.drop (Ent.drop (Ent.refl _))) | exact Ent.nil _ | (repeat first | exact Ent.refl _ | exact Ent.nil _ | refine Ent.pick 0 rfl ?_ | refine Ent.pick 1 rfl ?_ | refine Ent.pick 2 rfl ?_ | refine Ent.pick 3 rfl ?_ | refine Ent.pick 4 rfl ?_ | refine Ent.pick 5 rfl ?_ | refine Ent.pick 6 rfl ?_ | refine Ent.pick 7 rfl ?_ | refine Ent.pick 8 rfl ?_)) h)) : Nx C e I R K := s h
end
end Go.Eng
namespace Go.Eng
section
variable {C : Cx} {e : Env} {I : PH} {R : List Res} {K K' : Act → World → Prop} {e1 : Env} {r1 : List Res} {c1 c2 k1 k2 : Prop}
theorem Nx.zo (h : Nx C e1 I r1 K') (s : Adv C e I R K e1 r1 K' := by first | exact fun h => Nx.at_op rfl rfl h | exact fun h => Nx.m_loud rfl rfl rfl h | exact fun h => Nx.at_do rfl rfl rfl rfl h | exact fun h => Nx.m_loud_do rfl rfl rfl rfl rfl h) : Nx C e I R K := s h
theorem Nx.zd (h : Nx C e1 I r1 K') (s : Adv C e I R K e1 r1 K' := by (fail_if_success exact fun h => Nx.at_do rfl rfl rfl rfl h); first | exact fun h => Nx.at_dec_t rfl rfl rfl rfl (by first | assumption | omega) h | exact fun h => Nx.at_dec_f rfl rfl rfl rfl (by first | assumption | omega) h) : Nx C e I R K := s h
theorem Nx.zm (h : Nx C e1 I r1 K') (s : Adv C e I R K e1 r1 K' := by (fail_if_success refine fun h => Nx.m_quiet_do rfl rfl rfl rfl rfl rfl rfl ?_ h); (fail_if_success exact fun h => Nx.m_loud_do rfl rfl rfl rfl rfl h); first | exact fun h => Nx.m_dec_t rfl rfl rfl rfl (by first | assumption | omega) h | exact fun h => Nx.m_dec_f rfl rfl rfl rfl (by first | assumption | omega) h) : Nx C e I R K := s h
theorem Nx.zx (h : Nx C e1 I r1 K') (s : Adv C e I R K e1 r1 K' := by (fail_if_success (with_reducible apply Adv.is_at)); (fail_if_success (with_reducible apply Adv.is_wp)); (fail_if_success (with_reducible apply Adv.is_mix)); first | exact fun h => Nx.ex h) : Nx C e I R K := s h
theorem Nx.zp (h1 : c1 → k1) (h2 : c2 → k2) (s : (c1 → k1) → (c2 → k2) → Nx C e I R K := by first | exact fun a b => Nx.p_dec rfl rfl a b | exact fun a b => Nx.p_bool rfl rfl a b) : Nx C e I R K := s h1 h2
theorem Nx.zs (h1 : c1 → k1) (h2 : c2 → k2) (s : (c1 → k1) → (c2 → k2) → Nx C e I R K := by (fail_if_success refine fun _ _ => Nx.at_do rfl rfl rfl rfl ?_); first | exact fun a b => Nx.at_split rfl rfl rfl rfl a b | exact fun a b => Nx.at_splitb rfl rfl rfl rfl a b) : Nx C e I R K := s h1 h2
theorem Nx.zt (h1 : c1 → k1) (h2 : c2 → k2) (s : (c1 → k1) → (c2 → k2) → Nx C e I R K := by (fail_if_success refine fun _ _ => Nx.m_quiet_do rfl rfl rfl rfl rfl rfl rfl ?_ ?_); (fail_if_success refine fun _ _ => Nx.m_loud_do rfl rfl rfl rfl rfl ?_); first | exact fun a b => Nx.m_split rfl rfl rfl rfl a b | exact fun a b => Nx.m_splitb rfl rfl rfl rfl a b) : Nx C e I R K := s h1 h2
theorem Nx.za (h : Nx C e1 I r1 K') (s : Adv C e I R K e1 r1 K' := by (with_reducible apply Adv.is_at); first | exact fun h => Nx.a h | ((fail_if_success exact fun h => Nx.at_do rfl rfl rfl rfl h); first | exact fun h => Nx.at_dec_t rfl rfl rfl rfl (by first | assumption | omega) h | exact fun h => Nx.at_dec_f rfl rfl rfl rfl (by first | assumption | omega) h)) : Nx C e I R K := s h
theorem Nx.zr (h1 : c1 → k1) (h2 : c2 → k2) (s : (c1 → k1) → (c2 → k2) → Nx C e I R K := by (refine fun a b => ?_); (with_reducible refine Nx.is_at ?_); (fail_if_success refine Nx.at_do rfl rfl rfl rfl ?_); first | exact Nx.at_split rfl rfl rfl rfl a b | exact Nx.at_splitb rfl rfl rfl rfl a b) : Nx C e I R K := s h1 h2
theorem Nx.zq (h : Nx C e1 I r1 K') (s : Adv C e I R K e1 r1 K' := by (with_reducible apply Adv.is_mix); first | exact fun h => Nx.m h | ((fail_if_success refine fun h => Nx.m_quiet_do rfl rfl rfl rfl rfl rfl rfl ?_ h); (fail_if_success exact fun h => Nx.m_loud_do rfl rfl rfl rfl rfl h); first | exact fun h => Nx.m_dec_t rfl rfl rfl rfl (by first | assumption | omega) h | exact fun h => Nx.m_dec_f rfl rfl rfl rfl (by first | assumption | omega) h)) : Nx C e I R K := s h
theorem Nx.zu (h1 : c1 → k1) (h2 : c2 → k2) (s : (c1 → k1) → (c2 → k2) → Nx C e I R K := by (refine fun a b => ?_); (with_reducible refine Nx.is_mix ?_); (fail_if_success refine Nx.m_quiet_do rfl rfl rfl rfl rfl rfl rfl ?_ ?_); (fail_if_success refine Nx.m_loud_do rfl rfl rfl rfl rfl ?_); first | exact Nx.m_split rfl rfl rfl rfl a b | exact Nx.m_splitb rfl rfl rfl rfl a b) : Nx C e I R K := s h1 h2
theorem PanicOk.auto {Q : Exit → Act → World → Prop} (h : PanicOk Q := by repeat first | exact PanicOk.fn | refine PanicOk.then_ ?_ | refine PanicOk.inB ?_) : PanicOk Q := h
end
end Go.Eng

namespace Go.Eng
open Go.ChangeShapes Go.WideShapes Go.RowKit
theorem St.start (W : World) : St W (fun i => W.heap[i]?) ([] ++ [fun _ => True]) W :=
  ⟨⟨fun _ => none, ⟨fun _ => none, fun _ => none, fun _ => .inl rfl, by funext i; rfl, trivial, trivial⟩, ⟨fun _ _ h => h, fun _ _ h => (by cases h), fun _ => .inr rfl⟩⟩, Still.refl W⟩
theorem FnSpec.below {P : Program} {f : FuncId} {args : List Value} {W : World} {Post : Value → List Res → Prop} (h : FnSpec P f args (fun i => W.heap[i]?) [] Post) :
    Calls P f args.toArray W fun e w' => (∃ v R', e = .returned v ∧ Post v R') ∧ Below W.heap.size W w' := by
  refine (h W (fun _ => True) (St.start W)).mono fun e w' => ?_
  rintro ⟨v, R', he, hp, ⟨⟨m, hm, hs⟩, hst⟩⟩
  refine ⟨⟨v, R', he, hp⟩, ⟨hst.os, hst.tape, hst.output, hst.size, fun k hk => ?_⟩⟩
  have hk' : W.heap[k]? = some W.heap[k] := Array.getElem?_eq_getElem hk
  rw [hk']
  exact hs.imm k _ hk'
theorem FnSpec.isTrue {P : Program} {f : FuncId} {args : List Value} {W : World} (h : FnSpec P f args (fun i => W.heap[i]?) [] (fun v R' => v = .bool true ∧ R' = [])) :
    Calls P f args.toArray W fun e w' => e = .returned (.bool true) ∧ Below W.heap.size W w' := by
  refine h.below.mono fun e w' => ?_
  rintro ⟨⟨v, R', rfl, rfl, _⟩, hb⟩
  exact ⟨rfl, hb⟩
end Go.Eng
namespace Go.Eng
open Go.ChangeShapes Go.WideShapes Go.RowKit
section
variable {H : Type} {enc : TypeId × Value → H} {P : Program}
theorem post_of_below {f : Func} {s : ChangeSpec} {apart fresh handsOn again : Bool} {W W' : World} {args : Array Value} {v : Value} {ds gs : List (DataW H)} {before pa pv : List MemPlace}
    (hW : DataW.Whole enc P f.params.toList s.vars apart W args.toList ds gs before)
    (hres : ∀ (b : Nat) (sp : Nat → Bool) (hd : Bool), DataW.TrodAll enc P W' b sp hd f.resultTypes.toList (v.resultList f.resultTypes.size) (s.fn H (ds ++ gs)).results [])
    (hargs : ∀ sp : Nat → Bool, (∀ p ∈ before, sp p.block = true) → DataW.TrodAll enc P W' 0 sp true f.params.toList args.toList (s.fn H (ds ++ gs)).args pa)
    (hvars : ∀ sp : Nat → Bool, (∀ p ∈ before, sp p.block = true) → DataW.TrodVars enc P W' sp s.vars (s.fn H (ds ++ gs)).vars pv)
    (hps : before = pa ++ pv) (hb : Below W.heap.size W W')
    (hok : ∀ (j : Nat) (t : TypeId) (r : Value), f.resultTypes[j]? = some t → (v.resultList f.resultTypes.size)[j]? = some r → Value.okWide P W' .any 0 t r) :
    s.post enc P f apart fresh handsOn again W args v W' := by
  have hlt : ∀ p ∈ before, p.block < W.heap.size := fun p hp => hW.lt p hp
  have hold : ∀ p ∈ before, (fun b => decide (b < W.heap.size)) p.block = true := fun p hp => by simpa using hlt p hp
  refine ⟨ds, gs, before, [], pa, pv, hW, hres _ _ _, hargs _ hold, hvars _ hold, World.keptBut_mono (fun p hp => ⟨hp, ?_⟩) (hb.frame (· ∈ before)), fun _ => ?_⟩
  · rw [hps, List.mem_append] at hp
    exact Or.inr hp
  · obtain ⟨_, _, _, _, _, hz, hn⟩ := hW
    refine ⟨hok, _, _, ([] ++ pa) ++ pv, ⟨[] ++ pa, pv, trodAll_append (hargs _ (fun _ _ => rfl)) (hres _ _ _), hvars _ (fun _ _ => rfl), rfl, ?_, ?_⟩, ?_⟩
    · intro b off hp
      have hin : MemPlace.cell b off ∈ before := by rw [hps]; simpa using hp
      rw [hb.frozen (hlt _ hin)]
      exact hz b off hin
    · intro ha
      have := hn ha
      rw [hps] at this
      simpa using this
    · intro p hp _
      rw [hps]
      simpa using hp
theorem trodAll_below (hl : laidOutB P = true) {W W' : World} (hb : Below W.heap.size W W') {sp : Nat → Bool} : ∀ {ts : List TypeId} {vs : List Value} {ds : List (DataW H)} {ps : List MemPlace},
    (ts.all fun t => P.readableRec t && decide (t < P.types.size)) = true → DataW.TrodAll enc P W 0 (fun _ => true) true ts vs ds ps → (∀ x ∈ ps, x.block < W.heap.size) → (∀ x ∈ ps, sp x.block = true) → DataW.TrodAll enc P W' 0 sp true ts vs ds ps
  | [], vs, ds, ps, _, h, _, _ => by
    obtain ⟨rfl, rfl, rfl⟩ := trodAll_nil h
    exact trodAll_mk0
  | t :: ts, vs, ds, ps, ht, h, hlt, hsp => by
    simp only [List.all_cons, Bool.and_eq_true, decide_eq_true_eq] at ht
    obtain ⟨v, vs', d, ds', p, q, rfl, rfl, rfl, h1, h2⟩ := trodAll_cons h
    exact trodAll_cons_mk (WideElems.Trod_stays hl ht.1.1 ht.1.2 h1 (fun x hx => hb.same (hlt x (by simp [hx]))) (fun x hx => hsp x (by simp [hx])))
      (trodAll_below hl hb (by simpa [Bool.and_eq_true] using ht.2) h2 (fun x hx => hlt x (by simp [hx])) (fun x hx => hsp x (by simp [hx])))
theorem open_list {W : World} {base : Nat} {t el : TypeId} {k : IntKind} {v : Value} {d : DataW H} {ps : List MemPlace} {sp : Nat → Bool} (ht : P.underlying t = some (.slice el)) (he : P.underlying el = some (.int k)) (hc : P.cellsOf el = 1)
    (hval : Value.okWide P W .any base t v) (h : DataW.Trod enc P W 0 sp true t v d ps) :
    ∃ A c l, v = .slice A l.length c ∧ SliceOf (fun x => Value.int k x) (fun i => W.heap[i]?) A c l ∧ ∀ x ∈ l, (Lit.int k x).wf = true := by
  obtain ⟨A, n, c, rfl⟩ := okWide_slice ht hval
  obtain ⟨fuel, hf⟩ := h
  rcases ChangeShapes.open_ints ht he hc hf with ⟨hcs, hx⟩ | ⟨a, len, cap, zs, hcs, _, hle, hm, hz, hx, hcell, hwz⟩
  · simp [Value.cells] at hcs
    obtain ⟨rfl, rfl, rfl⟩ := hcs
    exact ⟨none, 0, [], rfl, SliceOf.nil, by simp⟩
  · simp [Value.cells] at hcs
    obtain ⟨rfl, rfl, rfl⟩ := hcs
    have hzl : n ≤ zs.length := by rw [hz]; split <;> omega
    have hlen : (zs.take n).length = n := by rw [List.length_take]; omega
    refine ⟨some a, c, zs.take n, by rw [hlen], ⟨fun j u hj => ⟨rfl, ?_⟩, by rw [hlen]; exact hle, hm⟩, fun x hx => hwz x (List.mem_of_mem_take hx)⟩
    rw [List.getElem?_map, List.getElem?_take] at hj
    split at hj
    · rename_i hjn
      have := hcell j (by omega)
      rw [List.getElem?_eq_getElem (by omega)] at hj
      simp at hj
      rw [List.getD_eq_getElem?_getD, List.getElem?_eq_getElem (by omega)] at this
      rw [← hj]
      exact this
    · simp at hj
end
end Go.Eng
namespace Go.Proofs.YtpcnapidlhpbkaaGreatDoor
open Go.Eng
attribute [local irreducible] opK wpList Code.wp Exit.then Exit.inBlock fnPost bodyPost Nx Calls Oper.wp Rd Rds Wr Ent Stars Blk Again Vec FnSpec wpMix QRun Stop Upto wpAt
set_option maxRecDepth 10000 in
theorem New_spec (A : Option Addr) (c : Nat) (l : List Int) (I : PH) (hl : SliceOf (fun x : Int => Value.int .u8 x) I A c l) :
    FnSpec Tryz.prog 10 [.slice A l.length c] I [] (fun v R' => ∃ b, v = .pointer (some ⟨b, 0, none⟩) ∧ R' = [Blk b 83 [.slice A (l.take 400).length c, .int .i64 0]]) := by
  have hlen := hl.len
  have hcap := hl.cap
  have e1 : (min (l.length : Int) 400) = ((min l.length 400 : Nat) : Int) := by omega
  have e2 : (l.take 400).length = min l.length 400 := by rw [List.length_take]; omega
  refine FnSpec.enterP Tryz.func10 rfl Tryz.ntmps10 rfl fun w F => ?_
  repeat' first
    | ((with_reducible refine Nx.is_wp ?_); first | refine Nx.wo ?_ | refine Nx.zp (fun hc => ?_) (fun hc => ?_))
    | (refine Nx.zo ?_; first | refine Nx.opr rfl rfl ?_ | refine Nx.so ?_ | refine Nx.sb (fun bx => ?_) | refine Nx.sa (fun A2 c2 => ?_))
    | refine Nx.za ?_ | refine Nx.zr (fun hc => ?_) (fun hc => ?_)
    | refine Nx.zq ?_ | refine Nx.zu (fun hc => ?_) (fun hc => ?_)
    | refine Nx.zx ?_ | fail
  rw [e1]
  repeat' first
    | ((with_reducible refine Nx.is_wp ?_); first | refine Nx.wo ?_ | refine Nx.zp (fun hc => ?_) (fun hc => ?_))
    | (refine Nx.zo ?_; first | refine Nx.opr rfl rfl ?_ | refine Nx.slice_hi rfl rfl rfl rfl rfl (by omega) ?_ | refine Nx.so ?_ | refine Nx.sb (fun bx => ?_) | refine Nx.sa (fun A2 c2 => ?_))
    | refine Nx.za ?_ | refine Nx.zr (fun hc => ?_) (fun hc => ?_)
    | refine Nx.zq ?_ | refine Nx.zu (fun hc => ?_) (fun hc => ?_)
    | refine Nx.zx ?_ | fail
  rw [e2]
  exact Nx.ret_fn rfl [_] ⟨_, rfl, rfl⟩ (by (exact Ent.auto))
set_option maxRecDepth 10000 in
theorem Next_spec (b : Nat) (A : Option Addr) (c : Nat) (l : List Int) (k : Nat) (n : Int) (I : PH) (hl : SliceOf (fun x : Int => Value.int .u8 x) I A c l) (hx : ∀ x ∈ l, 0 ≤ x ∧ x < 256) (hk : k ≤ l.length) (hn : 1 ≤ n ∧ n ≤ 1000000) :
    FnSpec Tryz.prog 13 [.pointer (some ⟨b, 0, none⟩), .int .i64 n] I [Blk b 83 [.slice A l.length c, .int .i64 (k : Int)]]
      (fun v R' => ∃ (r : Int) (k' : Nat), v = .int .i64 r ∧ (0 ≤ r ∧ r < n) ∧ k' ≤ l.length ∧ R' = [Blk b 83 [.slice A l.length c, .int .i64 (k' : Int)]]) := by
  have hlen := hl.len
  refine FnSpec.enterP Tryz.func13 rfl Tryz.ntmps13 rfl fun w F => ?_
  have hget : ∀ j : Nat, j < l.length → 0 ≤ l.getD j default ∧ l.getD j default < 256 := fun j h => hx _ (by rw [List.getD_eq_getElem?_getD, List.getElem?_eq_getElem h]; exact List.getElem_mem _)
  have hg1 : 0 < l.length - k → 0 ≤ l.getD ((k : Int) + 1 - 1).toNat default ∧ l.getD ((k : Int) + 1 - 1).toNat default < 256 := fun h => hget _ (by omega)
  have hg2 : 0 < l.length - (k + 1) → 0 ≤ l.getD ((k : Int) + 1).toNat default ∧ l.getD ((k : Int) + 1).toNat default < 256 := fun h => hget _ (by omega)
  repeat' first
    | ((with_reducible refine Nx.is_wp ?_); first | refine Nx.wo ?_ | refine Nx.p_draw (id := 1) rfl [0, 1, 2, 3, 4, 5, 6, 7, 8, 9, 10, 11, 12, 13] [] _ rfl rfl (by kernel_rfl) (by kernel_rfl) rfl PanicOk.auto (Ent.refl _) ?_ | refine Nx.p_draw (id := 4) rfl [0, 1, 2, 3, 4, 5, 6, 7, 8, 9, 10, 11, 12] [] _ rfl rfl (by kernel_rfl) (by kernel_rfl) rfl PanicOk.auto (Ent.refl _) ?_ | refine Nx.p_draw (id := 5) rfl [0, 1, 2, 3, 4, 5, 6, 7, 8, 9, 10, 11, 12, 13] [] _ rfl rfl (by kernel_rfl) (by kernel_rfl) rfl PanicOk.auto (Ent.refl _) ?_ | refine Nx.p_draw (id := 6) rfl [0, 1, 2, 3, 4, 5, 6, 7, 8, 9, 10, 11, 12, 13, 14] [] _ rfl rfl (by kernel_rfl) (by kernel_rfl) rfl PanicOk.auto (Ent.refl _) ?_ | refine Nx.zp (fun hc => ?_) (fun hc => ?_))
    | (refine Nx.zo ?_; first | refine Nx.opr rfl rfl ?_ | refine Nx.so ?_ | refine Nx.sb (fun bx => ?_) | refine Nx.sa (fun A2 c2 => ?_))
    | refine Nx.za ?_ | refine Nx.zr (fun hc => ?_) (fun hc => ?_)
    | ((with_reducible refine Nx.is_mix ?_); first | refine Nx.m_quiet rfl rfl rfl rfl rfl (by first | exact QRun.opr rfl | exact QRun.idxi rfl rfl rfl rfl (by omega) (by omega) (hl.isSome (by omega)) | exact QRun.load rfl rfl (hl.rd (by omega))) ?_ | refine Nx.m_quiet_do rfl rfl rfl rfl rfl rfl rfl (by first | exact QRun.opr rfl | exact QRun.idxi rfl rfl rfl rfl (by omega) (by omega) (hl.isSome (by omega)) | exact QRun.load rfl rfl (hl.rd (by omega))) ?_ | refine Nx.m ?_ | refine Nx.zm ?_ | refine Nx.zt (fun hc => ?_) (fun hc => ?_))
    | refine Nx.zx ?_ | fail
  · exact Nx.ret_fn rfl [_] ⟨0, k, rfl, ⟨by omega, by omega⟩, hk, rfl⟩ (Ent.refl _)
  · exact Nx.ret_fn rfl [_] ⟨_, k + 2, rfl, ⟨Int.emod_nonneg _ (by omega), Int.emod_lt_of_pos _ (by omega)⟩, by omega, by rw [show ((k + 2 : Nat) : Int) = (k : Int) + 1 + 1 by omega]⟩ (by (exact Ent.auto))
  · exact Nx.ret_fn rfl [_] ⟨_, k + 1, rfl, ⟨Int.emod_nonneg _ (by omega), Int.emod_lt_of_pos _ (by omega)⟩, by omega, by rw [show ((k + 1 : Nat) : Int) = (k : Int) + 1 by omega]⟩ (by (exact Ent.auto))
  · exact Nx.ret_fn rfl [_] ⟨_, k + 1, rfl, ⟨Int.emod_nonneg _ (by omega), Int.emod_lt_of_pos _ (by omega)⟩, by omega, by rw [show ((k + 1 : Nat) : Int) = (k : Int) + 1 by omega]⟩ (by (exact Ent.auto))
end Go.Proofs.YtpcnapidlhpbkaaGreatDoor
namespace Go.Proofs.YtpcnapidlhpbkaaGreatDoor
open Go.Eng
attribute [local irreducible] opK wpList Code.wp Exit.then Exit.inBlock fnPost bodyPost Nx Calls Oper.wp Rd Rds Wr Ent Stars Blk Again Vec FnSpec wpMix QRun Stop Upto wpAt
def prod (l : List Int) : Int := l.foldl (· * ·) 1
theorem prod_succ (l : List Int) (k : Nat) (hk : k < l.length) : prod (l.take (k + 1)) = prod (l.take k) * l.getD k default := by
  unfold prod
  rw [List.take_succ_eq_append_getElem hk, List.foldl_append]
  simp [List.getD_eq_getElem?_getD, List.getElem?_eq_getElem hk]
structure Sizes (l : List Int) : Prop where
  dims : 1 ≤ l.length ∧ l.length ≤ 4
  each : ∀ x ∈ l, 1 ≤ x ∧ x ≤ 8
  cells : prod l ≤ 48
theorem Sizes.at {l : List Int} (h : Sizes l) {k : Nat} (hk : k < l.length) : 1 ≤ l.getD k default ∧ l.getD k default ≤ 8 := h.each _ (by rw [List.getD_eq_getElem?_getD, List.getElem?_eq_getElem hk]; exact List.getElem_mem _)
theorem Sizes.some {l : List Int} (h : Sizes l) : ∀ k, k ≤ l.length → 1 ≤ prod (l.take k) ∧ prod (l.take k) ≤ 8 ^ k
  | 0, _ => by simp [prod]
  | k + 1, hk => by
    have ih := h.some k (by omega)
    have hx := h.at (k := k) (by omega)
    rw [prod_succ l k (by omega)]
    refine ⟨?_, ?_⟩
    · have := Int.mul_le_mul ih.1 hx.1 (by omega) (by omega)
      omega
    · rw [Int.pow_succ]
      exact Int.mul_le_mul ih.2 hx.2 (by omega) (by omega)
theorem Sizes.bound {l : List Int} (h : Sizes l) {k : Nat} (hk : k ≤ l.length) : 1 ≤ prod (l.take k) ∧ prod (l.take k) ≤ 4096 := by
  have h1 := h.some k hk
  refine ⟨h1.1, Int.le_trans h1.2 ?_⟩
  have hd := h.dims
  have : k = 0 ∨ k = 1 ∨ k = 2 ∨ k = 3 ∨ k = 4 := by omega
  rcases this with rfl | rfl | rfl | rfl | rfl <;> decide
set_option maxRecDepth 10000 in
theorem product_spec (A : Option Addr) (c : Nat) (l : List Int) (I : PH) (hl : Ints I A c l) (hs : Sizes l) :
    FnSpec Tryz.prog 136 [.slice A l.length c] I [] (fun v R' => v = .int .i64 (prod l) ∧ R' = []) := by
  have hlen := hl.len
  refine FnSpec.enterP Tryz.func136 rfl Tryz.ntmps136 rfl fun w F => ?_
  repeat' first
    | ((with_reducible refine Nx.is_wp ?_); first | refine Nx.wo ?_ | refine Nx.zp (fun hc => ?_) (fun hc => ?_))
    | (refine Nx.zo ?_; first | refine Nx.opr rfl rfl ?_ | refine Nx.so ?_ | refine Nx.sb (fun bx => ?_) | refine Nx.sa (fun A2 c2 => ?_))
    | refine Nx.za ?_ | refine Nx.zr (fun hc => ?_) (fun hc => ?_)
    | refine Nx.zq ?_ | refine Nx.zu (fun hc => ?_) (fun hc => ?_)
    | refine Nx.zx ?_ | fail
  refine Nx.p_loop (σ := Nat) (fun k => [(6, .slice A l.length c), (7, .int .i64 l.length), (8, .int .i64 (k : Int)), (3, .int .i64 (prod (l.take k)))])
    (fun _ => [F]) (fun k => k ≤ l.length) (fun k => l.length - k) 0 rfl (Nat.zero_le _) ⟨rfl, rfl, rfl, rfl, trivial⟩ (Ent.refl _) ?_
  intro k hk
  have hb := hs.bound hk
  have hb1 : k < l.length → prod (l.take k) * l.getD k default ≤ 4096 ∧ 1 ≤ prod (l.take k) * l.getD k default := fun h => by rw [← prod_succ l k h]; exact (hs.bound (by omega)).symm
  repeat' first
    | ((with_reducible refine Nx.is_wp ?_); first | refine Nx.wo ?_ | refine Nx.zp (fun hc => ?_) (fun hc => ?_))
    | (refine Nx.zo ?_; first | refine Nx.opr rfl rfl ?_ | refine Nx.indexAddr_nat rfl rfl rfl rfl rfl (by omega) (hl.isSome (by omega)) ?_ | refine Nx.load rfl rfl rfl (hl.rd (by omega)) ?_ | refine Nx.so ?_ | refine Nx.sb (fun bx => ?_) | refine Nx.sa (fun A2 c2 => ?_))
    | refine Nx.za ?_ | refine Nx.zr (fun hc => ?_) (fun hc => ?_)
    | refine Nx.zq ?_ | refine Nx.zu (fun hc => ?_) (fun hc => ?_)
    | refine Nx.zx ?_ | fail
  · exact Nx.again (k + 1) (by omega) (by omega) ⟨rfl, rfl, rfl, by rw [prod_succ l k (by omega)]; rfl, trivial⟩ (Ent.refl _)
  · exact Nx.ret_fn rfl [] ⟨by rw [List.take_of_length_le (by omega)], rfl⟩ (Ent.refl _)
set_option maxRecDepth 10000 in
theorem Check_spec (A : Option Addr) (c : Nat) (l : List Int) (I : PH) (hl : Ints I A c l) (hs : Sizes l) :
    FnSpec Tryz.prog 122 [.agg #[.slice A l.length c]] I [] (fun v R' => v = .int .i64 0 ∧ R' = []) := by
  have hlen := hl.len
  have hd := hs.dims
  refine FnSpec.enterP Tryz.func122 rfl Tryz.ntmps122 rfl fun w F => ?_
  repeat' first
    | ((with_reducible refine Nx.is_wp ?_); first | refine Nx.wo ?_ | refine Nx.zp (fun hc => ?_) (fun hc => ?_))
    | (refine Nx.zo ?_; first | refine Nx.opr rfl rfl ?_ | refine Nx.so ?_ | refine Nx.sb (fun bx => ?_) | refine Nx.sa (fun A2 c2 => ?_))
    | refine Nx.za ?_ | refine Nx.zr (fun hc => ?_) (fun hc => ?_)
    | refine Nx.zq ?_ | refine Nx.zu (fun hc => ?_) (fun hc => ?_)
    | refine Nx.zx ?_ | fail
  refine Nx.p_loop (σ := Nat) (fun k => [(17, .slice A l.length c), (18, .int .i64 l.length), (19, .int .i64 (k : Int)), (3, .int .i64 (prod (l.take k)))])
    (fun _ => [F]) (fun k => k ≤ l.length) (fun k => l.length - k) 0 rfl (Nat.zero_le _) ⟨rfl, rfl, rfl, rfl, trivial⟩ (by (exact Ent.auto)) ?_
  intro k hk
  have hb := hs.bound hk
  have hb1 : k < l.length → prod (l.take k) * l.getD k default ≤ 4096 ∧ 1 ≤ prod (l.take k) * l.getD k default := fun h => by rw [← prod_succ l k h]; exact (hs.bound (by omega)).symm
  have hx : k < l.length → 1 ≤ l.getD k default ∧ l.getD k default ≤ 8 := fun h => hs.at h
  have hf : l.length ≤ k → prod (l.take k) ≤ 48 := fun h => by rw [List.take_of_length_le h]; exact hs.cells
  repeat' first
    | ((with_reducible refine Nx.is_wp ?_); first | refine Nx.wo ?_ | refine Nx.zp (fun hc => ?_) (fun hc => ?_))
    | (refine Nx.zo ?_; first | refine Nx.opr rfl rfl ?_ | refine Nx.indexAddr_nat rfl rfl rfl rfl rfl (by omega) (hl.isSome (by omega)) ?_ | refine Nx.load rfl rfl rfl (hl.rd (by omega)) ?_ | refine Nx.so ?_ | refine Nx.sb (fun bx => ?_) | refine Nx.sa (fun A2 c2 => ?_))
    | refine Nx.za ?_ | refine Nx.zr (fun hc => ?_) (fun hc => ?_)
    | refine Nx.zq ?_ | refine Nx.zu (fun hc => ?_) (fun hc => ?_)
    | refine Nx.zx ?_ | fail
  · exact Nx.again (k + 1) (by omega) (by omega) ⟨rfl, rfl, rfl, by rw [prod_succ l k (by omega)]; rfl, trivial⟩ (Ent.refl _)
  · exact Nx.ret_fn rfl [] ⟨rfl, rfl⟩ (Ent.refl _)
set_option maxRecDepth 10000 in
theorem RCheck_spec (A : Option Addr) (c : Nat) (l : List Int) (I : PH) (hl : Ints I A c l) (hs : Sizes l) :
    FnSpec Tryz.prog 65 [.agg #[.slice A l.length c]] I [] (fun v R' => v = .int .i64 0 ∧ R' = []) := by
  have hlen := hl.len
  have hd := hs.dims
  refine FnSpec.enterP Tryz.func65 rfl Tryz.ntmps65 rfl fun w F => ?_
  repeat' first
    | ((with_reducible refine Nx.is_wp ?_); first | refine Nx.wo ?_ | refine Nx.zp (fun hc => ?_) (fun hc => ?_))
    | (refine Nx.zo ?_; first | refine Nx.opr rfl rfl ?_ | refine Nx.so ?_ | refine Nx.sb (fun bx => ?_) | refine Nx.sa (fun A2 c2 => ?_))
    | refine Nx.za ?_ | refine Nx.zr (fun hc => ?_) (fun hc => ?_)
    | refine Nx.zq ?_ | refine Nx.zu (fun hc => ?_) (fun hc => ?_)
    | refine Nx.zx ?_ | fail
  refine Nx.p_loop (σ := Nat) (fun k => [(17, .slice A l.length c), (18, .int .i64 l.length), (19, .int .i64 (k : Int)), (3, .int .i64 (prod (l.take k)))])
    (fun _ => [F]) (fun k => k ≤ l.length) (fun k => l.length - k) 0 rfl (Nat.zero_le _) ⟨rfl, rfl, rfl, rfl, trivial⟩ (by (exact Ent.auto)) ?_
  intro k hk
  have hb := hs.bound hk
  have hb1 : k < l.length → prod (l.take k) * l.getD k default ≤ 4096 ∧ 1 ≤ prod (l.take k) * l.getD k default := fun h => by rw [← prod_succ l k h]; exact (hs.bound (by omega)).symm
  have hx : k < l.length → 1 ≤ l.getD k default ∧ l.getD k default ≤ 8 := fun h => hs.at h
  have hf : l.length ≤ k → prod (l.take k) ≤ 48 := fun h => by rw [List.take_of_length_le h]; exact hs.cells
  repeat' first
    | ((with_reducible refine Nx.is_wp ?_); first | refine Nx.wo ?_ | refine Nx.zp (fun hc => ?_) (fun hc => ?_))
    | (refine Nx.zo ?_; first | refine Nx.opr rfl rfl ?_ | refine Nx.indexAddr_nat rfl rfl rfl rfl rfl (by omega) (hl.isSome (by omega)) ?_ | refine Nx.load rfl rfl rfl (hl.rd (by omega)) ?_ | refine Nx.so ?_ | refine Nx.sb (fun bx => ?_) | refine Nx.sa (fun A2 c2 => ?_))
    | refine Nx.za ?_ | refine Nx.zr (fun hc => ?_) (fun hc => ?_)
    | refine Nx.zq ?_ | refine Nx.zu (fun hc => ?_) (fun hc => ?_)
    | refine Nx.zx ?_ | fail
  · exact Nx.again (k + 1) (by omega) (by omega) ⟨rfl, rfl, rfl, by rw [prod_succ l k (by omega)]; rfl, trivial⟩ (Ent.refl _)
  · exact Nx.ret_fn rfl [] ⟨rfl, rfl⟩ (Ent.refl _)
set_option maxRecDepth 10000 in
theorem RCount_spec (A : Option Addr) (c : Nat) (l : List Int) (I : PH) (hl : Ints I A c l) (hs : Sizes l) :
    FnSpec Tryz.prog 21 [.agg #[.slice A l.length c]] I [] (fun v R' => v = .int .i64 (prod l) ∧ R' = []) := by
  have hlen := hl.len
  refine FnSpec.enterP Tryz.func21 rfl Tryz.ntmps21 rfl fun w F => ?_
  repeat' first
    | ((with_reducible refine Nx.is_wp ?_); first | refine Nx.wo ?_ | refine Nx.zp (fun hc => ?_) (fun hc => ?_))
    | (refine Nx.zo ?_; first | refine Nx.opr rfl rfl ?_ | refine Nx.callv rfl rfl rfl (by kernel_rfl) rfl (RCheck_spec _ _ _ _ hl hs) ?_ | refine Nx.so ?_ | refine Nx.sb (fun bx => ?_) | refine Nx.sa (fun A2 c2 => ?_))
    | refine Nx.za ?_ | refine Nx.zr (fun hc => ?_) (fun hc => ?_)
    | refine Nx.zq ?_ | refine Nx.zu (fun hc => ?_) (fun hc => ?_)
    | refine Nx.zx ?_ | fail
  refine Nx.p_loop (σ := Nat) (fun k => [(10, .slice A l.length c), (11, .int .i64 l.length), (12, .int .i64 (k : Int)), (3, .int .i64 (prod (l.take k)))])
    (fun _ => [F]) (fun k => k ≤ l.length) (fun k => l.length - k) 0 rfl (Nat.zero_le _) ⟨rfl, rfl, rfl, rfl, trivial⟩ (by (exact Ent.auto)) ?_
  intro k hk
  have hb := hs.bound hk
  have hb1 : k < l.length → prod (l.take k) * l.getD k default ≤ 4096 ∧ 1 ≤ prod (l.take k) * l.getD k default := fun h => by rw [← prod_succ l k h]; exact (hs.bound (by omega)).symm
  repeat' first
    | ((with_reducible refine Nx.is_wp ?_); first | refine Nx.wo ?_ | refine Nx.zp (fun hc => ?_) (fun hc => ?_))
    | (refine Nx.zo ?_; first | refine Nx.opr rfl rfl ?_ | refine Nx.indexAddr_nat rfl rfl rfl rfl rfl (by omega) (hl.isSome (by omega)) ?_ | refine Nx.load rfl rfl rfl (hl.rd (by omega)) ?_ | refine Nx.so ?_ | refine Nx.sb (fun bx => ?_) | refine Nx.sa (fun A2 c2 => ?_))
    | refine Nx.za ?_ | refine Nx.zr (fun hc => ?_) (fun hc => ?_)
    | refine Nx.zq ?_ | refine Nx.zu (fun hc => ?_) (fun hc => ?_)
    | refine Nx.zx ?_ | fail
  · exact Nx.again (k + 1) (by omega) (by omega) ⟨rfl, rfl, rfl, by rw [prod_succ l k (by omega)]; rfl, trivial⟩ (Ent.refl _)
  · exact Nx.ret_fn rfl [] ⟨by rw [List.take_of_length_le (by omega)], rfl⟩ (Ent.refl _)
end Go.Proofs.YtpcnapidlhpbkaaGreatDoor
namespace Go.Proofs.YtpcnapidlhpbkaaGreatDoor
open Go.Eng
attribute [local irreducible] opK wpList Code.wp Exit.then Exit.inBlock fnPost bodyPost Nx Calls Oper.wp Rd Rds Wr Ent Stars Blk Again Vec FnSpec wpMix QRun Stop Upto wpAt
def numK (l xs : List Int) : Nat → Int
  | 0 => 0
  | k + 1 => numK l xs k * l.getD k default + xs.getD k default
structure InR (l xs : List Int) : Prop where
  len : xs.length = l.length
  each : ∀ k, k < l.length → 0 ≤ xs.getD k default ∧ xs.getD k default < l.getD k default
theorem mul_add_lt {a b p d x : Int} (ha : 0 ≤ a ∧ a < p) (hx : 0 ≤ x ∧ x < d) (hb : b = p * d) : 0 ≤ a * d + x ∧ a * d + x < b := by
  have h1 : 0 ≤ a * d := Int.mul_nonneg ha.1 (by omega)
  have h2 : (a + 1) * d ≤ p * d := Int.mul_le_mul_of_nonneg_right (by omega) (by omega)
  rw [Int.add_mul] at h2
  omega
theorem numK_bound {l xs : List Int} (hx : InR l xs) : ∀ k, k ≤ l.length → 0 ≤ numK l xs k ∧ numK l xs k < prod (l.take k)
  | 0, _ => by simp [numK, prod]
  | k + 1, hk => by
    simp only [numK]
    exact mul_add_lt (numK_bound hx k (by omega)) (hx.each k (by omega)) (prod_succ l k (by omega))
end Go.Proofs.YtpcnapidlhpbkaaGreatDoor
namespace Go.Proofs.YtpcnapidlhpbkaaGreatDoor
open Go.Eng
attribute [local irreducible] opK wpList Code.wp Exit.then Exit.inBlock fnPost bodyPost Nx Calls Oper.wp Rd Rds Wr Ent Stars Blk Again Vec FnSpec wpMix QRun Stop Upto wpAt
def contF (l xs : List Int) : Nat → Nat → Int → Int
  | 0, _, m => m
  | r + 1, j, m => contF l xs r (j + 1) (m * l.getD j default + xs.getD j default)
theorem contF_num (l xs : List Int) : ∀ r j, contF l xs r j (numK l xs j) = numK l xs (j + r)
  | 0, j => rfl
  | r + 1, j => by
    have := contF_num l xs r (j + 1)
    simp only [contF]
    rw [show j + (r + 1) = j + 1 + r by omega, ← this]
    rfl
theorem getD_set_ne {xs : List Int} {i j : Nat} {z : Int} (h : i ≠ j) : (xs.set i z).getD j default = xs.getD j default := by
  rw [List.getD_eq_getElem?_getD, List.getD_eq_getElem?_getD, List.getElem?_set_ne h]
theorem getD_set_eq {xs : List Int} {i : Nat} {z : Int} (h : i < xs.length) : (xs.set i z).getD i default = z := by
  rw [List.getD_eq_getElem?_getD, List.getElem?_set_self h]; rfl
theorem contF_set (l xs : List Int) (i : Nat) (z : Int) : ∀ r j m, i < j → contF l (xs.set i z) r j m = contF l xs r j m
  | 0, _, _, _ => rfl
  | r + 1, j, m, h => by
    simp only [contF]
    rw [getD_set_ne (by omega), contF_set l xs i z r (j + 1) _ (by omega)]
structure PlOk (l : List Int) (n : Int) (s : Nat × List Int × Int) : Prop where
  le : s.1 ≤ l.length
  len : s.2.1.length = l.length
  m : 0 ≤ s.2.2 ∧ s.2.2 < prod (l.take s.1)
  each : ∀ i, s.1 ≤ i → i < l.length → 0 ≤ s.2.1.getD i default ∧ s.2.1.getD i default < l.getD i default
  num : contF l s.2.1 (l.length - s.1) s.1 s.2.2 = n
  last : s.1 < l.length → s.2.1.getD (l.length - 1) default = n % l.getD (l.length - 1) default
  first : s.1 = l.length → s.2.2 = n
theorem PlOk.step {l : List Int} {n : Int} {j : Nat} {xs : List Int} {m : Int} (hs : Sizes l) (h : PlOk l n (j + 1, xs, m)) : PlOk l n (j, xs.set j (m % l.getD j default), m / l.getD j default) := by
  have hle : j + 1 ≤ l.length := h.le
  have hlen : xs.length = l.length := h.len
  have hd := hs.at (k := j) (by omega)
  have hm : 0 ≤ m ∧ m < prod (l.take (j + 1)) := h.m
  rw [prod_succ l j (by omega)] at hm
  have hset : (xs.set j (m % l.getD j default)).getD j default = m % l.getD j default := getD_set_eq (by omega)
  refine ⟨by show j ≤ l.length; omega, by simpa using hlen, ⟨Int.ediv_nonneg hm.1 (by omega), Int.ediv_lt_of_lt_mul (by omega) hm.2⟩, fun i h1 h2 => ?_, ?_, fun _ => ?_, fun h1 => ?_⟩
  · show 0 ≤ (xs.set j (m % l.getD j default)).getD i default ∧ (xs.set j (m % l.getD j default)).getD i default < l.getD i default
    by_cases hij : j = i
    · subst hij
      rw [hset]
      exact ⟨Int.emod_nonneg _ (by omega), Int.emod_lt_of_pos _ (by omega)⟩
    · rw [getD_set_ne hij]
      have h1 : j ≤ i := h1
      exact h.each i (by show j + 1 ≤ i; omega) h2
  · show contF l (xs.set j (m % l.getD j default)) (l.length - j) j (m / l.getD j default) = n
    rw [show l.length - j = (l.length - (j + 1)) + 1 by omega]
    simp only [contF]
    rw [hset, contF_set l xs j _ _ _ _ (by omega), show m / l.getD j default * l.getD j default + m % l.getD j default = m by rw [Int.mul_comm]; exact Int.mul_ediv_add_emod m _]
    exact h.num
  · show (xs.set j (m % l.getD j default)).getD (l.length - 1) default = n % l.getD (l.length - 1) default
    by_cases hj : j = l.length - 1
    · have hmn : m = n := h.first (by show j + 1 = l.length; omega)
      rw [← hj, hset, hmn]
    · rw [getD_set_ne hj]
      exact h.last (by show j + 1 < l.length; omega)
  · have h1 : j = l.length := h1
    omega
end Go.Proofs.YtpcnapidlhpbkaaGreatDoor
namespace Go.Proofs.YtpcnapidlhpbkaaGreatDoor
open Go.Eng
attribute [local irreducible] opK wpList Code.wp Exit.then Exit.inBlock fnPost bodyPost Nx Calls Oper.wp Rd Rds Wr Ent Stars Blk Again Vec FnSpec wpMix QRun Stop Upto wpAt
def numb : List Int → Int → Option Int
  | [], nx => some nx
  | g :: r, nx => if g < -1 ∨ nx < g then none else numb r (if g = nx then nx + 1 else nx)
def numbB (l : List Int) : Bool := match numb l 0 with
  | some n => decide (0 < n)
  | none => false
theorem drop_at {l : List Int} {k : Nat} (hk : k < l.length) : l.drop k = l.getD k default :: l.drop (k + 1) := by
  rw [List.drop_eq_getElem_cons hk]
  simp [List.getD_eq_getElem?_getD, List.getElem?_eq_getElem hk]
end Go.Proofs.YtpcnapidlhpbkaaGreatDoor
namespace Go.Proofs.YtpcnapidlhpbkaaGreatDoor
open Go.Eng
attribute [local irreducible] opK wpList Code.wp Exit.then Exit.inBlock fnPost bodyPost Nx Calls Oper.wp Rd Rds Wr Ent Stars Blk Again Vec FnSpec wpMix QRun Stop Upto wpAt
def maxL (l : List Int) : Nat → Int
  | 0 => l.getD 0 default
  | k + 1 => max (maxL l k) (l.getD (k + 1) default)
end Go.Proofs.YtpcnapidlhpbkaaGreatDoor
namespace Go.Proofs.YtpcnapidlhpbkaaGreatDoor
open Go.Eng
attribute [local irreducible] opK wpList Code.wp Exit.then Exit.inBlock fnPost bodyPost Nx Calls Oper.wp Rd Rds Wr Ent Stars Blk Again Vec FnSpec wpMix QRun Stop Upto wpAt
set_option maxRecDepth 10000 in
theorem Ints_spec (A B : Option Addr) (cp cq : Nat) (l r : List Int) (I : PH) (hl : Ints I A cp l) (hr : Ints I B cq r) :
    FnSpec Tryz.prog 156 [.slice A l.length cp, .slice B r.length cq] I [] (fun v R' => v = .bool (decide (l = r)) ∧ R' = []) := by
  refine FnSpec.enterP Tryz.func156 rfl Tryz.ntmps156 rfl fun w F => ?_
  have h1 := hl.len
  repeat' first
    | ((with_reducible refine Nx.is_wp ?_); first | refine Nx.wo ?_ | refine Nx.zp (fun hc => ?_) (fun hc => ?_))
    | (refine Nx.zo ?_; first | refine Nx.opr rfl rfl ?_ | refine Nx.so ?_ | refine Nx.sb (fun bx => ?_) | refine Nx.sa (fun A2 c2 => ?_))
    | refine Nx.za ?_ | refine Nx.zr (fun hc => ?_) (fun hc => ?_)
    | refine Nx.zq ?_ | refine Nx.zu (fun hc => ?_) (fun hc => ?_)
    | refine Nx.zx ?_ | fail
  · exact Nx.ret_fn rfl [] ⟨by rw [decide_eq_false]; intro h; rw [h] at hc; exact hc rfl, rfl⟩ (Ent.refl _)
  have hlen : l.length = r.length := by omega
  refine Nx.p_loop (σ := Nat) (fun k => [(0, .slice A l.length cp), (1, .slice B r.length cq), (12, .int .i64 l.length), (13, .int .i64 (k : Int))])
    (fun _ => [F]) (fun k => k ≤ l.length ∧ l.take k = r.take k) (fun k => l.length - k) 0 rfl ⟨Nat.zero_le _, rfl⟩ ⟨rfl, rfl, rfl, rfl, trivial⟩ (Ent.refl _) ?_
  rintro k ⟨hk, hsame⟩
  repeat' first
    | ((with_reducible refine Nx.is_wp ?_); first | refine Nx.wo ?_ | refine Nx.p_draw (id := 6) rfl [0, 1, 2, 3, 4, 5, 6, 7, 8] [] _ rfl rfl (by kernel_rfl) (by kernel_rfl) rfl PanicOk.auto (Ent.refl _) ?_ | refine Nx.zp (fun hc => ?_) (fun hc => ?_))
    | (refine Nx.zo ?_; first | refine Nx.opr rfl rfl ?_ | refine Nx.so ?_ | refine Nx.sb (fun bx => ?_) | refine Nx.sa (fun A2 c2 => ?_))
    | refine Nx.za ?_ | refine Nx.zr (fun hc => ?_) (fun hc => ?_)
    | ((with_reducible refine Nx.is_mix ?_); first | refine Nx.m_quiet rfl rfl rfl rfl rfl (by first | exact QRun.opr rfl | exact QRun.idx rfl rfl rfl rfl (by omega) (hl.isSome (by omega)) | exact QRun.idx rfl rfl rfl rfl (by omega) (hr.isSome (by omega)) | exact QRun.load rfl rfl (hl.rd (by omega)) | exact QRun.load rfl rfl (hr.rd (by omega))) ?_ | refine Nx.m_quiet_do rfl rfl rfl rfl rfl rfl rfl (by first | exact QRun.opr rfl | exact QRun.idx rfl rfl rfl rfl (by omega) (hl.isSome (by omega)) | exact QRun.idx rfl rfl rfl rfl (by omega) (hr.isSome (by omega)) | exact QRun.load rfl rfl (hl.rd (by omega)) | exact QRun.load rfl rfl (hr.rd (by omega))) ?_ | refine Nx.m ?_ | refine Nx.zm ?_ | refine Nx.zt (fun hc => ?_) (fun hc => ?_))
    | refine Nx.zx ?_ | fail
  · refine Nx.ret_fn rfl [] ⟨by rw [decide_eq_false]; intro h; exact hc (by rw [h]), rfl⟩ (Ent.refl _)
  · refine Nx.again (k + 1) ⟨by omega, ?_⟩ (by omega) ⟨rfl, rfl, rfl, rfl, trivial⟩ (Ent.refl _)
    have e : l.getD k default = r.getD k default := Decidable.not_not.1 hc
    rw [List.take_succ_eq_append_getElem (by omega), List.take_succ_eq_append_getElem (by omega), hsame]
    rw [List.getD_eq_getElem?_getD, List.getD_eq_getElem?_getD, List.getElem?_eq_getElem (by omega), List.getElem?_eq_getElem (by omega)] at e
    rw [show l[k]'(by omega) = r[k]'(by omega) from e]
  · obtain rfl : k = l.length := by omega
    rw [List.take_length, hlen, List.take_length] at hsame
    exact Nx.ret_fn rfl [] ⟨by rw [decide_eq_true hsame], rfl⟩ (Ent.refl _)
end Go.Proofs.YtpcnapidlhpbkaaGreatDoor
namespace Go.Proofs.YtpcnapidlhpbkaaGreatDoor
open Go.Eng
attribute [local irreducible] opK wpList Code.wp Exit.then Exit.inBlock fnPost bodyPost Nx Calls Oper.wp Rd Rds Wr Ent Stars Blk Again Vec FnSpec wpMix QRun Stop Upto wpAt
abbrev Row := Option Addr × Nat × List Int
def rowV (r : Row) : Value := .slice r.1 r.2.2.length r.2.1
structure RowsOf (I : PH) (A : Option Addr) (c : Nat) (v : List Row) : Prop where
  outer : SliceOf rowV I A c v
  inner : ∀ r ∈ v, Ints I r.1 r.2.1 r.2.2
theorem RowsOf.at {I : PH} {A : Option Addr} {c : Nat} {v : List Row} (h : RowsOf I A c v) {k : Nat} (hk : k < v.length) : Ints I (v.getD k default).1 (v.getD k default).2.1 (v.getD k default).2.2 :=
  h.inner _ (by rw [List.getD_eq_getElem?_getD, List.getElem?_eq_getElem hk]; exact List.getElem_mem _)
structure Viewed (l : List Int) (v : List Row) : Prop where
  len : v.length = l.length
  each : ∀ k, k < l.length → ((v.getD k default).2.2.length : Int) = l.getD k default ∧ numbB (v.getD k default).2.2 = true
end Go.Proofs.YtpcnapidlhpbkaaGreatDoor
namespace Go.Sol
abbrev Eqn := List Nat × Int
def sumC (t : List Int) : List Nat → Int
  | [] => 0
  | c :: cs => t.getD c 0 + sumC t cs
theorem sumC_congr {s t : List Int} : ∀ {cs : List Nat}, (∀ c ∈ cs, s.getD c 0 = t.getD c 0) → sumC s cs = sumC t cs
  | [], _ => rfl
  | c :: cs, h => by rw [sumC, sumC, h c (by simp), sumC_congr fun x hx => h x (by simp [hx])]
theorem getD_setI {t : List Int} {c d : Nat} {v : Int} (hc : c < t.length) : (t.set c v).getD d 0 = if d = c then v else t.getD d 0 := by
  rw [List.getD_eq_getElem?_getD, List.getElem?_set]
  by_cases h : c = d
  · rw [if_pos h, if_pos h.symm, if_pos hc]; rfl
  · rw [if_neg h, if_neg (Ne.symm h), ← List.getD_eq_getElem?_getD]
theorem sumC_set {t : List Int} {c : Nat} {v : Int} (hc : c < t.length) : ∀ {cs : List Nat}, cs.Nodup → sumC (t.set c v) cs = sumC t cs + if c ∈ cs then v - t.getD c 0 else 0
  | [], _ => by simp [sumC]
  | d :: cs, hn => by
    obtain ⟨h1, h2⟩ := List.nodup_cons.1 hn
    rw [sumC, sumC, sumC_set hc h2, getD_setI hc]
    by_cases hd : d = c
    · subst hd
      rw [if_pos rfl, if_neg h1, if_pos (by simp)]; omega
    · rw [if_neg hd]
      by_cases hm : c ∈ cs
      · rw [if_pos hm, if_pos (by simp [hm])]; omega
      · rw [if_neg hm, if_neg (by simp [hm, Ne.symm hd])]; omega
def restQ (t : List Int) (q : Eqn) : Int := q.2 - sumC t q.1
def openQ (U : List Nat) (q : Eqn) : Nat := (q.1.filter fun c => decide (c ∈ U)).length
def lowF (t : List Int) (U : List Nat) (c : Nat) : List Eqn → Int
  | [] => 0
  | q :: l => if c ∈ q.1 ∧ openQ U q = 1 then max (restQ t q) (lowF t U c l) else lowF t U c l
def highF (M : Int) (t : List Int) (c : Nat) : List Eqn → Int
  | [] => M
  | q :: l => if c ∈ q.1 then min (restQ t q) (highF M t c l) else highF M t c l
theorem lowF_le {t : List Int} {U : List Nat} {c : Nat} {v : Int} : ∀ {l : List Eqn}, lowF t U c l ≤ v ↔ 0 ≤ v ∧ ∀ q ∈ l, c ∈ q.1 → openQ U q = 1 → restQ t q ≤ v
  | [] => by simp [lowF]
  | q :: l => by
    unfold lowF
    by_cases h : c ∈ q.1 ∧ openQ U q = 1
    · rw [if_pos h, Int.max_le, lowF_le]
      constructor
      · rintro ⟨h1, h2, h3⟩
        refine ⟨h2, fun p hp => ?_⟩
        rcases List.mem_cons.1 hp with rfl | hp
        · exact fun _ _ => h1
        · exact h3 p hp
      · rintro ⟨h1, h2⟩
        exact ⟨h2 q (by simp) h.1 h.2, h1, fun p hp => h2 p (by simp [hp])⟩
    · rw [if_neg h, lowF_le]
      constructor
      · rintro ⟨h2, h3⟩
        refine ⟨h2, fun p hp => ?_⟩
        rcases List.mem_cons.1 hp with rfl | hp
        · exact fun a b => absurd ⟨a, b⟩ h
        · exact h3 p hp
      · rintro ⟨h1, h2⟩
        exact ⟨h1, fun p hp => h2 p (by simp [hp])⟩
theorem le_highF {M : Int} {t : List Int} {c : Nat} {v : Int} : ∀ {l : List Eqn}, v ≤ highF M t c l ↔ v ≤ M ∧ ∀ q ∈ l, c ∈ q.1 → v ≤ restQ t q
  | [] => by simp [highF]
  | q :: l => by
    unfold highF
    by_cases h : c ∈ q.1
    · rw [if_pos h, Int.le_min, le_highF]
      constructor
      · rintro ⟨h1, h2, h3⟩
        refine ⟨h2, fun p hp => ?_⟩
        rcases List.mem_cons.1 hp with rfl | hp
        · exact fun _ => h1
        · exact h3 p hp
      · rintro ⟨h1, h2⟩
        exact ⟨h2 q (by simp) h, h1, fun p hp => h2 p (by simp [hp])⟩
    · rw [if_neg h, le_highF]
      constructor
      · rintro ⟨h2, h3⟩
        refine ⟨h2, fun p hp => ?_⟩
        rcases List.mem_cons.1 hp with rfl | hp
        · exact fun a => absurd a h
        · exact h3 p hp
      · rintro ⟨h1, h2⟩
        exact ⟨h1, fun p hp => h2 p (by simp [hp])⟩
def enum (M : Int) (l : List Eqn) : Bool → List Nat → List Int → List (List Int)
  | _, [], t => [t]
  | down, c :: U, t => (List.range (highF M t c l - lowF t (c :: U) c l + 1).toNat).flatMap fun (k : Nat) => enum M l false U (t.set c (if down then highF M t c l - (k : Int) else lowF t (c :: U) c l + (k : Int)))
structure Inv (n : Nat) (l : List Eqn) (U : List Nat) (t : List Int) : Prop where
  len : t.length = n
  nd : U.Nodup
  lt : ∀ c ∈ U, c < n
  zero : ∀ c ∈ U, t.getD c 0 = 0
  pos : ∀ q ∈ l, 0 ≤ restQ t q
  done : ∀ q ∈ l, openQ U q = 0 → restQ t q = 0
def Once (l : List Eqn) : Prop := ∀ q ∈ l, q.1.Nodup
theorem openQ_cons {c : Nat} {U : List Nat} {q : Eqn} (hn : q.1.Nodup) (hc : c ∉ U) : openQ (c :: U) q = openQ U q + if c ∈ q.1 then 1 else 0 := by
  unfold openQ
  obtain ⟨cs, v⟩ := q
  dsimp only at *
  induction cs with
  | nil => rfl
  | cons d cs ih =>
    obtain ⟨h1, h2⟩ := List.nodup_cons.1 hn
    have ih := ih h2
    by_cases hd : d = c
    · subst hd
      rw [List.filter_cons_of_pos (by simp), List.filter_cons_of_neg (by simp [hc]), List.length_cons, ih, if_neg h1, if_pos (by simp)]
    · have hmem : (d ∈ c :: U) ↔ d ∈ U := by simp [hd]
      have e1 : (c ∈ d :: cs) ↔ c ∈ cs := by simp [Ne.symm hd]
      by_cases hdU : d ∈ U
      · rw [List.filter_cons_of_pos (by simp [hdU]), List.filter_cons_of_pos (by simp [hdU]), List.length_cons, List.length_cons, ih]
        by_cases hcs : c ∈ cs
        · rw [if_pos hcs, if_pos (e1.2 hcs)]
        · rw [if_neg hcs, if_neg fun h => hcs (e1.1 h)]
      · rw [List.filter_cons_of_neg (by simp [hdU, hd]), List.filter_cons_of_neg (by simp [hdU]), ih]
        by_cases hcs : c ∈ cs
        · rw [if_pos hcs, if_pos (e1.2 hcs)]
        · rw [if_neg hcs, if_neg fun h => hcs (e1.1 h)]
theorem restQ_set {t : List Int} {c : Nat} {v : Int} {q : Eqn} (hc : c < t.length) (hn : q.1.Nodup) (h0 : t.getD c 0 = 0) : restQ (t.set c v) q = restQ t q - if c ∈ q.1 then v else 0 := by
  unfold restQ
  rw [sumC_set hc hn, h0]
  split <;> omega
theorem Inv.step {n : Nat} {l : List Eqn} {c : Nat} {U : List Nat} {t : List Int} {M v : Int} (ho : Once l) (h : Inv n l (c :: U) t) (h1 : lowF t (c :: U) c l ≤ v) (h2 : v ≤ highF M t c l) : Inv n l U (t.set c v) := by
  obtain ⟨hn1, hn2⟩ := List.nodup_cons.1 h.nd
  have hcn := h.lt c (by simp)
  have hlen := h.len
  have h0 := h.zero c (by simp)
  obtain ⟨hv, hlow⟩ := lowF_le.1 h1
  obtain ⟨_, hhigh⟩ := le_highF.1 h2
  refine ⟨by rw [List.length_set]; exact hlen, hn2, fun d hd => h.lt d (by simp [hd]), fun d hd => ?_, fun q hq => ?_, fun q hq hop => ?_⟩
  · rw [getD_setI (by omega), if_neg (fun e => hn1 (by rw [← e]; exact hd))]
    exact h.zero d (by simp [hd])
  · rw [restQ_set (by omega) (ho q hq) h0]
    have := h.pos q hq
    by_cases hc : c ∈ q.1
    · rw [if_pos hc]; have := hhigh q hq hc; omega
    · rw [if_neg hc]; omega
  · have hoc := openQ_cons (q := q) (ho q hq) hn1
    rw [restQ_set (by omega) (ho q hq) h0]
    by_cases hc : c ∈ q.1
    · rw [if_pos hc] at hoc ⊢
      have e1 := hlow q hq hc (by omega)
      have e2 := hhigh q hq hc
      omega
    · rw [if_neg hc] at hoc ⊢
      have := h.done q hq (by omega)
      omega
theorem sumC_split {s t : List Int} {U : List Nat} : ∀ {cs : List Nat}, (∀ c ∈ cs, c ∉ U → s.getD c 0 = t.getD c 0) → (∀ c ∈ cs, c ∈ U → t.getD c 0 = 0) → sumC s cs = sumC t cs + sumC s (cs.filter fun c => decide (c ∈ U))
  | [], _, _ => rfl
  | c :: cs, h1, h2 => by
    have ih := sumC_split (s := s) (t := t) (U := U) (cs := cs) (fun d hd => h1 d (by simp [hd])) (fun d hd => h2 d (by simp [hd]))
    rw [sumC, sumC, ih]
    by_cases hc : c ∈ U
    · rw [List.filter_cons_of_pos (by simp [hc]), sumC, h2 c (by simp) hc]; omega
    · rw [List.filter_cons_of_neg (by simp [hc]), h1 c (by simp) hc]; omega
theorem sumC_nonneg {s : List Int} : ∀ {cs : List Nat}, (∀ c ∈ cs, 0 ≤ s.getD c 0) → 0 ≤ sumC s cs
  | [], _ => Int.le_refl _
  | c :: cs, h => by have := h c (by simp); have := sumC_nonneg (cs := cs) fun d hd => h d (by simp [hd]); rw [sumC]; omega
theorem le_sumC {s : List Int} {c : Nat} : ∀ {cs : List Nat}, (∀ d ∈ cs, 0 ≤ s.getD d 0) → c ∈ cs → s.getD c 0 ≤ sumC s cs
  | d :: cs, h, hc => by
    have h1 := sumC_nonneg (cs := cs) fun e he => h e (by simp [he])
    have h2 := h d (by simp)
    rw [sumC]
    rcases List.mem_cons.1 hc with rfl | hc
    · omega
    · have := le_sumC (fun e he => h e (by simp [he])) hc; omega
structure Goes (n : Nat) (M : Int) (l : List Eqn) (U : List Nat) (t s : List Int) : Prop where
  len : s.length = n
  same : ∀ c, c ∉ U → s.getD c 0 = t.getD c 0
  pos : ∀ c ∈ U, 0 ≤ s.getD c 0 ∧ s.getD c 0 ≤ M
  sum : ∀ q ∈ l, sumC s q.1 = q.2
theorem ext_len {s t : List Int} (hl : s.length = t.length) (h : ∀ c, s.getD c 0 = t.getD c 0) : s = t := by
  refine List.ext_getElem hl fun i h1 h2 => ?_
  have := h i
  rw [List.getD_eq_getElem?_getD, List.getD_eq_getElem?_getD, List.getElem?_eq_getElem h1, List.getElem?_eq_getElem h2] at this
  exact this
theorem Goes.step {n : Nat} {M : Int} {l : List Eqn} {c : Nat} {U : List Nat} {t s : List Int} (hinv : Inv n l (c :: U) t) (h : Goes n M l (c :: U) t s) : Goes n M l U (t.set c (s.getD c 0)) s := by
  have hcn := hinv.lt c (by simp)
  have hlen := hinv.len
  refine ⟨h.len, fun d hd => ?_, fun d hd => h.pos d (by simp [hd]), h.sum⟩
  rw [getD_setI (by omega)]
  by_cases hdc : d = c
  · rw [if_pos hdc, hdc]
  · rw [if_neg hdc]; exact h.same d (by simp [hd, hdc])
theorem Goes.back {n : Nat} {M : Int} {l : List Eqn} {c : Nat} {U : List Nat} {t s : List Int} {v : Int} (hinv : Inv n l (c :: U) t) (h : Goes n M l U (t.set c v) s) (h0 : 0 ≤ v) (hM : v ≤ M) : Goes n M l (c :: U) t s ∧ s.getD c 0 = v := by
  have hcn := hinv.lt c (by simp)
  have hlen := hinv.len
  obtain ⟨hn1, _⟩ := List.nodup_cons.1 hinv.nd
  have hcv : s.getD c 0 = v := by rw [h.same c hn1, getD_setI (by omega), if_pos rfl]
  refine ⟨⟨h.len, fun d hd => ?_, fun d hd => ?_, h.sum⟩, hcv⟩
  · have hd' : d ≠ c ∧ d ∉ U := by simpa using hd
    rw [h.same d hd'.2, getD_setI (by omega), if_neg hd'.1]
  · rcases List.mem_cons.1 hd with rfl | hd
    · rw [hcv]; exact ⟨h0, hM⟩
    · exact h.pos d hd
theorem Goes.span {n : Nat} {M : Int} {l : List Eqn} {c : Nat} {U : List Nat} {t s : List Int} (hinv : Inv n l (c :: U) t) (h : Goes n M l (c :: U) t s) : lowF t (c :: U) c l ≤ s.getD c 0 ∧ s.getD c 0 ≤ highF M t c l := by
  have hp := h.pos c (by simp)
  have hrest : ∀ q ∈ l, restQ t q = sumC s (q.1.filter fun d => decide (d ∈ c :: U)) := fun q hq => by
    have h1 := sumC_split (s := s) (t := t) (U := c :: U) (cs := q.1) (fun d _ hd => h.same d hd) (fun d _ hd => hinv.zero d hd)
    have h2 := h.sum q hq
    unfold restQ
    omega
  have hnn : ∀ q : Eqn, ∀ d ∈ q.1.filter (fun d => decide (d ∈ c :: U)), 0 ≤ s.getD d 0 := fun q d hd => (h.pos d (by have := (List.mem_filter.1 hd).2; exact of_decide_eq_true this)).1
  constructor
  · rw [lowF_le]
    refine ⟨hp.1, fun q hq hc hop => ?_⟩
    rw [hrest q hq]
    have hmem : c ∈ q.1.filter (fun d => decide (d ∈ c :: U)) := List.mem_filter.2 ⟨hc, by simp⟩
    unfold openQ at hop
    generalize q.1.filter (fun d => decide (d ∈ c :: U)) = f at hop hmem
    match f, hop, hmem with
    | [x], _, hm =>
      rw [List.mem_singleton.1 hm]
      simp [sumC]
  · rw [le_highF]
    refine ⟨hp.2, fun q hq hc => ?_⟩
    rw [hrest q hq]
    exact le_sumC (hnn q) (List.mem_filter.2 ⟨hc, by simp⟩)
theorem mem_enum {n : Nat} {M : Int} {l : List Eqn} (ho : Once l) : ∀ {U : List Nat} {down : Bool} {t s : List Int}, Inv n l U t → (s ∈ enum M l down U t ↔ Goes n M l U t s)
  | [], down, t, s, h => by
    unfold enum
    rw [List.mem_singleton]
    constructor
    · rintro rfl
      exact ⟨h.len, fun _ _ => rfl, fun c hc => absurd hc List.not_mem_nil, fun q hq => by
        have := h.done q hq (by unfold openQ; simp)
        unfold restQ at this
        omega⟩
    · intro hg
      exact ext_len (by rw [hg.len, h.len]) fun c => hg.same c List.not_mem_nil
  | c :: U, down, t, s, h => by
    unfold enum
    rw [List.mem_flatMap]
    constructor
    · rintro ⟨k, hk, hs⟩
      have hk := List.mem_range.1 hk
      have hv : lowF t (c :: U) c l ≤ (if down then highF M t c l - (k : Int) else lowF t (c :: U) c l + (k : Int)) ∧ (if down then highF M t c l - (k : Int) else lowF t (c :: U) c l + (k : Int)) ≤ highF M t c l := by split <;> omega
      have hg := (mem_enum ho (h.step ho hv.1 hv.2)).1 hs
      exact (Goes.back h hg (lowF_le.1 hv.1).1 (le_highF.1 hv.2).1).1
    · intro hg
      obtain ⟨h1, h2⟩ := Goes.span h hg
      have hk : ∃ k : Nat, (k : Int) ≤ highF M t c l - lowF t (c :: U) c l ∧ (if down then highF M t c l - (k : Int) else lowF t (c :: U) c l + (k : Int)) = s.getD c 0 := by
        by_cases hd : down = true
        · refine ⟨(highF M t c l - s.getD c 0).toNat, by omega, ?_⟩
          rw [if_pos hd]; omega
        · refine ⟨(s.getD c 0 - lowF t (c :: U) c l).toNat, by omega, ?_⟩
          rw [if_neg hd]; omega
      obtain ⟨k, hk1, hk2⟩ := hk
      refine ⟨k, List.mem_range.2 (by omega), ?_⟩
      rw [hk2]
      exact (mem_enum ho (h.step ho h1 h2)).2 (hg.step h)
def ltU : Bool → List Nat → List Int → List Int → Prop
  | _, [], _, _ => False
  | down, c :: U, a, b => (if down then b.getD c 0 < a.getD c 0 else a.getD c 0 < b.getD c 0) ∨ (a.getD c 0 = b.getD c 0 ∧ ltU false U a b)
theorem pairwise_flatMap {α β : Type} {r : β → β → Prop} {f : α → List β} : ∀ {l : List α}, (∀ x ∈ l, (f x).Pairwise r) → l.Pairwise (fun x y => ∀ a ∈ f x, ∀ b ∈ f y, r a b) → (l.flatMap f).Pairwise r
  | [], _, _ => List.Pairwise.nil
  | x :: l, h1, h2 => by
    rw [List.flatMap_cons, List.pairwise_append]
    obtain ⟨h3, h4⟩ := List.pairwise_cons.1 h2
    refine ⟨h1 x (by simp), pairwise_flatMap (fun y hy => h1 y (by simp [hy])) h4, fun a ha b hb => ?_⟩
    obtain ⟨y, hy, hb⟩ := List.mem_flatMap.1 hb
    exact h3 y hy a ha b hb
theorem enum_sorted {n : Nat} {M : Int} {l : List Eqn} (ho : Once l) : ∀ {U : List Nat} {down : Bool} {t : List Int}, Inv n l U t → (enum M l down U t).Pairwise (ltU down U)
  | [], down, t, _ => by unfold enum; exact List.pairwise_singleton _ _
  | c :: U, down, t, h => by
    unfold enum
    have hat : ∀ k : Nat, k < (highF M t c l - lowF t (c :: U) c l + 1).toNat → ∀ a ∈ enum M l false U (t.set c (if down then highF M t c l - (k : Int) else lowF t (c :: U) c l + (k : Int))), a.getD c 0 = if down then highF M t c l - (k : Int) else lowF t (c :: U) c l + (k : Int) := fun k hk a ha => by
      have hv : lowF t (c :: U) c l ≤ (if down then highF M t c l - (k : Int) else lowF t (c :: U) c l + (k : Int)) ∧ (if down then highF M t c l - (k : Int) else lowF t (c :: U) c l + (k : Int)) ≤ highF M t c l := by split <;> omega
      exact (Goes.back h ((mem_enum ho (h.step ho hv.1 hv.2)).1 ha) (lowF_le.1 hv.1).1 (le_highF.1 hv.2).1).2
    refine pairwise_flatMap (fun k hk => ?_) ?_
    · have hk := List.mem_range.1 hk
      have hv : lowF t (c :: U) c l ≤ (if down then highF M t c l - (k : Int) else lowF t (c :: U) c l + (k : Int)) ∧ (if down then highF M t c l - (k : Int) else lowF t (c :: U) c l + (k : Int)) ≤ highF M t c l := by split <;> omega
      refine (enum_sorted ho (h.step ho hv.1 hv.2)).imp_of_mem fun {a b} ha hb hab => ?_
      exact Or.inr ⟨by rw [hat k hk a ha, hat k hk b hb], hab⟩
    · refine (List.pairwise_lt_range (n := _)).imp_of_mem fun {x y} hx hy hxy a ha b hb => ?_
      have hx := List.mem_range.1 hx
      have hy := List.mem_range.1 hy
      left
      rw [hat x hx a ha, hat y hy b hb]
      by_cases hd : down = true
      · rw [if_pos hd, if_pos hd, if_pos hd]; omega
      · rw [if_neg hd, if_neg hd, if_neg hd]; omega
def foldStop {σ α : Type} (f : σ → α → σ × Bool) : σ → List α → σ × Bool
  | s, [] => (s, true)
  | s, x :: l => if (f s x).2 then foldStop f (f s x).1 l else ((f s x).1, false)
theorem foldStop_append {σ α : Type} (f : σ → α → σ × Bool) : ∀ (s : σ) (x y : List α), foldStop f s (x ++ y) = if (foldStop f s x).2 then foldStop f (foldStop f s x).1 y else foldStop f s x
  | s, [], y => by simp [foldStop]
  | s, a :: x, y => by
    rw [List.cons_append, foldStop, foldStop]
    by_cases h : (f s a).2 = true
    · rw [if_pos h, if_pos h]; exact foldStop_append f _ x y
    · rw [if_neg h, if_neg h, if_neg (by simp)]
end Go.Sol
namespace Go.Eng
section
variable {C : Cx} {e e' : Env} {I I' : PH} {R R' : List Res} {K K' : Act → World → Prop} {Q : Exit → Act → World → Prop} {W : World}
theorem St.imm_le {w : World} (hle : PH.le I I') (h : St W I' R w) : St W I R w := by
  obtain ⟨⟨m, hm, hs⟩, hst⟩ := h
  exact ⟨⟨m, hm, ⟨fun i o hi => hs.imm i o (hle i o hi), hs.own, dis_sub hs.dis hle (PH.le_refl _)⟩⟩, hst⟩
theorem Nx.imm_le (hle : PH.le I I') (h : Nx C e I R K) : Nx C e I' R K := fun a w ha hw => h a w ha (hw.imm_le hle)
theorem Stars.get : ∀ {R : List Res} {m : PH} (k : Nat) {r : Res}, Stars R m → nthL R k = some r → ∃ m', PH.le m' m ∧ r m'
  | [], _, k, r, _, hk => by cases k <;> simp [nthL] at hk
  | r0 :: R, m, 0, r, h, hk => by
    obtain ⟨m1, m2, hd, rfl, h1, _⟩ := h
    simp [nthL] at hk
    subst hk
    exact ⟨m1, PH.le_or_left _ _, h1⟩
  | r0 :: R, m, k + 1, r, h, hk => by
    obtain ⟨m1, m2, hd, rfl, _, h2⟩ := h
    obtain ⟨m', hle, hr⟩ := Stars.get k h2 hk
    exact ⟨m', hle.trans (PH.le_or_right hd), hr⟩
theorem Nx.freezeAt (k : Nat) {r : Res} (hk : nthL R k = some r) (h : ∀ I' m, PH.le I I' → PH.le m I' → r m → Nx C e I' (R.eraseIdx k) K) : Nx C e I R K :=
  Nx.freeze (B := [r]) (R' := R.eraseIdx k) (Ent.pull k R r (nthL_eq.symm.trans hk)) (fun m hd hB => by
    obtain ⟨m1, m2, hd', rfl, hr, _⟩ := hB
    exact h _ m1 (PH.le_or_left _ _) ((PH.le_or_left m1 m2).trans (PH.le_or_right hd)) hr)
theorem Nx.unfoldAt (k : Nat) {B : List Res} (hk : nthL R k = some (Stars B)) (h : Nx C e I (B ++ R.eraseIdx k) K) : Nx C e I R K := by
  refine Nx.ent (Ent.pull k R _ (nthL_eq.symm.trans hk)) (Nx.ent ?_ h)
  rintro m ⟨m1, m2, hd, rfl, h1, h2⟩
  obtain ⟨k, hk, hkS⟩ := Stars.join hd h1 h2
  exact ⟨k, hk, hkS⟩
theorem Ent.bundle {r : Res} {B : List Res} {R : List Res} : Ent (r :: Stars B :: R) (Stars (B ++ [r]) :: R) := by
  refine (Ent.swap _ _ _).trans ?_
  rintro m ⟨m1, m2, hd, rfl, h1, n1, n2, hd', rfl, h2, h3⟩
  obtain ⟨d1, d2⟩ := PH.dis_or.1 hd
  obtain ⟨k, hk, hkS⟩ := Stars.join (a := B) (b := [r]) d1 h1 ⟨n1, fun _ => none, fun _ => .inr rfl, by funext i; unfold PH.or; cases n1 i <;> rfl, h2, trivial⟩
  have hkn : PH.dis k n2 := dis_sub (PH.dis.symm (PH.dis_or.2 ⟨d2.symm, hd'.symm⟩)) hk (PH.le_refl _)
  refine ⟨k.or n2, ?_, k, n2, hkn, rfl, hkS, h3⟩
  rw [← PH.or_assoc]
  refine PH.or_le (hk.trans (PH.le_or_left _ _)) (PH.le_or_right (PH.dis.symm (PH.dis_or.2 ⟨d2.symm, hd'.symm⟩)))
theorem Ent.stars_nil (R : List Res) : Ent R (Stars [] :: R) := fun m hm => ⟨m, PH.le_refl m, fun _ => none, m, fun _ => .inl rfl, by funext i; rfl, trivial, hm⟩
theorem Ent.pack2 {r s : Res} {R : List Res} : Ent (r :: s :: R) (Stars [r, s] :: R) := by
  rintro m ⟨m1, mm, hd, rfl, h1, m2, m3, hd', rfl, h2, h3⟩
  obtain ⟨d1, d2⟩ := PH.dis_or.1 hd
  refine ⟨_, PH.le_refl _, m1.or m2, m3, PH.dis.symm (PH.dis_or.2 ⟨d2.symm, hd'.symm⟩), (PH.or_assoc _ _ _).symm, ?_, h3⟩
  exact ⟨m1, m2, d1, rfl, h1, m2, fun _ => none, fun _ => .inr rfl, by funext i; unfold PH.or; cases m2 i <;> rfl, h2, trivial⟩
section
variable {d : Nat} {ty t el : TypeId} {pos : String} {after : Array Edge} {g : Option (Nat × Bool)} {x y : Operand} {A : Option Addr} {n c : Nat}
theorem Nx.store_of (k : Nat) {α : Type} (f : α → Value) {i : Nat} {l : List α} {z : α} (hx : evo e x = some (.pointer (some ((ad A).add (i * 1))))) (hy : evo e y = some (f z)) (hc : cellsL (f z) = [f z]) (h1 : (f z).oneCell' = true) (hn : cellsIn C.P t = some 1) (hk : nthL R k = some (Vec el 1 A n c (l.map f))) (hi : i < n)
    (h : Nx C e I (Vec el 1 A n c ((l.set i z).map f) :: R.eraseIdx k) K) : Nx C e I R (opK C.P ⟨none, .store t x y, ty, pos, after, g⟩ K Q) := by
  rw [Nat.mul_one] at hx
  refine Nx.ent (Ent.pull k R _ (nthL_eq.symm.trans hk)) (Nx.store hx hy ((cellsL_eq _).trans hc) hn rfl (Wr.vec hi h1) ?_)
  rw [List.map_set] at h
  exact h
end
end
end Go.Eng
namespace Go.Eng
section
variable {C : Cx} {e : Env} {I : PH} {R : List Res} {K : Act → World → Prop} {Q : Exit → Act → World → Prop} {W : World} {d n c : Nat} {v : Value} {o : Oper} {P : Program} {t ty el : TypeId} {pos : String} {after : Array Edge} {g : Option (Nat × Bool)} {x y : Operand} {A : Option Addr}
theorem Nx.quietly (hd : o.dst = some d) (hlt : Nat.blt d C.n = true) (h : QRun C e (St C.W I R) o v) (k : Nx C ((d, v) :: e) I R K) : Nx C e I R (opK C.P o K Q) := Nx.op_run hd hlt (fun a w ha hw => by unfold QRun at h; exact h a w ha hw) k
theorem Wr.vecN {sz i : Nat} {xs : List Value} (hi : i < n * sz) (h1 : v.oneCell' = true) : Wr P W I (Vec t sz A n c xs :: R) ((ad A).add i) [v] (Vec t sz A n c (xs.set i v) :: R) := by
  intro w hw
  obtain ⟨⟨m, ⟨m1, m2, hd, rfl, hv, h2⟩, hsat⟩, hst⟩ := id hw
  rcases hv.2 with ⟨_, h0, _⟩ | ⟨b, cur, rfl, hb, hnc, hcm, hsz, htake⟩
  · rw [h0, Nat.zero_mul] at hi; omega
  have hb0 : w.heap[b]? = some (.cells cur t (0, 0)) := hsat.own _ _ (PH.le_or_left _ _ _ _ hb)
  have hle : n * sz ≤ c * sz := Nat.mul_le_mul_right _ hnc
  have hrun := run_store1 (P := P) hb0 (i := i) (by omega) h1
  refine ⟨w.setCell ⟨b, i, none⟩ v, ?_, hw.upd (o := .cells (cur.setIfInBounds i v) t (0, 0)) (b := b) (fun mm hm => ?_) ?_ (fun k hne o' ho => (heap_setCell_other w ⟨b, i, none⟩ k v hne).trans ho) ⟨rfl, rfl, rfl, by simp, Nat.le_refl _⟩⟩
  · rw [ad_some, Addr.add_lit, Nat.zero_add]
    unfold storeCells
    rw [Sem.run_bind, Addr.add_zero', hrun]
    rfl
  · rcases hm.2 with ⟨he, _, _⟩ | ⟨b', cur', he, hb', h1', h2', h3', h4'⟩
    · cases he
    · cases he
      refine ⟨by rw [hb']; rfl, by simpa using hm.1, .inr ⟨b, cur.setIfInBounds i v, rfl, by simp, h1', h2', by simpa using hsz, ?_⟩⟩
      rw [← htake]
      simp only [Array.toList_setIfInBounds]
      rw [List.take_set]
  · exact heap_setCell_same w b i cur t v hb0
end
end Go.Eng
namespace Go.Eng
structure PoolOp where
  k : Nat
  d : Nat
  t : TypeId
  cs : List Value
def pe : List PoolOp → List (Option Nat) → Env
  | p :: ps, some b :: bs => (p.d, .pointer (some ⟨b, 0, none⟩)) :: pe ps bs
  | _ :: ps, none :: bs => pe ps bs
  | _, _ => []
def pr : List PoolOp → List (Option Nat) → List Res
  | p :: ps, some b :: bs => Blk b p.t p.cs :: pr ps bs
  | _ :: ps, none :: bs => pr ps bs
  | _, _ => []
def keysFree (pool : List PoolOp) : Env → Bool
  | [] => true
  | (t, _) :: e => pool.all (fun p => !Nat.beq p.d t) && keysFree pool e
theorem keysFree_lk {pool : List PoolOp} : ∀ {e : Env} {p : PoolOp}, keysFree pool e = true → p ∈ pool → lk e p.d = none
  | [], _, _, _ => rfl
  | (t, v) :: e, p, h, hp => by
    simp only [keysFree, Bool.and_eq_true, List.all_eq_true] at h
    have h1 := h.1 p hp
    unfold lk
    have hne : Nat.beq t p.d = false := by
      cases hb : Nat.beq t p.d with
      | false => rfl
      | true => have := Nat.eq_of_beq_eq_true hb; subst this; simp at h1
    rw [hne]
    exact keysFree_lk h.2 hp
theorem lk_cons (k : Nat) (u : Value) (r : Env) (t : Nat) : lk ((k, u) :: r) t = match Nat.beq k t with | true => some u | false => lk r t := rfl
theorem Stars.up : ∀ {R : List Res} {m m' : PH}, Stars R m' → PH.le m' m → Stars R m
  | [], _, _, _, _ => trivial
  | r :: rs, m, _, ⟨m1, m2, hd, rfl, hr, h2⟩, hle => by
    refine ⟨m1, fun i => match m1 i with | some _ => none | none => m i, fun i => ?_, ?_, hr, Stars.up h2 fun i o hi => ?_⟩
    · cases h : m1 i with
      | none => exact .inl rfl
      | some o => exact .inr (by show (match m1 i with | some _ => none | none => m i) = none; rw [h])
    · funext i
      show m i = (match m1 i with | some o => some o | none => (match m1 i with | some _ => none | none => m i))
      cases h : m1 i with
      | none => simp only
      | some o => exact hle i o (PH.le_or_left m1 m2 i o h)
    · have h1 : m1 i = none := by
        rcases hd i with h | h
        · exact h
        · rw [h] at hi; cases hi
      show (match m1 i with | some _ => none | none => m i) = some o
      rw [h1]
      exact hle i o (PH.le_or_right hd i o hi)
theorem lk_app {a b : Env} {t : Nat} {v : Value} (h : lk (a ++ b) t = some v) : lk a t = some v ∨ (lk a t = none ∧ lk b t = some v) := by
  induction a with
  | nil => exact .inr ⟨rfl, h⟩
  | cons x r ih =>
    obtain ⟨k, u⟩ := x
    simp only [List.cons_append] at h
    rw [lk_cons] at h ⊢
    cases hb : Nat.beq k t with
    | true => rw [hb] at h; exact .inl h
    | false => rw [hb] at h; exact ih h
theorem lk_app_l {a b : Env} {t : Nat} {v : Value} (h : lk a t = some v) : lk (a ++ b) t = some v := by
  induction a with
  | nil => simp [lk] at h
  | cons x r ih =>
    obtain ⟨k, u⟩ := x
    simp only [List.cons_append]
    rw [lk_cons] at h ⊢
    cases hb : Nat.beq k t with
    | true => rw [hb] at h; exact h
    | false => rw [hb] at h; exact ih h
theorem lk_app_r {a b : Env} {t : Nat} (h : lk a t = none) : lk (a ++ b) t = lk b t := by
  induction a with
  | nil => rfl
  | cons x r ih =>
    obtain ⟨k, u⟩ := x
    simp only [List.cons_append]
    rw [lk_cons] at h ⊢
    cases hb : Nat.beq k t with
    | true => rw [hb] at h; cases h
    | false => rw [hb] at h; exact ih h
theorem pe_set : ∀ {pool : List PoolOp} {bs : List (Option Nat)} {j : Nat} {p : PoolOp} {b t : Nat} {v : Value}, pool[j]? = some p → lk (pe pool (bs.set j (some b))) t = some v → (t = p.d ∧ v = .pointer (some ⟨b, 0, none⟩)) ∨ lk (pe pool bs) t = some v ∨ bs[j]? ≠ some none
  | [], _, j, p, _, _, _, hj, _ => by simp at hj
  | q :: ps, [], j, p, _, _, _, _, h => by simp [pe, lk] at h
  | q :: ps, o :: bs, 0, p, b, t, v, hj, h => by
    simp at hj
    subst hj
    cases o with
    | some b0 => exact .inr (.inr (by simp))
    | none =>
      simp only [List.set_cons_zero, pe] at h ⊢
      unfold lk at h
      cases hb : Nat.beq q.d t with
      | true => rw [hb] at h; have := Nat.eq_of_beq_eq_true hb; subst this; exact .inl ⟨rfl, (Option.some.inj h).symm⟩
      | false => rw [hb] at h; exact .inr (.inl h)
  | q :: ps, o :: bs, j + 1, p, b, t, v, hj, h => by
    simp only [List.set_cons_succ] at h
    have hj' : ps[j]? = some p := by simpa using hj
    cases o with
    | none =>
      simp only [pe] at h ⊢
      rcases pe_set hj' h with h1 | h1 | h1
      · exact .inl h1
      · exact .inr (.inl h1)
      · exact .inr (.inr (by simpa using h1))
    | some b0 =>
      simp only [pe] at h ⊢
      unfold lk at h ⊢
      cases hb : Nat.beq q.d t with
      | true => rw [hb] at h; exact .inr (.inl h)
      | false =>
        rw [hb] at h
        rcases pe_set hj' h with h1 | h1 | h1
        · exact .inl h1
        · exact .inr (.inl h1)
        · exact .inr (.inr (by simpa using h1))
theorem pr_set : ∀ {pool : List PoolOp} {bs : List (Option Nat)} {j : Nat} {p : PoolOp} {b : Nat}, pool[j]? = some p → bs[j]? = some none → Ent (Blk b p.t p.cs :: pr pool bs) (pr pool (bs.set j (some b)))
  | [], _, j, p, _, hj, _ => by simp at hj
  | q :: ps, [], j, p, _, _, h => by simp at h
  | q :: ps, o :: bs, 0, p, b, hj, h => by
    simp at hj h
    subst hj; subst h
    simp only [List.set_cons_zero, pr]
    exact Ent.refl _
  | q :: ps, o :: bs, j + 1, p, b, hj, h => by
    simp only [List.set_cons_succ]
    have hj' : ps[j]? = some p := by simpa using hj
    have h' : bs[j]? = some none := by simpa using h
    cases o with
    | none => simp only [pr]; exact pr_set hj' h'
    | some b0 => simp only [pr]; exact (Ent.swap _ _ _).trans (Ent.cons (pr_set hj' h'))
theorem pe_none : ∀ {pool : List PoolOp} {bs : List (Option Nat)} {j : Nat} {p : PoolOp}, (pool.map (·.d)).Pairwise (· ≠ ·) → pool[j]? = some p → bs[j]? = some none → lk (pe pool bs) p.d = none
  | [], _, j, p, _, hj, _ => by simp at hj
  | q :: ps, [], j, p, _, _, h => by simp at h
  | q :: ps, o :: bs, 0, p, hd, hj, h => by
    simp at hj h
    subst hj; subst h
    simp only [pe]
    simp only [List.map_cons, List.pairwise_cons] at hd
    have key : ∀ (ps : List PoolOp) (bs : List (Option Nat)), (∀ a ∈ ps.map (·.d), q.d ≠ a) → lk (pe ps bs) q.d = none := by
      intro ps
      induction ps with
      | nil => intro bs _; simp [pe, lk]
      | cons r ps ih =>
        intro bs hh
        cases bs with
        | nil => simp [pe, lk]
        | cons o bs =>
          cases o with
          | none => simp only [pe]; exact ih bs fun a ha => hh a (by simp at ha ⊢; exact .inr ha)
          | some b0 =>
            simp only [pe]
            unfold lk
            have hne : Nat.beq r.d q.d = false := by
              cases hb : Nat.beq r.d q.d with
              | false => rfl
              | true => exact absurd (Nat.eq_of_beq_eq_true hb).symm (hh r.d (by simp))
            rw [hne]
            exact ih bs fun a ha => hh a (by simp at ha ⊢; exact .inr ha)
    exact key ps bs hd.1
  | q :: ps, o :: bs, j + 1, p, hd, hj, h => by
    have hj' : ps[j]? = some p := by simpa using hj
    have h' : bs[j]? = some none := by simpa using h
    simp only [List.map_cons, List.pairwise_cons] at hd
    cases o with
    | none => simp only [pe]; exact pe_none hd.2 hj' h'
    | some b0 =>
      simp only [pe]
      unfold lk
      have hne : Nat.beq q.d p.d = false := by
        cases hb : Nat.beq q.d p.d with
        | false => rfl
        | true => exact absurd (Nat.eq_of_beq_eq_true hb) (hd.1 p.d (List.mem_map.2 ⟨p, List.mem_of_getElem? hj', rfl⟩))
      rw [hne]
      exact pe_none hd.2 hj' h'
def findP : List PoolOp → List Bool → Nat → Nat → Option Nat
  | p :: ps, f :: fl, i, j => if Nat.beq p.k i && !f then some j else findP ps fl i (j + 1)
  | _, _, _, _ => none
theorem findP_ok : ∀ {pool : List PoolOp} {fl : List Bool} {i j j0 : Nat}, findP pool fl i j0 = some j → ∃ m p, j = j0 + m ∧ pool[m]? = some p ∧ fl[m]? = some false ∧ p.k = i
  | [], _, _, _, _, h => by simp [findP] at h
  | _ :: _, [], _, _, _, h => by simp [findP] at h
  | p :: ps, f :: fl, i, j, j0, h => by
    unfold findP at h
    split at h
    · rename_i hc
      simp only [Bool.and_eq_true, Bool.not_eq_true'] at hc
      exact ⟨0, p, by simpa using h.symm, rfl, by simp [hc.2], Nat.eq_of_beq_eq_true hc.1⟩
    · obtain ⟨m, q, h1, h2, h3, h4⟩ := findP_ok h
      exact ⟨m + 1, q, by omega, by simpa using h2, by simpa using h3, h4⟩
structure PoolFit (C : Cx) (ops : Array Oper) (p : PoolOp) : Prop where
  op : ∃ ty pos after, ops[p.k]? = some ⟨some p.d, .alloc p.t, ty, pos, after, none⟩
  zero : zeroOf C.P p.t = some p.cs
  lt : Nat.blt p.d C.n = true
section
variable {C : Cx} {e e' : Env} {I : PH} {R R' R0 : List Res} {K K' : Act → World → Prop} {Q : Exit → Act → World → Prop} {W : World}
variable {ops : Array Oper} {S : World → Prop} {loud rest ch : List Nat} {pool : List PoolOp}
theorem map_isSome {bs : List (Option Nat)} (h : (bs.map Option.isSome).all id = true) : ∃ l : List Nat, bs = l.map some := by
  induction bs with
  | nil => exact ⟨[], rfl⟩
  | cons o r ih =>
    simp only [List.map_cons, List.all_cons, Bool.and_eq_true, id_eq] at h
    obtain ⟨l, rfl⟩ := ih h.2
    cases o with
    | none => cases h.1
    | some b => exact ⟨b :: l, rfl⟩
theorem Mod.poolPut {n : Nat} {a : Act} {p : PoolOp} {bs : List (Option Nat)} {j b : Nat} (h : Mod n (e ++ pe pool bs) a) (hf : keysFree pool e = true) (hd : (pool.map (·.d)).Pairwise (· ≠ ·)) (hj : pool[j]? = some p) (hb : bs[j]? = some none) (hlt : Nat.blt p.d n = true) :
    Mod n (e ++ pe pool (bs.set j (some b))) (a.put (some p.d) (.pointer (some ⟨b, 0, none⟩))) := by
  have h1 := h.put hlt (.pointer (some ⟨b, 0, none⟩))
  refine ⟨h1.size, h1.defers, fun t v hv => ?_⟩
  have hpe := keysFree_lk hf (List.mem_of_getElem? hj)
  have hpn := pe_none hd hj hb
  have key : ∀ {t v}, lk (e ++ pe pool bs) t = some v → (a.put (some p.d) (.pointer (some ⟨b, 0, none⟩))).tmps[t]? = some v := fun {t v} hv => by
    refine h1.get t v ?_
    unfold lk
    have hne : Nat.beq p.d t = false := by
      cases hb : Nat.beq p.d t with
      | false => rfl
      | true =>
        have := Nat.eq_of_beq_eq_true hb
        subst this
        rcases lk_app hv with h2 | ⟨_, h2⟩
        · rw [hpe] at h2; cases h2
        · rw [hpn] at h2; cases h2
    rw [hne]; exact hv
  rcases lk_app hv with h2 | ⟨h2, h3⟩
  · exact key (lk_app_l h2)
  · rcases pe_set hj h3 with ⟨rfl, rfl⟩ | h4 | h4
    · exact h1.get _ _ (by unfold lk; rw [Nat.beq_refl])
    · exact key (by rw [lk_app_r h2]; exact h4)
    · exact absurd hb h4
def preOk (ops : Array Oper) (k : Array Bool → Bool) : List Nat → Array Bool → Bool
  | [], listed => k listed
  | q :: r, listed => Region.free .any ops listed q && (Region.ready .any ops listed).contains q && preOk ops k r (listed.setIfInBounds q true)
theorem wpMix_pre {P : Program} {T : Act → World → Prop} (hs : Region.noSelect ops = true) (hQ : PanicOk Q) {k : Array Bool → Bool} {fuel : Nat} (hT : ∀ listed a w, k listed = true → S w → T a w → wpAnyH P .any ops Q S fuel listed a w) : ∀ (q : List Nat) (listed : Array Bool) (a : Act) (w : World),
    preOk ops k q listed = true → S w → wpMix P ops (Exit.then T Q) S [] q a w → wpAnyH P .any ops Q S (fuel + q.length) listed a w
  | [], listed, a, w, hok, hSw, h => hT listed a w hok hSw h
  | i :: r, listed, a, w, hok, hSw, h => by
    obtain ⟨o, ho, h⟩ := h
    simp only [preOk, Bool.and_eq_true] at hok
    rw [if_neg (by simp)] at h
    obtain ⟨v, hy, h⟩ := h
    exact wpAnyH_take ho hs hok.1.1 hok.1.2 (fun c a w => hQ c o.dst v a w) hy hSw (wpMix_pre hs hQ hT r _ _ w hok.2 hSw h)
theorem pe_nones : ∀ (pool : List PoolOp), pe pool (pool.map fun _ => none) = [] ∧ pr pool (pool.map fun _ => none) = [] ∧ ((pool.map fun _ => (none : Option Nat)).map Option.isSome) = pool.map fun _ => false
  | [] => ⟨rfl, rfl, rfl⟩
  | p :: ps => by
    obtain ⟨h1, h2, h3⟩ := pe_nones ps
    exact ⟨by simp only [List.map_cons, pe]; exact h1, by simp only [List.map_cons, pr]; exact h2, by simp [h3]⟩
variable {c : Code}
end
end Go.Eng
namespace Go.Eng
def wpAnyF (P : Program) (md : Region.Mode) (ops : Array Oper) (Q : Exit → Act → World → Prop) (S : World → Prop) (fin : List Nat) : Nat → Array Bool → Act → World → Prop
  | 0, listed, a, w => Region.ready md ops listed = [] ∧ Q .normal a w
  | n + 1, listed, a, w => (Region.ready md ops listed = [] → Q .normal a w) ∧
    ∀ i ∈ Region.ready md ops listed, wpOp P ops Q i (fun a' w' => (fin.contains i = false → S w') ∧ wpAnyF P md ops Q S fin n (listed.setIfInBounds i true) a' w') a w
section
variable {P : Program} {ops : Array Oper} {Q : Exit → Act → World → Prop} {md : Region.Mode} {S : World → Prop} {fin : List Nat}
theorem wpAny_of_fin : ∀ (n : Nat) (listed : Array Bool) (a : Act) (w : World), wpAnyF P md ops Q S fin n listed a w → wpAny P md ops Q n listed a w
  | 0, _, _, _, h => h
  | n + 1, _, _, _, h => ⟨h.1, fun i hi => wpOp_mono (fun a' w' h' => wpAny_of_fin n _ a' w' h'.2) (h.2 i hi)⟩
theorem ready_waits {i j : Nat} {oj : Oper} {listed : Array Bool} (hi : i ∈ Region.ready md ops listed) (hj : j ∈ Region.ready md ops listed) (ho : ops[j]? = some oj) : ∀ e ∈ oj.after, Region.binds md e = true → e.on ≠ i := by
  intro e he hb heq
  obtain ⟨_, o, ho', hall⟩ := mem_ready.1 hj
  obtain ⟨h0, _, _, _⟩ := mem_ready.1 hi
  rw [ho] at ho'
  obtain rfl : oj = o := by simpa using ho'
  have h1 := hall e he hb
  subst heq
  rcases Nat.lt_or_ge e.on listed.size with h' | h'
  · simp [h'] at h0 h1
    rw [h0] at h1; cases h1
  · simp [Array.getElem?_eq_none h'] at h1
def Closed (md : Region.Mode) (ops : Array Oper) (listed : Array Bool) : Prop := ∀ k o, ops[k]? = some o → listed.getD k false = true → ∀ e ∈ o.after, Region.binds md e = true → listed.getD e.on false = true
theorem Closed.start (n : Nat) : Closed md ops (Array.replicate n false) := fun k o _ h => by
  exfalso
  by_cases hk : k < n <;> simp [hk] at h
theorem Closed.set {i : Nat} {listed : Array Bool} (h : Closed md ops listed) (hi : i ∈ Region.ready md ops listed) : Closed md ops (listed.setIfInBounds i true) := fun k o ho hk e he hb => by
  by_cases hik : i = k
  · subst hik
    obtain ⟨_, o', ho', hall⟩ := mem_ready.1 hi
    rw [ho] at ho'
    obtain rfl : o = o' := by simpa using ho'
    exact getD_set_true (hall e he hb)
  · rw [getD_set_ne false hik] at hk
    exact getD_set_true (h k o ho hk e he hb)
def waitsOn (md : Region.Mode) (ops : Array Oper) : Nat → Nat → Nat → Bool
  | 0, _, _ => false
  | n + 1, j, i => match ops[j]? with
    | some o => o.after.any fun e => Region.binds md e && (Nat.beq e.on i || waitsOn md ops n e.on i)
    | none => false
theorem waitsOn_listed {i : Nat} {listed : Array Bool} (hc : Closed md ops listed) : ∀ (n j : Nat), waitsOn md ops n j i = true → (∀ o, ops[j]? = some o → ∀ e ∈ o.after, Region.binds md e = true → listed.getD e.on false = true) → listed.getD i false = true
  | 0, j, h, _ => by simp [waitsOn] at h
  | n + 1, j, h, hj => by
    unfold waitsOn at h
    split at h
    · rename_i o ho
      obtain ⟨e, he, hb⟩ := Array.any_eq_true'.1 h
      simp only [Bool.and_eq_true, Bool.or_eq_true] at hb
      have h1 := hj o ho e he hb.1
      rcases hb.2 with h2 | h2
      · rw [← Nat.eq_of_beq_eq_true h2]; exact h1
      · exact waitsOn_listed hc n e.on h2 fun o' ho' => hc e.on o' ho' h1
    · cases h
def finWaits (md : Region.Mode) (ops : Array Oper) (fin : List Nat) (i : Nat) : Bool := fin.all fun j => waitsOn md ops 2 j i || waitsOn md ops 4 j i || waitsOn md ops 9 j i
theorem finWaits_not {i j : Nat} {listed : Array Bool} (hc : Closed md ops listed) (h : finWaits md ops fin i = true) (hi : i ∈ Region.ready md ops listed) (hj : j ∈ Region.ready md ops listed) : fin.contains j = false := by
  cases hf : fin.contains j with
  | false => rfl
  | true =>
    exfalso
    have h1 := List.all_eq_true.1 h j (by simpa using hf)
    obtain ⟨_, oj, hoj, hall⟩ := mem_ready.1 hj
    have hj' : ∀ o, ops[j]? = some o → ∀ e ∈ o.after, Region.binds md e = true → listed.getD e.on false = true := fun o ho => by
      rw [hoj] at ho
      obtain rfl : oj = o := by simpa using ho
      exact hall
    have h2 : listed.getD i false = true := by
      simp only [Bool.or_eq_true] at h1
      rcases h1 with (h1 | h1) | h1 <;> exact waitsOn_listed hc _ j h1 hj'
    have h0 := (mem_ready.1 hi).1
    rcases Nat.lt_or_ge i listed.size with h' | h'
    · simp [h'] at h0 h2
      rw [h0] at h2; cases h2
    · simp [Array.getElem?_eq_none h'] at h2
theorem wpAnyF_first {i : Nat} {oi : Oper} {v : Value} (hi : ops[i]? = some oi) (hs : Region.noSelect ops = true) (hQ : PanicOk Q) (hfin : finWaits md ops fin i = true) :
    ∀ (n : Nat) (listed : Array Bool) (a : Act) (w : World), Closed md ops listed →
      (∀ j oj, ops[j]? = some oj → j ≠ i → listed.getD j true = false → (∀ e ∈ oj.after, Region.binds md e = true → e.on ≠ i) → oi.apart ops oj = true) →
      i ∈ Region.ready md ops listed → YieldsIf P ops S oi v a → S w →
      wpAnyF P md ops Q S fin n (listed.setIfInBounds i true) (a.put oi.dst v) w → wpAnyF P md ops Q S fin (n + 1) listed a w
  | n, listed, a, w, hcl, hap, hr, hy, hS, H => by
    refine ⟨fun h0 => (by rw [h0] at hr; cases hr), fun j hj => ?_⟩
    by_cases hji : j = i
    · subst hji; exact hy.wpOp hi hS ⟨fun _ => hS, H⟩
    · have hj2 := ready_mono hj hji
      obtain ⟨hjun, oj, hoj, _⟩ := mem_ready.1 hj
      have hno := ready_waits hr hj hoj
      have hnf := finWaits_not hcl hfin hr hj
      match n, H with
      | 0, H => rw [H.1] at hj2; cases hj2
      | n + 1, H =>
        have h1 := H.2 j hj2
        have h2 := wpOp_putIf hoj (hap j oj hoj hji hjun hno) (fun cs b => Region.noSelect_spec hs i oi cs b hi) (fun cs b => Region.noSelect_spec hs j oj cs b hoj) (fun c a w => hQ c oi.dst v a w) hy h1
        refine wpOp_mono (fun a' w' h3 => ?_) h2
        obtain ⟨hy', hS', H'⟩ := h3
        refine ⟨fun _ => hS' hnf, wpAnyF_first hi hs hQ hfin n (listed.setIfInBounds j true) a' w' (hcl.set hj) (fun k ok hk hki hun hnk => ?_) (ready_mono hr (Ne.symm hji)) hy' (hS' hnf) ?_⟩
        · refine hap k ok hk hki ?_ hnk
          by_cases hjk : j = k
          · subst hjk; exact hjun
          · rwa [getD_set_ne true hjk] at hun
        · rw [Array.setIfInBounds_comm _ _ hji]
          exact H'
theorem wpOp_then {T : Act → World → Prop} {i : Nat} {a : Act} {w : World} {K : Act → World → Prop} (hh : wpOp P ops (Exit.then T Q) i K a w) : wpOp P ops Q i K a w := by
  unfold wpOp at *
  split
  · simpa [*] using hh
  · rename_i o ho
    simp only [ho] at hh
    split
    · rename_i hw
      simp only [hw, if_true] at hh
      rcases hh with hh | hh
      · refine .inl ?_
        unfold Oper.wp at *
        generalize (execOp a.eval o).run P w = r at *
        cases r with
        | ok n w' =>
          cases n <;> simp only [Oper.upon] at hh ⊢ <;>
            first
              | exact hh
              | exact Calls.mono hh (fun e w'' he => by cases e <;> exact he)
              | exact Rows.mono hh (fun _ _ he => he)
        | halt x w' => cases x <;> simp only [Oper.upon] at hh ⊢ <;> exact hh
      · exact .inr hh
    · rename_i hw
      simpa [hw] using hh
def mixOkF (ops : Array Oper) (fin loud : List Nat) : List Nat → Array Bool → Bool
  | [], listed => mixOk ops fin fin listed
  | k :: r, listed => (if loud.contains k then Region.ready .any ops listed == [k] && !(fin.contains k) else Region.free .any ops listed k && (Region.ready .any ops listed).contains k && finWaits .any ops fin k) && mixOkF ops fin loud r (listed.setIfInBounds k true)
theorem wpMix_fin (hs : Region.noSelect ops = true) (hQ : PanicOk Q) (hall : ∀ k ∈ fin, fin.contains k = true) : ∀ (r : List Nat) (n : Nat) (listed : Array Bool) (a : Act) (w : World), (∀ k ∈ r, fin.contains k = true) →
    mixOk ops fin r listed = true → r.length ≤ n → wpMix P ops Q AnyW fin r a w → wpAnyF P .any ops Q S fin n listed a w
  | [], n, listed, a, w, _, hok, _, h => by
    have hr : Region.ready .any ops listed = [] := by simpa [mixOk] using hok
    cases n with
    | zero => exact ⟨hr, h⟩
    | succ n => exact ⟨fun _ => h, by rw [hr]; simp⟩
  | k :: r, 0, listed, a, w, _, _, hl, _ => by simp at hl
  | k :: r, n + 1, listed, a, w, hk, hok, hl, h => by
    obtain ⟨o, ho, h⟩ := h
    have hkf := hk k (by simp)
    unfold mixOk at hok
    rw [if_pos hkf] at h hok
    simp only [Bool.and_eq_true, beq_iff_eq] at hok
    refine ⟨fun h0 => (by rw [hok.1] at h0; cases h0), fun i hi => ?_⟩
    rw [hok.1] at hi
    obtain rfl : i = k := by simpa using hi
    refine wpOp_mono (fun a' w' h3 => ⟨fun hf => ?_, wpMix_fin hs hQ hall r n _ a' w' (fun j hj => hk j (by simp [hj])) hok.2 (by simpa using hl) h3.2⟩) h
    rw [hkf] at hf; cases hf
theorem wpMix_anyF (hs : Region.noSelect ops = true) (hQ : PanicOk Q) {loud : List Nat} : ∀ (ord : List Nat) (n : Nat) (listed : Array Bool) (a : Act) (w : World), Closed .any ops listed →
    mixOkF ops fin loud ord listed = true → ord.length + fin.length ≤ n → S w → wpMix P ops (Exit.then (wpMix P ops Q AnyW fin fin) Q) S loud ord a w → wpAnyF P .any ops Q S fin n listed a w
  | [], n, listed, a, w, _, hok, hl, _, h => wpMix_fin hs hQ (fun k hk => by simpa using hk) fin n listed a w (fun k hk => by simpa using hk) hok (by simpa using hl) h
  | k :: r, 0, listed, a, w, _, _, hl, _, _ => by simp at hl
  | k :: r, n + 1, listed, a, w, hcl, hok, hl, hS, h => by
    obtain ⟨o, ho, h⟩ := h
    unfold mixOkF at hok
    rw [Bool.and_eq_true] at hok
    obtain ⟨hk, hr⟩ := hok
    have hl' : r.length + fin.length ≤ n := by simp only [List.length_cons] at hl; omega
    by_cases hc : loud.contains k = true
    · rw [if_pos hc] at h hk
      simp only [Bool.and_eq_true, beq_iff_eq, Bool.not_eq_true'] at hk
      refine ⟨fun h0 => (by rw [hk.1] at h0; cases h0), fun i hi => ?_⟩
      rw [hk.1] at hi
      obtain rfl : i = k := by simpa using hi
      refine wpOp_then (T := wpMix P ops Q AnyW fin fin) ?_
      exact wpOp_mono (fun a' w' h3 => ⟨fun _ => h3.1, wpMix_anyF hs hQ r n _ a' w' (hcl.set (by rw [hk.1]; simp)) hr hl' h3.1 h3.2⟩) h
    · rw [if_neg hc] at h hk
      simp only [Bool.and_eq_true] at hk
      obtain ⟨v, hy, h⟩ := h
      exact wpAnyF_first ho hs hQ hk.2 n listed a w hcl (Region.free_spec ho hk.1.1) (by simpa using hk.1.2) hy hS (wpMix_anyF hs hQ r n _ _ w (hcl.set (by simpa using hk.1.2)) hr hl' hS h)
end
section
variable {C : Cx} {e e' : Env} {I : PH} {R R' R0 : List Res} {K K' : Act → World → Prop} {Q : Exit → Act → World → Prop} {W : World} {c : Code} {ops : Array Oper}
theorem Nx.p_drawF {id : Nat} (hid : cid c = id) (ord loud fin : List Nat) (R0 : List Res) (hk : ck c = 2) (hm : C.P.follows .mixedOrders = true) (hs : Region.noSelect (cops c) = true) (hok : mixOkF (cops c) fin loud ord (Array.replicate (cops c).size false) = true) (hlen : Nat.ble (ord.length + fin.length) (cops c).size = true) (hQ : PanicOk Q) (hR : Ent R R0)
    (h : Nx C e I R (wpMix C.P (cops c) (Exit.then (wpMix C.P (cops c) Q AnyW fin fin) Q) (St C.W I R0) loud ord)) : Nx C e I R (c.wp C.P Q) := by
  have hc : c = .region (cid c) (cops c) true := by
    cases c <;> first | (simp [ck] at hk; done) | skip
    rename_i b
    cases b with
    | false => simp [ck] at hk
    | true => rfl
  clear hid
  rw [hc]
  intro a w ha hw
  refine wp_region_any hm (wpAny_of_fin _ _ _ _ (wpMix_anyF (S := St C.W I R0) hs hQ ord _ _ a _ (Closed.start _) hok (Nat.le_of_ble_eq_true hlen) (hw.drew.ent hR) (h a _ ha hw.drew)))
theorem Ent.eraseK : ∀ (k : Nat) (R : List Res), Ent R (R.eraseIdx k)
  | _, [] => Ent.refl _
  | 0, _ :: _ => Ent.drop (Ent.refl _)
  | k + 1, _ :: R => Ent.cons (Ent.eraseK k R)
def resOne (tmps : Array Value) : ResultVar → Sem Value
  | .tmp t => pure (tmps.getD t undef)
  | .cell x t => do loadVar t (← asAddr (tmps.getD x undef))
theorem results_eq (fn : Func) (tmps : Array Value) : results fn tmps = (do
  let vs ← fn.results.mapM (resOne tmps)
  pure (if h : vs.size = 1 then vs[0] else .tuple vs)) := by
  unfold results
  congr 1
def ROne (C : Cx) (e : Env) (I : PH) (R : List Res) (r : ResultVar) (v : Value) : Prop := ∀ a w, Mod C.n e a → St C.W I R w → (resOne a.tmps r).run C.P w = .ok v w
variable {v v1 v2 v3 : Value}
theorem ROne.tmp {t : Nat} (h : lk e t = some v) : ROne C e I R (.tmp t) v := fun a w ha _ => by simp [resOne, ha.get t v h]
theorem ROne.cell (k : Nat) {nc t0 b : Nat} {ty tb : TypeId} {cs : List Value} (hx : lk e t0 = some (.pointer (some ⟨b, 0, none⟩))) (ht : aggT C.P ty = true) (hn : cellsIn C.P ty = some nc) (hl : cs.length = nc) (hk : nthL R k = some (Blk b tb cs)) : ROne C e I R (.cell t0 ty) (.agg cs.toArray) := fun a w ha hw => by
  have hload := run_loadVar_agg (A := ⟨b, 0, none⟩) ht hn hl (fun j u hj => (Rds.at_ k hk : Rds C.W I R ⟨b, 0, none⟩ cs) j u hj w hw)
  simp [resOne, ha.get t0 _ hx, asAddr, hload]
theorem Nx.ret2 {fn : Func} {F : Res} {Post : Value → List Res → Prop} {r1 r2 : ResultVar} (hres : fn.results.toList = [r1, r2]) (h1 : ROne C e I R r1 v1) (h2 : ROne C e I R r2 v2) (R' : List Res) (hp : Post (.tuple #[v1, v2]) R') (hR : Ent R (R' ++ [F])) : Nx C e I R (fnPost C.P fn I F C.W Post .ret) :=
  fun a w ha hw => ⟨ha.defers, _, by
    have hr : fn.results = #[r1, r2] := by
      have : fn.results = [r1, r2].toArray := by rw [← hres]
      simpa using this
    have e1 := h1 a w ha hw
    have e2 := h2 a w ha hw
    rw [results_eq, hr]
    simp [e1, e2], _, R', rfl, hp, hw.ent hR⟩
theorem Nx.ret3 {fn : Func} {F : Res} {Post : Value → List Res → Prop} {r1 r2 r3 : ResultVar} (hres : fn.results.toList = [r1, r2, r3]) (h1 : ROne C e I R r1 v1) (h2 : ROne C e I R r2 v2) (h3 : ROne C e I R r3 v3) (R' : List Res) (hp : Post (.tuple #[v1, v2, v3]) R') (hR : Ent R (R' ++ [F])) : Nx C e I R (fnPost C.P fn I F C.W Post .ret) :=
  fun a w ha hw => ⟨ha.defers, _, by
    have hr : fn.results = #[r1, r2, r3] := by
      have : fn.results = [r1, r2, r3].toArray := by rw [← hres]
      simpa using this
    have e1 := h1 a w ha hw
    have e2 := h2 a w ha hw
    have e3 := h3 a w ha hw
    rw [results_eq, hr]
    simp [e1, e2, e3], _, R', rfl, hp, hw.ent hR⟩
end
end Go.Eng
