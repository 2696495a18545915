/- Contracts of functions of the given program, and lemmas. -/
import Derived.ChangeSame
import Derived.ChangeSlices
import Derived.Carry
import Derived.OpenShut
import Derived.Laws.Bits64
import Derived.Laws.Bits64b
import Derived.Laws.Externs
import Derived.Shelf.Spec.BitsCarry
import Derived.Test.YtpcnapidlhpbkaaGreatDoorRows
import Derived.Shelf.Bits.Mul64
import Derived.Laws.StructEq
import Derived.Shelf.Strconv.Itoa0
import Derived.Test.YtpcnapidlhpbkaaGreatDoorBq1
set_option maxHeartbeats 32000000
namespace Go.Eng
def cl : Code → Code
  | .seq a _ => a
  | .cond _ a _ => a
  | .block _ b => b
  | .loop b => b
  | .scope b => b
  | c => c
def cr : Code → Code
  | .seq _ b => b
  | .cond _ _ b => b
  | c => c
def cops : Code → Array Oper
  | .region _ ops _ => ops
  | _ => #[]
def cid : Code → Nat
  | .region id _ _ => id
  | .block id _ => id
  | .exit id => id
  | _ => 0
def ccnd : Code → Operand
  | .cond c _ _ => c
  | _ => .tmp 0
def ck : Code → Nat
  | .skip => 0
  | .region _ _ false => 1
  | .region _ _ true => 2
  | .seq _ _ => 3
  | .cond _ _ _ => 4
  | .block _ _ => 5
  | .loop _ => 6
  | .exit _ => 7
  | .ret => 8
  | .label _ => 9
  | .scope _ => 10
  | .goto _ => 11
  | .rangeFunc _ _ _ _ => 12
  | .refuse _ => 13
def bodyOf (fn : Func) : Code := match fn.body with
  | some c => c
  | none => .skip
def opAt : List Oper → Nat → Option Oper
  | [], _ => none
  | ⟨a, b, c, d, e, f⟩ :: _, 0 => some ⟨a, b, c, d, e, f⟩
  | _ :: r, i + 1 => opAt r i
theorem opAt_eq : ∀ {l : List Oper} {i : Nat}, opAt l i = l[i]?
  | [], i => by simp [opAt]
  | _ :: _, 0 => rfl
  | _ :: r, i + 1 => by simp only [opAt, List.getElem?_cons_succ]; exact opAt_eq
theorem opAt_arr {ops : Array Oper} {i : Nat} {o : Option Oper} (h : opAt ops.toList i = o) : ops[i]? = o := by
  rw [opAt_eq] at h
  rw [← h]
  simp
def wpAt (P : Program) (ops : Array Oper) (Q : Exit → Act → World → Prop) (i : Nat) : Act → World → Prop := wpList P ops Q (ops.toList.drop i)
theorem FnSpec.enterP {P : Program} {f : FuncId} {fn : Func} {args : List Value} {I : PH} {Rpre : List Res} {Post : Value → List Res → Prop} {n : Nat}
    (hf : P.funcs[f]? = some fn) (hb : fn.body.isSome = true) (hn : fn.ntmps = n) (hle : Nat.ble args.length n = true)
    (h : ∀ w F, Nx ⟨P, n, w⟩ (argEnv args 0) I (Rpre ++ [F]) ((bodyOf fn).wp P (fnPost P fn I F w Post))) : FnSpec P f args I Rpre Post := by
  obtain ⟨c, hc⟩ := Option.isSome_iff_exists.1 hb
  have : bodyOf fn = c := by unfold bodyOf; rw [hc]
  rw [this] at h
  exact FnSpec.enter hf hc hn hle h
section
variable {C : Cx} {e e' : Env} {I : PH} {R R' : List Res} {K K' : Act → World → Prop} {Q : Exit → Act → World → Prop} {c : Code}
theorem Nx.is_at {ops : Array Oper} {i : Nat} (h : Nx C e I R (wpAt C.P ops Q i)) : Nx C e I R (wpAt C.P ops Q i) := h
theorem Nx.is_wp (h : Nx C e I R (c.wp C.P Q)) : Nx C e I R (c.wp C.P Q) := h
theorem Nx.is_mix {ops : Array Oper} {S : World → Prop} {l r : List Nat} (h : Nx C e I R (wpMix C.P ops Q S l r)) : Nx C e I R (wpMix C.P ops Q S l r) := h
theorem Nx.p_seq (hk : ck c = 3) (h : Nx C e I R ((cl c).wp C.P (Exit.then ((cr c).wp C.P Q) Q))) : Nx C e I R (c.wp C.P Q) := by
  cases c <;> first | exact Nx.seq h | (simp [ck] at hk; done) | (rename_i d; cases d <;> simp [ck] at hk)
theorem Nx.p_skip (hk : ck c = 0) (h : Nx C e I R (Q .normal)) : Nx C e I R (c.wp C.P Q) := by
  cases c <;> first | exact Nx.skip h | (simp [ck] at hk; done) | (rename_i d; cases d <;> simp [ck] at hk)
theorem Nx.p_ret (hk : ck c = 8) (h : Nx C e I R (Q .ret)) : Nx C e I R (c.wp C.P Q) := by
  cases c <;> first | exact Nx.ret h | (simp [ck] at hk; done) | (rename_i d; cases d <;> simp [ck] at hk)
theorem Nx.p_label (hk : ck c = 9) (h : Nx C e I R (Q .normal)) : Nx C e I R (c.wp C.P Q) := by
  cases c <;> first | exact Nx.label h | (simp [ck] at hk; done) | (rename_i d; cases d <;> simp [ck] at hk)
theorem Nx.p_exit {id : Nat} (hk : ck c = 7) (hid : forced (cid c) = some id) (h : Nx C e I R (Q (.exit id))) : Nx C e I R (c.wp C.P Q) := by
  have hid := forced_eq hid
  subst hid
  cases c <;> first | exact Nx.exit h | (simp [ck] at hk; done) | (rename_i d; cases d <;> simp [ck] at hk)
theorem Nx.p_block {id : Nat} (hk : ck c = 5) (hid : forced (cid c) = some id) (h : Nx C e I R ((cl c).wp C.P (Exit.inBlock id Q))) : Nx C e I R (c.wp C.P Q) := by
  have hid := forced_eq hid
  subst hid
  cases c <;> first | exact Nx.block h | (simp [ck] at hk; done) | (rename_i d; cases d <;> simp [ck] at hk)
theorem Nx.p_region (hk : ck c = 1) (h : Nx C e I R (wpAt C.P (cops c) Q 0)) : Nx C e I R (c.wp C.P Q) := by
  cases c <;> first | (simp [ck] at hk; done) | skip
  rename_i id ops d
  cases d with
  | true => simp [ck] at hk
  | false =>
    intro a w ha hw
    have h1 := h a w ha hw
    unfold wpAt at h1
    rw [List.drop_zero] at h1
    exact wp_region_list h1
theorem Nx.p_t (hk : ck c = 4) (hc : evo e (ccnd c) = some (.bool true)) (h : Nx C e I R ((cl c).wp C.P Q)) : Nx C e I R (c.wp C.P Q) := by
  cases c <;> first | exact Nx.cond_true hc h | (simp [ck] at hk; done) | (rename_i d; cases d <;> simp [ck] at hk)
theorem Nx.p_f (hk : ck c = 4) (hc : evo e (ccnd c) = some (.bool false)) (h : Nx C e I R ((cr c).wp C.P Q)) : Nx C e I R (c.wp C.P Q) := by
  cases c <;> first | exact Nx.cond_false hc h | (simp [ck] at hk; done) | (rename_i d; cases d <;> simp [ck] at hk)
theorem Nx.p_dec {p : Prop} [Decidable p] (hk : ck c = 4) (hc : evo e (ccnd c) = some (.bool (decide p))) (ht : p → Nx C e I R ((cl c).wp C.P Q)) (hf : ¬p → Nx C e I R ((cr c).wp C.P Q)) : Nx C e I R (c.wp C.P Q) := by
  cases c <;> first | exact Nx.cond_dec hc ht hf | (simp [ck] at hk; done) | (rename_i d; cases d <;> simp [ck] at hk)
theorem Nx.p_bool {b : Bool} (hk : ck c = 4) (hc : evo e (ccnd c) = some (.bool b)) (ht : b = true → Nx C e I R ((cl c).wp C.P Q)) (hf : b = false → Nx C e I R ((cr c).wp C.P Q)) : Nx C e I R (c.wp C.P Q) := by
  cases c <;> first | exact Nx.cond_bool hc ht hf | (simp [ck] at hk; done) | (rename_i d; cases d <;> simp [ck] at hk)
theorem Nx.p_dec_t {p : Prop} [Decidable p] (hk : ck c = 4) (hc : evo e (ccnd c) = some (.bool (decide p))) (hp : p) (h : Nx C e I R ((cl c).wp C.P Q)) : Nx C e I R (c.wp C.P Q) := Nx.p_dec hk hc (fun _ => h) (fun hn => absurd hp hn)
theorem Nx.p_dec_f {p : Prop} [Decidable p] (hk : ck c = 4) (hc : evo e (ccnd c) = some (.bool (decide p))) (hp : ¬p) (h : Nx C e I R ((cr c).wp C.P Q)) : Nx C e I R (c.wp C.P Q) := Nx.p_dec hk hc (fun hn => absurd hn hp) (fun _ => h)
theorem Nx.p_draw {id : Nat} (hid : cid c = id) (ord loud : List Nat) (R0 : List Res) (hk : ck c = 2) (hm : C.P.follows .mixedOrders = true) (hs : Region.noSelect (cops c) = true) (hok : mixOk (cops c) loud ord (Array.replicate (cops c).size false) = true) (hlen : Nat.ble ord.length (cops c).size = true) (hQ : PanicOk Q) (hR : Ent R R0)
    (h : Nx C e I R (wpMix C.P (cops c) Q (St C.W I R0) loud ord)) : Nx C e I R (c.wp C.P Q) := by
  have hc : c = .region (cid c) (cops c) true := by
    cases c <;> first | (simp [ck] at hk; done) | skip
    rename_i b
    cases b with
    | false => simp [ck] at hk
    | true => rfl
  clear hid
  rw [hc]
  exact Nx.draw ord loud R0 hm hs hok hlen hQ hR h
theorem Nx.p_loop {σ : Type} (E : σ → Env) (T : σ → List Res) (ok : σ → Prop) (μ : σ → Nat) (s0 : σ) (hk : ck c = 6) (h0 : ok s0) (he : EnvSub (E s0) e) (hR : Ent R (T s0))
    (round : ∀ s, ok s → Nx C (E s) I (T s) ((cl c).wp C.P (Exit.then (Again C E I T ok μ s) Q))) : Nx C e I R (c.wp C.P Q) := by
  cases c <;> first | exact Nx.loop E T ok μ s0 h0 he hR round | (simp [ck] at hk; done) | (rename_i d; cases d <;> simp [ck] at hk)
variable {ops : Array Oper} {i : Nat} {o : Oper}
theorem drop_of {ops : Array Oper} {i : Nat} {o : Oper} (ho : ops[i]? = some o) : ops.toList.drop i = o :: ops.toList.drop (i + 1) := by
  obtain ⟨hlt, he⟩ := Array.getElem?_eq_some_iff.1 ho
  rw [List.drop_eq_getElem_cons (by simpa using hlt)]
  congr 1
theorem Nx.at_end (ho : opAt ops.toList i = none) (h : Nx C e I R (Q .normal)) : Nx C e I R (wpAt C.P ops Q i) := by
  unfold wpAt
  rw [List.drop_eq_nil_of_le (by have := Array.getElem?_eq_none_iff.1 (opAt_arr ho); simpa using this)]
  exact Nx.nil h
theorem Nx.at_endt (ho : opAt ops.toList i = none) (h : Nx C e I R K) : Nx C e I R (wpAt C.P ops (Exit.then K Q) i) := Nx.at_end ho h
theorem Nx.at_op (ho : opAt ops.toList i = some o) (hg : o.guard = none) (h : Nx C e I R (opK C.P o (wpAt C.P ops Q (i + 1)) Q)) : Nx C e I R (wpAt C.P ops Q i) := by
  unfold wpAt at *
  rw [drop_of (opAt_arr ho)]
  exact Nx.cons hg h
theorem Nx.at_do {j d : Nat} {want : Bool} (ho : opAt ops.toList i = some o) (hg : o.guard = some (j, want)) (hd : (ops[j]?).bind (·.dst) = some d) (hb : lk e d = some (.bool want)) (h : Nx C e I R (opK C.P o (wpAt C.P ops Q (i + 1)) Q)) : Nx C e I R (wpAt C.P ops Q i) := by
  unfold wpAt at *
  rw [drop_of (opAt_arr ho)]
  exact Nx.cons_do hg hd hb h
theorem Nx.at_no {j d t : Nat} {want : Bool} (ho : opAt ops.toList i = some o) (hg : o.guard = some (j, want)) (hd : (ops[j]?).bind (·.dst) = some d) (hb : lk e d = some (.bool (!want))) (ht : o.dst = some t) (hlt : Nat.blt t C.n = true)
    (h : Nx C ((t, undef) :: e) I R (wpAt C.P ops Q (i + 1))) : Nx C e I R (wpAt C.P ops Q i) := by
  unfold wpAt at *
  rw [drop_of (opAt_arr ho)]
  exact Nx.cons_no hg hd hb ht hlt h
theorem Nx.at_no0 {j d : Nat} {want : Bool} (ho : opAt ops.toList i = some o) (hg : o.guard = some (j, want)) (hd : (ops[j]?).bind (·.dst) = some d) (hb : lk e d = some (.bool (!want))) (ht : o.dst = none)
    (h : Nx C e I R (wpAt C.P ops Q (i + 1))) : Nx C e I R (wpAt C.P ops Q i) := by
  unfold wpAt at *
  rw [drop_of (opAt_arr ho)]
  intro a w ha hw
  unfold wpList
  rw [if_neg (by simp [Region.wanted, hg, yielded_of ha hd hb]), ht]
  exact h _ w ha hw
theorem Nx.at_split {j d : Nat} {want : Bool} {p : Prop} [Decidable p] (ho : opAt ops.toList i = some o) (hg : o.guard = some (j, want)) (hd : (ops[j]?).bind (·.dst) = some d) (hb : lk e d = some (.bool (decide p)))
    (ht : p → Nx C ((d, .bool true) :: e) I R (wpAt C.P ops Q i)) (hf : ¬p → Nx C ((d, .bool false) :: e) I R (wpAt C.P ops Q i)) : Nx C e I R (wpAt C.P ops Q i) :=
  have _ := ho; have _ := hg; have _ := hd; Nx.force d hb ht hf
theorem Nx.at_splitb {j d : Nat} {want b : Bool} (ho : opAt ops.toList i = some o) (hg : o.guard = some (j, want)) (hd : (ops[j]?).bind (·.dst) = some d) (hb : lk e d = some (.bool b))
    (ht : b = true → Nx C ((d, .bool true) :: e) I R (wpAt C.P ops Q i)) (hf : b = false → Nx C ((d, .bool false) :: e) I R (wpAt C.P ops Q i)) : Nx C e I R (wpAt C.P ops Q i) :=
  have _ := ho; have _ := hg; have _ := hd; Nx.force_bool d hb ht hf
theorem Nx.at_dec_t {j d : Nat} {want : Bool} {p : Prop} [Decidable p] (ho : opAt ops.toList i = some o) (hg : o.guard = some (j, want)) (hd : (ops[j]?).bind (·.dst) = some d) (hb : lk e d = some (.bool (decide p))) (hp : p)
    (ht : Nx C ((d, .bool true) :: e) I R (wpAt C.P ops Q i)) : Nx C e I R (wpAt C.P ops Q i) := Nx.at_split ho hg hd hb (fun _ => ht) (fun h => absurd hp h)
theorem Nx.at_dec_f {j d : Nat} {want : Bool} {p : Prop} [Decidable p] (ho : opAt ops.toList i = some o) (hg : o.guard = some (j, want)) (hd : (ops[j]?).bind (·.dst) = some d) (hb : lk e d = some (.bool (decide p))) (hp : ¬p)
    (ht : Nx C ((d, .bool false) :: e) I R (wpAt C.P ops Q i)) : Nx C e I R (wpAt C.P ops Q i) := Nx.at_split ho hg hd hb (fun h => absurd h hp) (fun _ => ht)
variable {S : World → Prop} {loud r : List Nat} {k d : Nat} {v : Value}
theorem Nx.m_quiet (ho : opAt ops.toList k = some o) (hl : loud.contains k = false) (hg : o.guard = none) (hd : o.dst = some d) (hlt : Nat.blt d C.n = true) (hrun : QRun C e S o v) (h : Nx C ((d, v) :: e) I R (wpMix C.P ops Q S loud r)) : Nx C e I R (wpMix C.P ops Q S loud (k :: r)) := Nx.mix_q (opAt_arr ho) hl hg hd hlt hrun h
theorem Nx.m_quiet_do {j dj : Nat} {want : Bool} (ho : opAt ops.toList k = some o) (hl : loud.contains k = false) (hg : o.guard = some (j, want)) (hdj : (ops[j]?).bind (·.dst) = some dj) (hb : lk e dj = some (.bool want)) (hd : o.dst = some d) (hlt : Nat.blt d C.n = true) (hrun : QRun C e S o v)
    (h : Nx C ((d, v) :: e) I R (wpMix C.P ops Q S loud r)) : Nx C e I R (wpMix C.P ops Q S loud (k :: r)) := Nx.mix_q_do (opAt_arr ho) hl hg hdj hb hd hlt hrun h
theorem Nx.m_quiet_no {j dj : Nat} {want : Bool} (ho : opAt ops.toList k = some o) (hl : loud.contains k = false) (hg : o.guard = some (j, want)) (hdj : (ops[j]?).bind (·.dst) = some dj) (hb : lk e dj = some (.bool (!want))) (hd : o.dst = some d) (hlt : Nat.blt d C.n = true)
    (h : Nx C ((d, undef) :: e) I R (wpMix C.P ops Q S loud r)) : Nx C e I R (wpMix C.P ops Q S loud (k :: r)) := Nx.mix_q_no (opAt_arr ho) hl hg hdj hb hd hlt h
theorem Nx.m_loud (ho : opAt ops.toList k = some o) (hl : loud.contains k = true) (hg : o.guard = none) (h : Nx C e I R (opK C.P o (fun a w => S w ∧ wpMix C.P ops Q S loud r a w) Q)) : Nx C e I R (wpMix C.P ops Q S loud (k :: r)) := Nx.mix_l (opAt_arr ho) hl hg h
theorem Nx.m_loud_do {j dj : Nat} {want : Bool} (ho : opAt ops.toList k = some o) (hl : loud.contains k = true) (hg : o.guard = some (j, want)) (hdj : (ops[j]?).bind (·.dst) = some dj) (hb : lk e dj = some (.bool want))
    (h : Nx C e I R (opK C.P o (fun a w => S w ∧ wpMix C.P ops Q S loud r a w) Q)) : Nx C e I R (wpMix C.P ops Q S loud (k :: r)) := Nx.mix_l_do (opAt_arr ho) hl hg hdj hb h
theorem Nx.m_loud_no {j dj : Nat} {want : Bool} (ho : opAt ops.toList k = some o) (hl : loud.contains k = true) (hg : o.guard = some (j, want)) (hdj : (ops[j]?).bind (·.dst) = some dj) (hb : lk e dj = some (.bool (!want))) (hd : o.dst = some d) (hlt : Nat.blt d C.n = true)
    (h : Nx C ((d, undef) :: e) I R (fun a w => S w ∧ wpMix C.P ops Q S loud r a w)) : Nx C e I R (wpMix C.P ops Q S loud (k :: r)) := Nx.mix_l_no (opAt_arr ho) hl hg hdj hb hd hlt h
theorem Nx.m_split {j dj : Nat} {want : Bool} {p : Prop} [Decidable p] (ho : opAt ops.toList k = some o) (hg : o.guard = some (j, want)) (hdj : (ops[j]?).bind (·.dst) = some dj) (hb : lk e dj = some (.bool (decide p)))
    (ht : p → Nx C ((dj, .bool true) :: e) I R (wpMix C.P ops Q S loud (k :: r))) (hf : ¬p → Nx C ((dj, .bool false) :: e) I R (wpMix C.P ops Q S loud (k :: r))) : Nx C e I R (wpMix C.P ops Q S loud (k :: r)) :=
  have _ := ho; have _ := hg; have _ := hdj; Nx.force dj hb ht hf
theorem Nx.m_splitb {j dj : Nat} {want b : Bool} (ho : opAt ops.toList k = some o) (hg : o.guard = some (j, want)) (hdj : (ops[j]?).bind (·.dst) = some dj) (hb : lk e dj = some (.bool b))
    (ht : b = true → Nx C ((dj, .bool true) :: e) I R (wpMix C.P ops Q S loud (k :: r))) (hf : b = false → Nx C ((dj, .bool false) :: e) I R (wpMix C.P ops Q S loud (k :: r))) : Nx C e I R (wpMix C.P ops Q S loud (k :: r)) :=
  have _ := ho; have _ := hg; have _ := hdj; Nx.force_bool dj hb ht hf
theorem Nx.m_dec_t {j dj : Nat} {want : Bool} {p : Prop} [Decidable p] (ho : opAt ops.toList k = some o) (hg : o.guard = some (j, want)) (hdj : (ops[j]?).bind (·.dst) = some dj) (hb : lk e dj = some (.bool (decide p))) (hp : p)
    (ht : Nx C ((dj, .bool true) :: e) I R (wpMix C.P ops Q S loud (k :: r))) : Nx C e I R (wpMix C.P ops Q S loud (k :: r)) := Nx.m_split ho hg hdj hb (fun _ => ht) (fun h => absurd hp h)
theorem Nx.m_dec_f {j dj : Nat} {want : Bool} {p : Prop} [Decidable p] (ho : opAt ops.toList k = some o) (hg : o.guard = some (j, want)) (hdj : (ops[j]?).bind (·.dst) = some dj) (hb : lk e dj = some (.bool (decide p))) (hp : ¬p)
    (ht : Nx C ((dj, .bool false) :: e) I R (wpMix C.P ops Q S loud (k :: r))) : Nx C e I R (wpMix C.P ops Q S loud (k :: r)) := Nx.m_split ho hg hdj hb (fun h => absurd h hp) (fun _ => ht)
def isIf (c : Code) (id : Nat) : Bool := Nat.beq (ck c) 3 && Nat.beq (ck (cl c)) 3 && (Nat.beq (ck (cl (cl c))) 1 || Nat.beq (ck (cl (cl c))) 2) && Nat.beq (cid (cl (cl c))) id && Nat.beq (ck (cr (cl c))) 4
def isReg (c : Code) (id : Nat) : Bool := Nat.beq (ck c) 3 && (Nat.beq (ck (cl c)) 1 || Nat.beq (ck (cl c)) 2) && Nat.beq (cid (cl c)) id
theorem Nx.p_stop (id : Nat) (hi : isIf c id = true) (h : Nx C e I R (Stop (c.wp C.P Q))) : Nx C e I R (c.wp C.P Q) := have _ := hi; h
theorem Nx.p_stopr (id : Nat) (hi : isReg c id = true) (h : Nx C e I R (Stop (c.wp C.P Q))) : Nx C e I R (c.wp C.P Q) := have _ := hi; h
theorem Nx.p_go (hk : ck c = 3) (h : Nx C e I R ((cl c).wp C.P (Exit.then ((cr c).wp C.P Q) Q))) : Nx C e I R (Stop (c.wp C.P Q)) := Nx.p_seq hk h
end
end Go.Eng
namespace Go.Eng
section
variable {C : Cx} {e e' : Env} {I : PH} {R R' : List Res} {K K' : Act → World → Prop} {Q : Exit → Act → World → Prop} {W : World} {o : Oper}
variable {ty t u : TypeId} {pos : String} {after : Array Edge} {g : Option (Nat × Bool)} {x y z : Operand} {v : Value} {dst : Option Tmp}
variable {ops : Array Oper} {i : Nat} {S : World → Prop} {loud r : List Nat}
theorem yielded_undef {n : Nat} {ops : Array Oper} {a : Act} {j d : Nat} (ha : Mod n e a) (hd : (ops[j]?).bind (·.dst) = some d) (hb : lk e d = some undef) : yielded ops a.tmps j = none := by
  have := ha.get d _ hb
  simp [yielded, hd, this, undef]
theorem Nx.at_noU {j d t : Nat} {want : Bool} (ho : opAt ops.toList i = some o) (hg : o.guard = some (j, want)) (hd : (ops[j]?).bind (·.dst) = some d) (hb : lk e d = some undef) (ht : o.dst = some t) (hlt : Nat.blt t C.n = true)
    (h : Nx C ((t, undef) :: e) I R (wpAt C.P ops Q (i + 1))) : Nx C e I R (wpAt C.P ops Q i) := by
  unfold wpAt at *
  rw [drop_of (opAt_arr ho)]
  intro a w ha hw
  unfold wpList
  rw [if_neg (by simp [Region.wanted, hg, yielded_undef ha hd hb]), ht]
  exact h _ w (ha.put hlt _) hw
theorem Nx.at_noU0 {j d : Nat} {want : Bool} (ho : opAt ops.toList i = some o) (hg : o.guard = some (j, want)) (hd : (ops[j]?).bind (·.dst) = some d) (hb : lk e d = some undef) (ht : o.dst = none)
    (h : Nx C e I R (wpAt C.P ops Q (i + 1))) : Nx C e I R (wpAt C.P ops Q i) := by
  unfold wpAt at *
  rw [drop_of (opAt_arr ho)]
  intro a w ha hw
  unfold wpList
  rw [if_neg (by simp [Region.wanted, hg, yielded_undef ha hd hb]), ht]
  exact h _ w ha hw
theorem Nx.m_quiet_noU {k d : Nat} {j dj : Nat} {want : Bool} (ho : opAt ops.toList k = some o) (hl : loud.contains k = false) (hg : o.guard = some (j, want)) (hdj : (ops[j]?).bind (·.dst) = some dj) (hb : lk e dj = some undef) (hd : o.dst = some d) (hlt : Nat.blt d C.n = true)
    (h : Nx C ((d, undef) :: e) I R (wpMix C.P ops Q S loud r)) : Nx C e I R (wpMix C.P ops Q S loud (k :: r)) := by
  intro a w ha hw
  refine ⟨o, opAt_arr ho, ?_⟩
  rw [if_neg (by rw [hl]; simp)]
  refine ⟨undef, .inr ⟨by simp [Region.wanted, hg, yielded_undef ha hdj hb], rfl⟩, ?_⟩
  rw [hd]
  exact h _ w (ha.put hlt undef) hw
theorem Nx.m_loud_noU {k d : Nat} {j dj : Nat} {want : Bool} (ho : opAt ops.toList k = some o) (hl : loud.contains k = true) (hg : o.guard = some (j, want)) (hdj : (ops[j]?).bind (·.dst) = some dj) (hb : lk e dj = some undef) (hd : o.dst = some d) (hlt : Nat.blt d C.n = true)
    (h : Nx C ((d, undef) :: e) I R (fun a w => S w ∧ wpMix C.P ops Q S loud r a w)) : Nx C e I R (wpMix C.P ops Q S loud (k :: r)) := by
  intro a w ha hw
  refine ⟨o, opAt_arr ho, ?_⟩
  rw [if_pos hl]
  unfold wpOp
  simp only [opAt_arr ho]
  rw [if_neg (by simp [Region.wanted, hg, yielded_undef ha hdj hb]), hd]
  exact h _ w (ha.put hlt undef) hw
def OpTo (C : Cx) (o : Oper) (e : Env) (I : PH) (R : List Res) (e' : Env) (R' : List Res) : Prop := ∀ (K : Act → World → Prop) (Q : Exit → Act → World → Prop), Nx C e' I R' K → Nx C e I R (opK C.P o K Q)
def OpToB (C : Cx) (o : Oper) (e : Env) (I : PH) (R : List Res) (e' : Nat → Env) (R' : Nat → List Res) : Prop := ∀ (K : Act → World → Prop) (Q : Exit → Act → World → Prop), (∀ b, Nx C (e' b) I (R' b) K) → Nx C e I R (opK C.P o K Q)
def OpToA (C : Cx) (o : Oper) (e : Env) (I : PH) (R : List Res) (e' : Option Addr → Nat → Env) (R' : Option Addr → Nat → List Res) : Prop := ∀ (K : Act → World → Prop) (Q : Exit → Act → World → Prop), (∀ A c, Nx C (e' A c) I (R' A c) K) → Nx C e I R (opK C.P o K Q)
theorem OpTo.is_load {e1 : Env} {r1 : List Res} (h : OpTo C ⟨dst, .load t x, ty, pos, after, g⟩ e I R e1 r1) : OpTo C ⟨dst, .load t x, ty, pos, after, g⟩ e I R e1 r1 := h
theorem OpTo.is_store {e1 : Env} {r1 : List Res} (h : OpTo C ⟨dst, .store t x y, ty, pos, after, g⟩ e I R e1 r1) : OpTo C ⟨dst, .store t x y, ty, pos, after, g⟩ e I R e1 r1 := h
theorem OpTo.is_bin {e1 : Env} {r1 : List Res} {op : BinOp} (h : OpTo C ⟨dst, .binOp op t x y u, ty, pos, after, g⟩ e I R e1 r1) : OpTo C ⟨dst, .binOp op t x y u, ty, pos, after, g⟩ e I R e1 r1 := h
theorem OpTo.is_un {e1 : Env} {r1 : List Res} {op : UnOp} (h : OpTo C ⟨dst, .unOp op t x, ty, pos, after, g⟩ e I R e1 r1) : OpTo C ⟨dst, .unOp op t x, ty, pos, after, g⟩ e I R e1 r1 := h
theorem OpTo.is_conv {e1 : Env} {r1 : List Res} (h : OpTo C ⟨dst, .convert t u x, ty, pos, after, g⟩ e I R e1 r1) : OpTo C ⟨dst, .convert t u x, ty, pos, after, g⟩ e I R e1 r1 := h
theorem OpTo.is_build {e1 : Env} {r1 : List Res} {p : Array (Nat × Operand)} (h : OpTo C ⟨dst, .build t p, ty, pos, after, g⟩ e I R e1 r1) : OpTo C ⟨dst, .build t p, ty, pos, after, g⟩ e I R e1 r1 := h
theorem OpTo.is_call {e1 : Env} {r1 : List Res} {c : Call} (h : OpTo C ⟨dst, .call c, ty, pos, after, g⟩ e I R e1 r1) : OpTo C ⟨dst, .call c, ty, pos, after, g⟩ e I R e1 r1 := h
theorem OpToB.is_lit {e1 : Nat → Env} {r1 : Nat → List Res} {p : Array (Nat × Operand)} {n : Nat} (h : OpToB C ⟨dst, .buildSlice t n p, ty, pos, after, g⟩ e I R e1 r1) : OpToB C ⟨dst, .buildSlice t n p, ty, pos, after, g⟩ e I R e1 r1 := h
theorem OpToB.is_box {e1 : Nat → Env} {r1 : Nat → List Res} (h : OpToB C ⟨dst, .box t x, ty, pos, after, g⟩ e I R e1 r1) : OpToB C ⟨dst, .box t x, ty, pos, after, g⟩ e I R e1 r1 := h
theorem OpToB.is_alloc {e1 : Nat → Env} {r1 : Nat → List Res} (h : OpToB C ⟨dst, .alloc t, ty, pos, after, g⟩ e I R e1 r1) : OpToB C ⟨dst, .alloc t, ty, pos, after, g⟩ e I R e1 r1 := h
theorem OpToA.is_append {e1 : Option Addr → Nat → Env} {r1 : Option Addr → Nat → List Res} {xs : Array Operand} {tys : Array TypeId} (h : OpToA C ⟨dst, .call { callee := .builtin .append, args := xs, argTypes := tys }, ty, pos, after, g⟩ e I R e1 r1) : OpToA C ⟨dst, .call { callee := .builtin .append, args := xs, argTypes := tys }, ty, pos, after, g⟩ e I R e1 r1 := h
theorem Nx.so {e1 : Env} {r1 : List Res} (h : Nx C e1 I r1 K) (s : OpTo C o e I R e1 r1 := by first | ((with_reducible apply OpTo.is_load); first | exact fun _ _ h => Nx.load rfl rfl rfl (by first | exact Rd.at_ 0 rfl rfl | exact Rd.at_ 1 rfl rfl | exact Rd.at_ 2 rfl rfl | exact Rd.at_ 3 rfl rfl | exact Rd.at_ 4 rfl rfl | exact Rd.at_ 5 rfl rfl | exact Rd.at_ 6 rfl rfl | exact Rd.at_ 7 rfl rfl | exact Rd.at_ 8 rfl rfl | exact Rd.at_ 9 rfl rfl | exact Rd.at_ 10 rfl rfl | exact Rd.at_ 11 rfl rfl) h | exact fun _ _ h => Nx.loads rfl rfl rfl rfl (by first | exact Rds.at_ 0 rfl | exact Rds.at_ 1 rfl | exact Rds.at_ 2 rfl | exact Rds.at_ 3 rfl | exact Rds.at_ 4 rfl | exact Rds.at_ 5 rfl | exact Rds.at_ 6 rfl | exact Rds.at_ 7 rfl | exact Rds.at_ 8 rfl | exact Rds.at_ 9 rfl | exact Rds.at_ 10 rfl | exact Rds.at_ 11 rfl) rfl h) | ((with_reducible apply OpTo.is_bin); first | exact fun _ _ h => Nx.add rfl rfl (by unfold I64; omega) rfl h | exact fun _ _ h => Nx.sub rfl rfl (by unfold I64; omega) rfl h | exact fun _ _ h => Nx.mul rfl rfl (by unfold I64; omega) rfl h | exact fun _ _ h => Nx.rem rfl rfl (by omega) (by omega) rfl h | exact fun _ _ h => Nx.quo rfl rfl (by omega) (by omega) (by unfold I64; omega) rfl h) | ((with_reducible apply OpTo.is_conv); first | exact fun _ _ h => Nx.conv_i64 rfl rfl rfl (by unfold I64; omega) rfl h) | ((with_reducible apply OpTo.is_un); first | exact fun _ _ h => Nx.not_dec rfl rfl h | exact fun _ _ h => Nx.neg rfl (by unfold I64; omega) rfl h) | ((with_reducible apply OpTo.is_build); first | exact fun _ _ h => Nx.build rfl rfl (by kernel_rfl) rfl h) | ((with_reducible apply OpTo.is_store); first | exact fun _ _ h => Nx.store_blk 0 rfl rfl rfl rfl rfl rfl rfl h | exact fun _ _ h => Nx.store_blk 1 rfl rfl rfl rfl rfl rfl rfl h | exact fun _ _ h => Nx.store_blk 2 rfl rfl rfl rfl rfl rfl rfl h | exact fun _ _ h => Nx.store_blk 3 rfl rfl rfl rfl rfl rfl rfl h | exact fun _ _ h => Nx.store_blk 4 rfl rfl rfl rfl rfl rfl rfl h | exact fun _ _ h => Nx.store_blk 5 rfl rfl rfl rfl rfl rfl rfl h | exact fun _ _ h => Nx.store_blk 6 rfl rfl rfl rfl rfl rfl rfl h | exact fun _ _ h => Nx.store_blk 7 rfl rfl rfl rfl rfl rfl rfl h | exact fun _ _ h => Nx.store_blk 8 rfl rfl rfl rfl rfl rfl rfl h | exact fun _ _ h => Nx.store_blk 9 rfl rfl rfl rfl rfl rfl rfl h | exact fun _ _ h => Nx.store_blk 10 rfl rfl rfl rfl rfl rfl rfl h | exact fun _ _ h => Nx.store_blk 11 rfl rfl rfl rfl rfl rfl rfl h | exact fun _ _ h => Nx.store_ints 0 rfl rfl rfl rfl (by omega) h | exact fun _ _ h => Nx.store_ints 1 rfl rfl rfl rfl (by omega) h | exact fun _ _ h => Nx.store_ints 2 rfl rfl rfl rfl (by omega) h | exact fun _ _ h => Nx.store_ints 3 rfl rfl rfl rfl (by omega) h) | ((with_reducible apply OpTo.is_call); first | exact fun _ _ h => Nx.min2 rfl rfl rfl h | exact fun _ _ h => Nx.max2 rfl rfl rfl h) | exact fun _ _ h => Nx.makeFunc rfl rfl rfl h | exact fun _ _ h => Nx.fieldAddr rfl rfl rfl h) : Nx C e I R (opK C.P o K Q) := s K Q h
theorem Nx.sb {e1 : Nat → Env} {r1 : Nat → List Res} (h : ∀ b, Nx C (e1 b) I (r1 b) K) (s : OpToB C o e I R e1 r1 := by first | ((with_reducible apply OpToB.is_box); first | exact fun _ _ h => Nx.box_agg rfl rfl h | exact fun _ _ h => Nx.box1 rfl rfl rfl h) | ((with_reducible apply OpToB.is_alloc); first | exact fun _ _ h => Nx.alloc rfl rfl h) | ((with_reducible apply OpToB.is_lit); first | exact fun _ _ h => Nx.buildSlice0 rfl rfl rfl h | exact fun _ _ h => Nx.buildSlice rfl rfl rfl rfl rfl rfl rfl rfl rfl h) | exact fun _ _ h => Nx.makeInts rfl rfl rfl rfl rfl rfl rfl rfl (by omega) h) : Nx C e I R (opK C.P o K Q) := s K Q h
theorem Nx.sa {e1 : Option Addr → Nat → Env} {r1 : Option Addr → Nat → List Res} (h : ∀ A c, Nx C (e1 A c) I (r1 A c) K) (s : OpToA C o e I R e1 r1 := by first | ((with_reducible apply OpToA.is_append); first | exact fun _ _ h => Nx.append_lit 0 rfl rfl rfl rfl (by kernel_rfl) rfl rfl rfl rfl (by omega) h | exact fun _ _ h => Nx.append_lit 1 rfl rfl rfl rfl (by kernel_rfl) rfl rfl rfl rfl (by omega) h | exact fun _ _ h => Nx.append_lit 2 rfl rfl rfl rfl (by kernel_rfl) rfl rfl rfl rfl (by omega) h | exact fun _ _ h => Nx.append_lit 3 rfl rfl rfl rfl (by kernel_rfl) rfl rfl rfl rfl (by omega) h | exact fun _ _ h => Nx.append_lit 4 rfl rfl rfl rfl (by kernel_rfl) rfl rfl rfl rfl (by omega) h) ) : Nx C e I R (opK C.P o K Q) := s K Q h
theorem QRun.std {S : World → Prop} (s : QRun C e S o v := by first | exact QRun.load rfl rfl (by first | exact Rd.at_ 0 rfl rfl | exact Rd.at_ 1 rfl rfl | exact Rd.at_ 2 rfl rfl | exact Rd.at_ 3 rfl rfl | exact Rd.at_ 4 rfl rfl | exact Rd.at_ 5 rfl rfl | exact Rd.at_ 6 rfl rfl | exact Rd.at_ 7 rfl rfl | exact Rd.at_ 8 rfl rfl | exact Rd.at_ 9 rfl rfl | exact Rd.at_ 10 rfl rfl | exact Rd.at_ 11 rfl rfl) | exact QRun.loads rfl rfl rfl (by first | exact Rds.at_ 0 rfl | exact Rds.at_ 1 rfl | exact Rds.at_ 2 rfl | exact Rds.at_ 3 rfl | exact Rds.at_ 4 rfl | exact Rds.at_ 5 rfl | exact Rds.at_ 6 rfl | exact Rds.at_ 7 rfl | exact Rds.at_ 8 rfl | exact Rds.at_ 9 rfl | exact Rds.at_ 10 rfl | exact Rds.at_ 11 rfl) rfl | exact QRun.add rfl rfl (by unfold I64; omega) | exact QRun.sub rfl rfl (by unfold I64; omega) | exact QRun.mul rfl rfl (by unfold I64; omega) | exact QRun.rem rfl rfl (by omega) (by omega) | exact QRun.quo rfl rfl (by omega) (by omega) (by unfold I64; omega) | exact QRun.conv_i64 rfl rfl rfl (by unfold I64; omega) | exact QRun.build rfl rfl (by kernel_rfl) | exact QRun.min2 rfl rfl | exact QRun.max2 rfl rfl) : QRun C e S o v := s
def Adv (C : Cx) (e : Env) (I : PH) (R : List Res) (K : Act → World → Prop) (e1 : Env) (r1 : List Res) (K1 : Act → World → Prop) : Prop := Nx C e1 I r1 K1 → Nx C e I R K
theorem Adv.is_at {e1 : Env} {r1 : List Res} {ops : Array Oper} {i : Nat} (h : Adv C e I R (wpAt C.P ops Q i) e1 r1 K') : Adv C e I R (wpAt C.P ops Q i) e1 r1 K' := h
theorem Adv.is_wp {e1 : Env} {r1 : List Res} {c : Code} (h : Adv C e I R (c.wp C.P Q) e1 r1 K') : Adv C e I R (c.wp C.P Q) e1 r1 K' := h
theorem Adv.is_mix {e1 : Env} {r1 : List Res} {ops : Array Oper} {S : World → Prop} {l r : List Nat} (h : Adv C e I R (wpMix C.P ops Q S l r) e1 r1 K') : Adv C e I R (wpMix C.P ops Q S l r) e1 r1 K' := h
theorem Adv.is_mixS {e1 : Env} {r1 : List Res} {S : World → Prop} (h : Adv C e I R (fun a w => S w ∧ K a w) e1 r1 K') : Adv C e I R (fun a w => S w ∧ K a w) e1 r1 K' := h
theorem Nx.a {e1 : Env} {r1 : List Res} (h : Nx C e1 I r1 K') (s : Adv C e I R K e1 r1 K' := by first | exact fun h => Nx.at_no rfl rfl rfl rfl rfl rfl h | exact fun h => Nx.at_noU rfl rfl rfl rfl rfl rfl h | exact fun h => Nx.at_noU0 rfl rfl rfl rfl rfl h | exact fun h => Nx.at_endt rfl h | exact fun h => Nx.at_no0 rfl rfl rfl rfl rfl h | exact fun h => Nx.at_end rfl h) : Nx C e I R K := s h
theorem Nx.wo {e1 : Env} {r1 : List Res} (h : Nx C e1 I r1 K') (s : Adv C e I R K e1 r1 K' := by first | exact fun h => Nx.p_seq rfl h | exact fun h => Nx.p_region rfl h | exact fun h => Nx.p_ret rfl h | exact fun h => Nx.p_skip rfl h | exact fun h => Nx.p_exit rfl rfl h | exact fun h => Nx.p_block rfl rfl h | exact fun h => Nx.p_t rfl rfl h | exact fun h => Nx.p_f rfl rfl h | exact fun h => Nx.p_label rfl h | exact fun h => Nx.p_dec_t rfl rfl (by omega) h | exact fun h => Nx.p_dec_f rfl rfl (by omega) h) : Nx C e I R K := s h
theorem Nx.m {e1 : Env} {r1 : List Res} (h : Nx C e1 I r1 K') (s : Adv C e I R K e1 r1 K' := by first | exact fun h => Nx.mix_nil_then h | exact fun h => Nx.mix_nil h | exact fun h => Nx.m_quiet_no rfl rfl rfl rfl rfl rfl rfl h | exact fun h => Nx.m_loud_no rfl rfl rfl rfl rfl rfl rfl h | exact fun h => Nx.m_quiet_noU rfl rfl rfl rfl rfl rfl rfl h | exact fun h => Nx.m_loud_noU rfl rfl rfl rfl rfl rfl rfl h | exact fun h => Nx.m_quiet rfl rfl rfl rfl rfl (by first | exact QRun.opr rfl | exact QRun.std) h | exact fun h => Nx.m_quiet_do rfl rfl rfl rfl rfl rfl rfl (by first | exact QRun.opr rfl | exact QRun.std) h) : Nx C e I R K := s h
theorem Nx.ex {e1 : Env} {r1 : List Res} (h : Nx C e1 I r1 K') (s : Adv C e I R K e1 r1 K' := by first | exact fun h => Nx.then_ret h | exact fun h => Nx.in_ret h | exact fun h => Nx.then_normal h | exact fun h => Nx.in_normal h | exact fun h => Nx.then_exit h | exact fun h => Nx.in_exit h | exact fun h => Nx.in_other rfl h | exact fun h => Nx.mix_T h | ((with_reducible apply Adv.is_mixS); exact fun h => Nx.mix_S (by first | exact Ent.refl _ | exact Ent.drop (Ent.refl _) | exact Ent.drop (Ent.drop (Ent.refl _)) | exact Ent.drop (Ent.drop (Ent.drop (Ent.refl _))) | exact Ent.nil _ | (repeat first | exact Ent.refl _ | exact Ent.nil _ | refine Ent.pick 0 rfl ?_ | refine Ent.pick 1 rfl ?_ | refine Ent.pick 2 rfl ?_ | refine Ent.pick 3 rfl ?_ | refine Ent.pick 4 rfl ?_ | refine Ent.pick 5 rfl ?_ | refine Ent.pick 6 rfl ?_ | refine Ent.pick 7 rfl ?_ | refine Ent.pick 8 rfl ?_)) h)) : Nx C e I R K := s h
end
end Go.Eng
namespace Go.Eng
section
variable {C : Cx} {e : Env} {I : PH} {R : List Res} {K K' : Act → World → Prop} {e1 : Env} {r1 : List Res} {c1 c2 k1 k2 : Prop}
theorem Nx.zo (h : Nx C e1 I r1 K') (s : Adv C e I R K e1 r1 K' := by first | exact fun h => Nx.at_op rfl rfl h | exact fun h => Nx.m_loud rfl rfl rfl h | exact fun h => Nx.at_do rfl rfl rfl rfl h | exact fun h => Nx.m_loud_do rfl rfl rfl rfl rfl h) : Nx C e I R K := s h
theorem Nx.zd (h : Nx C e1 I r1 K') (s : Adv C e I R K e1 r1 K' := by (fail_if_success exact fun h => Nx.at_do rfl rfl rfl rfl h); first | exact fun h => Nx.at_dec_t rfl rfl rfl rfl (by first | assumption | omega) h | exact fun h => Nx.at_dec_f rfl rfl rfl rfl (by first | assumption | omega) h) : Nx C e I R K := s h
theorem Nx.zm (h : Nx C e1 I r1 K') (s : Adv C e I R K e1 r1 K' := by (fail_if_success refine fun h => Nx.m_quiet_do rfl rfl rfl rfl rfl rfl rfl ?_ h); (fail_if_success exact fun h => Nx.m_loud_do rfl rfl rfl rfl rfl h); first | exact fun h => Nx.m_dec_t rfl rfl rfl rfl (by first | assumption | omega) h | exact fun h => Nx.m_dec_f rfl rfl rfl rfl (by first | assumption | omega) h) : Nx C e I R K := s h
theorem Nx.zx (h : Nx C e1 I r1 K') (s : Adv C e I R K e1 r1 K' := by (fail_if_success (with_reducible apply Adv.is_at)); (fail_if_success (with_reducible apply Adv.is_wp)); (fail_if_success (with_reducible apply Adv.is_mix)); first | exact fun h => Nx.ex h) : Nx C e I R K := s h
theorem Nx.zp (h1 : c1 → k1) (h2 : c2 → k2) (s : (c1 → k1) → (c2 → k2) → Nx C e I R K := by first | exact fun a b => Nx.p_dec rfl rfl a b | exact fun a b => Nx.p_bool rfl rfl a b) : Nx C e I R K := s h1 h2
theorem Nx.zs (h1 : c1 → k1) (h2 : c2 → k2) (s : (c1 → k1) → (c2 → k2) → Nx C e I R K := by (fail_if_success refine fun _ _ => Nx.at_do rfl rfl rfl rfl ?_); first | exact fun a b => Nx.at_split rfl rfl rfl rfl a b | exact fun a b => Nx.at_splitb rfl rfl rfl rfl a b) : Nx C e I R K := s h1 h2
theorem Nx.zt (h1 : c1 → k1) (h2 : c2 → k2) (s : (c1 → k1) → (c2 → k2) → Nx C e I R K := by (fail_if_success refine fun _ _ => Nx.m_quiet_do rfl rfl rfl rfl rfl rfl rfl ?_ ?_); (fail_if_success refine fun _ _ => Nx.m_loud_do rfl rfl rfl rfl rfl ?_); first | exact fun a b => Nx.m_split rfl rfl rfl rfl a b | exact fun a b => Nx.m_splitb rfl rfl rfl rfl a b) : Nx C e I R K := s h1 h2
theorem Nx.za (h : Nx C e1 I r1 K') (s : Adv C e I R K e1 r1 K' := by (with_reducible apply Adv.is_at); first | exact fun h => Nx.a h | ((fail_if_success exact fun h => Nx.at_do rfl rfl rfl rfl h); first | exact fun h => Nx.at_dec_t rfl rfl rfl rfl (by first | assumption | omega) h | exact fun h => Nx.at_dec_f rfl rfl rfl rfl (by first | assumption | omega) h)) : Nx C e I R K := s h
theorem Nx.zr (h1 : c1 → k1) (h2 : c2 → k2) (s : (c1 → k1) → (c2 → k2) → Nx C e I R K := by (refine fun a b => ?_); (with_reducible refine Nx.is_at ?_); (fail_if_success refine Nx.at_do rfl rfl rfl rfl ?_); first | exact Nx.at_split rfl rfl rfl rfl a b | exact Nx.at_splitb rfl rfl rfl rfl a b) : Nx C e I R K := s h1 h2
theorem Nx.zq (h : Nx C e1 I r1 K') (s : Adv C e I R K e1 r1 K' := by (with_reducible apply Adv.is_mix); first | exact fun h => Nx.m h | ((fail_if_success refine fun h => Nx.m_quiet_do rfl rfl rfl rfl rfl rfl rfl ?_ h); (fail_if_success exact fun h => Nx.m_loud_do rfl rfl rfl rfl rfl h); first | exact fun h => Nx.m_dec_t rfl rfl rfl rfl (by first | assumption | omega) h | exact fun h => Nx.m_dec_f rfl rfl rfl rfl (by first | assumption | omega) h)) : Nx C e I R K := s h
theorem Nx.zu (h1 : c1 → k1) (h2 : c2 → k2) (s : (c1 → k1) → (c2 → k2) → Nx C e I R K := by (refine fun a b => ?_); (with_reducible refine Nx.is_mix ?_); (fail_if_success refine Nx.m_quiet_do rfl rfl rfl rfl rfl rfl rfl ?_ ?_); (fail_if_success refine Nx.m_loud_do rfl rfl rfl rfl rfl ?_); first | exact Nx.m_split rfl rfl rfl rfl a b | exact Nx.m_splitb rfl rfl rfl rfl a b) : Nx C e I R K := s h1 h2
theorem PanicOk.auto {Q : Exit → Act → World → Prop} (h : PanicOk Q := by repeat first | exact PanicOk.fn | refine PanicOk.then_ ?_ | refine PanicOk.inB ?_) : PanicOk Q := h
end
end Go.Eng

namespace Go.Eng
open Go.ChangeShapes Go.WideShapes Go.RowKit
theorem St.start (W : World) : St W (fun i => W.heap[i]?) ([] ++ [fun _ => True]) W :=
  ⟨⟨fun _ => none, ⟨fun _ => none, fun _ => none, fun _ => .inl rfl, by funext i; rfl, trivial, trivial⟩, ⟨fun _ _ h => h, fun _ _ h => (by cases h), fun _ => .inr rfl⟩⟩, Still.refl W⟩
theorem FnSpec.below {P : Program} {f : FuncId} {args : List Value} {W : World} {Post : Value → List Res → Prop} (h : FnSpec P f args (fun i => W.heap[i]?) [] Post) :
    Calls P f args.toArray W fun e w' => (∃ v R', e = .returned v ∧ Post v R') ∧ Below W.heap.size W w' := by
  refine (h W (fun _ => True) (St.start W)).mono fun e w' => ?_
  rintro ⟨v, R', he, hp, ⟨⟨m, hm, hs⟩, hst⟩⟩
  refine ⟨⟨v, R', he, hp⟩, ⟨hst.os, hst.tape, hst.output, hst.size, fun k hk => ?_⟩⟩
  have hk' : W.heap[k]? = some W.heap[k] := Array.getElem?_eq_getElem hk
  rw [hk']
  exact hs.imm k _ hk'
theorem FnSpec.isTrue {P : Program} {f : FuncId} {args : List Value} {W : World} (h : FnSpec P f args (fun i => W.heap[i]?) [] (fun v R' => v = .bool true ∧ R' = [])) :
    Calls P f args.toArray W fun e w' => e = .returned (.bool true) ∧ Below W.heap.size W w' := by
  refine h.below.mono fun e w' => ?_
  rintro ⟨⟨v, R', rfl, rfl, _⟩, hb⟩
  exact ⟨rfl, hb⟩
end Go.Eng
namespace Go.Eng
open Go.ChangeShapes Go.WideShapes Go.RowKit
section
variable {H : Type} {enc : TypeId × Value → H} {P : Program}
theorem post_of_below {f : Func} {s : ChangeSpec} {apart fresh handsOn again : Bool} {W W' : World} {args : Array Value} {v : Value} {ds gs : List (DataW H)} {before pa pv : List MemPlace}
    (hW : DataW.Whole enc P f.params.toList s.vars apart W args.toList ds gs before)
    (hres : ∀ (b : Nat) (sp : Nat → Bool) (hd : Bool), DataW.TrodAll enc P W' b sp hd f.resultTypes.toList (v.resultList f.resultTypes.size) (s.fn H (ds ++ gs)).results [])
    (hargs : ∀ sp : Nat → Bool, (∀ p ∈ before, sp p.block = true) → DataW.TrodAll enc P W' 0 sp true f.params.toList args.toList (s.fn H (ds ++ gs)).args pa)
    (hvars : ∀ sp : Nat → Bool, (∀ p ∈ before, sp p.block = true) → DataW.TrodVars enc P W' sp s.vars (s.fn H (ds ++ gs)).vars pv)
    (hps : before = pa ++ pv) (hb : Below W.heap.size W W')
    (hok : ∀ (j : Nat) (t : TypeId) (r : Value), f.resultTypes[j]? = some t → (v.resultList f.resultTypes.size)[j]? = some r → Value.okWide P W' .any 0 t r) :
    s.post enc P f apart fresh handsOn again W args v W' := by
  have hlt : ∀ p ∈ before, p.block < W.heap.size := fun p hp => hW.lt p hp
  have hold : ∀ p ∈ before, (fun b => decide (b < W.heap.size)) p.block = true := fun p hp => by simpa using hlt p hp
  refine ⟨ds, gs, before, [], pa, pv, hW, hres _ _ _, hargs _ hold, hvars _ hold, World.keptBut_mono (fun p hp => ⟨hp, ?_⟩) (hb.frame (· ∈ before)), fun _ => ?_⟩
  · rw [hps, List.mem_append] at hp
    exact Or.inr hp
  · obtain ⟨_, _, _, _, _, hz, hn⟩ := hW
    refine ⟨hok, _, _, ([] ++ pa) ++ pv, ⟨[] ++ pa, pv, trodAll_append (hargs _ (fun _ _ => rfl)) (hres _ _ _), hvars _ (fun _ _ => rfl), rfl, ?_, ?_⟩, ?_⟩
    · intro b off hp
      have hin : MemPlace.cell b off ∈ before := by rw [hps]; simpa using hp
      rw [hb.frozen (hlt _ hin)]
      exact hz b off hin
    · intro ha
      have := hn ha
      rw [hps] at this
      simpa using this
    · intro p hp _
      rw [hps]
      simpa using hp
theorem trodAll_below (hl : laidOutB P = true) {W W' : World} (hb : Below W.heap.size W W') {sp : Nat → Bool} : ∀ {ts : List TypeId} {vs : List Value} {ds : List (DataW H)} {ps : List MemPlace},
    (ts.all fun t => P.readableRec t && decide (t < P.types.size)) = true → DataW.TrodAll enc P W 0 (fun _ => true) true ts vs ds ps → (∀ x ∈ ps, x.block < W.heap.size) → (∀ x ∈ ps, sp x.block = true) → DataW.TrodAll enc P W' 0 sp true ts vs ds ps
  | [], vs, ds, ps, _, h, _, _ => by
    obtain ⟨rfl, rfl, rfl⟩ := trodAll_nil h
    exact trodAll_mk0
  | t :: ts, vs, ds, ps, ht, h, hlt, hsp => by
    simp only [List.all_cons, Bool.and_eq_true, decide_eq_true_eq] at ht
    obtain ⟨v, vs', d, ds', p, q, rfl, rfl, rfl, h1, h2⟩ := trodAll_cons h
    exact trodAll_cons_mk (WideElems.Trod_stays hl ht.1.1 ht.1.2 h1 (fun x hx => hb.same (hlt x (by simp [hx]))) (fun x hx => hsp x (by simp [hx])))
      (trodAll_below hl hb (by simpa [Bool.and_eq_true] using ht.2) h2 (fun x hx => hlt x (by simp [hx])) (fun x hx => hsp x (by simp [hx])))
theorem open_list {W : World} {base : Nat} {t el : TypeId} {k : IntKind} {v : Value} {d : DataW H} {ps : List MemPlace} {sp : Nat → Bool} (ht : P.underlying t = some (.slice el)) (he : P.underlying el = some (.int k)) (hc : P.cellsOf el = 1)
    (hval : Value.okWide P W .any base t v) (h : DataW.Trod enc P W 0 sp true t v d ps) :
    ∃ A c l, v = .slice A l.length c ∧ SliceOf (fun x => Value.int k x) (fun i => W.heap[i]?) A c l ∧ ∀ x ∈ l, (Lit.int k x).wf = true := by
  obtain ⟨A, n, c, rfl⟩ := okWide_slice ht hval
  obtain ⟨fuel, hf⟩ := h
  rcases ChangeShapes.open_ints ht he hc hf with ⟨hcs, hx⟩ | ⟨a, len, cap, zs, hcs, _, hle, hm, hz, hx, hcell, hwz⟩
  · simp [Value.cells] at hcs
    obtain ⟨rfl, rfl, rfl⟩ := hcs
    exact ⟨none, 0, [], rfl, SliceOf.nil, by simp⟩
  · simp [Value.cells] at hcs
    obtain ⟨rfl, rfl, rfl⟩ := hcs
    have hzl : n ≤ zs.length := by rw [hz]; split <;> omega
    have hlen : (zs.take n).length = n := by rw [List.length_take]; omega
    refine ⟨some a, c, zs.take n, by rw [hlen], ⟨fun j u hj => ⟨rfl, ?_⟩, by rw [hlen]; exact hle, hm⟩, fun x hx => hwz x (List.mem_of_mem_take hx)⟩
    rw [List.getElem?_map, List.getElem?_take] at hj
    split at hj
    · rename_i hjn
      have := hcell j (by omega)
      rw [List.getElem?_eq_getElem (by omega)] at hj
      simp at hj
      rw [List.getD_eq_getElem?_getD, List.getElem?_eq_getElem (by omega)] at this
      rw [← hj]
      exact this
    · simp at hj
end
end Go.Eng
namespace Go.Eng
section
variable {C : Cx} {e e' : Env} {I I' : PH} {R R' : List Res} {K K' : Act → World → Prop} {Q : Exit → Act → World → Prop} {W : World}
theorem St.imm_le {w : World} (hle : PH.le I I') (h : St W I' R w) : St W I R w := by
  obtain ⟨⟨m, hm, hs⟩, hst⟩ := h
  exact ⟨⟨m, hm, ⟨fun i o hi => hs.imm i o (hle i o hi), hs.own, dis_sub hs.dis hle (PH.le_refl _)⟩⟩, hst⟩
theorem Nx.imm_le (hle : PH.le I I') (h : Nx C e I R K) : Nx C e I' R K := fun a w ha hw => h a w ha (hw.imm_le hle)
theorem Stars.get : ∀ {R : List Res} {m : PH} (k : Nat) {r : Res}, Stars R m → nthL R k = some r → ∃ m', PH.le m' m ∧ r m'
  | [], _, k, r, _, hk => by cases k <;> simp [nthL] at hk
  | r0 :: R, m, 0, r, h, hk => by
    obtain ⟨m1, m2, hd, rfl, h1, _⟩ := h
    simp [nthL] at hk
    subst hk
    exact ⟨m1, PH.le_or_left _ _, h1⟩
  | r0 :: R, m, k + 1, r, h, hk => by
    obtain ⟨m1, m2, hd, rfl, _, h2⟩ := h
    obtain ⟨m', hle, hr⟩ := Stars.get k h2 hk
    exact ⟨m', hle.trans (PH.le_or_right hd), hr⟩
theorem Nx.freezeAt (k : Nat) {r : Res} (hk : nthL R k = some r) (h : ∀ I' m, PH.le I I' → PH.le m I' → r m → Nx C e I' (R.eraseIdx k) K) : Nx C e I R K :=
  Nx.freeze (B := [r]) (R' := R.eraseIdx k) (Ent.pull k R r (nthL_eq.symm.trans hk)) (fun m hd hB => by
    obtain ⟨m1, m2, hd', rfl, hr, _⟩ := hB
    exact h _ m1 (PH.le_or_left _ _) ((PH.le_or_left m1 m2).trans (PH.le_or_right hd)) hr)
theorem Nx.unfoldAt (k : Nat) {B : List Res} (hk : nthL R k = some (Stars B)) (h : Nx C e I (B ++ R.eraseIdx k) K) : Nx C e I R K := by
  refine Nx.ent (Ent.pull k R _ (nthL_eq.symm.trans hk)) (Nx.ent ?_ h)
  rintro m ⟨m1, m2, hd, rfl, h1, h2⟩
  obtain ⟨k, hk, hkS⟩ := Stars.join hd h1 h2
  exact ⟨k, hk, hkS⟩
theorem Ent.bundle {r : Res} {B : List Res} {R : List Res} : Ent (r :: Stars B :: R) (Stars (B ++ [r]) :: R) := by
  refine (Ent.swap _ _ _).trans ?_
  rintro m ⟨m1, m2, hd, rfl, h1, n1, n2, hd', rfl, h2, h3⟩
  obtain ⟨d1, d2⟩ := PH.dis_or.1 hd
  obtain ⟨k, hk, hkS⟩ := Stars.join (a := B) (b := [r]) d1 h1 ⟨n1, fun _ => none, fun _ => .inr rfl, by funext i; unfold PH.or; cases n1 i <;> rfl, h2, trivial⟩
  have hkn : PH.dis k n2 := dis_sub (PH.dis.symm (PH.dis_or.2 ⟨d2.symm, hd'.symm⟩)) hk (PH.le_refl _)
  refine ⟨k.or n2, ?_, k, n2, hkn, rfl, hkS, h3⟩
  rw [← PH.or_assoc]
  refine PH.or_le (hk.trans (PH.le_or_left _ _)) (PH.le_or_right (PH.dis.symm (PH.dis_or.2 ⟨d2.symm, hd'.symm⟩)))
theorem Ent.stars_nil (R : List Res) : Ent R (Stars [] :: R) := fun m hm => ⟨m, PH.le_refl m, fun _ => none, m, fun _ => .inl rfl, by funext i; rfl, trivial, hm⟩
theorem Ent.pack2 {r s : Res} {R : List Res} : Ent (r :: s :: R) (Stars [r, s] :: R) := by
  rintro m ⟨m1, mm, hd, rfl, h1, m2, m3, hd', rfl, h2, h3⟩
  obtain ⟨d1, d2⟩ := PH.dis_or.1 hd
  refine ⟨_, PH.le_refl _, m1.or m2, m3, PH.dis.symm (PH.dis_or.2 ⟨d2.symm, hd'.symm⟩), (PH.or_assoc _ _ _).symm, ?_, h3⟩
  exact ⟨m1, m2, d1, rfl, h1, m2, fun _ => none, fun _ => .inr rfl, by funext i; unfold PH.or; cases m2 i <;> rfl, h2, trivial⟩
section
variable {d : Nat} {ty t el : TypeId} {pos : String} {after : Array Edge} {g : Option (Nat × Bool)} {x y : Operand} {A : Option Addr} {n c : Nat}
theorem Nx.store_of (k : Nat) {α : Type} (f : α → Value) {i : Nat} {l : List α} {z : α} (hx : evo e x = some (.pointer (some ((ad A).add (i * 1))))) (hy : evo e y = some (f z)) (hc : cellsL (f z) = [f z]) (h1 : (f z).oneCell' = true) (hn : cellsIn C.P t = some 1) (hk : nthL R k = some (Vec el 1 A n c (l.map f))) (hi : i < n)
    (h : Nx C e I (Vec el 1 A n c ((l.set i z).map f) :: R.eraseIdx k) K) : Nx C e I R (opK C.P ⟨none, .store t x y, ty, pos, after, g⟩ K Q) := by
  rw [Nat.mul_one] at hx
  refine Nx.ent (Ent.pull k R _ (nthL_eq.symm.trans hk)) (Nx.store hx hy ((cellsL_eq _).trans hc) hn rfl (Wr.vec hi h1) ?_)
  rw [List.map_set] at h
  exact h
end
end
end Go.Eng
namespace Go.Eng
structure PoolOp where
  k : Nat
  d : Nat
  t : TypeId
  cs : List Value
def pe : List PoolOp → List (Option Nat) → Env
  | p :: ps, some b :: bs => (p.d, .pointer (some ⟨b, 0, none⟩)) :: pe ps bs
  | _ :: ps, none :: bs => pe ps bs
  | _, _ => []
def pr : List PoolOp → List (Option Nat) → List Res
  | p :: ps, some b :: bs => Blk b p.t p.cs :: pr ps bs
  | _ :: ps, none :: bs => pr ps bs
  | _, _ => []
def keysFree (pool : List PoolOp) : Env → Bool
  | [] => true
  | (t, _) :: e => pool.all (fun p => !Nat.beq p.d t) && keysFree pool e
theorem keysFree_lk {pool : List PoolOp} : ∀ {e : Env} {p : PoolOp}, keysFree pool e = true → p ∈ pool → lk e p.d = none
  | [], _, _, _ => rfl
  | (t, v) :: e, p, h, hp => by
    simp only [keysFree, Bool.and_eq_true, List.all_eq_true] at h
    have h1 := h.1 p hp
    unfold lk
    have hne : Nat.beq t p.d = false := by
      cases hb : Nat.beq t p.d with
      | false => rfl
      | true => have := Nat.eq_of_beq_eq_true hb; subst this; simp at h1
    rw [hne]
    exact keysFree_lk h.2 hp
theorem lk_cons (k : Nat) (u : Value) (r : Env) (t : Nat) : lk ((k, u) :: r) t = match Nat.beq k t with | true => some u | false => lk r t := rfl
theorem Stars.up : ∀ {R : List Res} {m m' : PH}, Stars R m' → PH.le m' m → Stars R m
  | [], _, _, _, _ => trivial
  | r :: rs, m, _, ⟨m1, m2, hd, rfl, hr, h2⟩, hle => by
    refine ⟨m1, fun i => match m1 i with | some _ => none | none => m i, fun i => ?_, ?_, hr, Stars.up h2 fun i o hi => ?_⟩
    · cases h : m1 i with
      | none => exact .inl rfl
      | some o => exact .inr (by show (match m1 i with | some _ => none | none => m i) = none; rw [h])
    · funext i
      show m i = (match m1 i with | some o => some o | none => (match m1 i with | some _ => none | none => m i))
      cases h : m1 i with
      | none => simp only
      | some o => exact hle i o (PH.le_or_left m1 m2 i o h)
    · have h1 : m1 i = none := by
        rcases hd i with h | h
        · exact h
        · rw [h] at hi; cases hi
      show (match m1 i with | some _ => none | none => m i) = some o
      rw [h1]
      exact hle i o (PH.le_or_right hd i o hi)
theorem lk_app {a b : Env} {t : Nat} {v : Value} (h : lk (a ++ b) t = some v) : lk a t = some v ∨ (lk a t = none ∧ lk b t = some v) := by
  induction a with
  | nil => exact .inr ⟨rfl, h⟩
  | cons x r ih =>
    obtain ⟨k, u⟩ := x
    simp only [List.cons_append] at h
    rw [lk_cons] at h ⊢
    cases hb : Nat.beq k t with
    | true => rw [hb] at h; exact .inl h
    | false => rw [hb] at h; exact ih h
theorem lk_app_l {a b : Env} {t : Nat} {v : Value} (h : lk a t = some v) : lk (a ++ b) t = some v := by
  induction a with
  | nil => simp [lk] at h
  | cons x r ih =>
    obtain ⟨k, u⟩ := x
    simp only [List.cons_append]
    rw [lk_cons] at h ⊢
    cases hb : Nat.beq k t with
    | true => rw [hb] at h; exact h
    | false => rw [hb] at h; exact ih h
theorem lk_app_r {a b : Env} {t : Nat} (h : lk a t = none) : lk (a ++ b) t = lk b t := by
  induction a with
  | nil => rfl
  | cons x r ih =>
    obtain ⟨k, u⟩ := x
    simp only [List.cons_append]
    rw [lk_cons] at h ⊢
    cases hb : Nat.beq k t with
    | true => rw [hb] at h; cases h
    | false => rw [hb] at h; exact ih h
theorem pe_set : ∀ {pool : List PoolOp} {bs : List (Option Nat)} {j : Nat} {p : PoolOp} {b t : Nat} {v : Value}, pool[j]? = some p → lk (pe pool (bs.set j (some b))) t = some v → (t = p.d ∧ v = .pointer (some ⟨b, 0, none⟩)) ∨ lk (pe pool bs) t = some v ∨ bs[j]? ≠ some none
  | [], _, j, p, _, _, _, hj, _ => by simp at hj
  | q :: ps, [], j, p, _, _, _, _, h => by simp [pe, lk] at h
  | q :: ps, o :: bs, 0, p, b, t, v, hj, h => by
    simp at hj
    subst hj
    cases o with
    | some b0 => exact .inr (.inr (by simp))
    | none =>
      simp only [List.set_cons_zero, pe] at h ⊢
      unfold lk at h
      cases hb : Nat.beq q.d t with
      | true => rw [hb] at h; have := Nat.eq_of_beq_eq_true hb; subst this; exact .inl ⟨rfl, (Option.some.inj h).symm⟩
      | false => rw [hb] at h; exact .inr (.inl h)
  | q :: ps, o :: bs, j + 1, p, b, t, v, hj, h => by
    simp only [List.set_cons_succ] at h
    have hj' : ps[j]? = some p := by simpa using hj
    cases o with
    | none =>
      simp only [pe] at h ⊢
      rcases pe_set hj' h with h1 | h1 | h1
      · exact .inl h1
      · exact .inr (.inl h1)
      · exact .inr (.inr (by simpa using h1))
    | some b0 =>
      simp only [pe] at h ⊢
      unfold lk at h ⊢
      cases hb : Nat.beq q.d t with
      | true => rw [hb] at h; exact .inr (.inl h)
      | false =>
        rw [hb] at h
        rcases pe_set hj' h with h1 | h1 | h1
        · exact .inl h1
        · exact .inr (.inl h1)
        · exact .inr (.inr (by simpa using h1))
theorem pr_set : ∀ {pool : List PoolOp} {bs : List (Option Nat)} {j : Nat} {p : PoolOp} {b : Nat}, pool[j]? = some p → bs[j]? = some none → Ent (Blk b p.t p.cs :: pr pool bs) (pr pool (bs.set j (some b)))
  | [], _, j, p, _, hj, _ => by simp at hj
  | q :: ps, [], j, p, _, _, h => by simp at h
  | q :: ps, o :: bs, 0, p, b, hj, h => by
    simp at hj h
    subst hj; subst h
    simp only [List.set_cons_zero, pr]
    exact Ent.refl _
  | q :: ps, o :: bs, j + 1, p, b, hj, h => by
    simp only [List.set_cons_succ]
    have hj' : ps[j]? = some p := by simpa using hj
    have h' : bs[j]? = some none := by simpa using h
    cases o with
    | none => simp only [pr]; exact pr_set hj' h'
    | some b0 => simp only [pr]; exact (Ent.swap _ _ _).trans (Ent.cons (pr_set hj' h'))
theorem pe_none : ∀ {pool : List PoolOp} {bs : List (Option Nat)} {j : Nat} {p : PoolOp}, (pool.map (·.d)).Pairwise (· ≠ ·) → pool[j]? = some p → bs[j]? = some none → lk (pe pool bs) p.d = none
  | [], _, j, p, _, hj, _ => by simp at hj
  | q :: ps, [], j, p, _, _, h => by simp at h
  | q :: ps, o :: bs, 0, p, hd, hj, h => by
    simp at hj h
    subst hj; subst h
    simp only [pe]
    simp only [List.map_cons, List.pairwise_cons] at hd
    have key : ∀ (ps : List PoolOp) (bs : List (Option Nat)), (∀ a ∈ ps.map (·.d), q.d ≠ a) → lk (pe ps bs) q.d = none := by
      intro ps
      induction ps with
      | nil => intro bs _; simp [pe, lk]
      | cons r ps ih =>
        intro bs hh
        cases bs with
        | nil => simp [pe, lk]
        | cons o bs =>
          cases o with
          | none => simp only [pe]; exact ih bs fun a ha => hh a (by simp at ha ⊢; exact .inr ha)
          | some b0 =>
            simp only [pe]
            unfold lk
            have hne : Nat.beq r.d q.d = false := by
              cases hb : Nat.beq r.d q.d with
              | false => rfl
              | true => exact absurd (Nat.eq_of_beq_eq_true hb).symm (hh r.d (by simp))
            rw [hne]
            exact ih bs fun a ha => hh a (by simp at ha ⊢; exact .inr ha)
    exact key ps bs hd.1
  | q :: ps, o :: bs, j + 1, p, hd, hj, h => by
    have hj' : ps[j]? = some p := by simpa using hj
    have h' : bs[j]? = some none := by simpa using h
    simp only [List.map_cons, List.pairwise_cons] at hd
    cases o with
    | none => simp only [pe]; exact pe_none hd.2 hj' h'
    | some b0 =>
      simp only [pe]
      unfold lk
      have hne : Nat.beq q.d p.d = false := by
        cases hb : Nat.beq q.d p.d with
        | false => rfl
        | true => exact absurd (Nat.eq_of_beq_eq_true hb) (hd.1 p.d (List.mem_map.2 ⟨p, List.mem_of_getElem? hj', rfl⟩))
      rw [hne]
      exact pe_none hd.2 hj' h'
def findP : List PoolOp → List Bool → Nat → Nat → Option Nat
  | p :: ps, f :: fl, i, j => if Nat.beq p.k i && !f then some j else findP ps fl i (j + 1)
  | _, _, _, _ => none
theorem findP_ok : ∀ {pool : List PoolOp} {fl : List Bool} {i j j0 : Nat}, findP pool fl i j0 = some j → ∃ m p, j = j0 + m ∧ pool[m]? = some p ∧ fl[m]? = some false ∧ p.k = i
  | [], _, _, _, _, h => by simp [findP] at h
  | _ :: _, [], _, _, _, h => by simp [findP] at h
  | p :: ps, f :: fl, i, j, j0, h => by
    unfold findP at h
    split at h
    · rename_i hc
      simp only [Bool.and_eq_true, Bool.not_eq_true'] at hc
      exact ⟨0, p, by simpa using h.symm, rfl, by simp [hc.2], Nat.eq_of_beq_eq_true hc.1⟩
    · obtain ⟨m, q, h1, h2, h3, h4⟩ := findP_ok h
      exact ⟨m + 1, q, by omega, by simpa using h2, by simpa using h3, h4⟩
structure PoolFit (C : Cx) (ops : Array Oper) (p : PoolOp) : Prop where
  op : ∃ ty pos after, ops[p.k]? = some ⟨some p.d, .alloc p.t, ty, pos, after, none⟩
  zero : zeroOf C.P p.t = some p.cs
  lt : Nat.blt p.d C.n = true
section
variable {C : Cx} {e e' : Env} {I : PH} {R R' R0 : List Res} {K K' : Act → World → Prop} {Q : Exit → Act → World → Prop} {W : World}
variable {ops : Array Oper} {S : World → Prop} {loud rest ch : List Nat} {pool : List PoolOp}
theorem map_isSome {bs : List (Option Nat)} (h : (bs.map Option.isSome).all id = true) : ∃ l : List Nat, bs = l.map some := by
  induction bs with
  | nil => exact ⟨[], rfl⟩
  | cons o r ih =>
    simp only [List.map_cons, List.all_cons, Bool.and_eq_true, id_eq] at h
    obtain ⟨l, rfl⟩ := ih h.2
    cases o with
    | none => cases h.1
    | some b => exact ⟨b :: l, rfl⟩
theorem Mod.poolPut {n : Nat} {a : Act} {p : PoolOp} {bs : List (Option Nat)} {j b : Nat} (h : Mod n (e ++ pe pool bs) a) (hf : keysFree pool e = true) (hd : (pool.map (·.d)).Pairwise (· ≠ ·)) (hj : pool[j]? = some p) (hb : bs[j]? = some none) (hlt : Nat.blt p.d n = true) :
    Mod n (e ++ pe pool (bs.set j (some b))) (a.put (some p.d) (.pointer (some ⟨b, 0, none⟩))) := by
  have h1 := h.put hlt (.pointer (some ⟨b, 0, none⟩))
  refine ⟨h1.size, h1.defers, fun t v hv => ?_⟩
  have hpe := keysFree_lk hf (List.mem_of_getElem? hj)
  have hpn := pe_none hd hj hb
  have key : ∀ {t v}, lk (e ++ pe pool bs) t = some v → (a.put (some p.d) (.pointer (some ⟨b, 0, none⟩))).tmps[t]? = some v := fun {t v} hv => by
    refine h1.get t v ?_
    unfold lk
    have hne : Nat.beq p.d t = false := by
      cases hb : Nat.beq p.d t with
      | false => rfl
      | true =>
        have := Nat.eq_of_beq_eq_true hb
        subst this
        rcases lk_app hv with h2 | ⟨_, h2⟩
        · rw [hpe] at h2; cases h2
        · rw [hpn] at h2; cases h2
    rw [hne]; exact hv
  rcases lk_app hv with h2 | ⟨h2, h3⟩
  · exact key (lk_app_l h2)
  · rcases pe_set hj h3 with ⟨rfl, rfl⟩ | h4 | h4
    · exact h1.get _ _ (by unfold lk; rw [Nat.beq_refl])
    · exact key (by rw [lk_app_r h2]; exact h4)
    · exact absurd hb h4
def preOk (ops : Array Oper) (k : Array Bool → Bool) : List Nat → Array Bool → Bool
  | [], listed => k listed
  | q :: r, listed => Region.free .any ops listed q && (Region.ready .any ops listed).contains q && preOk ops k r (listed.setIfInBounds q true)
theorem wpMix_pre {P : Program} {T : Act → World → Prop} (hs : Region.noSelect ops = true) (hQ : PanicOk Q) {k : Array Bool → Bool} {fuel : Nat} (hT : ∀ listed a w, k listed = true → S w → T a w → wpAnyH P .any ops Q S fuel listed a w) : ∀ (q : List Nat) (listed : Array Bool) (a : Act) (w : World),
    preOk ops k q listed = true → S w → wpMix P ops (Exit.then T Q) S [] q a w → wpAnyH P .any ops Q S (fuel + q.length) listed a w
  | [], listed, a, w, hok, hSw, h => hT listed a w hok hSw h
  | i :: r, listed, a, w, hok, hSw, h => by
    obtain ⟨o, ho, h⟩ := h
    simp only [preOk, Bool.and_eq_true] at hok
    rw [if_neg (by simp)] at h
    obtain ⟨v, hy, h⟩ := h
    exact wpAnyH_take ho hs hok.1.1 hok.1.2 (fun c a w => hQ c o.dst v a w) hy hSw (wpMix_pre hs hQ hT r _ _ w hok.2 hSw h)
theorem pe_nones : ∀ (pool : List PoolOp), pe pool (pool.map fun _ => none) = [] ∧ pr pool (pool.map fun _ => none) = [] ∧ ((pool.map fun _ => (none : Option Nat)).map Option.isSome) = pool.map fun _ => false
  | [] => ⟨rfl, rfl, rfl⟩
  | p :: ps => by
    obtain ⟨h1, h2, h3⟩ := pe_nones ps
    exact ⟨by simp only [List.map_cons, pe]; exact h1, by simp only [List.map_cons, pr]; exact h2, by simp [h3]⟩
variable {c : Code}
end
end Go.Eng
namespace Go.Eng
def wpAnyF (P : Program) (md : Region.Mode) (ops : Array Oper) (Q : Exit → Act → World → Prop) (S : World → Prop) (fin : List Nat) : Nat → Array Bool → Act → World → Prop
  | 0, listed, a, w => Region.ready md ops listed = [] ∧ Q .normal a w
  | n + 1, listed, a, w => (Region.ready md ops listed = [] → Q .normal a w) ∧
    ∀ i ∈ Region.ready md ops listed, wpOp P ops Q i (fun a' w' => (fin.contains i = false → S w') ∧ wpAnyF P md ops Q S fin n (listed.setIfInBounds i true) a' w') a w
section
variable {P : Program} {ops : Array Oper} {Q : Exit → Act → World → Prop} {md : Region.Mode} {S : World → Prop} {fin : List Nat}
theorem wpAny_of_fin : ∀ (n : Nat) (listed : Array Bool) (a : Act) (w : World), wpAnyF P md ops Q S fin n listed a w → wpAny P md ops Q n listed a w
  | 0, _, _, _, h => h
  | n + 1, _, _, _, h => ⟨h.1, fun i hi => wpOp_mono (fun a' w' h' => wpAny_of_fin n _ a' w' h'.2) (h.2 i hi)⟩
theorem ready_waits {i j : Nat} {oj : Oper} {listed : Array Bool} (hi : i ∈ Region.ready md ops listed) (hj : j ∈ Region.ready md ops listed) (ho : ops[j]? = some oj) : ∀ e ∈ oj.after, Region.binds md e = true → e.on ≠ i := by
  intro e he hb heq
  obtain ⟨_, o, ho', hall⟩ := mem_ready.1 hj
  obtain ⟨h0, _, _, _⟩ := mem_ready.1 hi
  rw [ho] at ho'
  obtain rfl : oj = o := by simpa using ho'
  have h1 := hall e he hb
  subst heq
  rcases Nat.lt_or_ge e.on listed.size with h' | h'
  · simp [h'] at h0 h1
    rw [h0] at h1; cases h1
  · simp [Array.getElem?_eq_none h'] at h1
def Closed (md : Region.Mode) (ops : Array Oper) (listed : Array Bool) : Prop := ∀ k o, ops[k]? = some o → listed.getD k false = true → ∀ e ∈ o.after, Region.binds md e = true → listed.getD e.on false = true
theorem Closed.start (n : Nat) : Closed md ops (Array.replicate n false) := fun k o _ h => by
  exfalso
  by_cases hk : k < n <;> simp [hk] at h
theorem Closed.set {i : Nat} {listed : Array Bool} (h : Closed md ops listed) (hi : i ∈ Region.ready md ops listed) : Closed md ops (listed.setIfInBounds i true) := fun k o ho hk e he hb => by
  by_cases hik : i = k
  · subst hik
    obtain ⟨_, o', ho', hall⟩ := mem_ready.1 hi
    rw [ho] at ho'
    obtain rfl : o = o' := by simpa using ho'
    exact getD_set_true (hall e he hb)
  · rw [getD_set_ne false hik] at hk
    exact getD_set_true (h k o ho hk e he hb)
def waitsOn (md : Region.Mode) (ops : Array Oper) : Nat → Nat → Nat → Bool
  | 0, _, _ => false
  | n + 1, j, i => match ops[j]? with
    | some o => o.after.any fun e => Region.binds md e && (Nat.beq e.on i || waitsOn md ops n e.on i)
    | none => false
theorem waitsOn_listed {i : Nat} {listed : Array Bool} (hc : Closed md ops listed) : ∀ (n j : Nat), waitsOn md ops n j i = true → (∀ o, ops[j]? = some o → ∀ e ∈ o.after, Region.binds md e = true → listed.getD e.on false = true) → listed.getD i false = true
  | 0, j, h, _ => by simp [waitsOn] at h
  | n + 1, j, h, hj => by
    unfold waitsOn at h
    split at h
    · rename_i o ho
      obtain ⟨e, he, hb⟩ := Array.any_eq_true'.1 h
      simp only [Bool.and_eq_true, Bool.or_eq_true] at hb
      have h1 := hj o ho e he hb.1
      rcases hb.2 with h2 | h2
      · rw [← Nat.eq_of_beq_eq_true h2]; exact h1
      · exact waitsOn_listed hc n e.on h2 fun o' ho' => hc e.on o' ho' h1
    · cases h
def finWaits (md : Region.Mode) (ops : Array Oper) (fin : List Nat) (i : Nat) : Bool := fin.all fun j => waitsOn md ops 2 j i || waitsOn md ops 4 j i || waitsOn md ops 9 j i
theorem finWaits_not {i j : Nat} {listed : Array Bool} (hc : Closed md ops listed) (h : finWaits md ops fin i = true) (hi : i ∈ Region.ready md ops listed) (hj : j ∈ Region.ready md ops listed) : fin.contains j = false := by
  cases hf : fin.contains j with
  | false => rfl
  | true =>
    exfalso
    have h1 := List.all_eq_true.1 h j (by simpa using hf)
    obtain ⟨_, oj, hoj, hall⟩ := mem_ready.1 hj
    have hj' : ∀ o, ops[j]? = some o → ∀ e ∈ o.after, Region.binds md e = true → listed.getD e.on false = true := fun o ho => by
      rw [hoj] at ho
      obtain rfl : oj = o := by simpa using ho
      exact hall
    have h2 : listed.getD i false = true := by
      simp only [Bool.or_eq_true] at h1
      rcases h1 with (h1 | h1) | h1 <;> exact waitsOn_listed hc _ j h1 hj'
    have h0 := (mem_ready.1 hi).1
    rcases Nat.lt_or_ge i listed.size with h' | h'
    · simp [h'] at h0 h2
      rw [h0] at h2; cases h2
    · simp [Array.getElem?_eq_none h'] at h2
theorem wpAnyF_first {i : Nat} {oi : Oper} {v : Value} (hi : ops[i]? = some oi) (hs : Region.noSelect ops = true) (hQ : PanicOk Q) (hfin : finWaits md ops fin i = true) :
    ∀ (n : Nat) (listed : Array Bool) (a : Act) (w : World), Closed md ops listed →
      (∀ j oj, ops[j]? = some oj → j ≠ i → listed.getD j true = false → (∀ e ∈ oj.after, Region.binds md e = true → e.on ≠ i) → oi.apart ops oj = true) →
      i ∈ Region.ready md ops listed → YieldsIf P ops S oi v a → S w →
      wpAnyF P md ops Q S fin n (listed.setIfInBounds i true) (a.put oi.dst v) w → wpAnyF P md ops Q S fin (n + 1) listed a w
  | n, listed, a, w, hcl, hap, hr, hy, hS, H => by
    refine ⟨fun h0 => (by rw [h0] at hr; cases hr), fun j hj => ?_⟩
    by_cases hji : j = i
    · subst hji; exact hy.wpOp hi hS ⟨fun _ => hS, H⟩
    · have hj2 := ready_mono hj hji
      obtain ⟨hjun, oj, hoj, _⟩ := mem_ready.1 hj
      have hno := ready_waits hr hj hoj
      have hnf := finWaits_not hcl hfin hr hj
      match n, H with
      | 0, H => rw [H.1] at hj2; cases hj2
      | n + 1, H =>
        have h1 := H.2 j hj2
        have h2 := wpOp_putIf hoj (hap j oj hoj hji hjun hno) (fun cs b => Region.noSelect_spec hs i oi cs b hi) (fun cs b => Region.noSelect_spec hs j oj cs b hoj) (fun c a w => hQ c oi.dst v a w) hy h1
        refine wpOp_mono (fun a' w' h3 => ?_) h2
        obtain ⟨hy', hS', H'⟩ := h3
        refine ⟨fun _ => hS' hnf, wpAnyF_first hi hs hQ hfin n (listed.setIfInBounds j true) a' w' (hcl.set hj) (fun k ok hk hki hun hnk => ?_) (ready_mono hr (Ne.symm hji)) hy' (hS' hnf) ?_⟩
        · refine hap k ok hk hki ?_ hnk
          by_cases hjk : j = k
          · subst hjk; exact hjun
          · rwa [getD_set_ne true hjk] at hun
        · rw [Array.setIfInBounds_comm _ _ hji]
          exact H'
theorem wpOp_then {T : Act → World → Prop} {i : Nat} {a : Act} {w : World} {K : Act → World → Prop} (hh : wpOp P ops (Exit.then T Q) i K a w) : wpOp P ops Q i K a w := by
  unfold wpOp at *
  split
  · simpa [*] using hh
  · rename_i o ho
    simp only [ho] at hh
    split
    · rename_i hw
      simp only [hw, if_true] at hh
      rcases hh with hh | hh
      · refine .inl ?_
        unfold Oper.wp at *
        generalize (execOp a.eval o).run P w = r at *
        cases r with
        | ok n w' =>
          cases n <;> simp only [Oper.upon] at hh ⊢ <;>
            first
              | exact hh
              | exact Calls.mono hh (fun e w'' he => by cases e <;> exact he)
              | exact Rows.mono hh (fun _ _ he => he)
        | halt x w' => cases x <;> simp only [Oper.upon] at hh ⊢ <;> exact hh
      · exact .inr hh
    · rename_i hw
      simpa [hw] using hh
def mixOkF (ops : Array Oper) (fin loud : List Nat) : List Nat → Array Bool → Bool
  | [], listed => mixOk ops fin fin listed
  | k :: r, listed => (if loud.contains k then Region.ready .any ops listed == [k] && !(fin.contains k) else Region.free .any ops listed k && (Region.ready .any ops listed).contains k && finWaits .any ops fin k) && mixOkF ops fin loud r (listed.setIfInBounds k true)
theorem wpMix_fin (hs : Region.noSelect ops = true) (hQ : PanicOk Q) (hall : ∀ k ∈ fin, fin.contains k = true) : ∀ (r : List Nat) (n : Nat) (listed : Array Bool) (a : Act) (w : World), (∀ k ∈ r, fin.contains k = true) →
    mixOk ops fin r listed = true → r.length ≤ n → wpMix P ops Q AnyW fin r a w → wpAnyF P .any ops Q S fin n listed a w
  | [], n, listed, a, w, _, hok, _, h => by
    have hr : Region.ready .any ops listed = [] := by simpa [mixOk] using hok
    cases n with
    | zero => exact ⟨hr, h⟩
    | succ n => exact ⟨fun _ => h, by rw [hr]; simp⟩
  | k :: r, 0, listed, a, w, _, _, hl, _ => by simp at hl
  | k :: r, n + 1, listed, a, w, hk, hok, hl, h => by
    obtain ⟨o, ho, h⟩ := h
    have hkf := hk k (by simp)
    unfold mixOk at hok
    rw [if_pos hkf] at h hok
    simp only [Bool.and_eq_true, beq_iff_eq] at hok
    refine ⟨fun h0 => (by rw [hok.1] at h0; cases h0), fun i hi => ?_⟩
    rw [hok.1] at hi
    obtain rfl : i = k := by simpa using hi
    refine wpOp_mono (fun a' w' h3 => ⟨fun hf => ?_, wpMix_fin hs hQ hall r n _ a' w' (fun j hj => hk j (by simp [hj])) hok.2 (by simpa using hl) h3.2⟩) h
    rw [hkf] at hf; cases hf
theorem wpMix_anyF (hs : Region.noSelect ops = true) (hQ : PanicOk Q) {loud : List Nat} : ∀ (ord : List Nat) (n : Nat) (listed : Array Bool) (a : Act) (w : World), Closed .any ops listed →
    mixOkF ops fin loud ord listed = true → ord.length + fin.length ≤ n → S w → wpMix P ops (Exit.then (wpMix P ops Q AnyW fin fin) Q) S loud ord a w → wpAnyF P .any ops Q S fin n listed a w
  | [], n, listed, a, w, _, hok, hl, _, h => wpMix_fin hs hQ (fun k hk => by simpa using hk) fin n listed a w (fun k hk => by simpa using hk) hok (by simpa using hl) h
  | k :: r, 0, listed, a, w, _, _, hl, _, _ => by simp at hl
  | k :: r, n + 1, listed, a, w, hcl, hok, hl, hS, h => by
    obtain ⟨o, ho, h⟩ := h
    unfold mixOkF at hok
    rw [Bool.and_eq_true] at hok
    obtain ⟨hk, hr⟩ := hok
    have hl' : r.length + fin.length ≤ n := by simp only [List.length_cons] at hl; omega
    by_cases hc : loud.contains k = true
    · rw [if_pos hc] at h hk
      simp only [Bool.and_eq_true, beq_iff_eq, Bool.not_eq_true'] at hk
      refine ⟨fun h0 => (by rw [hk.1] at h0; cases h0), fun i hi => ?_⟩
      rw [hk.1] at hi
      obtain rfl : i = k := by simpa using hi
      refine wpOp_then (T := wpMix P ops Q AnyW fin fin) ?_
      exact wpOp_mono (fun a' w' h3 => ⟨fun _ => h3.1, wpMix_anyF hs hQ r n _ a' w' (hcl.set (by rw [hk.1]; simp)) hr hl' h3.1 h3.2⟩) h
    · rw [if_neg hc] at h hk
      simp only [Bool.and_eq_true] at hk
      obtain ⟨v, hy, h⟩ := h
      exact wpAnyF_first ho hs hQ hk.2 n listed a w hcl (Region.free_spec ho hk.1.1) (by simpa using hk.1.2) hy hS (wpMix_anyF hs hQ r n _ _ w (hcl.set (by simpa using hk.1.2)) hr hl' hS h)
end
section
variable {C : Cx} {e e' : Env} {I : PH} {R R' R0 : List Res} {K K' : Act → World → Prop} {Q : Exit → Act → World → Prop} {W : World} {c : Code} {ops : Array Oper}
theorem Nx.p_drawF {id : Nat} (hid : cid c = id) (ord loud fin : List Nat) (R0 : List Res) (hk : ck c = 2) (hm : C.P.follows .mixedOrders = true) (hs : Region.noSelect (cops c) = true) (hok : mixOkF (cops c) fin loud ord (Array.replicate (cops c).size false) = true) (hlen : Nat.ble (ord.length + fin.length) (cops c).size = true) (hQ : PanicOk Q) (hR : Ent R R0)
    (h : Nx C e I R (wpMix C.P (cops c) (Exit.then (wpMix C.P (cops c) Q AnyW fin fin) Q) (St C.W I R0) loud ord)) : Nx C e I R (c.wp C.P Q) := by
  have hc : c = .region (cid c) (cops c) true := by
    cases c <;> first | (simp [ck] at hk; done) | skip
    rename_i b
    cases b with
    | false => simp [ck] at hk
    | true => rfl
  clear hid
  rw [hc]
  intro a w ha hw
  refine wp_region_any hm (wpAny_of_fin _ _ _ _ (wpMix_anyF (S := St C.W I R0) hs hQ ord _ _ a _ (Closed.start _) hok (Nat.le_of_ble_eq_true hlen) (hw.drew.ent hR) (h a _ ha hw.drew)))
theorem Ent.eraseK : ∀ (k : Nat) (R : List Res), Ent R (R.eraseIdx k)
  | _, [] => Ent.refl _
  | 0, _ :: _ => Ent.drop (Ent.refl _)
  | k + 1, _ :: R => Ent.cons (Ent.eraseK k R)
def resOne (tmps : Array Value) : ResultVar → Sem Value
  | .tmp t => pure (tmps.getD t undef)
  | .cell x t => do loadVar t (← asAddr (tmps.getD x undef))
theorem results_eq (fn : Func) (tmps : Array Value) : results fn tmps = (do
  let vs ← fn.results.mapM (resOne tmps)
  pure (if h : vs.size = 1 then vs[0] else .tuple vs)) := by
  unfold results
  congr 1
def ROne (C : Cx) (e : Env) (I : PH) (R : List Res) (r : ResultVar) (v : Value) : Prop := ∀ a w, Mod C.n e a → St C.W I R w → (resOne a.tmps r).run C.P w = .ok v w
variable {v v1 v2 v3 : Value}
theorem ROne.tmp {t : Nat} (h : lk e t = some v) : ROne C e I R (.tmp t) v := fun a w ha _ => by simp [resOne, ha.get t v h]
theorem ROne.cell (k : Nat) {nc t0 b : Nat} {ty tb : TypeId} {cs : List Value} (hx : lk e t0 = some (.pointer (some ⟨b, 0, none⟩))) (ht : aggT C.P ty = true) (hn : cellsIn C.P ty = some nc) (hl : cs.length = nc) (hk : nthL R k = some (Blk b tb cs)) : ROne C e I R (.cell t0 ty) (.agg cs.toArray) := fun a w ha hw => by
  have hload := run_loadVar_agg (A := ⟨b, 0, none⟩) ht hn hl (fun j u hj => (Rds.at_ k hk : Rds C.W I R ⟨b, 0, none⟩ cs) j u hj w hw)
  simp [resOne, ha.get t0 _ hx, asAddr, hload]
theorem Nx.ret2 {fn : Func} {F : Res} {Post : Value → List Res → Prop} {r1 r2 : ResultVar} (hres : fn.results.toList = [r1, r2]) (h1 : ROne C e I R r1 v1) (h2 : ROne C e I R r2 v2) (R' : List Res) (hp : Post (.tuple #[v1, v2]) R') (hR : Ent R (R' ++ [F])) : Nx C e I R (fnPost C.P fn I F C.W Post .ret) :=
  fun a w ha hw => ⟨ha.defers, _, by
    have hr : fn.results = #[r1, r2] := by
      have : fn.results = [r1, r2].toArray := by rw [← hres]
      simpa using this
    have e1 := h1 a w ha hw
    have e2 := h2 a w ha hw
    rw [results_eq, hr]
    simp [e1, e2], _, R', rfl, hp, hw.ent hR⟩
theorem Nx.ret3 {fn : Func} {F : Res} {Post : Value → List Res → Prop} {r1 r2 r3 : ResultVar} (hres : fn.results.toList = [r1, r2, r3]) (h1 : ROne C e I R r1 v1) (h2 : ROne C e I R r2 v2) (h3 : ROne C e I R r3 v3) (R' : List Res) (hp : Post (.tuple #[v1, v2, v3]) R') (hR : Ent R (R' ++ [F])) : Nx C e I R (fnPost C.P fn I F C.W Post .ret) :=
  fun a w ha hw => ⟨ha.defers, _, by
    have hr : fn.results = #[r1, r2, r3] := by
      have : fn.results = [r1, r2, r3].toArray := by rw [← hres]
      simpa using this
    have e1 := h1 a w ha hw
    have e2 := h2 a w ha hw
    have e3 := h3 a w ha hw
    rw [results_eq, hr]
    simp [e1, e2, e3], _, R', rfl, hp, hw.ent hR⟩
theorem Nx.store_as (k : Nat) {x y : Operand} {ty t : TypeId} {pos : String} {after : Array Edge} {g : Option (Nat × Bool)} {vy : Value} {n b i : Nat} {t0 : TypeId} {cs cs' : List Value} (cs2 : List Value) (hx : evo e x = some (.pointer (some ⟨b, i, none⟩))) (hy : evo e y = some vy) (hk : nthL R k = some (Blk b t0 cs)) (hs : setsAt cs i (cellsL vy) = some cs')
    (h1 : (cellsL vy).all Value.oneCell' = true) (hn : cellsIn C.P t = some n) (hl : Nat.beq (cellsL vy).length n = true) (he : cs' = cs2) (h : Nx C e I (Blk b t0 cs2 :: R.eraseIdx k) K) : Nx C e I R (opK C.P ⟨none, .store t x y, ty, pos, after, g⟩ K Q) :=
  Nx.store_blk k hx hy hk hs h1 hn hl (by rw [he]; exact h)
end
end Go.Eng
namespace Go.Eng
section
variable {P : Program} {ops : Array Oper} {Q : Exit → Act → World → Prop} {md : Region.Mode} {S : World → Prop} {fin fq : List Nat}
theorem wpAnyF_firstA {i : Nat} {oi : Oper} {v : Value} (hi : ops[i]? = some oi) (hs : Region.noSelect ops = true) (hQ : PanicOk Q) (hif : fin.contains i = true) :
    ∀ (n : Nat) (listed : Array Bool) (a : Act) (w : World),
      (∀ j oj, ops[j]? = some oj → j ≠ i → listed.getD j true = false → (∀ e ∈ oj.after, Region.binds md e = true → e.on ≠ i) → oi.apart ops oj = true) →
      i ∈ Region.ready md ops listed → YieldsIf P ops AnyW oi v a →
      wpAnyF P md ops Q S fin n (listed.setIfInBounds i true) (a.put oi.dst v) w → wpAnyF P md ops Q S fin (n + 1) listed a w
  | n, listed, a, w, hap, hr, hy, H => by
    refine ⟨fun h0 => (by rw [h0] at hr; cases hr), fun j hj => ?_⟩
    by_cases hji : j = i
    · subst hji; exact hy.wpOp hi trivial ⟨fun hf => (by rw [hif] at hf; cases hf), H⟩
    · have hj2 := ready_mono hj hji
      obtain ⟨hjun, oj, hoj, _⟩ := mem_ready.1 hj
      have hno := ready_waits hr hj hoj
      match n, H with
      | 0, H => rw [H.1] at hj2; cases hj2
      | n + 1, H =>
        have h1 := H.2 j hj2
        have h2 := wpOp_putIf hoj (hap j oj hoj hji hjun hno) (fun cs b => Region.noSelect_spec hs i oi cs b hi) (fun cs b => Region.noSelect_spec hs j oj cs b hoj) (fun c a w => hQ c oi.dst v a w) hy h1
        refine wpOp_mono (fun a' w' h3 => ?_) h2
        obtain ⟨hy', hS', H'⟩ := h3
        refine ⟨hS', wpAnyF_firstA hi hs hQ hif n (listed.setIfInBounds j true) a' w' (fun k ok hk hki hun hnk => ?_) (ready_mono hr (Ne.symm hji)) hy' ?_⟩
        · refine hap k ok hk hki ?_ hnk
          by_cases hjk : j = k
          · subst hjk; exact hjun
          · rwa [getD_set_ne true hjk] at hun
        · rw [Array.setIfInBounds_comm _ _ hji]
          exact H'
theorem wpMix_finQ (hs : Region.noSelect ops = true) (hQ : PanicOk Q) (hall : ∀ k ∈ fin, fin.contains k = true) : ∀ (r : List Nat) (n : Nat) (listed : Array Bool) (a : Act) (w : World), (∀ k ∈ r, fin.contains k = true) →
    mixOk ops fq r listed = true → r.length ≤ n → wpMix P ops Q AnyW fq r a w → wpAnyF P .any ops Q S fin n listed a w
  | [], n, listed, a, w, _, hok, _, h => by
    have hr : Region.ready .any ops listed = [] := by simpa [mixOk] using hok
    cases n with
    | zero => exact ⟨hr, h⟩
    | succ n => exact ⟨fun _ => h, by rw [hr]; simp⟩
  | k :: r, 0, listed, a, w, _, _, hl, _ => by simp at hl
  | k :: r, n + 1, listed, a, w, hk, hok, hl, h => by
    obtain ⟨o, ho, h⟩ := h
    have hkf := hk k (by simp)
    unfold mixOk at hok
    by_cases hc : fq.contains k = true
    · rw [if_pos hc] at h hok
      simp only [Bool.and_eq_true, beq_iff_eq] at hok
      refine ⟨fun h0 => (by rw [hok.1] at h0; cases h0), fun i hi => ?_⟩
      rw [hok.1] at hi
      obtain rfl : i = k := by simpa using hi
      refine wpOp_mono (fun a' w' h3 => ⟨fun hf => ?_, wpMix_finQ hs hQ hall r n _ a' w' (fun j hj => hk j (by simp [hj])) hok.2 (by simpa using hl) h3.2⟩) h
      rw [hkf] at hf; cases hf
    · rw [if_neg hc] at h hok
      simp only [Bool.and_eq_true] at hok
      obtain ⟨v, hy, h⟩ := h
      exact wpAnyF_firstA ho hs hQ hkf n listed a w (Region.free_spec ho hok.1.1) (by simpa using hok.1.2) hy (wpMix_finQ hs hQ hall r n _ _ w (fun j hj => hk j (by simp [hj])) hok.2 (by simpa using hl) h)
end
def GoodF (C : Cx) (ops : Array Oper) (Q : Exit → Act → World → Prop) (S : World → Prop) (I : PH) (pool : List PoolOp) (loud mv fin fq : List Nat) : List Nat → Env → List Res → Prop
  | [], e, R => keysFree pool e = true ∧ ∀ bs : List Nat, bs.length = pool.length → Nx C (e ++ pe pool (bs.map some)) I (Stars (pr pool (bs.map some)) :: R) (wpMix C.P ops Q AnyW fq fin)
  | k :: ch, e, R => keysFree pool e = true ∧ match loud.contains k with
    | true => ∀ (ex : Env) (X : Res), Nx C (e ++ ex) I (X :: R) (wpOp C.P ops Q k (fun a w => S w ∧ ∃ e' R', Mod C.n (e' ++ ex) a ∧ St C.W I (X :: R') w ∧ GoodF C ops Q S I pool loud mv fin fq ch e' R'))
    | false => ∃ o v e', ops[k]? = some o ∧ (∀ a ex, Mod C.n (e ++ ex) a → YieldsIf C.P ops (if mv.contains k then AnyW else S) o v a ∧ Mod C.n (e' ++ ex) (a.put o.dst v)) ∧ GoodF C ops Q S I pool loud mv fin fq ch e' R
theorem GoodF.free {C : Cx} {ops : Array Oper} {Q : Exit → Act → World → Prop} {S : World → Prop} {I : PH} {pool : List PoolOp} {loud mv fin fq ch : List Nat} {e : Env} {R : List Res} (h : GoodF C ops Q S I pool loud mv fin fq ch e R) : keysFree pool e = true := by
  cases ch <;> exact h.1
def PoolSF (C : Cx) (ops : Array Oper) (Q : Exit → Act → World → Prop) (S : World → Prop) (I : PH) (pool : List PoolOp) (loud mv fin fq ch : List Nat) (ex : Env) (X : Res) : Act → World → Prop :=
  fun a w => S w ∧ ∃ e' R', Mod C.n (e' ++ ex) a ∧ St C.W I (X :: R') w ∧ GoodF C ops Q S I pool loud mv fin fq ch e' R'
def poolOkF (ops : Array Oper) (loud mv fin fq : List Nat) (pool : List PoolOp) : Nat → List Nat → List Bool → Array Bool → Bool
  | fuel, [], fl, listed =>
    if fl.all id then mixOk ops fq fin listed && Nat.ble fin.length fuel
    else match fuel with
      | 0 => false
      | f + 1 => !(Region.ready .any ops listed).isEmpty && (Region.ready .any ops listed).all fun i => match findP pool fl i 0 with
        | some j => poolOkF ops loud mv fin fq pool f [] (fl.set j true) (listed.setIfInBounds i true)
        | none => false
  | 0, _ :: _, _, _ => false
  | f + 1, k :: ch, fl, listed => match loud.contains k with
    | true => !(Region.ready .any ops listed).isEmpty && (Region.ready .any ops listed).all fun i =>
      if Nat.beq i k then poolOkF ops loud mv fin fq pool f ch fl (listed.setIfInBounds i true)
      else match findP pool fl i 0 with
        | some j => poolOkF ops loud mv fin fq pool f (k :: ch) (fl.set j true) (listed.setIfInBounds i true)
        | none => false
    | false => Region.free .any ops listed k && (Region.ready .any ops listed).contains k && (mv.contains k || finWaits .any ops (mv ++ fin) k) && poolOkF ops loud mv fin fq pool f ch fl (listed.setIfInBounds k true)
section
variable {C : Cx} {e e' : Env} {I : PH} {R R' R0 : List Res} {K K' : Act → World → Prop} {Q : Exit → Act → World → Prop} {W : World}
variable {ops : Array Oper} {S : World → Prop} {loud mv fin fq ch : List Nat} {pool : List PoolOp} {c : Code} {o : Oper}
theorem pool_anyF (hs : Region.noSelect ops = true) (hQ : PanicOk Q) (hd : (pool.map (·.d)).Pairwise (· ≠ ·)) (hfit : ∀ p ∈ pool, PoolFit C ops p) (hS : ∀ w o, S w → S (w.alloc o)) :
    ∀ (fuel : Nat) (ch : List Nat) (bs : List (Option Nat)) (listed : Array Bool) (e : Env) (R : List Res) (a : Act) (w : World), Closed .any ops listed → poolOkF ops loud mv fin fq pool fuel ch (bs.map Option.isSome) listed = true → bs.length = pool.length →
      Mod C.n (e ++ pe pool bs) a → St C.W I (Stars (pr pool bs) :: R) w → S w → GoodF C ops Q S I pool loud mv fin fq ch e R → wpAnyF C.P .any ops Q S (mv ++ fin) fuel listed a w := by
  have hfull : ∀ (fuel : Nat) (bs : List (Option Nat)) (listed : Array Bool) (e : Env) (R : List Res) (a : Act) (w : World), (bs.map Option.isSome).all id = true → (mixOk ops fq fin listed && Nat.ble fin.length fuel) = true → bs.length = pool.length →
      Mod C.n (e ++ pe pool bs) a → St C.W I (Stars (pr pool bs) :: R) w → GoodF C ops Q S I pool loud mv fin fq [] e R → wpAnyF C.P .any ops Q S (mv ++ fin) fuel listed a w := by
    intro fuel bs listed e R a w hall hok hbl ha hw hg
    obtain ⟨l, rfl⟩ := map_isSome hall
    rw [Bool.and_eq_true] at hok
    exact wpMix_finQ hs hQ (fun k hk => by simpa using hk) fin fuel listed a w (fun k hk => by simp [hk]) hok.1 (Nat.le_of_ble_eq_true hok.2) (hg.2 l (by simpa using hbl) a w ha hw)
  intro fuel
  induction fuel with
  | zero =>
    intro ch bs listed e R a w hcl hok hbl ha hw hSw hg
    cases ch with
    | cons k ch => simp [poolOkF] at hok
    | nil =>
      unfold poolOkF at hok
      split at hok
      · rename_i hall
        exact hfull 0 bs listed e R a w hall hok hbl ha hw hg
      · cases hok
  | succ f ih =>
    intro ch bs listed e R a w hcl hok hbl ha hw hSw hg
    have poolStep : ∀ i j, i ∈ Region.ready .any ops listed → findP pool (bs.map Option.isSome) i 0 = some j → poolOkF ops loud mv fin fq pool f ch ((bs.map Option.isSome).set j true) (listed.setIfInBounds i true) = true →
        wpOp C.P ops Q i (fun a' w' => ((mv ++ fin).contains i = false → S w') ∧ wpAnyF C.P .any ops Q S (mv ++ fin) f (listed.setIfInBounds i true) a' w') a w := by
      intro i j hir hfj hokj
      obtain ⟨m, p, hm, hpm, hfm, hpk⟩ := findP_ok hfj
      obtain rfl : j = m := by omega
      subst hpk
      have hbj : bs[j]? = some none := by
        rw [List.getElem?_map] at hfm
        cases hbj : bs[j]? with
        | none => rw [hbj] at hfm; cases hfm
        | some o => cases o with
          | none => rfl
          | some b => rw [hbj] at hfm; cases hfm
      obtain ⟨⟨ty, pos, after, hop⟩, hz, hlt⟩ := hfit p (List.mem_of_getElem? hpm)
      unfold wpOp
      simp only [hop]
      rw [if_pos (by simp [Region.wanted])]
      refine .inl ?_
      obtain ⟨z, hzc, hrun⟩ := zeroOf_run hz w
      have hrun' : (execOp a.eval ⟨some p.d, .alloc p.t, ty, pos, after, none⟩).run C.P w = .ok (.value (.pointer (some ⟨w.heap.size, 0, none⟩))) (w.alloc (.cells p.cs.toArray p.t)) := by
        refine run_v ?_
        unfold Instr.alloc
        rw [Sem.run_bind, hrun, Result.andThen_ok]
        simp only [newVar, hzc]
        rfl
      unfold Oper.wp
      rw [hrun']
      refine ⟨fun _ => hS w _ hSw, ?_⟩
      refine ih ch (bs.set j (some w.heap.size)) (listed.setIfInBounds p.k true) e R _ _ (hcl.set hir) ?_ (by rw [List.length_set]; exact hbl) (ha.poolPut hg.free hd hpm hbj hlt) ?_ (hS w _ hSw) hg
      · rw [List.map_set]; exact hokj
      · refine (hw.alloc (.cells p.cs.toArray p.t)).ent ?_
        refine (Ent.bundle (B := pr pool bs) (r := Blk w.heap.size p.t p.cs)).trans ?_
        refine Ent.head fun m hm => ?_
        obtain ⟨m1, m2, hd', rfl, h1, h2⟩ := Stars.append hm
        obtain ⟨n1, n2, hd2, rfl, h3, _⟩ := h2
        obtain ⟨m', hle, h'⟩ := pr_set (b := w.heap.size) hpm hbj (n1.or m1) ⟨n1, m1, (PH.dis_or.1 hd').1.symm, rfl, h3, h1⟩
        exact Stars.up h' (hle.trans (PH.or_le ((PH.le_or_left n1 n2).trans (PH.le_or_right hd')) (PH.le_or_left _ _)))
    cases ch with
    | nil =>
      unfold poolOkF at hok
      split at hok
      · rename_i hall
        exact hfull (f + 1) bs listed e R a w hall hok hbl ha hw hg
      · simp only [Bool.and_eq_true, Bool.not_eq_true', List.all_eq_true] at hok
        refine ⟨fun h0 => (by rw [h0] at hok; simp at hok), fun i hi => ?_⟩
        have := hok.2 i hi
        split at this
        · rename_i j hj; exact poolStep i j hi hj this
        · cases this
    | cons k ch =>
      unfold poolOkF at hok
      cases hl : loud.contains k with
      | true =>
        rw [hl] at hok
        simp only [Bool.and_eq_true, Bool.not_eq_true', List.all_eq_true] at hok
        have hg2 := hg.2
        rw [hl] at hg2
        refine ⟨fun h0 => (by rw [h0] at hok; simp at hok), fun i hi => ?_⟩
        have := hok.2 i hi
        split at this
        · rename_i hik
          obtain rfl := Nat.eq_of_beq_eq_true hik
          refine wpOp_mono (fun a' w' => ?_) (hg2 (pe pool bs) (Stars (pr pool bs)) a w ha hw)
          rintro ⟨hS', e', R', ha', hw', hg'⟩
          exact ⟨fun _ => hS', ih ch bs _ e' R' a' w' (hcl.set hi) this hbl ha' hw' hS' hg'⟩
        · split at this
          · rename_i j hj; exact poolStep i j hi hj this
          · cases this
      | false =>
        rw [hl] at hok
        simp only [Bool.and_eq_true] at hok
        have hg2 := hg.2
        rw [hl] at hg2
        obtain ⟨o, v, e', ho, hy, hg'⟩ := hg2
        obtain ⟨hy1, hy2⟩ := hy a _ ha
        cases hmv : mv.contains k with
        | true =>
          rw [hmv] at hy1
          exact wpAnyF_firstA ho hs hQ (by simp at hmv ⊢; exact .inl hmv) f listed a w (Region.free_spec ho hok.1.1.1) (by simpa using hok.1.1.2) hy1 (ih ch bs _ e' R _ w (hcl.set (by simpa using hok.1.1.2)) hok.2 hbl hy2 hw hSw hg')
        | false =>
          rw [hmv] at hy1 hok
          exact wpAnyF_first ho hs hQ (by simpa using hok.1.2) f listed a w hcl (Region.free_spec ho hok.1.1.1) (by simpa using hok.1.1.2) hy1 hSw (ih ch bs _ e' R _ w (hcl.set (by simpa using hok.1.1.2)) hok.2 hbl hy2 hw hSw hg')
theorem Nx.p_poolF {id : Nat} (hid : cid c = id) (ch loud mv fin fq : List Nat) (pool : List PoolOp) (hk : ck c = 2) (hm : C.P.follows .mixedOrders = true) (hs : Region.noSelect (cops c) = true)
    (hok : poolOkF (cops c) loud mv fin fq pool (cops c).size ch (pool.map fun _ => false) (Array.replicate (cops c).size false) = true)
    (hd : (pool.map (·.d)).Pairwise (· ≠ ·)) (hfit : ∀ p ∈ pool, PoolFit C (cops c) p) (hQ : PanicOk Q) (hR : Ent R R0)
    (h : GoodF C (cops c) Q (St C.W I R0) I pool loud mv fin fq ch e R) : Nx C e I R (c.wp C.P Q) := by
  have hc : c = .region (cid c) (cops c) true := by
    cases c <;> first | (simp [ck] at hk; done) | skip
    rename_i b
    cases b with
    | false => simp [ck] at hk
    | true => rfl
  clear hid
  rw [hc]
  have hS : ∀ w o, St C.W I R0 w → St C.W I R0 (w.alloc o) := fun w o h => (h.alloc o).ent (Ent.drop (Ent.refl _))
  intro a w ha hw
  obtain ⟨h1, h2, h3⟩ := pe_nones pool
  refine wp_region_any hm (wpAny_of_fin (S := St C.W I R0) (fin := mv ++ fin) _ _ _ _ ?_)
  refine pool_anyF hs hQ hd hfit hS _ ch (pool.map fun _ => none) _ e R a _ (Closed.start _) (by rw [h3]; exact hok) (by simp) (by rw [h1, List.append_nil]; exact ha) (hw.drew.ent ?_) (hw.drew.ent hR) h
  rw [h2]
  exact Ent.stars_nil _
theorem GoodF.is (h : GoodF C ops Q S I pool loud mv fin fq ch e R) : GoodF C ops Q S I pool loud mv fin fq ch e R := h
theorem GoodF.loud_ {k : Nat} (hf : keysFree pool e = true) (hl : loud.contains k = true) (ho : opAt ops.toList k = some o) (hg : o.guard = none) (h : ∀ (ex : Env) (X : Res), Nx C (e ++ ex) I (X :: R) (opK C.P o (PoolSF C ops Q S I pool loud mv fin fq ch ex X) Q)) : GoodF C ops Q S I pool loud mv fin fq (k :: ch) e R :=
  ⟨hf, by
    rw [hl]
    intro ex X a w ha hw
    unfold wpOp
    simp only [opAt_arr ho]
    rw [if_pos (by simp [Region.wanted, hg])]
    exact .inl (h ex X a w ha hw)⟩
theorem Mod.app_l {n : Nat} {a : Act} {ex : Env} (h : Mod n (e ++ ex) a) : Mod n e a := ⟨h.size, h.defers, fun t v ht => h.get t v (lk_app_l ht)⟩
theorem GoodF.quiet {k d : Nat} {v : Value} (hf : keysFree pool e = true) (hl : loud.contains k = false) (ho : opAt ops.toList k = some o) (hg : o.guard = none) (hd : o.dst = some d) (hlt : Nat.blt d C.n = true) (hrun : QRun C e (if mv.contains k then AnyW else S) o v) (h : GoodF C ops Q S I pool loud mv fin fq ch ((d, v) :: e) R) : GoodF C ops Q S I pool loud mv fin fq (k :: ch) e R :=
  ⟨hf, by
    rw [hl]
    refine ⟨o, v, (d, v) :: e, opAt_arr ho, fun a ex ha => ⟨.inl ⟨by simp [Region.wanted, hg], fun w hS => hrun a w ha.app_l hS⟩, ?_⟩, h⟩
    rw [hd]
    exact ha.put hlt v⟩
theorem GoodF.done1 {p : PoolOp} (hf : keysFree [p] e = true) (h : ∀ b, Nx C (e ++ [(p.d, .pointer (some ⟨b, 0, none⟩))]) I (Blk b p.t p.cs :: R) (wpMix C.P ops Q AnyW fq fin)) : GoodF C ops Q S I [p] loud mv fin fq [] e R := ⟨hf, fun bs hbs => by
  match bs, hbs with
  | [b], _ => exact Nx.unfoldAt 0 (B := [Blk b p.t p.cs]) rfl (h b)⟩
theorem GoodF.done2 {p q : PoolOp} (hf : keysFree [p, q] e = true) (h : ∀ b b', Nx C (e ++ [(p.d, .pointer (some ⟨b, 0, none⟩)), (q.d, .pointer (some ⟨b', 0, none⟩))]) I (Blk b p.t p.cs :: Blk b' q.t q.cs :: R) (wpMix C.P ops Q AnyW fq fin)) : GoodF C ops Q S I [p, q] loud mv fin fq [] e R := ⟨hf, fun bs hbs => by
  match bs, hbs with
  | [b, b'], _ => exact Nx.unfoldAt 0 (B := [Blk b p.t p.cs, Blk b' q.t q.cs]) rfl (h b b')⟩
theorem Nx.pool_nextF (k : Nat) {ex : Env} {X : Res} {t : Nat} {v : Value} (hk : nthL R k = some X) (hS : Ent R R0) (h : GoodF C ops Q (St C.W I R0) I pool loud mv fin fq ch ((t, v) :: e) (R.eraseIdx k)) : Nx C ((t, v) :: (e ++ ex)) I R (PoolSF C ops Q (St C.W I R0) I pool loud mv fin fq ch ex X) :=
  fun _ _ ha hw => ⟨hw.ent hS, (t, v) :: e, R.eraseIdx k, ha, hw.ent (Ent.pull k R X (nthL_eq.symm.trans hk)), h⟩
theorem PoolFit.cons {p : PoolOp} {r : List PoolOp} (h : PoolFit C ops p) (hr : ∀ q ∈ r, PoolFit C ops q) : ∀ q ∈ p :: r, PoolFit C ops q := fun q hq => by
  rcases List.mem_cons.1 hq with rfl | hq
  · exact h
  · exact hr q hq
theorem PoolFit.nil : ∀ q ∈ ([] : List PoolOp), PoolFit C ops q := fun q hq => by simp at hq
end
end Go.Eng
namespace Go.Eng
abbrev B64 : Int := 18446744073709551616
section
variable {P : Program} {t : TypeId} {x y : Operand} {p q : Int}
theorem run_addU : pureRun P (do eqGuard .add t x y (.int .u64 p) (.int .u64 q); binOp .add t (.int .u64 p) (.int .u64 q)) = some (.int .u64 ((p + q) % B64)) := by rw [← IntKind.wrap_u64]; rfl
theorem run_mulU : pureRun P (do eqGuard .mul t x y (.int .u64 p) (.int .u64 q); binOp .mul t (.int .u64 p) (.int .u64 q)) = some (.int .u64 ((p * q) % B64)) := by rw [← IntKind.wrap_u64]; rfl
theorem ofInt_nat {a : Nat} (ha : a < 18446744073709551616) : (BitVec.ofInt 64 (a : Int)).toNat = a := by
  rw [BitVec.toNat_ofInt]
  omega
theorem wrap_nat {a : Nat} (ha : a < 18446744073709551616) : IntKind.u64.wrap (a : Int) = a := by rw [IntKind.wrap_u64]; omega
theorem run_andU {a b : Nat} (ha : a < 18446744073709551616) (hb : b < 18446744073709551616) : pureRun P (do eqGuard .and t x y (.int .u64 (a : Int)) (.int .u64 (b : Int)); binOp .and t (.int .u64 (a : Int)) (.int .u64 (b : Int))) = some (.int .u64 ((a &&& b : Nat) : Int)) := by
  have h : (BitVec.ofInt 64 (a : Int) &&& BitVec.ofInt 64 (b : Int)).toNat = a &&& b := by rw [BitVec.toNat_and, ofInt_nat ha, ofInt_nat hb]
  have hlt : a &&& b < 18446744073709551616 := Nat.lt_of_le_of_lt Nat.and_le_left ha
  rw [← wrap_nat hlt, ← h]
  rfl
theorem run_orU {a b : Nat} (ha : a < 18446744073709551616) (hb : b < 18446744073709551616) : pureRun P (do eqGuard .or t x y (.int .u64 (a : Int)) (.int .u64 (b : Int)); binOp .or t (.int .u64 (a : Int)) (.int .u64 (b : Int))) = some (.int .u64 ((a ||| b : Nat) : Int)) := by
  have h : (BitVec.ofInt 64 (a : Int) ||| BitVec.ofInt 64 (b : Int)).toNat = a ||| b := by rw [BitVec.toNat_or, ofInt_nat ha, ofInt_nat hb]
  have hlt : a ||| b < 18446744073709551616 := Nat.or_lt_two_pow (n := 64) ha hb
  rw [← wrap_nat hlt, ← h]
  rfl
theorem run_notU {a : Nat} (ha : a < 18446744073709551616) : pureRun P (Op.unary .xor (.int .u64 (a : Int))) = some (.int .u64 ((18446744073709551615 - a : Nat) : Int)) := by
  have h : (BitVec.ofInt 64 (IntKind.u64.max) ^^^ BitVec.ofInt 64 (a : Int)).toNat = 18446744073709551615 - a := by
    have e : BitVec.ofInt 64 (IntKind.u64.max) = BitVec.allOnes 64 := by decide
    rw [e, BitVec.allOnes_xor, BitVec.toNat_not, ofInt_nat ha]
  have hlt : 18446744073709551615 - a < 18446744073709551616 := by omega
  rw [← wrap_nat hlt, ← h]
  rfl
theorem run_shlU {k : IntKind} {n : Nat} (hn : n ≤ 64) : pureRun P (do eqGuard .shl t x y (.int .u64 p) (.int k (n : Int)); binOp .shl t (.int .u64 p) (.int k (n : Int))) = some (.int .u64 ((p * 2 ^ n) % B64)) := by
  have h1 : ¬ (n : Int) < 0 := by omega
  have h2 : min ((n : Int).toNat) IntKind.u64.bits = n := by rw [Int.toNat_natCast]; exact Nat.min_eq_left (by simp [IntKind.bits]; omega)
  have h3 : Op.shift .shl .u64 p k (n : Int) = pure (.int .u64 (IntKind.u64.wrap (p * 2 ^ n))) := by
    unfold Op.shift
    rw [if_neg h1, h2]
  rw [← IntKind.wrap_u64]
  show pureRun P (Op.shift .shl .u64 p k (n : Int)) = _
  rw [h3]; rfl
theorem run_shrU {k : IntKind} {n : Nat} (hn : n ≤ 64) : pureRun P (do eqGuard .shr t x y (.int .u64 p) (.int k (n : Int)); binOp .shr t (.int .u64 p) (.int k (n : Int))) = some (.int .u64 (p / 2 ^ n)) := by
  have h1 : ¬ (n : Int) < 0 := by omega
  have h2 : min ((n : Int).toNat) IntKind.u64.bits = n := by rw [Int.toNat_natCast]; exact Nat.min_eq_left (by simp [IntKind.bits]; omega)
  have h3 : Op.shift .shr .u64 p k (n : Int) = pure (.int .u64 (p / 2 ^ n)) := by
    unfold Op.shift
    rw [if_neg h1, h2]
    simp only [Int.fdiv_eq_ediv_of_nonneg p (show (0 : Int) ≤ 2 ^ n from Int.pow_nonneg (by omega))]
  show pureRun P (Op.shift .shr .u64 p k (n : Int)) = _
  rw [h3]; rfl
theorem run_orD {p q : Int} (n m k : Nat) (hp : p = ((2 ^ n * m : Nat) : Int)) (hq : q = (k : Int)) (hm : 2 ^ n * m < 18446744073709551616) (hk : k < 2 ^ n) (hk2 : k < 18446744073709551616) :
    pureRun P (do eqGuard .or t x y (.int .u64 p) (.int .u64 q); binOp .or t (.int .u64 p) (.int .u64 q)) = some (.int .u64 (p + q)) := by
  subst hp
  subst hq
  rw [run_orU hm hk2, ← Nat.two_pow_add_eq_or_of_lt hk m]
  rfl
theorem run_shrI {k : IntKind} {n : Nat} (hn : n ≤ 64) : pureRun P (do eqGuard .shr t x y (.int .i64 p) (.int k (n : Int)); binOp .shr t (.int .i64 p) (.int k (n : Int))) = some (.int .i64 (p / 2 ^ n)) := by
  have h1 : ¬ (n : Int) < 0 := by omega
  have h2 : min ((n : Int).toNat) IntKind.i64.bits = n := by rw [Int.toNat_natCast]; exact Nat.min_eq_left (by simp [IntKind.bits]; omega)
  have h3 : Op.shift .shr .i64 p k (n : Int) = pure (.int .i64 (p / 2 ^ n)) := by
    unfold Op.shift
    rw [if_neg h1, h2]
    simp only [Int.fdiv_eq_ediv_of_nonneg p (show (0 : Int) ≤ 2 ^ n from Int.pow_nonneg (by omega))]
  show pureRun P (Op.shift .shr .i64 p k (n : Int)) = _
  rw [h3]; rfl
end
section
variable {C : Cx} {e : Env} {I : PH} {R : List Res} {K : Act → World → Prop} {Q : Exit → Act → World → Prop}
variable {d : Nat} {ty : TypeId} {pos : String} {after : Array Edge} {g : Option (Nat × Bool)} {v : Value}
theorem Nx.binr {op : BinOp} {t u : TypeId} {x y : Operand} {vx vy : Value} (hx : evo e x = some vx) (hy : evo e y = some vy) (hv : ∀ w, (do eqGuard op t x y vx vy; binOp op t vx vy).run C.P w = .ok v w) (hlt : Nat.blt d C.n = true)
    (h : Nx C ((d, v) :: e) I R K) : Nx C e I R (opK C.P ⟨some d, .binOp op t x y u, ty, pos, after, g⟩ K Q) :=
  Nx.op_run rfl hlt (fun a w ha _ => by simp only [execOp, ha.eval hx, ha.eval hy]; exact run_v (hv w)) h
theorem Nx.conv_u64 {t u : TypeId} {x : Operand} {k : IntKind} {p : Int} {s : TypeDesc} (hx : evo e x = some (.int k p)) (hs : C.P.underlying t = some s) (ht : C.P.underlying u = some (.int .u64)) (hlt : Nat.blt d C.n = true)
    (h : Nx C ((d, .int .u64 (p % B64)) :: e) I R K) : Nx C e I R (opK C.P ⟨some d, .convert t u x, ty, pos, after, g⟩ K Q) :=
  Nx.op_run rfl hlt (fun a w ha _ => by
    simp only [execOp, ha.eval hx]
    refine run_v ?_
    unfold convert
    rw [Sem.run_bind, run_underlying hs, Result.andThen_ok, Sem.run_bind, run_underlying ht, Result.andThen_ok]
    show Result.ok (Value.int .u64 (IntKind.u64.wrap p)) w = _
    rw [IntKind.wrap_u64]) h
theorem Nx.call_run {fx : Operand} {args : Array Operand} {tys : Array TypeId} {f : FuncId} {c1 c2 : Array Value} {vs al : List Value}
    (hfx : evo e fx = some (.func (.func f) c1 c2)) (hvs : evs e args.toList = some vs) (hal : c1.toList ++ vs ++ c2.toList = al) (hlt : Nat.blt d C.n = true)
    (hr : ∀ w, (callFunc f al.toArray).run C.P w = .ok (.value v) w)
    (h : Nx C ((d, v) :: e) I R K) : Nx C e I R (opK C.P ⟨some d, .call { callee := .value fx, args, argTypes := tys }, ty, pos, after, g⟩ K Q) :=
  Nx.op_run rfl hlt (fun a w ha _ => by
    have e1 : c1 ++ args.map a.eval ++ c2 = al.toArray := by
      rw [← hal, ← ha.evals hvs]
      apply Array.ext'
      simp
    unfold execOp
    simp only [resolve, ha.eval hfx, Deferred.ofValue]
    rw [Sem.run_bind]
    show Sem.run C.P (callFunc f (c1 ++ args.map a.eval ++ c2)) w = _
    rw [e1]
    exact hr w) h
end
theorem FnSpec.of_same {P : Program} {f : FuncId} {args : List Value} {I : PH} {v : Value} (h : ∀ (w W : World) (R : List Res), St W I R w → Calls P f args.toArray w fun e w' => e = .returned v ∧ w' = w) :
    FnSpec P f args I [] (fun u R' => u = v ∧ R' = []) := fun w _ hw =>
  (h w w _ hw).mono fun _ _ ⟨he, hw'⟩ => ⟨v, [], he, ⟨rfl, rfl⟩, hw' ▸ hw⟩
end Go.Eng
namespace Go.Eng
abbrev B128 : Int := 340282366920938463463374607431768211456
def wH (z : Int) : Nat := ((z % B128) / B64).toNat
def wL (z : Int) : Nat := (z % B64).toNat
def wideL (z : Int) : List Value := [.int .u64 (wH z), .int .u64 (wL z)]
theorem wH_lt (z : Int) : wH z < 18446744073709551616 := by unfold wH B128 B64; omega
theorem wL_lt (z : Int) : wL z < 18446744073709551616 := by unfold wL B64; omega
theorem wide_val (z : Int) : (wH z : Int) * B64 + wL z = z % B128 := by unfold wH wL B64 B128; omega
theorem wide_eq {h l : Nat} {z : Int} (hh : h < 18446744073709551616) (hl : l < 18446744073709551616) (he : ((h : Int) * B64 + l) % B128 = z % B128) : wH z = h ∧ wL z = l := by
  unfold wH wL B64 B128 at *
  omega
theorem wide_add (a b : Int) : wL (a + b) = (wL a + wL b) % 18446744073709551616 ∧ wH (a + b) = (wH a + wH b + (wL a + wL b) / 18446744073709551616) % 18446744073709551616 := by
  have h1 := wide_val a
  have h2 := wide_val b
  have la := wL_lt a; have lb := wL_lt b; have ha := wH_lt a; have hb := wH_lt b
  have := wide_eq (z := a + b) (h := (wH a + wH b + (wL a + wL b) / 18446744073709551616) % 18446744073709551616) (l := (wL a + wL b) % 18446744073709551616) (Nat.mod_lt _ (by decide)) (Nat.mod_lt _ (by decide)) (by
    rw [Int.add_emod a b, ← h1, ← h2]
    unfold B64 B128
    omega)
  exact ⟨this.2, this.1⟩
theorem sub_core {ha hb la lb : Nat} (h1 : ha < 18446744073709551616) (h2 : hb < 18446744073709551616) (h3 : la < 18446744073709551616) (h4 : lb < 18446744073709551616) :
    ((((ha + 18446744073709551616 - hb - (if la < lb + 0 then 1 else 0)) % 18446744073709551616 : Nat) : Int) * B64 + ((la + 18446744073709551616 - lb - 0) % 18446744073709551616 : Nat)) % B128 = ((ha : Int) * B64 + la - ((hb : Int) * B64 + lb)) % B128 := by
  have key : ∀ (x y k : Int), x = y + B128 * k → x % B128 = y % B128 := fun x y k h => by rw [h, Int.add_mul_emod_self_left]
  have nm : ∀ x : Nat, x < 18446744073709551616 → (x + 18446744073709551616) % 18446744073709551616 = x := fun x h => by rw [Nat.add_mod_right, Nat.mod_eq_of_lt h]
  by_cases hl : la < lb
  · rw [if_pos (by omega : la < lb + 0), show (la + 18446744073709551616 - lb - 0) % 18446744073709551616 = la + 18446744073709551616 - lb from Nat.mod_eq_of_lt (by omega)]
    by_cases hh : ha < hb + 1
    · rw [show (ha + 18446744073709551616 - hb - 1) % 18446744073709551616 = ha + 18446744073709551616 - hb - 1 from Nat.mod_eq_of_lt (by omega)]
      exact key _ _ 1 (by unfold B64 B128; omega)
    · rw [show ha + 18446744073709551616 - hb - 1 = (ha - hb - 1) + 18446744073709551616 by omega, nm _ (by omega)]
      exact key _ _ 0 (by unfold B64 B128; omega)
  · rw [if_neg (by omega : ¬ la < lb + 0), show la + 18446744073709551616 - lb - 0 = (la - lb) + 18446744073709551616 by omega, nm _ (by omega)]
    by_cases hh : ha < hb
    · rw [show (ha + 18446744073709551616 - hb - 0) % 18446744073709551616 = ha + 18446744073709551616 - hb from Nat.mod_eq_of_lt (by omega)]
      exact key _ _ 1 (by unfold B64 B128; omega)
    · rw [show ha + 18446744073709551616 - hb - 0 = (ha - hb) + 18446744073709551616 by omega, nm _ (by omega)]
      exact key _ _ 0 (by unfold B64 B128; omega)
theorem wide_sub (a b : Int) : wL (a - b) = (wL a + 18446744073709551616 - wL b - 0) % 18446744073709551616 ∧ wH (a - b) = (wH a + 18446744073709551616 - wH b - (if wL a < wL b + 0 then 1 else 0)) % 18446744073709551616 := by
  have := wide_eq (z := a - b) (h := (wH a + 18446744073709551616 - wH b - (if wL a < wL b + 0 then 1 else 0)) % 18446744073709551616) (l := (wL a + 18446744073709551616 - wL b - 0) % 18446744073709551616) (Nat.mod_lt _ (by decide)) (Nat.mod_lt _ (by decide)) (by
    rw [Int.sub_emod a b, ← wide_val a, ← wide_val b]
    exact sub_core (wH_lt a) (wH_lt b) (wL_lt a) (wL_lt b))
  exact ⟨this.2, this.1⟩
theorem wide_not (a : Int) : wH (-a - 1) = 18446744073709551615 - wH a ∧ wL (-a - 1) = 18446744073709551615 - wL a := by
  have h1 := wide_val a
  have la := wL_lt a; have ha := wH_lt a
  exact wide_eq (by omega) (by omega) (by
    unfold B64 B128 at *
    omega)
theorem wide_mul (a b : Int) : wL (a * b) = (wL a * wL b) % 18446744073709551616 ∧ wH (a * b) = (wL a * wL b / 18446744073709551616 + wH a * wL b + wL a * wH b) % 18446744073709551616 := by
  have h1 := wide_val a
  have h2 := wide_val b
  have := wide_eq (z := a * b) (h := (wL a * wL b / 18446744073709551616 + wH a * wL b + wL a * wH b) % 18446744073709551616) (l := (wL a * wL b) % 18446744073709551616) (Nat.mod_lt _ (by decide)) (Nat.mod_lt _ (by decide)) (by
    rw [Int.mul_emod a b, ← h1, ← h2]
    have e : ((wH a : Int) * B64 + wL a) * ((wH b : Int) * B64 + wL b) = B128 * (wH a * wH b) + ((wH a * wL b : Nat) + (wL a * wH b : Nat)) * B64 + (wL a * wL b : Nat) := by
      unfold B64 B128
      push_cast
      grind
    rw [e]
    generalize wH a * wL b = p
    generalize wL a * wH b = q
    generalize wL a * wL b = r
    generalize (wH a : Int) * wH b = s
    unfold B64 B128
    omega)
  exact ⟨this.2, this.1⟩
def InW (z : Int) : Prop := -170141183460469231731687303715884105728 ≤ z ∧ z < 170141183460469231731687303715884105728
theorem wide_zero {z : Int} (h : InW z) : (wH z = 0 ∧ wL z = 0) ↔ z = 0 := by unfold InW wH wL B128 B64 at *; omega
end Go.Eng
namespace Go.Proofs.YtpcnapidlhpbkaaGreatDoor
open Go.Eng
attribute [local irreducible] opK wpList Code.wp Exit.then Exit.inBlock fnPost bodyPost Nx Calls Oper.wp Rd Rds Wr Ent Stars Blk Again Vec FnSpec wpMix QRun Stop Upto wpAt
def wideV (z : Int) : Value := .agg (wideL z).toArray
theorem add64_run (x y c : Nat) (hc : c ≤ 1) (w : World) :
    (callFunc 177 #[.int .u64 x, .int .u64 y, .int .u64 c]).run Tryz.prog w = .ok (.value (.tuple #[.int .u64 (((x + y + c) % 18446744073709551616 : Nat) : Int), .int .u64 (((x + y + c) / 18446744073709551616 : Nat) : Int)])) w := by
  rw [run_callFunc_extern Tryz.func177 (by kernel_rfl) (by kernel_rfl) (by kernel_rfl) (e := add64Entry) (by kernel_rfl), run_add64 x y c (by omega) (by omega) (by omega) (by omega)]
  simp only [Result.andThen]
  congr 5 <;> omega
theorem sub64_run (x y b : Nat) (hb : b ≤ 1) (w : World) :
    (callFunc 118 #[.int .u64 x, .int .u64 y, .int .u64 b]).run Tryz.prog w = .ok (.value (.tuple #[.int .u64 (((x + 18446744073709551616 - y - b) % 18446744073709551616 : Nat) : Int), .int .u64 ((if x < y + b then 1 else 0 : Nat) : Int)])) w := by
  rw [run_callFunc_extern Tryz.func118 (by kernel_rfl) (by kernel_rfl) (by kernel_rfl) (e := sub64Entry) (by kernel_rfl), run_sub64 x y b hb]
  rfl
theorem wideV_mk {h l : Nat} {z : Int} (hh : wH z = h) (hl : wL z = l) : Value.agg [.int .u64 (h : Int), .int .u64 (l : Int)].toArray = wideV z := by unfold wideV wideL; rw [hh, hl]
set_option maxRecDepth 10000 in
theorem plus_spec (a b : Int) (I : PH) : FnSpec Tryz.prog 213 [wideV a, wideV b] I [] (fun v R' => v = wideV (a + b) ∧ R' = []) := by
  obtain ⟨e1, e2⟩ := wide_add a b
  refine FnSpec.enterP Tryz.func213 rfl Tryz.ntmps213 rfl fun w F => ?_
  repeat' first
    | ((with_reducible refine Nx.is_wp ?_); first | refine Nx.wo ?_ | refine Nx.zp (fun hc => ?_) (fun hc => ?_))
    | (refine Nx.zo ?_; first | refine Nx.opr rfl rfl ?_ | refine Nx.call_run rfl rfl rfl rfl (add64_run _ _ _ (by have := wL_lt a; have := wL_lt b; omega)) ?_ | refine Nx.call_run rfl rfl rfl rfl (add64_run _ _ 0 (by omega)) ?_ | refine Nx.so ?_ | refine Nx.sb (fun bx => ?_) | refine Nx.sa (fun A2 c2 => ?_))
    | refine Nx.za ?_ | refine Nx.zr (fun hc => ?_) (fun hc => ?_)
    | refine Nx.zq ?_ | refine Nx.zu (fun hc => ?_) (fun hc => ?_)
    | refine Nx.zx ?_ | fail
  refine Nx.ret_cell 0 rfl rfl rfl rfl rfl rfl [] ⟨wideV_mk e2 e1, rfl⟩ ?_
  (exact Ent.auto)
set_option maxRecDepth 10000 in
theorem rplus_spec (a b : Int) (I : PH) : FnSpec Tryz.prog 117 [wideV a, wideV b] I [] (fun v R' => v = wideV (a + b) ∧ R' = []) := by
  obtain ⟨e1, e2⟩ := wide_add a b
  refine FnSpec.enterP Tryz.func117 rfl Tryz.ntmps117 rfl fun w F => ?_
  repeat' first
    | ((with_reducible refine Nx.is_wp ?_); first | refine Nx.wo ?_ | refine Nx.zp (fun hc => ?_) (fun hc => ?_))
    | (refine Nx.zo ?_; first | refine Nx.opr rfl rfl ?_ | refine Nx.call_run rfl rfl rfl rfl (add64_run _ _ _ (by have := wL_lt a; have := wL_lt b; omega)) ?_ | refine Nx.call_run rfl rfl rfl rfl (add64_run _ _ 0 (by omega)) ?_ | refine Nx.so ?_ | refine Nx.sb (fun bx => ?_) | refine Nx.sa (fun A2 c2 => ?_))
    | refine Nx.za ?_ | refine Nx.zr (fun hc => ?_) (fun hc => ?_)
    | refine Nx.zq ?_ | refine Nx.zu (fun hc => ?_) (fun hc => ?_)
    | refine Nx.zx ?_ | fail
  refine Nx.ret_cell 0 rfl rfl rfl rfl rfl rfl [] ⟨wideV_mk e2 e1, rfl⟩ ?_
  (exact Ent.auto)
set_option maxRecDepth 10000 in
theorem rminus_spec (a b : Int) (I : PH) : FnSpec Tryz.prog 59 [wideV a, wideV b] I [] (fun v R' => v = wideV (a - b) ∧ R' = []) := by
  obtain ⟨e1, e2⟩ := wide_sub a b
  refine FnSpec.enterP Tryz.func59 rfl Tryz.ntmps59 rfl fun w F => ?_
  repeat' first
    | ((with_reducible refine Nx.is_wp ?_); first | refine Nx.wo ?_ | refine Nx.zp (fun hc => ?_) (fun hc => ?_))
    | (refine Nx.zo ?_; first | refine Nx.opr rfl rfl ?_ | refine Nx.call_run rfl rfl rfl rfl (sub64_run _ _ _ (by split <;> omega)) ?_ | refine Nx.call_run rfl rfl rfl rfl (sub64_run _ _ 0 (by omega)) ?_ | refine Nx.so ?_ | refine Nx.sb (fun bx => ?_) | refine Nx.sa (fun A2 c2 => ?_))
    | refine Nx.za ?_ | refine Nx.zr (fun hc => ?_) (fun hc => ?_)
    | refine Nx.zq ?_ | refine Nx.zu (fun hc => ?_) (fun hc => ?_)
    | refine Nx.zx ?_ | fail
  refine Nx.ret_cell 0 rfl rfl rfl rfl rfl rfl [] ⟨wideV_mk e2 e1, rfl⟩ ?_
  (exact Ent.auto)
end Go.Proofs.YtpcnapidlhpbkaaGreatDoor
namespace Go.Proofs.YtpcnapidlhpbkaaGreatDoor
def frml64_ren : Go.Shelf.Ren := ⟨fun | 264 => 119 | n => n, fun | 53 => 102 | 46 => 161 | n => n, fun | n => n⟩
theorem frml64 : Go.Proofs.Lays.n264 Tryz.prog frml64_ren where
  mixed := by kernel_rfl
  f264 := Tryz.func119.trans (congrArg some (by kernel_rfl))
  t46 := Tryz.underlying161
  a46 := Tryz.isAgg161
  z46 := Tryz.sizeOf161
  v46 := Tryz.zeroValue161
  t53 := Tryz.underlying102
  a53 := Tryz.isAgg102
  z53 := Tryz.sizeOf102
  v53 := Tryz.zeroValue102
end Go.Proofs.YtpcnapidlhpbkaaGreatDoor
namespace Go.Proofs.YtpcnapidlhpbkaaGreatDoor
open Go.Eng
attribute [local irreducible] opK wpList Code.wp Exit.then Exit.inBlock fnPost bodyPost Nx Calls Oper.wp Rd Rds Wr Ent Stars Blk Again Vec FnSpec wpMix QRun Stop Upto wpAt
theorem mul64_spec (x y : Nat) (hx : x < 18446744073709551616) (hy : y < 18446744073709551616) (I : PH) :
    FnSpec Tryz.prog 119 [.int .u64 x, .int .u64 y] I [] (fun v R' => v = .tuple #[.int .u64 ((x * y / 18446744073709551616 : Nat) : Int), .int .u64 ((x * y % 18446744073709551616 : Nat) : Int)] ∧ R' = []) :=
  FnSpec.of_same fun w _ _ _ => Any.bits_Mul64 frml64 x y hx hy w
theorem wideV_mkI {h l : Int} {z : Int} (hh : (wH z : Int) = h) (hl : (wL z : Int) = l) : Value.agg [.int .u64 h, .int .u64 l].toArray = wideV z := by unfold wideV wideL; rw [hh, hl]
theorem times_high (a b : Int) : (wH (a * b) : Int) = ((((wL a * wL b / 18446744073709551616 : Nat) : Int) + (wH a : Int) * (wL b : Int) % B64) % B64 + (wL a : Int) * (wH b : Int) % B64) % B64 := by
  rw [(wide_mul a b).2, Int.emod_add_emod, Int.add_emod_emod, Int.add_assoc, Int.add_comm ((wH a : Int) * (wL b : Int) % B64), ← Int.add_assoc, Int.add_emod_emod]
  have e : (((wL a * wL b / 18446744073709551616 + wH a * wL b + wL a * wH b) % 18446744073709551616 : Nat) : Int) = (((wL a * wL b / 18446744073709551616 : Nat) : Int) + (wH a : Int) * (wL b : Int) + (wL a : Int) * (wH b : Int)) % B64 := by
    rw [Int.natCast_emod, Int.natCast_add, Int.natCast_add, Int.natCast_mul (wH a), Int.natCast_mul (wL a) (wH b)]
    rfl
  rw [e]
  congr 1
  rw [Int.add_assoc, Int.add_assoc, Int.add_comm ((wH a : Int) * (wL b : Int))]
theorem times_low (a b : Int) : (wL (a * b) : Int) = ((wL a * wL b % 18446744073709551616 : Nat) : Int) := by rw [(wide_mul a b).1]
set_option maxRecDepth 10000 in
theorem times_spec (a b : Int) (I : PH) : FnSpec Tryz.prog 166 [wideV a, wideV b] I [] (fun v R' => v = wideV (a * b) ∧ R' = []) := by
  refine FnSpec.enterP Tryz.func166 rfl Tryz.ntmps166 rfl fun w F => ?_
  repeat' first
    | ((with_reducible refine Nx.is_wp ?_); first | refine Nx.wo ?_ | refine Nx.zp (fun hc => ?_) (fun hc => ?_))
    | (refine Nx.zo ?_; first | refine Nx.opr rfl rfl ?_ | refine Nx.call (Rpre := []) rfl rfl rfl (by kernel_rfl) rfl (mul64_spec _ _ (wL_lt a) (wL_lt b) I) (Ent.refl _) ?_; rintro _ _ ⟨rfl, rfl⟩ | refine Nx.bin rfl rfl run_mulU rfl ?_ | refine Nx.bin rfl rfl run_addU rfl ?_ | refine Nx.so ?_ | refine Nx.sb (fun bx => ?_) | refine Nx.sa (fun A2 c2 => ?_))
    | refine Nx.za ?_ | refine Nx.zr (fun hc => ?_) (fun hc => ?_)
    | refine Nx.zq ?_ | refine Nx.zu (fun hc => ?_) (fun hc => ?_)
    | refine Nx.zx ?_ | fail
  refine Nx.ret_cell 0 rfl rfl rfl rfl rfl rfl [] ⟨wideV_mkI (times_high a b) (times_low a b), rfl⟩ ?_
  (exact Ent.auto)
set_option maxRecDepth 10000 in
theorem rtimes_spec (a b : Int) (I : PH) : FnSpec Tryz.prog 60 [wideV a, wideV b] I [] (fun v R' => v = wideV (a * b) ∧ R' = []) := by
  refine FnSpec.enterP Tryz.func60 rfl Tryz.ntmps60 rfl fun w F => ?_
  repeat' first
    | ((with_reducible refine Nx.is_wp ?_); first | refine Nx.wo ?_ | refine Nx.zp (fun hc => ?_) (fun hc => ?_))
    | (refine Nx.zo ?_; first | refine Nx.opr rfl rfl ?_ | refine Nx.call (Rpre := []) rfl rfl rfl (by kernel_rfl) rfl (mul64_spec _ _ (wL_lt a) (wL_lt b) I) (Ent.refl _) ?_; rintro _ _ ⟨rfl, rfl⟩ | refine Nx.bin rfl rfl run_mulU rfl ?_ | refine Nx.bin rfl rfl run_addU rfl ?_ | refine Nx.so ?_ | refine Nx.sb (fun bx => ?_) | refine Nx.sa (fun A2 c2 => ?_))
    | refine Nx.za ?_ | refine Nx.zr (fun hc => ?_) (fun hc => ?_)
    | refine Nx.zq ?_ | refine Nx.zu (fun hc => ?_) (fun hc => ?_)
    | refine Nx.zx ?_ | fail
  refine Nx.ret_cell 0 rfl rfl rfl rfl rfl rfl [] ⟨wideV_mkI (times_high a b) (times_low a b), rfl⟩ ?_
  (exact Ent.auto)
set_option maxRecDepth 10000 in
theorem opposite_spec (a : Int) (I : PH) : FnSpec Tryz.prog 214 [wideV a] I [] (fun v R' => v = wideV (-a) ∧ R' = []) := by
  obtain ⟨e1, e2⟩ := wide_not a
  refine FnSpec.enterP Tryz.func214 rfl Tryz.ntmps214 rfl fun w F => ?_
  repeat' first
    | ((with_reducible refine Nx.is_wp ?_); first | refine Nx.wo ?_ | refine Nx.zp (fun hc => ?_) (fun hc => ?_))
    | (refine Nx.zo ?_; first | refine Nx.opr rfl rfl ?_ | refine Nx.un rfl (run_notU (wH_lt a)) rfl ?_ | refine Nx.un rfl (run_notU (wL_lt a)) rfl ?_ | refine Nx.call (Rpre := []) rfl rfl (by rw [wideV_mk e1 e2]; rfl) (by kernel_rfl) rfl (plus_spec (-a - 1) 1 I) (Ent.refl _) ?_; rintro _ _ ⟨rfl, rfl⟩ | refine Nx.so ?_ | refine Nx.sb (fun bx => ?_) | refine Nx.sa (fun A2 c2 => ?_))
    | refine Nx.za ?_ | refine Nx.zr (fun hc => ?_) (fun hc => ?_)
    | refine Nx.zq ?_ | refine Nx.zu (fun hc => ?_) (fun hc => ?_)
    | refine Nx.zx ?_ | fail
  refine Nx.ret_cell 0 rfl rfl rfl rfl rfl rfl [] ⟨congrArg wideV (by omega : -a - 1 + 1 = -a), rfl⟩ ?_
  (exact Ent.auto)
end Go.Proofs.YtpcnapidlhpbkaaGreatDoor
namespace Go.Proofs.YtpcnapidlhpbkaaGreatDoor
open Go.Eng
attribute [local irreducible] opK wpList Code.wp Exit.then Exit.inBlock fnPost bodyPost Nx Calls Oper.wp Rd Rds Wr Ent Stars Blk Again Vec FnSpec wpMix QRun Stop Upto wpAt
set_option maxRecDepth 10000 in
theorem minus_spec (a b : Int) (I : PH) : FnSpec Tryz.prog 169 [wideV a, wideV b] I [] (fun v R' => v = wideV (a - b) ∧ R' = []) := by
  refine FnSpec.enterP Tryz.func169 rfl Tryz.ntmps169 rfl fun w F => ?_
  repeat' first
    | ((with_reducible refine Nx.is_wp ?_); first | refine Nx.p_draw (id := 1) rfl [0, 1, 2, 3, 4] [2, 3, 4] [Blk _ 200 (wideL b), Blk _ 200 (wideL a), F] rfl rfl (by kernel_rfl) (by kernel_rfl) rfl PanicOk.auto (Ent.pick 1 rfl (Ent.pick 1 rfl (Ent.pick 1 rfl (Ent.nil _)))) ?_ | refine Nx.wo ?_ | refine Nx.zp (fun hc => ?_) (fun hc => ?_))
    | (refine Nx.zo ?_; first | refine Nx.opr rfl rfl ?_ | refine Nx.call (Rpre := []) rfl rfl rfl (by kernel_rfl) rfl (opposite_spec b I) (Ent.refl _) ?_; rintro _ _ ⟨rfl, rfl⟩ | refine Nx.call (Rpre := []) rfl rfl rfl (by kernel_rfl) rfl (plus_spec a (-b) I) (Ent.refl _) ?_; rintro _ _ ⟨rfl, rfl⟩ | refine Nx.so ?_ | refine Nx.sb (fun bx => ?_) | refine Nx.sa (fun A2 c2 => ?_))
    | refine Nx.za ?_ | refine Nx.zr (fun hc => ?_) (fun hc => ?_)
    | refine Nx.zq ?_ | refine Nx.zu (fun hc => ?_) (fun hc => ?_)
    | refine Nx.zx ?_ | fail
  refine Nx.ret_cell 0 rfl rfl rfl rfl rfl rfl [] ⟨congrArg wideV (by omega : a + -b = a - b), rfl⟩ ?_
  (exact Ent.auto)
theorem top_neg {a : Int} (ha : InW a) : ((wH a : Int) / 2 ^ 63 = 1) ↔ a < 0 := by unfold InW wH B128 B64 at *; omega
theorem bool_congr {p q : Prop} [Decidable p] [Decidable q] (h : p ↔ q) : Value.bool (decide p) = Value.bool (decide q) := by rw [decide_eq_decide.2 h]
set_option maxRecDepth 10000 in
theorem negative_spec (a : Int) (ha : InW a) (I : PH) : FnSpec Tryz.prog 58 [wideV a] I [] (fun v R' => v = .bool (decide (a < 0)) ∧ R' = []) := by
  refine FnSpec.enterP Tryz.func58 rfl Tryz.ntmps58 rfl fun w F => ?_
  repeat' first
    | ((with_reducible refine Nx.is_wp ?_); first | refine Nx.wo ?_ | refine Nx.zp (fun hc => ?_) (fun hc => ?_))
    | (refine Nx.zo ?_; first | refine Nx.opr rfl rfl ?_ | refine Nx.bin rfl rfl (run_shrU (n := 63) (by omega)) rfl ?_ | refine Nx.so ?_ | refine Nx.sb (fun bx => ?_) | refine Nx.sa (fun A2 c2 => ?_))
    | refine Nx.za ?_ | refine Nx.zr (fun hc => ?_) (fun hc => ?_)
    | refine Nx.zq ?_ | refine Nx.zu (fun hc => ?_) (fun hc => ?_)
    | refine Nx.zx ?_ | fail
  refine Nx.ret_fn rfl [] ⟨bool_congr (top_neg ha), rfl⟩ ?_
  (exact Ent.auto)
theorem whole_high {a : Int} (ha : I64 a) : (wH a : Int) = a / 2 ^ 63 % B64 := by unfold I64 wH B128 B64 at *; omega
theorem whole_low (a : Int) : (wL a : Int) = a % B64 := by unfold wL B64; omega
set_option maxRecDepth 10000 in
theorem whole_spec (a : Int) (ha : I64 a) (I : PH) : FnSpec Tryz.prog 165 [.int .i64 a] I [] (fun v R' => v = wideV a ∧ R' = []) := by
  refine FnSpec.enterP Tryz.func165 rfl Tryz.ntmps165 rfl fun w F => ?_
  repeat' first
    | ((with_reducible refine Nx.is_wp ?_); first | refine Nx.wo ?_ | refine Nx.zp (fun hc => ?_) (fun hc => ?_))
    | (refine Nx.zo ?_; first | refine Nx.opr rfl rfl ?_ | refine Nx.bin rfl rfl (run_shrI (n := 63) (by omega)) rfl ?_ | refine Nx.conv_u64 rfl rfl rfl rfl ?_ | refine Nx.so ?_ | refine Nx.sb (fun bx => ?_) | refine Nx.sa (fun A2 c2 => ?_))
    | refine Nx.za ?_ | refine Nx.zr (fun hc => ?_) (fun hc => ?_)
    | refine Nx.zq ?_ | refine Nx.zu (fun hc => ?_) (fun hc => ?_)
    | refine Nx.zx ?_ | fail
  refine Nx.ret_cell 0 rfl rfl rfl rfl rfl rfl [] ⟨wideV_mkI (whole_high ha) (whole_low a), rfl⟩ ?_
  (exact Ent.auto)
set_option maxRecDepth 10000 in
theorem from_spec (a : Int) (ha : I64 a) (I : PH) : FnSpec Tryz.prog 61 [.int .i64 a] I [] (fun v R' => v = wideV a ∧ R' = []) := by
  refine FnSpec.enterP Tryz.func61 rfl Tryz.ntmps61 rfl fun w F => ?_
  repeat' first
    | ((with_reducible refine Nx.is_wp ?_); first | refine Nx.wo ?_ | refine Nx.zp (fun hc => ?_) (fun hc => ?_))
    | (refine Nx.zo ?_; first | refine Nx.opr rfl rfl ?_ | refine Nx.conv_u64 rfl rfl rfl rfl ?_ | refine Nx.so ?_ | refine Nx.sb (fun bx => ?_) | refine Nx.sa (fun A2 c2 => ?_))
    | refine Nx.za ?_ | refine Nx.zr (fun hc => ?_) (fun hc => ?_)
    | refine Nx.zq ?_ | refine Nx.zu (fun hc => ?_) (fun hc => ?_)
    | refine Nx.zx ?_ | fail
  · refine Nx.ret_cell 0 rfl rfl rfl rfl rfl rfl [] ⟨wideV_mkI (h := 18446744073709551615) (by unfold I64 wH B128 B64 at *; omega) (whole_low a), rfl⟩ ?_
    (exact Ent.auto)
  · refine Nx.ret_cell 0 rfl rfl rfl rfl rfl rfl [] ⟨wideV_mkI (h := 0) (by unfold I64 wH B128 B64 at *; omega) (whole_low a), rfl⟩ ?_
    (exact Ent.auto)
end Go.Proofs.YtpcnapidlhpbkaaGreatDoor
namespace Go.Proofs.YtpcnapidlhpbkaaGreatDoor
open Go.Eng
theorem part_wide0 (a b : Int) (w : World) : (part 102 #[.int .u64 a, .int .u64 b] 0).run Tryz.prog w = .ok (.int .u64 a) w := run_of_pureRun (by kernel_rfl) w
theorem part_wide1 (a b : Int) (w : World) : (part 102 #[.int .u64 a, .int .u64 b] 1).run Tryz.prog w = .ok (.int .u64 b) w := run_of_pureRun (by kernel_rfl) w
theorem eqFields_wide (a b c d : Int) (w : World) (fs : List Field) (hf : fs.map (fun f => (f.name, f.type, f.offset)) = [("High", 102, 0), ("Low", 102, 1)]) :
    (Op.eqFields 9999 #[.int .u64 a, .int .u64 b] #[.int .u64 c, .int .u64 d] fs).run Tryz.prog w = .ok (a == c && b == d) w := by
  obtain ⟨f, g, rfl⟩ : ∃ f g, fs = [f, g] := by
    rcases fs with _ | ⟨f, _ | ⟨g, _ | ⟨k, r⟩⟩⟩
    · simp at hf
    · simp at hf
    · exact ⟨f, g, rfl⟩
    · simp at hf
  · simp only [List.map_cons, List.map_nil, List.cons.injEq, Prod.mk.injEq, and_true] at hf
    obtain ⟨⟨h1, h2, h3⟩, h4, h5, h6⟩ := hf
    simp only [Op.eqFields, h1, h2, h3, h4, h5, h6]
    rw [if_pos (by decide), if_pos (by decide), Sem.run_bind, part_wide0, Result.andThen_ok, Sem.run_bind, part_wide0, Result.andThen_ok, Sem.run_bind, run_equalIn_int _ 9998 _ .u64 .u64 a c Tryz.underlying102, Result.andThen_ok]
    cases (a == c)
    · rfl
    · rw [if_neg (by decide), Sem.run_bind, part_wide1, Result.andThen_ok, Sem.run_bind, part_wide1, Result.andThen_ok, Sem.run_bind, run_equalIn_int _ 9998 _ .u64 .u64 b d Tryz.underlying102, Result.andThen_ok]
      cases (b == d) <;> rfl
theorem eql_wide {x y : Operand} (a b c d : Int) (w : World) :
    (do eqGuard .eql 200 x y (.agg #[.int .u64 a, .int .u64 b]) (.agg #[.int .u64 c, .int .u64 d]); binOp .eql 200 (.agg #[.int .u64 a, .int .u64 b]) (.agg #[.int .u64 c, .int .u64 d])).run Tryz.prog w = .ok (.bool (a == c && b == d)) w := by
  rw [Sem.run_bind, run_eqGuard_agg _ _ _ _ _ _ _ Tryz.eqGuardType200, Result.andThen_ok, run_eql_struct, run_equalIn_struct _ 9999 200 _ _ (by kernel_rfl) Tryz.stoodInHeld200,
    eqFields_wide a b c d w _ (by kernel_rfl)]
  rfl
theorem neq_wide {x y : Operand} (a b c d : Int) (w : World) :
    (do eqGuard .neq 200 x y (.agg #[.int .u64 a, .int .u64 b]) (.agg #[.int .u64 c, .int .u64 d]); binOp .neq 200 (.agg #[.int .u64 a, .int .u64 b]) (.agg #[.int .u64 c, .int .u64 d])).run Tryz.prog w = .ok (.bool (!(a == c && b == d))) w := by
  rw [Sem.run_bind, run_eqGuard_agg _ _ _ _ _ _ _ Tryz.eqGuardType200, Result.andThen_ok, run_neq_struct, run_equalIn_struct _ 9999 200 _ _ (by kernel_rfl) Tryz.stoodInHeld200,
    eqFields_wide a b c d w _ (by kernel_rfl)]
  rfl
theorem eql_rwide {x y : Operand} (a b c d : Int) (w : World) :
    (do eqGuard .eql 104 x y (.agg #[.int .u64 a, .int .u64 b]) (.agg #[.int .u64 c, .int .u64 d]); binOp .eql 104 (.agg #[.int .u64 a, .int .u64 b]) (.agg #[.int .u64 c, .int .u64 d])).run Tryz.prog w = .ok (.bool (a == c && b == d)) w := by
  rw [Sem.run_bind, run_eqGuard_agg _ _ _ _ _ _ _ Tryz.eqGuardType104, Result.andThen_ok, run_eql_struct, run_equalIn_struct _ 9999 104 _ _ (by kernel_rfl) Tryz.stoodInHeld104,
    eqFields_wide a b c d w _ (by kernel_rfl)]
  rfl
end Go.Proofs.YtpcnapidlhpbkaaGreatDoor
namespace Go.Proofs.YtpcnapidlhpbkaaGreatDoor
open Go.Eng
attribute [local irreducible] opK wpList Code.wp Exit.then Exit.inBlock fnPost bodyPost Nx Calls Oper.wp Rd Rds Wr Ent Stars Blk Again Vec FnSpec wpMix QRun Stop Upto wpAt
theorem zero_bool {a : Int} (ha : InW a) : ((wH a : Int) == 0 && (wL a : Int) == 0) = decide (a = 0) := by
  rw [Bool.eq_iff_iff]
  simp only [Bool.and_eq_true, beq_iff_eq, decide_eq_true_eq]
  rw [← wide_zero ha]
  omega
set_option maxRecDepth 10000 in
theorem zero_spec (a : Int) (ha : InW a) (I : PH) : FnSpec Tryz.prog 218 [wideV a] I [] (fun v R' => v = .bool (decide (a = 0)) ∧ R' = []) := by
  refine FnSpec.enterP Tryz.func218 rfl Tryz.ntmps218 rfl fun w F => ?_
  repeat' first
    | ((with_reducible refine Nx.is_wp ?_); first | refine Nx.wo ?_ | refine Nx.zp (fun hc => ?_) (fun hc => ?_))
    | (refine Nx.zo ?_; first | refine Nx.opr rfl rfl ?_ | refine Nx.binr rfl rfl (eql_rwide _ _ _ _) rfl ?_ | refine Nx.so ?_ | refine Nx.sb (fun bx => ?_) | refine Nx.sa (fun A2 c2 => ?_))
    | refine Nx.za ?_ | refine Nx.zr (fun hc => ?_) (fun hc => ?_)
    | refine Nx.zq ?_ | refine Nx.zu (fun hc => ?_) (fun hc => ?_)
    | refine Nx.zx ?_ | fail
  refine Nx.ret_fn rfl [] ⟨by rw [zero_bool ha], rfl⟩ ?_
  (exact Ent.auto)
set_option maxRecDepth 10000 in
theorem sign_spec (a : Int) (ha : InW a) (I : PH) : FnSpec Tryz.prog 170 [wideV a] I [] (fun v R' => v = .int .i64 a.sign ∧ R' = []) := by
  refine FnSpec.enterP Tryz.func170 rfl Tryz.ntmps170 rfl fun w F => ?_
  repeat' first
    | ((with_reducible refine Nx.is_wp ?_); first | refine Nx.wo ?_ | refine Nx.zp (fun hc => ?_) (fun hc => ?_))
    | (refine Nx.zo ?_; first | refine Nx.opr rfl rfl ?_ | refine Nx.bin rfl rfl (run_shrU (n := 63) (by omega)) rfl ?_ | refine Nx.binr rfl rfl (eql_wide _ _ _ _) rfl ?_ | refine Nx.so ?_ | refine Nx.sb (fun bx => ?_) | refine Nx.sa (fun A2 c2 => ?_))
    | refine Nx.za ?_ | refine Nx.zr (fun hc => ?_) (fun hc => ?_)
    | refine Nx.zq ?_ | refine Nx.zu (fun hc => ?_) (fun hc => ?_)
    | refine Nx.zx ?_ | fail
  · have hn := (top_neg ha).1 hc
    refine Nx.ret_fn rfl [] ⟨by rw [Int.sign_eq_neg_one_of_neg hn], rfl⟩ ?_
    (exact Ent.auto)
  · rw [zero_bool ha, decide_eq_true_eq] at hc
    refine Nx.ret_fn rfl [] ⟨by rw [hc]; rfl, rfl⟩ ?_
    (exact Ent.auto)
  · rename_i hc2
    rw [zero_bool ha, decide_eq_false_iff_not] at hc
    have hn := mt (top_neg ha).2 hc2
    refine Nx.ret_fn rfl [] ⟨by rw [Int.sign_eq_one_of_pos (by omega)], rfl⟩ ?_
    (exact Ent.auto)
set_option maxRecDepth 10000 in
theorem size_spec (a : Int) (ha : InW a) (I : PH) : FnSpec Tryz.prog 216 [wideV a] I [] (fun v R' => v = wideV (a.natAbs : Int) ∧ R' = []) := by
  refine FnSpec.enterP Tryz.func216 rfl Tryz.ntmps216 rfl fun w F => ?_
  repeat' first
    | ((with_reducible refine Nx.is_wp ?_); first | refine Nx.wo ?_ | refine Nx.zp (fun hc => ?_) (fun hc => ?_))
    | (refine Nx.zo ?_; first | refine Nx.opr rfl rfl ?_ | refine Nx.call (Rpre := []) rfl rfl rfl (by kernel_rfl) rfl (sign_spec a ha I) (Ent.refl _) ?_; rintro _ _ ⟨rfl, rfl⟩ | refine Nx.call (Rpre := []) rfl rfl rfl (by kernel_rfl) rfl (opposite_spec a I) (Ent.refl _) ?_; rintro _ _ ⟨rfl, rfl⟩ | refine Nx.so ?_ | refine Nx.sb (fun bx => ?_) | refine Nx.sa (fun A2 c2 => ?_))
    | refine Nx.za ?_ | refine Nx.zr (fun hc => ?_) (fun hc => ?_)
    | refine Nx.zq ?_ | refine Nx.zu (fun hc => ?_) (fun hc => ?_)
    | refine Nx.zx ?_ | fail
  · have hn : a < 0 := Int.sign_neg_iff.1 hc
    refine Nx.ret_cell 0 rfl rfl rfl rfl rfl rfl [] ⟨congrArg wideV (by omega : -a = (a.natAbs : Int)), rfl⟩ ?_
    (exact Ent.auto)
  · have hn : ¬ a < 0 := fun h => hc (Int.sign_neg_iff.2 h)
    refine Nx.ret_cell 0 rfl rfl rfl rfl rfl rfl [] ⟨congrArg wideV (by omega : a = (a.natAbs : Int)), rfl⟩ ?_
    (exact Ent.auto)
set_option maxRecDepth 10000 in
theorem rsize_spec (a : Int) (ha : InW a) (I : PH) : FnSpec Tryz.prog 171 [wideV a] I [] (fun v R' => v = wideV (a.natAbs : Int) ∧ R' = []) := by
  refine FnSpec.enterP Tryz.func171 rfl Tryz.ntmps171 rfl fun w F => ?_
  repeat' first
    | ((with_reducible refine Nx.is_wp ?_); first | refine Nx.wo ?_ | refine Nx.zp (fun hc => ?_) (fun hc => ?_))
    | (refine Nx.zo ?_; first | refine Nx.opr rfl rfl ?_ | refine Nx.call (Rpre := []) rfl rfl rfl (by kernel_rfl) rfl (negative_spec a ha I) (Ent.refl _) ?_; rintro _ _ ⟨rfl, rfl⟩ | refine Nx.call (Rpre := []) rfl rfl rfl (by kernel_rfl) rfl (rminus_spec 0 a I) (Ent.refl _) ?_; rintro _ _ ⟨rfl, rfl⟩ | refine Nx.so ?_ | refine Nx.sb (fun bx => ?_) | refine Nx.sa (fun A2 c2 => ?_))
    | refine Nx.za ?_ | refine Nx.zr (fun hc => ?_) (fun hc => ?_)
    | refine Nx.zq ?_ | refine Nx.zu (fun hc => ?_) (fun hc => ?_)
    | refine Nx.zx ?_ | fail
  · refine Nx.ret_cell 0 rfl rfl rfl rfl rfl rfl [] ⟨congrArg wideV (by omega : 0 - a = (a.natAbs : Int)), rfl⟩ ?_
    (exact Ent.auto)
  · refine Nx.ret_cell 0 rfl rfl rfl rfl rfl rfl [] ⟨congrArg wideV (by omega : a = (a.natAbs : Int)), rfl⟩ ?_
    (exact Ent.auto)
end Go.Proofs.YtpcnapidlhpbkaaGreatDoor
namespace Go.Proofs.YtpcnapidlhpbkaaGreatDoor
open Go.Eng
attribute [local irreducible] opK wpList Code.wp Exit.then Exit.inBlock fnPost bodyPost Nx Calls Oper.wp Rd Rds Wr Ent Stars Blk Again Vec FnSpec wpMix QRun Stop Upto wpAt
def Nn (a : Int) : Prop := 0 ≤ a ∧ a < 340282366920938463463374607431768211456
theorem wide_lt {a b : Int} (ha : Nn a) (hb : Nn b) : ((wH a : Int) < wH b ∨ (wH a : Int) = wH b ∧ (wL a : Int) < wL b) ↔ a < b := by unfold Nn wH wL B128 B64 at *; omega
set_option maxRecDepth 10000 in
theorem below_spec (a b : Int) (ha : Nn a) (hb : Nn b) (I : PH) : FnSpec Tryz.prog 174 [wideV a, wideV b] I [] (fun v R' => v = .bool (decide (a < b)) ∧ R' = []) := by
  have hw := wide_lt ha hb
  refine FnSpec.enterP Tryz.func174 rfl Tryz.ntmps174 rfl fun w F => ?_
  repeat' first
    | ((with_reducible refine Nx.is_wp ?_); first | refine Nx.wo ?_ | refine Nx.zp (fun hc => ?_) (fun hc => ?_))
    | (refine Nx.zo ?_; first | refine Nx.opr rfl rfl ?_ | refine Nx.so ?_ | refine Nx.sb (fun bx => ?_) | refine Nx.sa (fun A2 c2 => ?_))
    | refine Nx.za ?_ | refine Nx.zr (fun hc => ?_) (fun hc => ?_)
    | refine Nx.zq ?_ | refine Nx.zu (fun hc => ?_) (fun hc => ?_)
    | refine Nx.zx ?_ | fail
  all_goals (refine Nx.ret_fn rfl [] ⟨by first | (exact congrArg Value.bool (decide_eq_true (by omega)).symm) | (exact congrArg Value.bool (decide_eq_false (by omega)).symm) | (exact bool_congr (by omega)), rfl⟩ ?_)
  all_goals (exact Ent.auto)
set_option maxRecDepth 10000 in
theorem twice_spec (a : Int) (ha : 0 ≤ a ∧ a < 170141183460469231731687303715884105728) (I : PH) : FnSpec Tryz.prog 219 [wideV a] I [] (fun v R' => v = wideV (2 * a) ∧ R' = []) := by
  refine FnSpec.enterP Tryz.func219 rfl Tryz.ntmps219 rfl fun w F => ?_
  repeat' first
    | ((with_reducible refine Nx.is_wp ?_); first | refine Nx.wo ?_ | refine Nx.zp (fun hc => ?_) (fun hc => ?_))
    | (refine Nx.zo ?_; first | refine Nx.opr rfl rfl ?_ | refine Nx.bin rfl rfl (run_shlU (n := 1) (by omega)) rfl ?_ | refine Nx.bin rfl rfl (run_shrU (n := 63) (by omega)) rfl ?_ | refine Nx.bin rfl rfl (run_orD 1 (wH a) (wL a / 9223372036854775808) (by unfold wH B128 B64; omega) (by omega) (by unfold wH B128 B64; omega) (by have := wL_lt a; omega) (by have := wL_lt a; omega)) rfl ?_ | refine Nx.so ?_ | refine Nx.sb (fun bx => ?_) | refine Nx.sa (fun A2 c2 => ?_))
    | refine Nx.za ?_ | refine Nx.zr (fun hc => ?_) (fun hc => ?_)
    | refine Nx.zq ?_ | refine Nx.zu (fun hc => ?_) (fun hc => ?_)
    | refine Nx.zx ?_ | fail
  refine Nx.ret_cell 0 rfl rfl rfl rfl rfl rfl [] ⟨wideV_mkI (by unfold wH wL B128 B64; omega) (by unfold wL B64; omega), rfl⟩ ?_
  (exact Ent.auto)
end Go.Proofs.YtpcnapidlhpbkaaGreatDoor
namespace Go.Proofs.YtpcnapidlhpbkaaGreatDoor
def ln64_ren : Go.Shelf.Ren := ⟨fun | 129 => 234 | n => n, fun | 53 => 102 | 3 => 3 | 4 => 4 | 46 => 161 | 5 => 5 | 9 => 9 | n => n, fun | n => n⟩
theorem ln64 : Go.Proofs.Lays.n129 Tryz.prog ln64_ren where
  mixed := by kernel_rfl
  f129 := Tryz.func234.trans (congrArg some (by kernel_rfl))
  t3 := Tryz.underlying3
  a3 := Tryz.isAgg3
  z3 := Tryz.sizeOf3
  v3 := Tryz.zeroValue3
  t4 := Tryz.underlying4
  a4 := Tryz.isAgg4
  z4 := Tryz.sizeOf4
  v4 := Tryz.zeroValue4
  t5 := Tryz.underlying5
  a5 := Tryz.isAgg5
  z5 := Tryz.sizeOf5
  v5 := Tryz.zeroValue5
  t9 := Tryz.underlying9
  a9 := Tryz.isAgg9
  z9 := Tryz.sizeOf9
  v9 := Tryz.zeroValue9
  t46 := Tryz.underlying161
  a46 := Tryz.isAgg161
  z46 := Tryz.sizeOf161
  v46 := Tryz.zeroValue161
  t53 := Tryz.underlying102
  a53 := Tryz.isAgg102
  z53 := Tryz.sizeOf102
  v53 := Tryz.zeroValue102
end Go.Proofs.YtpcnapidlhpbkaaGreatDoor
namespace Go.Proofs.YtpcnapidlhpbkaaGreatDoor
open Go.Eng
attribute [local irreducible] opK wpList Code.wp Exit.then Exit.inBlock fnPost bodyPost Nx Calls Oper.wp Rd Rds Wr Ent Stars Blk Again Vec FnSpec wpMix QRun Stop Upto wpAt
theorem len64_spec (x : Nat) (h1 : x < 18446744073709551616) (I : PH) :
    FnSpec Tryz.prog 234 [.int .u64 x] I [] (fun v R' => v = .int .i64 (Lib.bitLen x) ∧ R' = []) :=
  FnSpec.of_same fun w _ _ _ => Any.bits_Len64 ln64 x w (by omega) (by omega)
end Go.Proofs.YtpcnapidlhpbkaaGreatDoor
