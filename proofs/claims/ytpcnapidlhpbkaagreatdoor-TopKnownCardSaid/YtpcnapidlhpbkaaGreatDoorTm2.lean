/- Contracts of functions of the given program, and lemmas. -/
import Derived.ChangeSame
import Derived.ChangeSlices
import Derived.Carry
import Derived.OpenShut
import Derived.Test.YtpcnapidlhpbkaaGreatDoorProg
import Derived.Test.YtpcnapidlhpbkaaGreatDoorTm1
set_option maxHeartbeats 32000000
set_option maxRecDepth 10000
namespace Go.Eng
def cl : Code → Code
 | .seq a _ => a
 | .cond _ a _ => a
 | .block _ b => b
 | .loop b => b
 | .scope b => b
 | c => c
def cr : Code → Code
 | .seq _ b => b
 | .cond _ _ b => b
 | c => c
def cops : Code → Array Oper
 | .region _ ops _ => ops
 | _ => #[]
def cid : Code → Nat
 | .region id _ _ => id
 | .block id _ => id
 | .exit id => id
 | _ => 0
def ccnd : Code → Operand
 | .cond c _ _ => c
 | _ => .tmp 0
def ck : Code → Nat
 | .skip => 0
 | .region _ _ false => 1
 | .region _ _ true => 2
 | .seq _ _ => 3
 | .cond _ _ _ => 4
 | .block _ _ => 5
 | .loop _ => 6
 | .exit _ => 7
 | .ret => 8
 | .label _ => 9
 | .scope _ => 10
 | .goto _ => 11
 | .rangeFunc _ _ _ _ => 12
 | .refuse _ => 13
def bodyOf (fn : Func) : Code:=match fn.body with
 | some c => c
 | none => .skip
def opAt : List Oper → Nat → Option Oper
 | [],_ => none
 | ⟨a,b,c,d,e,f⟩ :: _,0 => some ⟨a,b,c,d,e,f⟩
 | _ :: r,i + 1 => opAt r i
theorem opAt_eq : ∀ {l : List Oper} {i : Nat},opAt l i = l[i]?
 | [],i => by simp [opAt]
 | _ :: _,0 => rfl
 | _ :: r,i + 1 => by simp only [opAt,List.getElem?_cons_succ]; exact opAt_eq
theorem opAt_arr {ops : Array Oper} {i : Nat} {o : Option Oper} (h : opAt ops.toList i = o) : ops[i]? = o:=by
 rw [opAt_eq] at h
 rw [← h]
 simp
def wpAt (P : Program) (ops : Array Oper) (Q : Exit → Act → World → Prop) (i : Nat) : Act → World → Prop:=wpList P ops Q (ops.toList.drop i)
theorem FnSpec.enterP {P : Program} {f : FuncId} {fn : Func} {args : List Value} {I : PH} {Rpre : List Res} {Post : Value → List Res → Prop} {n : Nat}
  (hf : P.funcs[f]? = some fn) (hb : fn.body.isSome = true) (hn : fn.ntmps = n) (hle : Nat.ble args.length n = true)
  (h : ∀ w F,Nx ⟨P,n,w⟩ (argEnv args 0) I (Rpre ++ [F]) ((bodyOf fn).wp P (fnPost P fn I F w Post))) : FnSpec P f args I Rpre Post:=by
 obtain ⟨c,hc⟩:=Option.isSome_iff_exists.1 hb
 have : bodyOf fn = c:=by unfold bodyOf; rw [hc]
 rw [this] at h
 exact FnSpec.enter hf hc hn hle h
section
variable {C : Cx} {e e' : Env} {I : PH} {R R' : List Res} {K K' : Act → World → Prop} {Q : Exit → Act → World → Prop} {c : Code}
theorem Nx.is_at {ops : Array Oper} {i : Nat} (h : Nx C e I R (wpAt C.P ops Q i)) : Nx C e I R (wpAt C.P ops Q i):=h
theorem Nx.is_wp (h : Nx C e I R (c.wp C.P Q)) : Nx C e I R (c.wp C.P Q):=h
theorem Nx.is_mix {ops : Array Oper} {S : World → Prop} {l r : List Nat} (h : Nx C e I R (wpMix C.P ops Q S l r)) : Nx C e I R (wpMix C.P ops Q S l r):=h
theorem Nx.p_seq (hk : ck c = 3) (h : Nx C e I R ((cl c).wp C.P (Exit.then ((cr c).wp C.P Q) Q))) : Nx C e I R (c.wp C.P Q):=by
 cases c <;> first | exact Nx.seq h | (simp [ck] at hk; done) | (rename_i d; cases d <;> simp [ck] at hk)
theorem Nx.p_skip (hk : ck c = 0) (h : Nx C e I R (Q .normal)) : Nx C e I R (c.wp C.P Q):=by
 cases c <;> first | exact Nx.skip h | (simp [ck] at hk; done) | (rename_i d; cases d <;> simp [ck] at hk)
theorem Nx.p_ret (hk : ck c = 8) (h : Nx C e I R (Q .ret)) : Nx C e I R (c.wp C.P Q):=by
 cases c <;> first | exact Nx.ret h | (simp [ck] at hk; done) | (rename_i d; cases d <;> simp [ck] at hk)
theorem Nx.p_label (hk : ck c = 9) (h : Nx C e I R (Q .normal)) : Nx C e I R (c.wp C.P Q):=by
 cases c <;> first | exact Nx.label h | (simp [ck] at hk; done) | (rename_i d; cases d <;> simp [ck] at hk)
theorem Nx.p_exit {id : Nat} (hk : ck c = 7) (hid : forced (cid c) = some id) (h : Nx C e I R (Q (.exit id))) : Nx C e I R (c.wp C.P Q):=by
 have hid:=forced_eq hid
 subst hid
 cases c <;> first | exact Nx.exit h | (simp [ck] at hk; done) | (rename_i d; cases d <;> simp [ck] at hk)
theorem Nx.p_block {id : Nat} (hk : ck c = 5) (hid : forced (cid c) = some id) (h : Nx C e I R ((cl c).wp C.P (Exit.inBlock id Q))) : Nx C e I R (c.wp C.P Q):=by
 have hid:=forced_eq hid
 subst hid
 cases c <;> first | exact Nx.block h | (simp [ck] at hk; done) | (rename_i d; cases d <;> simp [ck] at hk)
theorem Nx.p_region (hk : ck c = 1) (h : Nx C e I R (wpAt C.P (cops c) Q 0)) : Nx C e I R (c.wp C.P Q):=by
 cases c <;> first | (simp [ck] at hk; done) | skip
 rename_i id ops d
 cases d with
 | true => simp [ck] at hk
 | false =>
  intro a w ha hw
  have h1:=h a w ha hw
  unfold wpAt at h1
  rw [List.drop_zero] at h1
  exact wp_region_list h1
theorem Nx.p_t (hk : ck c = 4) (hc : evo e (ccnd c) = some (.bool true)) (h : Nx C e I R ((cl c).wp C.P Q)) : Nx C e I R (c.wp C.P Q):=by
 cases c <;> first | exact Nx.cond_true hc h | (simp [ck] at hk; done) | (rename_i d; cases d <;> simp [ck] at hk)
theorem Nx.p_f (hk : ck c = 4) (hc : evo e (ccnd c) = some (.bool false)) (h : Nx C e I R ((cr c).wp C.P Q)) : Nx C e I R (c.wp C.P Q):=by
 cases c <;> first | exact Nx.cond_false hc h | (simp [ck] at hk; done) | (rename_i d; cases d <;> simp [ck] at hk)
theorem Nx.p_dec {p : Prop} [Decidable p] (hk : ck c = 4) (hc : evo e (ccnd c) = some (.bool (decide p))) (ht : p → Nx C e I R ((cl c).wp C.P Q)) (hf : ¬p → Nx C e I R ((cr c).wp C.P Q)) : Nx C e I R (c.wp C.P Q):=by
 cases c <;> first | exact Nx.cond_dec hc ht hf | (simp [ck] at hk; done) | (rename_i d; cases d <;> simp [ck] at hk)
theorem Nx.p_bool {b : Bool} (hk : ck c = 4) (hc : evo e (ccnd c) = some (.bool b)) (ht : b = true → Nx C e I R ((cl c).wp C.P Q)) (hf : b = false → Nx C e I R ((cr c).wp C.P Q)) : Nx C e I R (c.wp C.P Q):=by
 cases c <;> first | exact Nx.cond_bool hc ht hf | (simp [ck] at hk; done) | (rename_i d; cases d <;> simp [ck] at hk)
theorem Nx.p_dec_t {p : Prop} [Decidable p] (hk : ck c = 4) (hc : evo e (ccnd c) = some (.bool (decide p))) (hp : p) (h : Nx C e I R ((cl c).wp C.P Q)) : Nx C e I R (c.wp C.P Q):=Nx.p_dec hk hc (fun _ => h) (fun hn => absurd hp hn)
theorem Nx.p_dec_f {p : Prop} [Decidable p] (hk : ck c = 4) (hc : evo e (ccnd c) = some (.bool (decide p))) (hp : ¬p) (h : Nx C e I R ((cr c).wp C.P Q)) : Nx C e I R (c.wp C.P Q):=Nx.p_dec hk hc (fun hn => absurd hn hp) (fun _ => h)
theorem Nx.p_draw {id : Nat} (hid : cid c = id) (ord loud : List Nat) (R0 : List Res) (hk : ck c = 2) (hm : C.P.follows .mixedOrders = true) (hs : Region.noSelect (cops c) = true) (hok : mixOk (cops c) loud ord (Array.replicate (cops c).size false) = true) (hlen : Nat.ble ord.length (cops c).size = true) (hQ : PanicOk Q) (hR : Ent R R0)
  (h : Nx C e I R (wpMix C.P (cops c) Q (St C.W I R0) loud ord)) : Nx C e I R (c.wp C.P Q):=by
 have hc : c = .region (cid c) (cops c) true:=by
  cases c <;> first | (simp [ck] at hk; done) | skip
  rename_i b
  cases b with
  | false => simp [ck] at hk
  | true => rfl
 clear hid
 rw [hc]
 exact Nx.draw ord loud R0 hm hs hok hlen hQ hR h
theorem Nx.p_loop {σ : Type} (E : σ → Env) (T : σ → List Res) (ok : σ → Prop) (μ : σ → Nat) (s0 : σ) (hk : ck c = 6) (h0 : ok s0) (he : EnvSub (E s0) e) (hR : Ent R (T s0))
  (round : ∀ s,ok s → Nx C (E s) I (T s) ((cl c).wp C.P (Exit.then (Again C E I T ok μ s) Q))) : Nx C e I R (c.wp C.P Q):=by
 cases c <;> first | exact Nx.loop E T ok μ s0 h0 he hR round | (simp [ck] at hk; done) | (rename_i d; cases d <;> simp [ck] at hk)
variable {ops : Array Oper} {i : Nat} {o : Oper}
theorem drop_of {ops : Array Oper} {i : Nat} {o : Oper} (ho : ops[i]? = some o) : ops.toList.drop i = o :: ops.toList.drop (i + 1):=by
 obtain ⟨hlt,he⟩:=Array.getElem?_eq_some_iff.1 ho
 rw [List.drop_eq_getElem_cons (by simpa using hlt)]
 congr 1
theorem Nx.at_end (ho : opAt ops.toList i = none) (h : Nx C e I R (Q .normal)) : Nx C e I R (wpAt C.P ops Q i):=by
 unfold wpAt
 rw [List.drop_eq_nil_of_le (by have:=Array.getElem?_eq_none_iff.1 (opAt_arr ho); simpa using this)]
 exact Nx.nil h
theorem Nx.at_endt (ho : opAt ops.toList i = none) (h : Nx C e I R K) : Nx C e I R (wpAt C.P ops (Exit.then K Q) i):=Nx.at_end ho h
theorem Nx.at_op (ho : opAt ops.toList i = some o) (hg : o.guard = none) (h : Nx C e I R (opK C.P o (wpAt C.P ops Q (i + 1)) Q)) : Nx C e I R (wpAt C.P ops Q i):=by
 unfold wpAt at *
 rw [drop_of (opAt_arr ho)]
 exact Nx.cons hg h
theorem Nx.at_do {j d : Nat} {want : Bool} (ho : opAt ops.toList i = some o) (hg : o.guard = some (j,want)) (hd : (ops[j]?).bind (·.dst) = some d) (hb : lk e d = some (.bool want)) (h : Nx C e I R (opK C.P o (wpAt C.P ops Q (i + 1)) Q)) : Nx C e I R (wpAt C.P ops Q i):=by
 unfold wpAt at *
 rw [drop_of (opAt_arr ho)]
 exact Nx.cons_do hg hd hb h
theorem Nx.at_no {j d t : Nat} {want : Bool} (ho : opAt ops.toList i = some o) (hg : o.guard = some (j,want)) (hd : (ops[j]?).bind (·.dst) = some d) (hb : lk e d = some (.bool (!want))) (ht : o.dst = some t) (hlt : Nat.blt t C.n = true)
  (h : Nx C ((t,undef) :: e) I R (wpAt C.P ops Q (i + 1))) : Nx C e I R (wpAt C.P ops Q i):=by
 unfold wpAt at *
 rw [drop_of (opAt_arr ho)]
 exact Nx.cons_no hg hd hb ht hlt h
theorem Nx.at_split {j d : Nat} {want : Bool} {p : Prop} [Decidable p] (ho : opAt ops.toList i = some o) (hg : o.guard = some (j,want)) (hd : (ops[j]?).bind (·.dst) = some d) (hb : lk e d = some (.bool (decide p)))
  (ht : p → Nx C ((d,.bool true) :: e) I R (wpAt C.P ops Q i)) (hf : ¬p → Nx C ((d,.bool false) :: e) I R (wpAt C.P ops Q i)) : Nx C e I R (wpAt C.P ops Q i) :=
 have _:=ho; have _:=hg; have _:=hd; Nx.force d hb ht hf
theorem Nx.at_splitb {j d : Nat} {want b : Bool} (ho : opAt ops.toList i = some o) (hg : o.guard = some (j,want)) (hd : (ops[j]?).bind (·.dst) = some d) (hb : lk e d = some (.bool b))
  (ht : b = true → Nx C ((d,.bool true) :: e) I R (wpAt C.P ops Q i)) (hf : b = false → Nx C ((d,.bool false) :: e) I R (wpAt C.P ops Q i)) : Nx C e I R (wpAt C.P ops Q i) :=
 have _:=ho; have _:=hg; have _:=hd; Nx.force_bool d hb ht hf
theorem Nx.at_dec_t {j d : Nat} {want : Bool} {p : Prop} [Decidable p] (ho : opAt ops.toList i = some o) (hg : o.guard = some (j,want)) (hd : (ops[j]?).bind (·.dst) = some d) (hb : lk e d = some (.bool (decide p))) (hp : p)
  (ht : Nx C ((d,.bool true) :: e) I R (wpAt C.P ops Q i)) : Nx C e I R (wpAt C.P ops Q i):=Nx.at_split ho hg hd hb (fun _ => ht) (fun h => absurd hp h)
theorem Nx.at_dec_f {j d : Nat} {want : Bool} {p : Prop} [Decidable p] (ho : opAt ops.toList i = some o) (hg : o.guard = some (j,want)) (hd : (ops[j]?).bind (·.dst) = some d) (hb : lk e d = some (.bool (decide p))) (hp : ¬p)
  (ht : Nx C ((d,.bool false) :: e) I R (wpAt C.P ops Q i)) : Nx C e I R (wpAt C.P ops Q i):=Nx.at_split ho hg hd hb (fun h => absurd h hp) (fun _ => ht)
variable {S : World → Prop} {loud r : List Nat} {k d : Nat} {v : Value}
theorem Nx.m_quiet (ho : opAt ops.toList k = some o) (hl : loud.contains k = false) (hg : o.guard = none) (hd : o.dst = some d) (hlt : Nat.blt d C.n = true) (hrun : QRun C e S o v) (h : Nx C ((d,v) :: e) I R (wpMix C.P ops Q S loud r)) : Nx C e I R (wpMix C.P ops Q S loud (k :: r)):=Nx.mix_q (opAt_arr ho) hl hg hd hlt hrun h
theorem Nx.m_quiet_do {j dj : Nat} {want : Bool} (ho : opAt ops.toList k = some o) (hl : loud.contains k = false) (hg : o.guard = some (j,want)) (hdj : (ops[j]?).bind (·.dst) = some dj) (hb : lk e dj = some (.bool want)) (hd : o.dst = some d) (hlt : Nat.blt d C.n = true) (hrun : QRun C e S o v)
  (h : Nx C ((d,v) :: e) I R (wpMix C.P ops Q S loud r)) : Nx C e I R (wpMix C.P ops Q S loud (k :: r)):=Nx.mix_q_do (opAt_arr ho) hl hg hdj hb hd hlt hrun h
theorem Nx.m_quiet_no {j dj : Nat} {want : Bool} (ho : opAt ops.toList k = some o) (hl : loud.contains k = false) (hg : o.guard = some (j,want)) (hdj : (ops[j]?).bind (·.dst) = some dj) (hb : lk e dj = some (.bool (!want))) (hd : o.dst = some d) (hlt : Nat.blt d C.n = true)
  (h : Nx C ((d,undef) :: e) I R (wpMix C.P ops Q S loud r)) : Nx C e I R (wpMix C.P ops Q S loud (k :: r)):=Nx.mix_q_no (opAt_arr ho) hl hg hdj hb hd hlt h
theorem Nx.m_loud (ho : opAt ops.toList k = some o) (hl : loud.contains k = true) (hg : o.guard = none) (h : Nx C e I R (opK C.P o (fun a w => S w ∧ wpMix C.P ops Q S loud r a w) Q)) : Nx C e I R (wpMix C.P ops Q S loud (k :: r)):=Nx.mix_l (opAt_arr ho) hl hg h
theorem Nx.m_loud_do {j dj : Nat} {want : Bool} (ho : opAt ops.toList k = some o) (hl : loud.contains k = true) (hg : o.guard = some (j,want)) (hdj : (ops[j]?).bind (·.dst) = some dj) (hb : lk e dj = some (.bool want))
  (h : Nx C e I R (opK C.P o (fun a w => S w ∧ wpMix C.P ops Q S loud r a w) Q)) : Nx C e I R (wpMix C.P ops Q S loud (k :: r)):=Nx.mix_l_do (opAt_arr ho) hl hg hdj hb h
theorem Nx.m_loud_no {j dj : Nat} {want : Bool} (ho : opAt ops.toList k = some o) (hl : loud.contains k = true) (hg : o.guard = some (j,want)) (hdj : (ops[j]?).bind (·.dst) = some dj) (hb : lk e dj = some (.bool (!want))) (hd : o.dst = some d) (hlt : Nat.blt d C.n = true)
  (h : Nx C ((d,undef) :: e) I R (fun a w => S w ∧ wpMix C.P ops Q S loud r a w)) : Nx C e I R (wpMix C.P ops Q S loud (k :: r)):=Nx.mix_l_no (opAt_arr ho) hl hg hdj hb hd hlt h
theorem Nx.m_split {j dj : Nat} {want : Bool} {p : Prop} [Decidable p] (ho : opAt ops.toList k = some o) (hg : o.guard = some (j,want)) (hdj : (ops[j]?).bind (·.dst) = some dj) (hb : lk e dj = some (.bool (decide p)))
  (ht : p → Nx C ((dj,.bool true) :: e) I R (wpMix C.P ops Q S loud (k :: r))) (hf : ¬p → Nx C ((dj,.bool false) :: e) I R (wpMix C.P ops Q S loud (k :: r))) : Nx C e I R (wpMix C.P ops Q S loud (k :: r)) :=
 have _:=ho; have _:=hg; have _:=hdj; Nx.force dj hb ht hf
theorem Nx.m_splitb {j dj : Nat} {want b : Bool} (ho : opAt ops.toList k = some o) (hg : o.guard = some (j,want)) (hdj : (ops[j]?).bind (·.dst) = some dj) (hb : lk e dj = some (.bool b))
  (ht : b = true → Nx C ((dj,.bool true) :: e) I R (wpMix C.P ops Q S loud (k :: r))) (hf : b = false → Nx C ((dj,.bool false) :: e) I R (wpMix C.P ops Q S loud (k :: r))) : Nx C e I R (wpMix C.P ops Q S loud (k :: r)) :=
 have _:=ho; have _:=hg; have _:=hdj; Nx.force_bool dj hb ht hf
theorem Nx.m_dec_t {j dj : Nat} {want : Bool} {p : Prop} [Decidable p] (ho : opAt ops.toList k = some o) (hg : o.guard = some (j,want)) (hdj : (ops[j]?).bind (·.dst) = some dj) (hb : lk e dj = some (.bool (decide p))) (hp : p)
  (ht : Nx C ((dj,.bool true) :: e) I R (wpMix C.P ops Q S loud (k :: r))) : Nx C e I R (wpMix C.P ops Q S loud (k :: r)):=Nx.m_split ho hg hdj hb (fun _ => ht) (fun h => absurd hp h)
theorem Nx.m_dec_f {j dj : Nat} {want : Bool} {p : Prop} [Decidable p] (ho : opAt ops.toList k = some o) (hg : o.guard = some (j,want)) (hdj : (ops[j]?).bind (·.dst) = some dj) (hb : lk e dj = some (.bool (decide p))) (hp : ¬p)
  (ht : Nx C ((dj,.bool false) :: e) I R (wpMix C.P ops Q S loud (k :: r))) : Nx C e I R (wpMix C.P ops Q S loud (k :: r)):=Nx.m_split ho hg hdj hb (fun h => absurd h hp) (fun _ => ht)
def isIf (c : Code) (id : Nat) : Bool:=Nat.beq (ck c) 3 && Nat.beq (ck (cl c)) 3 && (Nat.beq (ck (cl (cl c))) 1 || Nat.beq (ck (cl (cl c))) 2) && Nat.beq (cid (cl (cl c))) id && Nat.beq (ck (cr (cl c))) 4
def isReg (c : Code) (id : Nat) : Bool:=Nat.beq (ck c) 3 && (Nat.beq (ck (cl c)) 1 || Nat.beq (ck (cl c)) 2) && Nat.beq (cid (cl c)) id
theorem Nx.p_stop (id : Nat) (hi : isIf c id = true) (h : Nx C e I R (Stop (c.wp C.P Q))) : Nx C e I R (c.wp C.P Q):=have _:=hi; h
theorem Nx.p_stopr (id : Nat) (hi : isReg c id = true) (h : Nx C e I R (Stop (c.wp C.P Q))) : Nx C e I R (c.wp C.P Q):=have _:=hi; h
theorem Nx.p_go (hk : ck c = 3) (h : Nx C e I R ((cl c).wp C.P (Exit.then ((cr c).wp C.P Q) Q))) : Nx C e I R (Stop (c.wp C.P Q)):=Nx.p_seq hk h
end
end Go.Eng
namespace Go.Eng
section
variable {C : Cx} {e e' : Env} {I : PH} {R R' : List Res} {K K' : Act → World → Prop} {Q : Exit → Act → World → Prop} {W : World} {o : Oper}
variable {ty t u : TypeId} {pos : String} {after : Array Edge} {g : Option (Nat × Bool)} {x y z : Operand} {v : Value} {dst : Option Tmp}
variable {ops : Array Oper} {i : Nat} {S : World → Prop} {loud r : List Nat}
theorem yielded_undef {n : Nat} {ops : Array Oper} {a : Act} {j d : Nat} (ha : Mod n e a) (hd : (ops[j]?).bind (·.dst) = some d) (hb : lk e d = some undef) : yielded ops a.tmps j = none:=by
 have:=ha.get d _ hb
 simp [yielded,hd,this,undef]
theorem Nx.at_noU {j d t : Nat} {want : Bool} (ho : opAt ops.toList i = some o) (hg : o.guard = some (j,want)) (hd : (ops[j]?).bind (·.dst) = some d) (hb : lk e d = some undef) (ht : o.dst = some t) (hlt : Nat.blt t C.n = true)
  (h : Nx C ((t,undef) :: e) I R (wpAt C.P ops Q (i + 1))) : Nx C e I R (wpAt C.P ops Q i):=by
 unfold wpAt at *
 rw [drop_of (opAt_arr ho)]
 intro a w ha hw
 unfold wpList
 rw [if_neg (by simp [Region.wanted,hg,yielded_undef ha hd hb]),ht]
 exact h _ w (ha.put hlt _) hw
theorem Nx.m_quiet_noU {k d : Nat} {j dj : Nat} {want : Bool} (ho : opAt ops.toList k = some o) (hl : loud.contains k = false) (hg : o.guard = some (j,want)) (hdj : (ops[j]?).bind (·.dst) = some dj) (hb : lk e dj = some undef) (hd : o.dst = some d) (hlt : Nat.blt d C.n = true)
  (h : Nx C ((d,undef) :: e) I R (wpMix C.P ops Q S loud r)) : Nx C e I R (wpMix C.P ops Q S loud (k :: r)):=by
 intro a w ha hw
 refine ⟨o,opAt_arr ho,?_⟩
 rw [if_neg (by rw [hl]; simp)]
 refine ⟨undef,.inr ⟨by simp [Region.wanted,hg,yielded_undef ha hdj hb],rfl⟩,?_⟩
 rw [hd]
 exact h _ w (ha.put hlt undef) hw
def OpTo (C : Cx) (o : Oper) (e : Env) (I : PH) (R : List Res) (e' : Env) (R' : List Res) : Prop:=∀ (K : Act → World → Prop) (Q : Exit → Act → World → Prop),Nx C e' I R' K → Nx C e I R (opK C.P o K Q)
def OpToB (C : Cx) (o : Oper) (e : Env) (I : PH) (R : List Res) (e' : Nat → Env) (R' : Nat → List Res) : Prop:=∀ (K : Act → World → Prop) (Q : Exit → Act → World → Prop),(∀ b,Nx C (e' b) I (R' b) K) → Nx C e I R (opK C.P o K Q)
def OpToA (C : Cx) (o : Oper) (e : Env) (I : PH) (R : List Res) (e' : Option Addr → Nat → Env) (R' : Option Addr → Nat → List Res) : Prop:=∀ (K : Act → World → Prop) (Q : Exit → Act → World → Prop),(∀ A c,Nx C (e' A c) I (R' A c) K) → Nx C e I R (opK C.P o K Q)
theorem OpTo.is_load {e1 : Env} {r1 : List Res} (h : OpTo C ⟨dst,.load t x,ty,pos,after,g⟩ e I R e1 r1) : OpTo C ⟨dst,.load t x,ty,pos,after,g⟩ e I R e1 r1:=h
theorem OpTo.is_store {e1 : Env} {r1 : List Res} (h : OpTo C ⟨dst,.store t x y,ty,pos,after,g⟩ e I R e1 r1) : OpTo C ⟨dst,.store t x y,ty,pos,after,g⟩ e I R e1 r1:=h
theorem OpTo.is_bin {e1 : Env} {r1 : List Res} {op : BinOp} (h : OpTo C ⟨dst,.binOp op t x y u,ty,pos,after,g⟩ e I R e1 r1) : OpTo C ⟨dst,.binOp op t x y u,ty,pos,after,g⟩ e I R e1 r1:=h
theorem OpTo.is_un {e1 : Env} {r1 : List Res} {op : UnOp} (h : OpTo C ⟨dst,.unOp op t x,ty,pos,after,g⟩ e I R e1 r1) : OpTo C ⟨dst,.unOp op t x,ty,pos,after,g⟩ e I R e1 r1:=h
theorem OpTo.is_conv {e1 : Env} {r1 : List Res} (h : OpTo C ⟨dst,.convert t u x,ty,pos,after,g⟩ e I R e1 r1) : OpTo C ⟨dst,.convert t u x,ty,pos,after,g⟩ e I R e1 r1:=h
theorem OpTo.is_build {e1 : Env} {r1 : List Res} {p : Array (Nat × Operand)} (h : OpTo C ⟨dst,.build t p,ty,pos,after,g⟩ e I R e1 r1) : OpTo C ⟨dst,.build t p,ty,pos,after,g⟩ e I R e1 r1:=h
theorem OpTo.is_call {e1 : Env} {r1 : List Res} {c : Call} (h : OpTo C ⟨dst,.call c,ty,pos,after,g⟩ e I R e1 r1) : OpTo C ⟨dst,.call c,ty,pos,after,g⟩ e I R e1 r1:=h
theorem OpToB.is_lit {e1 : Nat → Env} {r1 : Nat → List Res} {p : Array (Nat × Operand)} {n : Nat} (h : OpToB C ⟨dst,.buildSlice t n p,ty,pos,after,g⟩ e I R e1 r1) : OpToB C ⟨dst,.buildSlice t n p,ty,pos,after,g⟩ e I R e1 r1:=h
theorem OpToB.is_box {e1 : Nat → Env} {r1 : Nat → List Res} (h : OpToB C ⟨dst,.box t x,ty,pos,after,g⟩ e I R e1 r1) : OpToB C ⟨dst,.box t x,ty,pos,after,g⟩ e I R e1 r1:=h
theorem OpToB.is_alloc {e1 : Nat → Env} {r1 : Nat → List Res} (h : OpToB C ⟨dst,.alloc t,ty,pos,after,g⟩ e I R e1 r1) : OpToB C ⟨dst,.alloc t,ty,pos,after,g⟩ e I R e1 r1:=h
theorem OpToA.is_append {e1 : Option Addr → Nat → Env} {r1 : Option Addr → Nat → List Res} {xs : Array Operand} {tys : Array TypeId} (h : OpToA C ⟨dst,.call { callee:=.builtin .append,args:=xs,argTypes:=tys },ty,pos,after,g⟩ e I R e1 r1) : OpToA C ⟨dst,.call { callee:=.builtin .append,args:=xs,argTypes:=tys },ty,pos,after,g⟩ e I R e1 r1:=h
theorem Nx.so {e1 : Env} {r1 : List Res} (h : Nx C e1 I r1 K) (s : OpTo C o e I R e1 r1:=by first | ((with_reducible apply OpTo.is_load); first | exact fun _ _ h => Nx.load rfl rfl rfl (by first | exact Rd.at_ 0 rfl rfl | exact Rd.at_ 1 rfl rfl | exact Rd.at_ 2 rfl rfl | exact Rd.at_ 3 rfl rfl | exact Rd.at_ 4 rfl rfl | exact Rd.at_ 5 rfl rfl | exact Rd.at_ 6 rfl rfl | exact Rd.at_ 7 rfl rfl | exact Rd.at_ 8 rfl rfl | exact Rd.at_ 9 rfl rfl | exact Rd.at_ 10 rfl rfl | exact Rd.at_ 11 rfl rfl) h | exact fun _ _ h => Nx.loads rfl rfl rfl rfl (by first | exact Rds.at_ 0 rfl | exact Rds.at_ 1 rfl | exact Rds.at_ 2 rfl | exact Rds.at_ 3 rfl | exact Rds.at_ 4 rfl | exact Rds.at_ 5 rfl | exact Rds.at_ 6 rfl | exact Rds.at_ 7 rfl | exact Rds.at_ 8 rfl | exact Rds.at_ 9 rfl | exact Rds.at_ 10 rfl | exact Rds.at_ 11 rfl) rfl h) | ((with_reducible apply OpTo.is_bin); first | exact fun _ _ h => Nx.add rfl rfl (by unfold I64; omega) rfl h | exact fun _ _ h => Nx.sub rfl rfl (by unfold I64; omega) rfl h | exact fun _ _ h => Nx.mul rfl rfl (by unfold I64; omega) rfl h | exact fun _ _ h => Nx.rem rfl rfl (by omega) (by omega) rfl h | exact fun _ _ h => Nx.quo rfl rfl (by omega) (by omega) (by unfold I64; omega) rfl h) | ((with_reducible apply OpTo.is_conv); first | exact fun _ _ h => Nx.conv_i64 rfl rfl rfl (by unfold I64; omega) rfl h) | ((with_reducible apply OpTo.is_un); first | exact fun _ _ h => Nx.not_dec rfl rfl h | exact fun _ _ h => Nx.neg rfl (by unfold I64; omega) rfl h) | ((with_reducible apply OpTo.is_build); first | exact fun _ _ h => Nx.build rfl rfl (by kernel_rfl) rfl h) | ((with_reducible apply OpTo.is_store); first | exact fun _ _ h => Nx.store_blk 0 rfl rfl rfl rfl rfl rfl rfl h | exact fun _ _ h => Nx.store_blk 1 rfl rfl rfl rfl rfl rfl rfl h | exact fun _ _ h => Nx.store_blk 2 rfl rfl rfl rfl rfl rfl rfl h | exact fun _ _ h => Nx.store_blk 3 rfl rfl rfl rfl rfl rfl rfl h | exact fun _ _ h => Nx.store_blk 4 rfl rfl rfl rfl rfl rfl rfl h | exact fun _ _ h => Nx.store_blk 5 rfl rfl rfl rfl rfl rfl rfl h | exact fun _ _ h => Nx.store_blk 6 rfl rfl rfl rfl rfl rfl rfl h | exact fun _ _ h => Nx.store_blk 7 rfl rfl rfl rfl rfl rfl rfl h | exact fun _ _ h => Nx.store_blk 8 rfl rfl rfl rfl rfl rfl rfl h | exact fun _ _ h => Nx.store_blk 9 rfl rfl rfl rfl rfl rfl rfl h | exact fun _ _ h => Nx.store_blk 10 rfl rfl rfl rfl rfl rfl rfl h | exact fun _ _ h => Nx.store_blk 11 rfl rfl rfl rfl rfl rfl rfl h | exact fun _ _ h => Nx.store_ints 0 rfl rfl rfl rfl (by omega) h | exact fun _ _ h => Nx.store_ints 1 rfl rfl rfl rfl (by omega) h | exact fun _ _ h => Nx.store_ints 2 rfl rfl rfl rfl (by omega) h | exact fun _ _ h => Nx.store_ints 3 rfl rfl rfl rfl (by omega) h) | ((with_reducible apply OpTo.is_call); first | exact fun _ _ h => Nx.min2 rfl rfl rfl h | exact fun _ _ h => Nx.max2 rfl rfl rfl h) | exact fun _ _ h => Nx.makeFunc rfl rfl rfl h | exact fun _ _ h => Nx.fieldAddr rfl rfl rfl h) : Nx C e I R (opK C.P o K Q):=s K Q h
theorem Nx.sb {e1 : Nat → Env} {r1 : Nat → List Res} (h : ∀ b,Nx C (e1 b) I (r1 b) K) (s : OpToB C o e I R e1 r1:=by first | ((with_reducible apply OpToB.is_box); first | exact fun _ _ h => Nx.box_agg rfl rfl h | exact fun _ _ h => Nx.box1 rfl rfl rfl h) | ((with_reducible apply OpToB.is_alloc); first | exact fun _ _ h => Nx.alloc rfl rfl h) | ((with_reducible apply OpToB.is_lit); first | exact fun _ _ h => Nx.buildSlice0 rfl rfl rfl h | exact fun _ _ h => Nx.buildSlice rfl rfl rfl rfl rfl rfl rfl rfl rfl h) | exact fun _ _ h => Nx.makeInts rfl rfl rfl rfl rfl rfl rfl rfl (by omega) h) : Nx C e I R (opK C.P o K Q):=s K Q h
theorem Nx.sa {e1 : Option Addr → Nat → Env} {r1 : Option Addr → Nat → List Res} (h : ∀ A c,Nx C (e1 A c) I (r1 A c) K) (s : OpToA C o e I R e1 r1:=by first | ((with_reducible apply OpToA.is_append); first | exact fun _ _ h => Nx.append_lit 0 rfl rfl rfl rfl (by kernel_rfl) rfl rfl rfl rfl (by omega) h | exact fun _ _ h => Nx.append_lit 1 rfl rfl rfl rfl (by kernel_rfl) rfl rfl rfl rfl (by omega) h | exact fun _ _ h => Nx.append_lit 2 rfl rfl rfl rfl (by kernel_rfl) rfl rfl rfl rfl (by omega) h | exact fun _ _ h => Nx.append_lit 3 rfl rfl rfl rfl (by kernel_rfl) rfl rfl rfl rfl (by omega) h | exact fun _ _ h => Nx.append_lit 4 rfl rfl rfl rfl (by kernel_rfl) rfl rfl rfl rfl (by omega) h) ) : Nx C e I R (opK C.P o K Q):=s K Q h
theorem QRun.std {S : World → Prop} (s : QRun C e S o v:=by first | exact QRun.load rfl rfl (by first | exact Rd.at_ 0 rfl rfl | exact Rd.at_ 1 rfl rfl | exact Rd.at_ 2 rfl rfl | exact Rd.at_ 3 rfl rfl | exact Rd.at_ 4 rfl rfl | exact Rd.at_ 5 rfl rfl | exact Rd.at_ 6 rfl rfl | exact Rd.at_ 7 rfl rfl | exact Rd.at_ 8 rfl rfl | exact Rd.at_ 9 rfl rfl | exact Rd.at_ 10 rfl rfl | exact Rd.at_ 11 rfl rfl) | exact QRun.loads rfl rfl rfl (by first | exact Rds.at_ 0 rfl | exact Rds.at_ 1 rfl | exact Rds.at_ 2 rfl | exact Rds.at_ 3 rfl | exact Rds.at_ 4 rfl | exact Rds.at_ 5 rfl | exact Rds.at_ 6 rfl | exact Rds.at_ 7 rfl | exact Rds.at_ 8 rfl | exact Rds.at_ 9 rfl | exact Rds.at_ 10 rfl | exact Rds.at_ 11 rfl) rfl | exact QRun.add rfl rfl (by unfold I64; omega) | exact QRun.sub rfl rfl (by unfold I64; omega) | exact QRun.mul rfl rfl (by unfold I64; omega) | exact QRun.rem rfl rfl (by omega) (by omega) | exact QRun.quo rfl rfl (by omega) (by omega) (by unfold I64; omega) | exact QRun.conv_i64 rfl rfl rfl (by unfold I64; omega) | exact QRun.build rfl rfl (by kernel_rfl) | exact QRun.min2 rfl rfl | exact QRun.max2 rfl rfl) : QRun C e S o v:=s
def Adv (C : Cx) (e : Env) (I : PH) (R : List Res) (K : Act → World → Prop) (e1 : Env) (r1 : List Res) (K1 : Act → World → Prop) : Prop:=Nx C e1 I r1 K1 → Nx C e I R K
theorem Adv.is_at {e1 : Env} {r1 : List Res} {ops : Array Oper} {i : Nat} (h : Adv C e I R (wpAt C.P ops Q i) e1 r1 K') : Adv C e I R (wpAt C.P ops Q i) e1 r1 K':=h
theorem Adv.is_wp {e1 : Env} {r1 : List Res} {c : Code} (h : Adv C e I R (c.wp C.P Q) e1 r1 K') : Adv C e I R (c.wp C.P Q) e1 r1 K':=h
theorem Adv.is_mix {e1 : Env} {r1 : List Res} {ops : Array Oper} {S : World → Prop} {l r : List Nat} (h : Adv C e I R (wpMix C.P ops Q S l r) e1 r1 K') : Adv C e I R (wpMix C.P ops Q S l r) e1 r1 K':=h
theorem Adv.is_mixS {e1 : Env} {r1 : List Res} {S : World → Prop} (h : Adv C e I R (fun a w => S w ∧ K a w) e1 r1 K') : Adv C e I R (fun a w => S w ∧ K a w) e1 r1 K':=h
theorem Nx.a {e1 : Env} {r1 : List Res} (h : Nx C e1 I r1 K') (s : Adv C e I R K e1 r1 K':=by first | exact fun h => Nx.at_no rfl rfl rfl rfl rfl rfl h | exact fun h => Nx.at_noU rfl rfl rfl rfl rfl rfl h | exact fun h => Nx.at_noU0 rfl rfl rfl rfl rfl h | exact fun h => Nx.at_endt rfl h | exact fun h => Nx.at_no0 rfl rfl rfl rfl rfl h | exact fun h => Nx.at_end rfl h) : Nx C e I R K:=s h
theorem Nx.w {e1 : Env} {r1 : List Res} (h : Nx C e1 I r1 K') (s : Adv C e I R K e1 r1 K':=by first | exact fun h => Nx.p_seq rfl h | exact fun h => Nx.p_region rfl h | exact fun h => Nx.p_ret rfl h | exact fun h => Nx.p_skip rfl h | exact fun h => Nx.p_exit rfl rfl h | exact fun h => Nx.p_block rfl rfl h | exact fun h => Nx.p_t rfl rfl h | exact fun h => Nx.p_f rfl rfl h | exact fun h => Nx.p_label rfl h) : Nx C e I R K:=s h
theorem Nx.wo {e1 : Env} {r1 : List Res} (h : Nx C e1 I r1 K') (s : Adv C e I R K e1 r1 K':=by first | exact fun h => Nx.p_seq rfl h | exact fun h => Nx.p_region rfl h | exact fun h => Nx.p_ret rfl h | exact fun h => Nx.p_skip rfl h | exact fun h => Nx.p_exit rfl rfl h | exact fun h => Nx.p_block rfl rfl h | exact fun h => Nx.p_t rfl rfl h | exact fun h => Nx.p_f rfl rfl h | exact fun h => Nx.p_label rfl h | exact fun h => Nx.p_dec_t rfl rfl (by omega) h | exact fun h => Nx.p_dec_f rfl rfl (by omega) h) : Nx C e I R K:=s h
theorem Nx.m {e1 : Env} {r1 : List Res} (h : Nx C e1 I r1 K') (s : Adv C e I R K e1 r1 K':=by first | exact fun h => Nx.mix_nil_then h | exact fun h => Nx.mix_nil h | exact fun h => Nx.m_quiet_no rfl rfl rfl rfl rfl rfl rfl h | exact fun h => Nx.m_loud_no rfl rfl rfl rfl rfl rfl rfl h | exact fun h => Nx.m_quiet_noU rfl rfl rfl rfl rfl rfl rfl h | exact fun h => Nx.m_loud_noU rfl rfl rfl rfl rfl rfl rfl h | exact fun h => Nx.m_quiet rfl rfl rfl rfl rfl (by first | exact QRun.opr rfl | exact QRun.std) h | exact fun h => Nx.m_quiet_do rfl rfl rfl rfl rfl rfl rfl (by first | exact QRun.opr rfl | exact QRun.std) h) : Nx C e I R K:=s h
theorem Nx.ex {e1 : Env} {r1 : List Res} (h : Nx C e1 I r1 K') (s : Adv C e I R K e1 r1 K':=by first | exact fun h => Nx.then_ret h | exact fun h => Nx.in_ret h | exact fun h => Nx.then_normal h | exact fun h => Nx.in_normal h | exact fun h => Nx.then_exit h | exact fun h => Nx.in_exit h | exact fun h => Nx.in_other rfl h | exact fun h => Nx.mix_T h | ((with_reducible apply Adv.is_mixS); exact fun h => Nx.mix_S (by first | exact Ent.refl _ | exact Ent.drop (Ent.refl _) | exact Ent.drop (Ent.drop (Ent.refl _)) | exact Ent.drop (Ent.drop (Ent.drop (Ent.refl _))) | exact Ent.nil _ | (repeat first | exact Ent.refl _ | exact Ent.nil _ | refine Ent.pick 0 rfl ?_ | refine Ent.pick 1 rfl ?_ | refine Ent.pick 2 rfl ?_ | refine Ent.pick 3 rfl ?_ | refine Ent.pick 4 rfl ?_ | refine Ent.pick 5 rfl ?_ | refine Ent.pick 6 rfl ?_ | refine Ent.pick 7 rfl ?_ | refine Ent.pick 8 rfl ?_)) h)) : Nx C e I R K:=s h
end
end Go.Eng
namespace Go.Eng
section
variable {C : Cx} {e : Env} {I : PH} {R : List Res} {K K' : Act → World → Prop} {e1 : Env} {r1 : List Res} {c1 c2 k1 k2 : Prop}
theorem Nx.zo (h : Nx C e1 I r1 K') (s : Adv C e I R K e1 r1 K':=by first | exact fun h => Nx.at_op rfl rfl h | exact fun h => Nx.m_loud rfl rfl rfl h | exact fun h => Nx.at_do rfl rfl rfl rfl h | exact fun h => Nx.m_loud_do rfl rfl rfl rfl rfl h) : Nx C e I R K:=s h
theorem Nx.zd (h : Nx C e1 I r1 K') (s : Adv C e I R K e1 r1 K':=by (fail_if_success exact fun h => Nx.at_do rfl rfl rfl rfl h); first | exact fun h => Nx.at_dec_t rfl rfl rfl rfl (by first | assumption | omega) h | exact fun h => Nx.at_dec_f rfl rfl rfl rfl (by first | assumption | omega) h) : Nx C e I R K:=s h
theorem Nx.zm (h : Nx C e1 I r1 K') (s : Adv C e I R K e1 r1 K':=by (fail_if_success refine fun h => Nx.m_quiet_do rfl rfl rfl rfl rfl rfl rfl ?_ h); (fail_if_success exact fun h => Nx.m_loud_do rfl rfl rfl rfl rfl h); first | exact fun h => Nx.m_dec_t rfl rfl rfl rfl (by first | assumption | omega) h | exact fun h => Nx.m_dec_f rfl rfl rfl rfl (by first | assumption | omega) h) : Nx C e I R K:=s h
theorem Nx.zx (h : Nx C e1 I r1 K') (s : Adv C e I R K e1 r1 K':=by (fail_if_success (with_reducible apply Adv.is_at)); (fail_if_success (with_reducible apply Adv.is_wp)); (fail_if_success (with_reducible apply Adv.is_mix)); first | exact fun h => Nx.ex h) : Nx C e I R K:=s h
theorem Nx.zp (h1 : c1 → k1) (h2 : c2 → k2) (s : (c1 → k1) → (c2 → k2) → Nx C e I R K:=by first | exact fun a b => Nx.p_dec rfl rfl a b | exact fun a b => Nx.p_bool rfl rfl a b) : Nx C e I R K:=s h1 h2
theorem Nx.zs (h1 : c1 → k1) (h2 : c2 → k2) (s : (c1 → k1) → (c2 → k2) → Nx C e I R K:=by (fail_if_success refine fun _ _ => Nx.at_do rfl rfl rfl rfl ?_); first | exact fun a b => Nx.at_split rfl rfl rfl rfl a b | exact fun a b => Nx.at_splitb rfl rfl rfl rfl a b) : Nx C e I R K:=s h1 h2
theorem Nx.zt (h1 : c1 → k1) (h2 : c2 → k2) (s : (c1 → k1) → (c2 → k2) → Nx C e I R K:=by (fail_if_success refine fun _ _ => Nx.m_quiet_do rfl rfl rfl rfl rfl rfl rfl ?_ ?_); (fail_if_success refine fun _ _ => Nx.m_loud_do rfl rfl rfl rfl rfl ?_); first | exact fun a b => Nx.m_split rfl rfl rfl rfl a b | exact fun a b => Nx.m_splitb rfl rfl rfl rfl a b) : Nx C e I R K:=s h1 h2
theorem Nx.za (h : Nx C e1 I r1 K') (s : Adv C e I R K e1 r1 K':=by (with_reducible apply Adv.is_at); first | exact fun h => Nx.a h | ((fail_if_success exact fun h => Nx.at_do rfl rfl rfl rfl h); first | exact fun h => Nx.at_dec_t rfl rfl rfl rfl (by first | assumption | omega) h | exact fun h => Nx.at_dec_f rfl rfl rfl rfl (by first | assumption | omega) h)) : Nx C e I R K:=s h
theorem Nx.zr (h1 : c1 → k1) (h2 : c2 → k2) (s : (c1 → k1) → (c2 → k2) → Nx C e I R K:=by (refine fun a b => ?_); (with_reducible refine Nx.is_at ?_); (fail_if_success refine Nx.at_do rfl rfl rfl rfl ?_); first | exact Nx.at_split rfl rfl rfl rfl a b | exact Nx.at_splitb rfl rfl rfl rfl a b) : Nx C e I R K:=s h1 h2
theorem Nx.zq (h : Nx C e1 I r1 K') (s : Adv C e I R K e1 r1 K':=by (with_reducible apply Adv.is_mix); first | exact fun h => Nx.m h | ((fail_if_success refine fun h => Nx.m_quiet_do rfl rfl rfl rfl rfl rfl rfl ?_ h); (fail_if_success exact fun h => Nx.m_loud_do rfl rfl rfl rfl rfl h); first | exact fun h => Nx.m_dec_t rfl rfl rfl rfl (by first | assumption | omega) h | exact fun h => Nx.m_dec_f rfl rfl rfl rfl (by first | assumption | omega) h)) : Nx C e I R K:=s h
theorem Nx.zu (h1 : c1 → k1) (h2 : c2 → k2) (s : (c1 → k1) → (c2 → k2) → Nx C e I R K:=by (refine fun a b => ?_); (with_reducible refine Nx.is_mix ?_); (fail_if_success refine Nx.m_quiet_do rfl rfl rfl rfl rfl rfl rfl ?_ ?_); (fail_if_success refine Nx.m_loud_do rfl rfl rfl rfl rfl ?_); first | exact Nx.m_split rfl rfl rfl rfl a b | exact Nx.m_splitb rfl rfl rfl rfl a b) : Nx C e I R K:=s h1 h2
theorem PanicOk.auto {Q : Exit → Act → World → Prop} (h : PanicOk Q:=by repeat first | exact PanicOk.fn | refine PanicOk.then_ ?_ | refine PanicOk.inB ?_) : PanicOk Q:=h
end
end Go.Eng
namespace Go.Eng
section
variable {C : Cx} {e : Env} {I : PH} {R : List Res} {K K' : Act → World → Prop} {e1 : Env} {r1 : List Res} {c1 c2 k1 k2 : Prop}
theorem kG (h : Nx C e1 I r1 K') (s : Adv C e I R K e1 r1 K':=by first | ((with_reducible apply Adv.is_wp); exact fun h => Nx.wo h) | exact fun h => Nx.za h | exact fun h => Nx.zq h | exact fun h => Nx.zx h) : Nx C e I R K:=s h
theorem kX (h1 : c1 → k1) (h2 : c2 → k2) (s : (c1 → k1) → (c2 → k2) → Nx C e I R K:=by (refine fun a b => ?_); first | ((with_reducible refine Nx.is_wp ?_); first | exact Nx.p_dec rfl rfl a b | exact Nx.p_bool rfl rfl a b) | exact Nx.zr a b | exact Nx.zu a b) : Nx C e I R K:=s h1 h2
theorem o1 (h : Nx C e1 I r1 K') (s : Adv C e I R K e1 r1 K':=by (refine fun h => ?_); (refine Nx.zo ?_); first | exact Nx.opr rfl rfl h | exact Nx.so h) : Nx C e I R K:=s h
theorem kS (h : Nx C e1 I r1 K') (s : Adv C e I R K e1 r1 K':=by first | ((with_reducible apply Adv.is_wp); exact fun h => Nx.wo h) | exact fun h => o1 h | exact fun h => Nx.za h | exact fun h => Nx.zq h | exact fun h => Nx.zx h) : Nx C e I R K:=s h
theorem kW (h : Nx C e1 I r1 K') (s : Adv C e I R K e1 r1 K':=by (with_reducible apply Adv.is_wp); exact fun h => Nx.wo h) : Nx C e I R K:=s h
theorem kB {e1 : Nat → Env} {r1 : Nat → List Res} (h : ∀ b,Nx C (e1 b) I (r1 b) K') (s : (∀ b,Nx C (e1 b) I (r1 b) K') → Nx C e I R K:=by (refine fun h => ?_); (refine Nx.zo ?_); exact Nx.sb h) : Nx C e I R K:=s h
theorem kA {e1 : Option Addr → Nat → Env} {r1 : Option Addr → Nat → List Res} (h : ∀ A c,Nx C (e1 A c) I (r1 A c) K') (s : (∀ A c,Nx C (e1 A c) I (r1 A c) K') → Nx C e I R K:=by (refine fun h => ?_); (refine Nx.zo ?_); exact Nx.sa h) : Nx C e I R K:=s h
end
section
variable {C : Cx} {e : Env} {I : PH} {R : List Res} {K : Act → World → Prop} {Q : Exit → Act → World → Prop} {d : Nat} {ty : TypeId} {pos : String} {after : Array Edge} {g : Option (Nat × Bool)}
theorem kV {P : Program} {fx : Operand} {args : Array Operand} {tys : Array TypeId} {f : FuncId} {c1 c2 : Array Value} {vs al : List Value} {V : Value}
  (hs : FnSpec P f al I [] (fun v R' => v = V ∧ R' = [])) (h : Nx C ((d,V) :: e) I R K) (hP : P = C.P:=by exact rfl)
  (hfx : evo e fx = some (.func (.func f) c1 c2):=by exact rfl) (hvs : evs e args.toList = some vs:=by exact rfl) (hal : c1.toList ++ vs ++ c2.toList = al:=by exact rfl) (hc : callable C.P f = true:=by kernel_rfl) (hlt : Nat.blt d C.n = true:=by exact rfl) : Nx C e I R (opK C.P ⟨some d,.call { callee:=.value fx,args,argTypes:=tys },ty,pos,after,g⟩ K Q) :=
 Nx.callv hfx hvs hal hc hlt (hP ▸ hs) h
theorem kC {P : Program} {fx : Operand} {args : Array Operand} {tys : Array TypeId} {f : FuncId} {c1 c2 : Array Value} {vs al : List Value} {Post : Value → List Res → Prop}
  (hs : FnSpec P f al I [] Post) (h : ∀ v R',Post v R' → Nx C ((d,v) :: e) I (R' ++ R) K) (hP : P = C.P:=by exact rfl)
  (hfx : evo e fx = some (.func (.func f) c1 c2):=by exact rfl) (hvs : evs e args.toList = some vs:=by exact rfl) (hal : c1.toList ++ vs ++ c2.toList = al:=by exact rfl) (hc : callable C.P f = true:=by kernel_rfl) (hlt : Nat.blt d C.n = true:=by exact rfl) : Nx C e I R (opK C.P ⟨some d,.call { callee:=.value fx,args,argTypes:=tys },ty,pos,after,g⟩ K Q) :=
 Nx.call (Rpre:=[]) hfx hvs hal hc hlt (hP ▸ hs) (Ent.refl _) h
theorem kQ {ops : Array Oper} {S : World → Prop} {loud r : List Nat} {k : Nat} {o : Oper} {v : Value} (ho : opAt ops.toList k = some o) (hl : loud.contains k = false) (hd : o.dst = some d) (hlt : Nat.blt d C.n = true) (hg : o.guard = none ∨ (∃ (j dj : Nat) (want : Bool),o.guard = some (j,want) ∧ (ops[j]?).bind (·.dst) = some dj ∧ lk e dj = some (.bool want)))
  (q : QRun C e S o v) (h : Nx C ((d,v) :: e) I R (wpMix C.P ops Q S loud r)) : Nx C e I R (wpMix C.P ops Q S loud (k :: r)):=by
 rcases hg with hg | ⟨j,dj,want,hg,hdj,hb⟩
 ·exact Nx.m_quiet ho hl hg hd hlt q h
 ·exact Nx.m_quiet_do ho hl hg hdj hb hd hlt q h
theorem kD {c : Code} (id : Nat) (ord loud : List Nat) (h : Nx C e I R (wpMix C.P (cops c) Q (St C.W I R) loud ord)) (hid : cid c = id:=by exact rfl) (hk : ck c = 2:=by exact rfl) (hm : C.P.follows .mixedOrders = true:=by exact rfl) (hs : Region.noSelect (cops c) = true:=by kernel_rfl) (hok : mixOk (cops c) loud ord (Array.replicate (cops c).size false) = true:=by kernel_rfl) (hlen : Nat.ble ord.length (cops c).size = true:=by exact rfl) (hQ : PanicOk Q:=by exact PanicOk.auto) : Nx C e I R (c.wp C.P Q):=Nx.p_draw hid ord loud R hk hm hs hok hlen hQ (Ent.refl _) h
theorem kP {K' : Act → World → Prop} {e1 : Env} {r1 : List Res} (h : Nx C e1 I r1 K') (s : Adv C e I R K e1 r1 K':=by (refine fun h => ?_); exact Nx.opr rfl rfl h) : Nx C e I R K:=s h
theorem kT {fn : Func} {F : Res} {Post : Value → List Res → Prop} {v : Value} (hv : resV e fn.results.toList = some v:=by exact rfl) (hp : Post v []:=by exact ⟨rfl,rfl⟩) (hR : Ent R ([] ++ [F]):=by exact zE) : Nx C e I R (fnPost C.P fn I F C.W Post .ret):=Nx.ret_fn hv [] hp hR
theorem zR {p : Prop} (h : p:=by repeat' first | exact trivial | exact rfl | apply And.intro) : p:=h
end
end Go.Eng

namespace Go.Eng
open Go.ChangeShapes Go.WideShapes Go.RowKit
theorem St.start (W : World) : St W (fun i => W.heap[i]?) ([] ++ [fun _ => True]) W :=
 ⟨⟨fun _ => none,⟨fun _ => none,fun _ => none,fun _ => .inl rfl,by funext i; rfl,trivial,trivial⟩,⟨fun _ _ h => h,fun _ _ h => (by cases h),fun _ => .inr rfl⟩⟩,Still.refl W⟩
theorem FnSpec.below {P : Program} {f : FuncId} {args : List Value} {W : World} {Post : Value → List Res → Prop} (h : FnSpec P f args (fun i => W.heap[i]?) [] Post) :
  Calls P f args.toArray W fun e w' => (∃ v R',e = .returned v ∧ Post v R') ∧ Below W.heap.size W w':=by
 refine (h W (fun _ => True) (St.start W)).mono fun e w' => ?_
 rintro ⟨v,R',he,hp,⟨⟨m,hm,hs⟩,hst⟩⟩
 refine ⟨⟨v,R',he,hp⟩,⟨hst.os,hst.tape,hst.output,hst.size,fun k hk => ?_⟩⟩
 have hk' : W.heap[k]? = some W.heap[k]:=Array.getElem?_eq_getElem hk
 rw [hk']
 exact hs.imm k _ hk'
theorem FnSpec.isTrue {P : Program} {f : FuncId} {args : List Value} {W : World} (h : FnSpec P f args (fun i => W.heap[i]?) [] (fun v R' => v = .bool true ∧ R' = [])) :
  Calls P f args.toArray W fun e w' => e = .returned (.bool true) ∧ Below W.heap.size W w':=by
 refine h.below.mono fun e w' => ?_
 rintro ⟨⟨v,R',rfl,rfl,_⟩,hb⟩
 exact ⟨rfl,hb⟩
end Go.Eng
namespace Go.Eng
open Go.ChangeShapes Go.WideShapes Go.RowKit
section
variable {H : Type} {enc : TypeId × Value → H} {P : Program}
theorem post_of_below {f : Func} {s : ChangeSpec} {apart fresh handsOn again : Bool} {W W' : World} {args : Array Value} {v : Value} {ds gs : List (DataW H)} {before pa pv : List MemPlace}
  (hW : DataW.Whole enc P f.params.toList s.vars apart W args.toList ds gs before)
  (hres : ∀ (b : Nat) (sp : Nat → Bool) (hd : Bool),DataW.TrodAll enc P W' b sp hd f.resultTypes.toList (v.resultList f.resultTypes.size) (s.fn H (ds ++ gs)).results [])
  (hargs : ∀ sp : Nat → Bool,(∀ p ∈ before,sp p.block = true) → DataW.TrodAll enc P W' 0 sp true f.params.toList args.toList (s.fn H (ds ++ gs)).args pa)
  (hvars : ∀ sp : Nat → Bool,(∀ p ∈ before,sp p.block = true) → DataW.TrodVars enc P W' sp s.vars (s.fn H (ds ++ gs)).vars pv)
  (hps : before = pa ++ pv) (hb : Below W.heap.size W W')
  (hok : ∀ (j : Nat) (t : TypeId) (r : Value),f.resultTypes[j]? = some t → (v.resultList f.resultTypes.size)[j]? = some r → Value.okWide P W' .any 0 t r) :
  s.post enc P f apart fresh handsOn again W args v W':=by
 have hlt : ∀ p ∈ before,p.block < W.heap.size:=fun p hp => hW.lt p hp
 have hold : ∀ p ∈ before,(fun b => decide (b < W.heap.size)) p.block = true:=fun p hp => by simpa using hlt p hp
 refine ⟨ds,gs,before,[],pa,pv,hW,hres _ _ _,hargs _ hold,hvars _ hold,World.keptBut_mono (fun p hp => ⟨hp,?_⟩) (hb.frame (· ∈ before)),fun _ => ?_⟩
 ·rw [hps,List.mem_append] at hp
  exact Or.inr hp
 ·obtain ⟨_,_,_,_,_,hz,hn⟩:=hW
  refine ⟨hok,_,_,([] ++ pa) ++ pv,⟨[] ++ pa,pv,trodAll_append (hargs _ (fun _ _ => rfl)) (hres _ _ _),hvars _ (fun _ _ => rfl),rfl,?_,?_⟩,?_⟩
  ·intro b off hp
   have hin : MemPlace.cell b off ∈ before:=by rw [hps]; simpa using hp
   rw [hb.frozen (hlt _ hin)]
   exact hz b off hin
  ·intro ha
   have:=hn ha
   rw [hps] at this
   simpa using this
  ·intro p hp _
   rw [hps]
   simpa using hp
theorem trodAll_below (hl : laidOutB P = true) {W W' : World} (hb : Below W.heap.size W W') {sp : Nat → Bool} : ∀ {ts : List TypeId} {vs : List Value} {ds : List (DataW H)} {ps : List MemPlace},
  (ts.all fun t => P.readableRec t && decide (t < P.types.size)) = true → DataW.TrodAll enc P W 0 (fun _ => true) true ts vs ds ps → (∀ x ∈ ps,x.block < W.heap.size) → (∀ x ∈ ps,sp x.block = true) → DataW.TrodAll enc P W' 0 sp true ts vs ds ps
 | [],vs,ds,ps,_,h,_,_ => by
  obtain ⟨rfl,rfl,rfl⟩:=trodAll_nil h
  exact trodAll_mk0
 | t :: ts,vs,ds,ps,ht,h,hlt,hsp => by
  simp only [List.all_cons,Bool.and_eq_true,decide_eq_true_eq] at ht
  obtain ⟨v,vs',d,ds',p,q,rfl,rfl,rfl,h1,h2⟩:=trodAll_cons h
  exact trodAll_cons_mk (WideElems.Trod_stays hl ht.1.1 ht.1.2 h1 (fun x hx => hb.same (hlt x (by simp [hx]))) (fun x hx => hsp x (by simp [hx])))
   (trodAll_below hl hb (by simpa [Bool.and_eq_true] using ht.2) h2 (fun x hx => hlt x (by simp [hx])) (fun x hx => hsp x (by simp [hx])))
theorem open_list {W : World} {base : Nat} {t el : TypeId} {k : IntKind} {v : Value} {d : DataW H} {ps : List MemPlace} {sp : Nat → Bool} (ht : P.underlying t = some (.slice el)) (he : P.underlying el = some (.int k)) (hc : P.cellsOf el = 1)
  (hval : Value.okWide P W .any base t v) (h : DataW.Trod enc P W 0 sp true t v d ps) :
  ∃ A c l,v = .slice A l.length c ∧ SliceOf (fun x => Value.int k x) (fun i => W.heap[i]?) A c l ∧ ∀ x ∈ l,(Lit.int k x).wf = true:=by
 obtain ⟨A,n,c,rfl⟩:=okWide_slice ht hval
 obtain ⟨fuel,hf⟩:=h
 rcases ChangeShapes.open_ints ht he hc hf with ⟨hcs,hx⟩ | ⟨a,len,cap,zs,hcs,_,hle,hm,hz,hx,hcell,hwz⟩
 ·simp [Value.cells] at hcs
  obtain ⟨rfl,rfl,rfl⟩:=hcs
  exact ⟨none,0,[],rfl,SliceOf.nil,by simp⟩
 ·simp [Value.cells] at hcs
  obtain ⟨rfl,rfl,rfl⟩:=hcs
  have hzl : n ≤ zs.length:=by rw [hz]; split <;> omega
  have hlen : (zs.take n).length = n:=by rw [lTk]; omega
  refine ⟨some a,c,zs.take n,by rw [hlen],⟨fun j u hj => ⟨rfl,?_⟩,by rw [hlen]; exact hle,hm⟩,fun x hx => hwz x (List.mem_of_mem_take hx)⟩
  rw [gMp,List.getElem?_take] at hj
  split at hj
  ·rename_i hjn
   have:=hcell j (by omega)
   rw [gEq (by omega)] at hj
   simp at hj
   rw [gEl,gEq (by omega)] at this
   rw [← hj]
   exact this
  ·simp at hj
end
end Go.Eng
namespace Go.Proofs.YtpcnapidlhpbkaaGreatDoor
open Go.Eng
attribute [local irreducible] opK wpList Code.wp Exit.then Exit.inBlock fnPost bodyPost Nx Calls Oper.wp Rd Rds Wr Ent Stars Blk Again Vec FnSpec wpMix QRun Stop Upto wpAt
theorem New_spec (A : Option Addr) (c : Nat) (l : List Int) (I : PH) (hl : SliceOf (fun x : Int => Value.int .u8 x) I A c l) :
  FnSpec Tryz.prog 10 [.slice A l.length c] I [] (fun v R' => ∃ b,v = .pointer (some ⟨b,0,none⟩) ∧ R' = [Blk b 83 [.slice A (l.take 400).length c,.int .i64 0]]):=by
 have hlen:=hl.len
 have hcap:=hl.cap
 have e1 : (min (l.length : Int) 400) = ((min l.length 400 : Nat) : Int):=by omega
 have e2 : (l.take 400).length = min l.length 400:=by rw [lTk]; omega
 refine FnSpec.enterP Tryz.func10 rfl Tryz.ntmps10 rfl fun w F => ?_
 repeat' first | refine kS ?_ | refine kB fun bx => ?_ | refine kA fun A2 c2 => ?_ | refine kX (fun hc => ?_) fun hc => ?_ | fail
 rw [e1]
 repeat' first | refine kW ?_ | (refine Nx.zo ?_; first | refine kP ?_ | refine Nx.slice_hi rfl rfl rfl rfl rfl (by omega) ?_) | refine kS ?_ | refine kB fun bx => ?_ | refine kA fun A2 c2 => ?_ | refine kX (fun hc => ?_) fun hc => ?_ | fail
 rw [e2]
 exact Nx.ret_fn rfl [_] ⟨_,rfl,rfl⟩ (by exact zE)
theorem Next_spec (b : Nat) (A : Option Addr) (c : Nat) (l : List Int) (k : Nat) (n : Int) (I : PH) (hl : SliceOf (fun x : Int => Value.int .u8 x) I A c l) (hx : ∀ x ∈ l,0 ≤ x ∧ x < 256) (hk : k ≤ l.length) (hn : 1 ≤ n ∧ n ≤ 1000000) :
  FnSpec Tryz.prog 13 [.pointer (some ⟨b,0,none⟩),.int .i64 n] I [Blk b 83 [.slice A l.length c,.int .i64 (k : Int)]]
   (fun v R' => ∃ (r : Int) (k' : Nat),v = .int .i64 r ∧ (0 ≤ r ∧ r < n) ∧ k' ≤ l.length ∧ R' = [Blk b 83 [.slice A l.length c,.int .i64 (k' : Int)]]):=by
 have hlen:=hl.len
 refine FnSpec.enterP Tryz.func13 rfl Tryz.ntmps13 rfl fun w F => ?_
 have hget : ∀ j : Nat,j < l.length → 0 ≤ l.getD j default ∧ l.getD j default < 256:=fun j h => hx _ (by rw [gEl,gEq h]; exact List.getElem_mem _)
 have hg1 : 0 < l.length - k → 0 ≤ l.getD ((k : Int) + 1 - 1).toNat default ∧ l.getD ((k : Int) + 1 - 1).toNat default < 256:=fun h => hget _ (by omega)
 have hg2 : 0 < l.length - (k + 1) → 0 ≤ l.getD ((k : Int) + 1).toNat default ∧ l.getD ((k : Int) + 1).toNat default < 256:=fun h => hget _ (by omega)
 repeat' first | ((with_reducible refine Nx.is_wp ?_); first | refine Nx.wo ?_ | refine kD 1 [0,1,2,3,4,5,6,7,8,9,10,11,12,13] [] ?_ | refine kD 4 [0,1,2,3,4,5,6,7,8,9,10,11,12] [] ?_ | refine kD 5 [0,1,2,3,4,5,6,7,8,9,10,11,12,13] [] ?_ | refine kD 6 [0,1,2,3,4,5,6,7,8,9,10,11,12,13,14] [] ?_) | refine kS ?_ | refine kB fun bx => ?_ | refine kA fun A2 c2 => ?_ | ((with_reducible refine Nx.is_mix ?_); refine kQ rfl rfl rfl rfl (by first | exact .inl rfl | exact .inr ⟨_,_,_,rfl,rfl,rfl⟩) (by first | exact QRun.opr rfl | exact QRun.idxi rfl rfl rfl rfl (by omega) (by omega) (hl.isSome (by omega)) | exact QRun.load rfl rfl (hl.rd (by omega))) ?_) | refine kX (fun hc => ?_) fun hc => ?_ | fail
 ·exact Nx.ret_fn rfl [_] ⟨0,k,rfl,⟨by omega,by omega⟩,hk,rfl⟩ (Ent.refl _)
 ·exact Nx.ret_fn rfl [_] ⟨_,k + 2,rfl,⟨Int.emod_nonneg _ (by omega),Int.emod_lt_of_pos _ (by omega)⟩,by omega,by rw [show ((k + 2 : Nat) : Int) = (k : Int) + 1 + 1 by omega]⟩ (by exact zE)
 ·exact Nx.ret_fn rfl [_] ⟨_,k + 1,rfl,⟨Int.emod_nonneg _ (by omega),Int.emod_lt_of_pos _ (by omega)⟩,by omega,by rw [show ((k + 1 : Nat) : Int) = (k : Int) + 1 by omega]⟩ (by exact zE)
 ·exact Nx.ret_fn rfl [_] ⟨_,k + 1,rfl,⟨Int.emod_nonneg _ (by omega),Int.emod_lt_of_pos _ (by omega)⟩,by omega,by rw [show ((k + 1 : Nat) : Int) = (k : Int) + 1 by omega]⟩ (by exact zE)
def prod (l : List Int) : Int:=l.foldl (· * ·) 1
theorem prod_succ (l : List Int) (k : Nat) (hk : k < l.length) : prod (l.take (k + 1)) = prod (l.take k) * l.getD k default:=by
 unfold prod
 rw [tSu hk,List.foldl_append]
 simp [List.getD_eq_getElem?_getD,List.getElem?_eq_getElem hk]
structure Sizes (l : List Int) : Prop where
 dims : 1 ≤ l.length ∧ l.length ≤ 4
 each : ∀ x ∈ l,1 ≤ x ∧ x ≤ 8
 cells : prod l ≤ 48
theorem Sizes.at {l : List Int} (h : Sizes l) {k : Nat} (hk : k < l.length) : 1 ≤ l.getD k default ∧ l.getD k default ≤ 8:=h.each _ (by rw [gEl,gEq hk]; exact List.getElem_mem _)
theorem Sizes.some {l : List Int} (h : Sizes l) : ∀ k,k ≤ l.length → 1 ≤ prod (l.take k) ∧ prod (l.take k) ≤ 8 ^ k
 | 0,_ => by simp [prod]
 | k + 1,hk => by
  have ih:=h.some k (by omega)
  have hx:=h.at (k:=k) (by omega)
  rw [prod_succ l k (by omega)]
  refine ⟨?_,?_⟩
  ·have:=Int.mul_le_mul ih.1 hx.1 (by omega) (by omega)
   omega
  ·rw [Int.pow_succ]
   exact Int.mul_le_mul ih.2 hx.2 (by omega) (by omega)
theorem Sizes.bound {l : List Int} (h : Sizes l) {k : Nat} (hk : k ≤ l.length) : 1 ≤ prod (l.take k) ∧ prod (l.take k) ≤ 4096:=by
 have h1:=h.some k hk
 refine ⟨h1.1,Int.le_trans h1.2 ?_⟩
 have hd:=h.dims
 have : k = 0 ∨ k = 1 ∨ k = 2 ∨ k = 3 ∨ k = 4:=by omega
 rcases this with rfl | rfl | rfl | rfl | rfl <;> decide
theorem product_spec (A : Option Addr) (c : Nat) (l : List Int) (I : PH) (hl : Ints I A c l) (hs : Sizes l) :
  FnSpec Tryz.prog 136 [.slice A l.length c] I [] (fun v R' => v = .int .i64 (prod l) ∧ R' = []):=by
 have hlen:=hl.len
 refine FnSpec.enterP Tryz.func136 rfl Tryz.ntmps136 rfl fun w F => ?_
 repeat' first | refine kS ?_ | refine kB fun bx => ?_ | refine kA fun A2 c2 => ?_ | refine kX (fun hc => ?_) fun hc => ?_ | fail
 refine Nx.p_loop (σ:=Nat) (fun k => [(6,.slice A l.length c),(7,.int .i64 l.length),(8,.int .i64 (k : Int)),(3,.int .i64 (prod (l.take k)))])
  (fun _ => [F]) (fun k => k ≤ l.length) (fun k => l.length - k) 0 rfl (nZl _) zR (Ent.refl _) ?_
 intro k hk
 have hb:=hs.bound hk
 have hb1 : k < l.length → prod (l.take k) * l.getD k default ≤ 4096 ∧ 1 ≤ prod (l.take k) * l.getD k default:=fun h => by rw [← prod_succ l k h]; exact (hs.bound (by omega)).symm
 repeat' first | refine kW ?_ | (refine Nx.zo ?_; first | refine kP ?_ | refine Nx.indexAddr_nat rfl rfl rfl rfl rfl (by omega) (hl.isSome (by omega)) ?_ | refine Nx.load rfl rfl rfl (hl.rd (by omega)) ?_) | refine kS ?_ | refine kB fun bx => ?_ | refine kA fun A2 c2 => ?_ | refine kX (fun hc => ?_) fun hc => ?_ | fail
 ·exact Nx.again (k + 1) (by omega) (by omega) ⟨rfl,rfl,rfl,by rw [prod_succ l k (by omega)]; rfl,trivial⟩ (Ent.refl _)
 ·exact Nx.ret_fn rfl [] ⟨by rw [List.take_of_length_le (by omega)],rfl⟩ (Ent.refl _)
theorem Check_spec (A : Option Addr) (c : Nat) (l : List Int) (I : PH) (hl : Ints I A c l) (hs : Sizes l) :
  FnSpec Tryz.prog 122 [.agg #[.slice A l.length c]] I [] (fun v R' => v = .int .i64 0 ∧ R' = []):=by
 have hlen:=hl.len
 have hd:=hs.dims
 refine FnSpec.enterP Tryz.func122 rfl Tryz.ntmps122 rfl fun w F => ?_
 repeat' first | refine kS ?_ | refine kB fun bx => ?_ | refine kA fun A2 c2 => ?_ | refine kX (fun hc => ?_) fun hc => ?_ | fail
 refine Nx.p_loop (σ:=Nat) (fun k => [(17,.slice A l.length c),(18,.int .i64 l.length),(19,.int .i64 (k : Int)),(3,.int .i64 (prod (l.take k)))])
  (fun _ => [F]) (fun k => k ≤ l.length) (fun k => l.length - k) 0 rfl (nZl _) zR (by exact zE) ?_
 intro k hk
 have hb:=hs.bound hk
 have hb1 : k < l.length → prod (l.take k) * l.getD k default ≤ 4096 ∧ 1 ≤ prod (l.take k) * l.getD k default:=fun h => by rw [← prod_succ l k h]; exact (hs.bound (by omega)).symm
 have hx : k < l.length → 1 ≤ l.getD k default ∧ l.getD k default ≤ 8:=fun h => hs.at h
 have hf : l.length ≤ k → prod (l.take k) ≤ 48:=fun h => by rw [List.take_of_length_le h]; exact hs.cells
 repeat' first | refine kW ?_ | (refine Nx.zo ?_; first | refine kP ?_ | refine Nx.indexAddr_nat rfl rfl rfl rfl rfl (by omega) (hl.isSome (by omega)) ?_ | refine Nx.load rfl rfl rfl (hl.rd (by omega)) ?_) | refine kS ?_ | refine kB fun bx => ?_ | refine kA fun A2 c2 => ?_ | refine kX (fun hc => ?_) fun hc => ?_ | fail
 ·exact Nx.again (k + 1) (by omega) (by omega) ⟨rfl,rfl,rfl,by rw [prod_succ l k (by omega)]; rfl,trivial⟩ (Ent.refl _)
 ·exact Nx.ret_fn rfl [] ⟨rfl,rfl⟩ (Ent.refl _)
theorem RCheck_spec (A : Option Addr) (c : Nat) (l : List Int) (I : PH) (hl : Ints I A c l) (hs : Sizes l) :
  FnSpec Tryz.prog 65 [.agg #[.slice A l.length c]] I [] (fun v R' => v = .int .i64 0 ∧ R' = []):=by
 have hlen:=hl.len
 have hd:=hs.dims
 refine FnSpec.enterP Tryz.func65 rfl Tryz.ntmps65 rfl fun w F => ?_
 repeat' first | refine kS ?_ | refine kB fun bx => ?_ | refine kA fun A2 c2 => ?_ | refine kX (fun hc => ?_) fun hc => ?_ | fail
 refine Nx.p_loop (σ:=Nat) (fun k => [(17,.slice A l.length c),(18,.int .i64 l.length),(19,.int .i64 (k : Int)),(3,.int .i64 (prod (l.take k)))])
  (fun _ => [F]) (fun k => k ≤ l.length) (fun k => l.length - k) 0 rfl (nZl _) zR (by exact zE) ?_
 intro k hk
 have hb:=hs.bound hk
 have hb1 : k < l.length → prod (l.take k) * l.getD k default ≤ 4096 ∧ 1 ≤ prod (l.take k) * l.getD k default:=fun h => by rw [← prod_succ l k h]; exact (hs.bound (by omega)).symm
 have hx : k < l.length → 1 ≤ l.getD k default ∧ l.getD k default ≤ 8:=fun h => hs.at h
 have hf : l.length ≤ k → prod (l.take k) ≤ 48:=fun h => by rw [List.take_of_length_le h]; exact hs.cells
 repeat' first | refine kW ?_ | (refine Nx.zo ?_; first | refine kP ?_ | refine Nx.indexAddr_nat rfl rfl rfl rfl rfl (by omega) (hl.isSome (by omega)) ?_ | refine Nx.load rfl rfl rfl (hl.rd (by omega)) ?_) | refine kS ?_ | refine kB fun bx => ?_ | refine kA fun A2 c2 => ?_ | refine kX (fun hc => ?_) fun hc => ?_ | fail
 ·exact Nx.again (k + 1) (by omega) (by omega) ⟨rfl,rfl,rfl,by rw [prod_succ l k (by omega)]; rfl,trivial⟩ (Ent.refl _)
 ·exact Nx.ret_fn rfl [] ⟨rfl,rfl⟩ (Ent.refl _)
theorem Count_spec (A : Option Addr) (c : Nat) (l : List Int) (I : PH) (hl : Ints I A c l) (hs : Sizes l) :
  FnSpec Tryz.prog 149 [.agg #[.slice A l.length c]] I [] (fun v R' => v = .int .i64 (prod l) ∧ R' = []):=by
 refine FnSpec.enterP Tryz.func149 rfl Tryz.ntmps149 rfl fun w F => ?_
 repeat' first | refine kW ?_ | (refine Nx.zo ?_; first | refine kP ?_ | refine Nx.callv rfl rfl rfl (by kernel_rfl) rfl (Check_spec _ _ _ _ hl hs) ?_ | refine Nx.callv rfl rfl rfl (by kernel_rfl) rfl (product_spec _ _ _ _ hl hs) ?_) | refine kS ?_ | refine kB fun bx => ?_ | refine kA fun A2 c2 => ?_ | refine kX (fun hc => ?_) fun hc => ?_ | fail
 exact kT
theorem RCount_spec (A : Option Addr) (c : Nat) (l : List Int) (I : PH) (hl : Ints I A c l) (hs : Sizes l) :
  FnSpec Tryz.prog 21 [.agg #[.slice A l.length c]] I [] (fun v R' => v = .int .i64 (prod l) ∧ R' = []):=by
 have hlen:=hl.len
 refine FnSpec.enterP Tryz.func21 rfl Tryz.ntmps21 rfl fun w F => ?_
 repeat' first | refine kW ?_ | (refine Nx.zo ?_; first | refine kP ?_ | refine Nx.callv rfl rfl rfl (by kernel_rfl) rfl (RCheck_spec _ _ _ _ hl hs) ?_) | refine kS ?_ | refine kB fun bx => ?_ | refine kA fun A2 c2 => ?_ | refine kX (fun hc => ?_) fun hc => ?_ | fail
 refine Nx.p_loop (σ:=Nat) (fun k => [(10,.slice A l.length c),(11,.int .i64 l.length),(12,.int .i64 (k : Int)),(3,.int .i64 (prod (l.take k)))])
  (fun _ => [F]) (fun k => k ≤ l.length) (fun k => l.length - k) 0 rfl (nZl _) zR (by exact zE) ?_
 intro k hk
 have hb:=hs.bound hk
 have hb1 : k < l.length → prod (l.take k) * l.getD k default ≤ 4096 ∧ 1 ≤ prod (l.take k) * l.getD k default:=fun h => by rw [← prod_succ l k h]; exact (hs.bound (by omega)).symm
 repeat' first | refine kW ?_ | (refine Nx.zo ?_; first | refine kP ?_ | refine Nx.indexAddr_nat rfl rfl rfl rfl rfl (by omega) (hl.isSome (by omega)) ?_ | refine Nx.load rfl rfl rfl (hl.rd (by omega)) ?_) | refine kS ?_ | refine kB fun bx => ?_ | refine kA fun A2 c2 => ?_ | refine kX (fun hc => ?_) fun hc => ?_ | fail
 ·exact Nx.again (k + 1) (by omega) (by omega) ⟨rfl,rfl,rfl,by rw [prod_succ l k (by omega)]; rfl,trivial⟩ (Ent.refl _)
 ·exact Nx.ret_fn rfl [] ⟨by rw [List.take_of_length_le (by omega)],rfl⟩ (Ent.refl _)
def numK (l xs : List Int) : Nat → Int
 | 0 => 0
 | k + 1 => numK l xs k * l.getD k default + xs.getD k default
structure InR (l xs : List Int) : Prop where
 len : xs.length = l.length
 each : ∀ k,k < l.length → 0 ≤ xs.getD k default ∧ xs.getD k default < l.getD k default
theorem mul_add_lt {a b p d x : Int} (ha : 0 ≤ a ∧ a < p) (hx : 0 ≤ x ∧ x < d) (hb : b = p * d) : 0 ≤ a * d + x ∧ a * d + x < b:=by
 have h1 : 0 ≤ a * d:=Int.mul_nonneg ha.1 (by omega)
 have h2 : (a + 1) * d ≤ p * d:=Int.mul_le_mul_of_nonneg_right (by omega) (by omega)
 rw [Int.add_mul] at h2
 omega
theorem numK_bound {l xs : List Int} (hx : InR l xs) : ∀ k,k ≤ l.length → 0 ≤ numK l xs k ∧ numK l xs k < prod (l.take k)
 | 0,_ => by simp [numK,prod]
 | k + 1,hk => by
  simp only [numK]
  exact mul_add_lt (numK_bound hx k (by omega)) (hx.each k (by omega)) (prod_succ l k (by omega))
theorem number_spec (A B : Option Addr) (c c2 : Nat) (l xs : List Int) (I : PH) (hl : Ints I A c l) (hx : Ints I B c2 xs) (hs : Sizes l) (hr : InR l xs) :
  FnSpec Tryz.prog 193 [.slice A l.length c,.slice B xs.length c2] I [] (fun v R' => v = .int .i64 (numK l xs l.length) ∧ R' = []):=by
 have hlen:=hl.len
 have hxl:=hr.len
 refine FnSpec.enterP Tryz.func193 rfl Tryz.ntmps193 rfl fun w F => ?_
 repeat' first | refine kS ?_ | refine kB fun bx => ?_ | refine kA fun A2 c2 => ?_ | refine kX (fun hc => ?_) fun hc => ?_ | fail
 refine Nx.p_loop (σ:=Nat) (fun k => [(1,.slice B xs.length c2),(8,.slice A l.length c),(9,.int .i64 l.length),(10,.int .i64 (k : Int)),(5,.int .i64 (numK l xs k))])
  (fun _ => [F]) (fun k => k ≤ l.length) (fun k => l.length - k) 0 rfl (nZl _) zR (Ent.refl _) ?_
 intro k hk
 have hb:=hs.bound hk
 have hn:=numK_bound hr k hk
 have hat : k < l.length → 1 ≤ l.getD k default ∧ l.getD k default ≤ 8:=fun h => hs.at h
 have hb1 : k < l.length → 0 ≤ numK l xs k * l.getD k default ∧ numK l xs k * l.getD k default ≤ 4096 * 8:=fun h => ⟨Int.mul_nonneg hn.1 (by have:=hat h; omega),Int.mul_le_mul (by omega) (hat h).2 (by have:=hat h; omega) (by omega)⟩
 have he:=hr.each k
 repeat' first | refine kW ?_ | (refine Nx.zo ?_; first | refine kP ?_ | refine Nx.indexAddr_nat rfl rfl rfl rfl rfl (by omega) (hl.isSome (by omega)) ?_ | refine Nx.indexAddr_nat rfl rfl rfl rfl rfl (by omega) (hx.isSome (by omega)) ?_ | refine Nx.load rfl rfl rfl (hl.rd (by omega)) ?_ | refine Nx.load rfl rfl rfl (hx.rd (by omega)) ?_) | refine kS ?_ | refine kB fun bx => ?_ | refine kA fun A2 c2 => ?_ | refine kX (fun hc => ?_) fun hc => ?_ | fail
 ·exact Nx.again (k + 1) (by omega) (by omega) zR (Ent.refl _)
 ·obtain rfl : k = l.length:=by omega
  exact Nx.ret_fn rfl [] ⟨rfl,rfl⟩ (Ent.refl _)
def contF (l xs : List Int) : Nat → Nat → Int → Int
 | 0,_,m => m
 | r + 1,j,m => contF l xs r (j + 1) (m * l.getD j default + xs.getD j default)
theorem contF_num (l xs : List Int) : ∀ r j,contF l xs r j (numK l xs j) = numK l xs (j + r)
 | 0,j => rfl
 | r + 1,j => by
  have:=contF_num l xs r (j + 1)
  simp only [contF]
  rw [show j + (r + 1) = j + 1 + r by omega,← this]
  rfl
theorem getD_set_ne {xs : List Int} {i j : Nat} {z : Int} (h : i ≠ j) : (xs.set i z).getD j default = xs.getD j default:=by
 rw [gEl,gEl,List.getElem?_set_ne h]
theorem getD_set_eq {xs : List Int} {i : Nat} {z : Int} (h : i < xs.length) : (xs.set i z).getD i default = z:=by
 rw [gEl,List.getElem?_set_self h]; rfl
theorem contF_set (l xs : List Int) (i : Nat) (z : Int) : ∀ r j m,i < j → contF l (xs.set i z) r j m = contF l xs r j m
 | 0,_,_,_ => rfl
 | r + 1,j,m,h => by
  simp only [contF]
  rw [getD_set_ne (by omega),contF_set l xs i z r (j + 1) _ (by omega)]
structure PlOk (l : List Int) (n : Int) (s : Nat × List Int × Int) : Prop where
 le : s.1 ≤ l.length
 len : s.2.1.length = l.length
 m : 0 ≤ s.2.2 ∧ s.2.2 < prod (l.take s.1)
 each : ∀ i,s.1 ≤ i → i < l.length → 0 ≤ s.2.1.getD i default ∧ s.2.1.getD i default < l.getD i default
 num : contF l s.2.1 (l.length - s.1) s.1 s.2.2 = n
 last : s.1 < l.length → s.2.1.getD (l.length - 1) default = n % l.getD (l.length - 1) default
 first : s.1 = l.length → s.2.2 = n
theorem PlOk.step {l : List Int} {n : Int} {j : Nat} {xs : List Int} {m : Int} (hs : Sizes l) (h : PlOk l n (j + 1,xs,m)) : PlOk l n (j,xs.set j (m % l.getD j default),m / l.getD j default):=by
 have hle : j + 1 ≤ l.length:=h.le
 have hlen : xs.length = l.length:=h.len
 have hd:=hs.at (k:=j) (by omega)
 have hm : 0 ≤ m ∧ m < prod (l.take (j + 1)):=h.m
 rw [prod_succ l j (by omega)] at hm
 have hset : (xs.set j (m % l.getD j default)).getD j default = m % l.getD j default:=getD_set_eq (by omega)
 refine ⟨by show j ≤ l.length; omega,by simpa using hlen,⟨Int.ediv_nonneg hm.1 (by omega),Int.ediv_lt_of_lt_mul (by omega) hm.2⟩,fun i h1 h2 => ?_,?_,fun _ => ?_,fun h1 => ?_⟩
 ·show 0 ≤ (xs.set j (m % l.getD j default)).getD i default ∧ (xs.set j (m % l.getD j default)).getD i default < l.getD i default
  by_cases hij : j = i
  ·subst hij
   rw [hset]
   exact ⟨Int.emod_nonneg _ (by omega),Int.emod_lt_of_pos _ (by omega)⟩
  ·rw [getD_set_ne hij]
   have h1 : j ≤ i:=h1
   exact h.each i (by show j + 1 ≤ i; omega) h2
 ·show contF l (xs.set j (m % l.getD j default)) (l.length - j) j (m / l.getD j default) = n
  rw [show l.length - j = (l.length - (j + 1)) + 1 by omega]
  simp only [contF]
  rw [hset,contF_set l xs j _ _ _ _ (by omega),show m / l.getD j default * l.getD j default + m % l.getD j default = m by rw [Int.mul_comm]; exact Int.mul_ediv_add_emod m _]
  exact h.num
 ·show (xs.set j (m % l.getD j default)).getD (l.length - 1) default = n % l.getD (l.length - 1) default
  by_cases hj : j = l.length - 1
  ·have hmn : m = n:=h.first (by show j + 1 = l.length; omega)
   rw [← hj,hset,hmn]
  ·rw [getD_set_ne hj]
   exact h.last (by show j + 1 < l.length; omega)
 ·have h1 : j = l.length:=h1
  omega
theorem places_spec (A : Option Addr) (c : Nat) (l : List Int) (n : Int) (I : PH) (hl : Ints I A c l) (hs : Sizes l) (hn : 0 ≤ n ∧ n < prod l) :
  FnSpec Tryz.prog 192 [.slice A l.length c,.int .i64 n] I [] (fun v R' => ∃ b xs,v = .slice (some ⟨b,0,none⟩) xs.length xs.length ∧ InR l xs ∧ numK l xs l.length = n ∧ xs.getD (l.length - 1) default = n % l.getD (l.length - 1) default ∧ R' = [Vec 3 1 (some ⟨b,0,none⟩) xs.length xs.length (xs.map (Value.int .i64))]):=by
 have hlen:=hl.len
 have hd:=hs.dims
 refine FnSpec.enterP Tryz.func192 rfl Tryz.ntmps192 rfl fun w F => ?_
 repeat' first | refine kS ?_ | refine kB fun bx => ?_ | refine kA fun A2 c2 => ?_ | refine kX (fun hc => ?_) fun hc => ?_ | fail
 refine Nx.p_loop (σ:=Nat × List Int × Int) (fun s => [(0,.slice A l.length c),(1,.int .i64 s.2.2),(5,.slice (some ⟨bx,0,none⟩) l.length l.length),(6,.int .i64 ((s.1 : Int) - 1))])
  (fun s => [Vec 3 1 (some ⟨bx,0,none⟩) l.length l.length (s.2.1.map (Value.int .i64)),F]) (PlOk l n) (fun s => s.1) (l.length,List.replicate l.length 0,n) rfl
  ⟨Nat.le_refl _,by simp,⟨hn.1,by rw [List.take_length]; exact hn.2⟩,fun i h1 h2 => absurd h2 (Nat.not_lt.2 h1),by show contF l _ (l.length - l.length) _ n = n; rw [Nat.sub_self]; rfl,fun h => absurd h (Nat.lt_irrefl _),fun _ => rfl⟩ zR (Ent.refl _) ?_
 rintro ⟨j,xs,m⟩ hok
 dsimp only
 rcases j with _ | j
 ·repeat' first | refine kS ?_ | refine kB fun bx => ?_ | refine kA fun A2 c2 => ?_ | refine kX (fun hc => ?_) fun hc => ?_ | fail
  have h0 : m = 0:=by have:=hok.m; simp [prod] at this; omega
  have h1 : xs.length = l.length:=hok.len
  refine Nx.ret_fn rfl [_] ⟨bx,xs,by rw [h1],⟨h1,fun k hk => hok.each k (nZl _) hk⟩,?_,hok.last (by show 0 < l.length; omega),by rw [h1]⟩ (by exact zE)
  have h2:=hok.num
  subst h0
  have h3:=contF_num l xs l.length 0
  rw [Nat.zero_add] at h3
  rw [← h3]
  exact h2
 ·have hle : j + 1 ≤ l.length:=hok.le
  have hxl : xs.length = l.length:=hok.len
  have hm:=hok.m
  have hb:=hs.bound hle
  have hat:=hs.at (k:=j) (by omega)
  have hm1 : 0 ≤ m ∧ m < prod (l.take (j + 1)):=hm
  rw [show (((j + 1 : Nat) : Int) - 1) = (j : Int) by omega]
  repeat' first | refine kW ?_ | (refine Nx.zo ?_; first | refine kP ?_ | refine Nx.indexAddr_nat rfl rfl rfl rfl rfl (by omega) (hl.isSome (by omega)) ?_ | refine Nx.indexAddr_nat rfl rfl rfl rfl rfl (by omega) rfl ?_ | refine Nx.load rfl rfl rfl (hl.rd (by omega)) ?_) | refine kS ?_ | refine kB fun bx => ?_ | refine kA fun A2 c2 => ?_ | refine kX (fun hc => ?_) fun hc => ?_ | fail
  exact Nx.again (j,xs.set j (m % l.getD j default),m / l.getD j default) (hok.step hs) (by dsimp only; omega) zR (by exact zE)
def numb : List Int → Int → Option Int
 | [],nx => some nx
 | g :: r,nx => if g < -1 ∨ nx < g then none else numb r (if g = nx then nx + 1 else nx)
def numbB (l : List Int) : Bool:=match numb l 0 with
 | some n => decide (0 < n)
 | none => false
theorem drop_at {l : List Int} {k : Nat} (hk : k < l.length) : l.drop k = l.getD k default :: l.drop (k + 1):=by
 rw [List.drop_eq_getElem_cons hk]
 simp [List.getD_eq_getElem?_getD,List.getElem?_eq_getElem hk]
theorem numbered_spec (A : Option Addr) (c : Nat) (l : List Int) (I : PH) (hl : Ints I A c l) :
  FnSpec Tryz.prog 190 [.slice A l.length c] I [] (fun v R' => v = .bool (numbB l) ∧ R' = []):=by
 have hlen:=hl.len
 refine FnSpec.enterP Tryz.func190 rfl Tryz.ntmps190 rfl fun w F => ?_
 repeat' first | refine kS ?_ | refine kB fun bx => ?_ | refine kA fun A2 c2 => ?_ | refine kX (fun hc => ?_) fun hc => ?_ | fail
 refine Nx.p_loop (σ:=Nat × Int) (fun s => [(6,.slice A l.length c),(7,.int .i64 l.length),(8,.int .i64 (s.1 : Int)),(3,.int .i64 s.2)])
  (fun _ => [F]) (fun s => s.1 ≤ l.length ∧ 0 ≤ s.2 ∧ s.2 ≤ s.1 ∧ numb l 0 = numb (l.drop s.1) s.2) (fun s => l.length - s.1) (0,0) rfl ⟨nZl _,by decide,by simp,rfl⟩ zR (Ent.refl _) ?_
 rintro ⟨k,nx⟩ ⟨hk,h0,h1,he⟩
 dsimp only at hk h0 h1 he ⊢
 have hd : k < l.length → numb l 0 = if l.getD k default < -1 ∨ nx < l.getD k default then none else numb (l.drop (k + 1)) (if l.getD k default = nx then nx + 1 else nx):=fun h => by rw [he,drop_at h]; rfl
 repeat' first | refine kW ?_ | (refine Nx.zo ?_; first | refine kP ?_ | refine Nx.indexAddr_nat rfl rfl rfl rfl rfl (by omega) (hl.isSome (by omega)) ?_ | refine Nx.load rfl rfl rfl (hl.rd (by omega)) ?_) | refine kS ?_ | refine kB fun bx => ?_ | refine kA fun A2 c2 => ?_ | refine kX (fun hc => ?_) fun hc => ?_ | fail
 ·refine Nx.ret_fn rfl [] ⟨?_,rfl⟩ (Ent.refl _)
  rw [numbB,hd (by omega),if_pos (.inl hc)]
 ·refine Nx.ret_fn rfl [] ⟨?_,rfl⟩ (Ent.refl _)
  rw [numbB,hd (by omega),if_pos (.inr hc)]
 ·refine Nx.again (k + 1,nx + 1) ⟨by dsimp only; omega,by dsimp only; omega,by dsimp only; omega,?_⟩ (by dsimp only; omega) zR (Ent.refl _)
  dsimp only
  rw [hd (by omega),if_neg (by omega),if_pos hc]
 ·refine Nx.again (k + 1,nx) ⟨by dsimp only; omega,by dsimp only; omega,by dsimp only; omega,?_⟩ (by dsimp only; omega) zR (Ent.refl _)
  dsimp only
  rw [hd (by omega),if_neg (by omega),if_neg hc]
 ·refine Nx.ret_fn rfl [] ⟨?_,rfl⟩ (Ent.refl _)
  rw [numbB,he,List.drop_eq_nil_of_le (by omega)]
  rfl
def maxL (l : List Int) : Nat → Int
 | 0 => l.getD 0 default
 | k + 1 => max (maxL l k) (l.getD (k + 1) default)
theorem Max_spec (A : Option Addr) (c : Nat) (l : List Int) (I : PH) (hl : Ints I A c l) (h1 : 1 ≤ l.length) :
  FnSpec Tryz.prog 191 [.slice A l.length c] I [] (fun v R' => v = .int .i64 (maxL l (l.length - 1)) ∧ R' = []):=by
 have hlen:=hl.len
 refine FnSpec.enterP Tryz.func191 rfl Tryz.ntmps191 rfl fun w F => ?_
 repeat' first | refine kW ?_ | (refine Nx.zo ?_; first | refine kP ?_ | refine Nx.indexAddr rfl rfl rfl rfl rfl (by omega) (by omega) (hl.isSome (by omega)) ?_ | refine Nx.load rfl rfl rfl (hl.rd (by omega)) ?_) | refine kS ?_ | refine kB fun bx => ?_ | refine kA fun A2 c2 => ?_ | refine kX (fun hc => ?_) fun hc => ?_ | fail
 refine Nx.p_loop (σ:=Nat) (fun k => [(0,.slice A l.length c),(4,.int .i64 ((k + 1 : Nat) : Int)),(3,.int .i64 (maxL l k))])
  (fun _ => [F]) (fun k => k + 1 ≤ l.length) (fun k => l.length - k) 0 rfl h1 zR (Ent.refl _) ?_
 intro k hk
 repeat' first | refine kW ?_ | (refine Nx.zo ?_; first | refine kP ?_ | refine Nx.indexAddr_nat rfl rfl rfl rfl rfl (by omega) (hl.isSome (by omega)) ?_ | refine Nx.load rfl rfl rfl (hl.rd (by omega)) ?_) | refine kS ?_ | refine kB fun bx => ?_ | refine kA fun A2 c2 => ?_ | refine kX (fun hc => ?_) fun hc => ?_ | fail
 ·exact Nx.again (k + 1) (by omega) (by omega) zR (Ent.refl _)
 ·exact Nx.ret_fn rfl [] ⟨by rw [show l.length - 1 = k by omega],rfl⟩ (Ent.refl _)
theorem take_has {l : List Int} {k : Nat} {z : Int} (hk : k < l.length) (h : (l.take k).contains z = false) (hne : ¬z = l.getD k default) : (l.take (k + 1)).contains z = false:=by
 rw [tSu hk]
 have e : l[k]'hk = l.getD k default:=by rw [gEl,gEq hk]; rfl
 simp only [List.contains_eq_mem,List.mem_append,List.mem_singleton,decide_eq_false_iff_not] at *
 rw [e]
 exact fun h' => h'.elim h hne
theorem getD_has {l : List Int} {k : Nat} {z : Int} (hk : k < l.length) (h : z = l.getD k default) : l.contains z = true:=by
 rw [List.contains_eq_mem,h,gEl,gEq hk]
 exact decide_eq_true (List.getElem_mem _)
theorem Index_int_spec (A : Option Addr) (c : Nat) (l : List Int) (z : Int) (I : PH) (hl : Ints I A c l) :
  FnSpec Tryz.prog 167 [.slice A l.length c,.int .i64 z] I [] (fun v R' => ∃ i : Int,v = .int .i64 i ∧ decide (0 ≤ i) = l.contains z ∧ R' = []):=by
 have hlen:=hl.len
 refine FnSpec.enterP Tryz.func167 rfl Tryz.ntmps167 rfl fun w F => ?_
 repeat' first | refine kS ?_ | refine kB fun bx => ?_ | refine kA fun A2 c2 => ?_ | refine kX (fun hc => ?_) fun hc => ?_ | fail
 refine Nx.p_loop (σ:=Nat) (fun k => [(0,.slice A l.length c),(1,.int .i64 z),(7,.int .i64 l.length),(8,.int .i64 (k : Int))])
  (fun _ => [F]) (fun k => k ≤ l.length ∧ (l.take k).contains z = false) (fun k => l.length - k) 0 rfl ⟨nZl _,rfl⟩ zR (Ent.refl _) ?_
 rintro k ⟨hk,hnone⟩
 repeat' first | refine kW ?_ | (refine Nx.zo ?_; first | refine kP ?_ | refine Nx.indexAddr_nat rfl rfl rfl rfl rfl (by omega) (hl.isSome (by omega)) ?_ | refine Nx.load rfl rfl rfl (hl.rd (by omega)) ?_) | refine kS ?_ | refine kB fun bx => ?_ | refine kA fun A2 c2 => ?_ | refine kX (fun hc => ?_) fun hc => ?_ | fail
 ·exact Nx.ret_fn rfl [] ⟨_,rfl,by rw [getD_has (by omega) hc]; simp,rfl⟩ (Ent.refl _)
 ·exact Nx.again (k + 1) ⟨by omega,take_has (by omega) hnone hc⟩ (by omega) zR (Ent.refl _)
 ·rw [List.take_of_length_le (by omega)] at hnone
  exact Nx.ret_fn rfl [] ⟨_,rfl,by rw [hnone]; rfl,rfl⟩ (Ent.refl _)
theorem Contains_spec (A : Option Addr) (c : Nat) (l : List Int) (z : Int) (I : PH) (hl : Ints I A c l) :
  FnSpec Tryz.prog 105 [.slice A l.length c,.int .i64 z] I [] (fun v R' => v = .bool (l.contains z) ∧ R' = []):=by
 refine FnSpec.enterP Tryz.func105 rfl Tryz.ntmps105 rfl fun w F => ?_
 repeat' first | refine kS ?_ | refine kB fun bx => ?_ | refine kA fun A2 c2 => ?_ | refine kX (fun hc => ?_) fun hc => ?_ | fail
 refine Nx.at_op rfl rfl ?_
 refine Nx.call rfl rfl rfl (by kernel_rfl) rfl (Index_int_spec A c l z I hl) (Ent.refl _) ?_
 rintro v R' ⟨i,rfl,hi,rfl⟩
 repeat' first | refine kS ?_ | refine kB fun bx => ?_ | refine kA fun A2 c2 => ?_ | refine kX (fun hc => ?_) fun hc => ?_ | fail
 exact Nx.ret_fn rfl [] ⟨by rw [← hi],rfl⟩ (Ent.refl _)
theorem IndexFunc_spec (f : FuncId) (p : Int → Bool) (A : Option Addr) (cp : Nat) (l : List Int) (I : PH) (hl : Ints I A cp l) (hcall : callable Tryz.prog f = true)
  (hp : ∀ x,FnSpec Tryz.prog f [.int .i64 x] I [] (fun v R' => v = .bool (p x) ∧ R' = [])) :
  FnSpec Tryz.prog 126 [.slice A l.length cp,.func (.func f) #[] #[]] I []
   (fun v R' => ∃ i : Int,v = .int .i64 i ∧ (decide (0 ≤ i) = l.any p) ∧ R' = []):=by
 refine FnSpec.enterP Tryz.func126 rfl Tryz.ntmps126 rfl fun w F => ?_
 repeat' first | refine kS ?_ | refine kB fun bx => ?_ | refine kA fun A2 c2 => ?_ | refine kX (fun hc => ?_) fun hc => ?_ | fail
 have hlen:=hl.len
 refine Nx.p_loop (σ:=Nat) (fun k => [(0,.slice A l.length cp),(1,.func (.func f) #[] #[]),(7,.int .i64 l.length),(8,.int .i64 (k : Int))])
  (fun _ => [F]) (fun k => k ≤ l.length ∧ (l.take k).any p = false) (fun k => l.length - k) 0 rfl ⟨nZl _,by simp⟩ zR (Ent.refl _) ?_
 rintro k ⟨hk,hnone⟩
 repeat' first | refine kW ?_ | (refine Nx.zo ?_; first | refine kP ?_ | refine Nx.indexAddr_nat rfl rfl rfl rfl rfl (by omega) (hl.isSome (by omega)) ?_ | refine Nx.load rfl rfl rfl (hl.rd (by omega)) ?_ | refine Nx.callv rfl rfl rfl hcall rfl (hp _) ?_) | refine kS ?_ | refine kB fun bx => ?_ | refine kA fun A2 c2 => ?_ | refine kX (fun hc => ?_) fun hc => ?_ | fail
 ·refine Nx.ret_fn rfl [] ⟨_,rfl,?_,rfl⟩ (Ent.refl _)
  rw [show decide ((0 : Int) ≤ k) = true by simp,Eq.comm,List.any_eq_true]
  exact ⟨l.getD k default,by rw [gEl,gEq (by omega)]; exact List.getElem_mem _,hc⟩
 ·refine Nx.again (k + 1) ⟨by omega,?_⟩ (by omega) zR (Ent.refl _)
  rw [tSu (by omega),List.any_append,hnone]
  have : l[k]'(by omega) = l.getD k default:=by rw [gEl,gEq (by omega)]; rfl
  simp only [this,List.any_cons,List.any_nil,hc,Bool.or_self]
 ·obtain rfl : k = l.length:=by omega
  refine Nx.ret_fn rfl [] ⟨_,rfl,?_,rfl⟩ (Ent.refl _)
  rw [tLn] at hnone
  rw [hnone]; rfl
theorem ContainsFunc_spec (f : FuncId) (p : Int → Bool) (A : Option Addr) (cp : Nat) (l : List Int) (I : PH) (hl : Ints I A cp l) (hcall : callable Tryz.prog f = true)
  (hp : ∀ x,FnSpec Tryz.prog f [.int .i64 x] I [] (fun v R' => v = .bool (p x) ∧ R' = [])) :
  FnSpec Tryz.prog 70 [.slice A l.length cp,.func (.func f) #[] #[]] I []
   (fun v R' => v = .bool (l.any p) ∧ R' = []):=by
 refine FnSpec.enterP Tryz.func70 rfl Tryz.ntmps70 rfl fun w F => ?_
 repeat' first | refine kS ?_ | refine kB fun bx => ?_ | refine kA fun A2 c2 => ?_ | refine kX (fun hc => ?_) fun hc => ?_ | fail
 refine Nx.at_op rfl rfl ?_
 refine Nx.call rfl rfl rfl (by kernel_rfl) rfl (IndexFunc_spec f p A cp l I hl hcall hp) (Ent.refl _) ?_
 rintro v R' ⟨i,rfl,hi,rfl⟩
 repeat' first | refine kS ?_ | refine kB fun bx => ?_ | refine kA fun A2 c2 => ?_ | refine kX (fun hc => ?_) fun hc => ?_ | fail
 exact Nx.ret_fn rfl [] ⟨by rw [← hi],rfl⟩ (Ent.refl _)
def outB (x : Int) : Bool:=decide (x < 0 ∨ 1000000 < x)
theorem outB_spec (x : Int) (I : PH) : FnSpec Tryz.prog 137 [.int .i64 x] I [] (fun v R' => v = .bool (outB x) ∧ R' = []):=by
 refine FnSpec.enterP Tryz.func137 rfl Tryz.ntmps137 rfl fun w F => ?_
 repeat' first | ((with_reducible refine Nx.is_wp ?_); first | refine Nx.w ?_) | refine kS ?_ | refine kB fun bx => ?_ | refine kA fun A2 c2 => ?_ | ((with_reducible refine Nx.is_at ?_); first | refine Nx.a ?_ | ((fail_if_success refine Nx.at_do rfl rfl rfl rfl ?_); first | refine Nx.at_split rfl rfl rfl rfl (fun hc => ?_) (fun hc => ?_) | refine Nx.at_splitb rfl rfl rfl rfl (fun hc => ?_) (fun hc => ?_))) | ((with_reducible refine Nx.is_mix ?_); first | refine Nx.m ?_ | ((fail_if_success refine Nx.m_quiet_do rfl rfl rfl rfl rfl rfl rfl ?_ ?_); (fail_if_success refine Nx.m_loud_do rfl rfl rfl rfl rfl ?_); first | refine Nx.m_split rfl rfl rfl rfl (fun hc => ?_) (fun hc => ?_) | refine Nx.m_splitb rfl rfl rfl rfl (fun hc => ?_) (fun hc => ?_))) | refine kX (fun hc => ?_) fun hc => ?_ | fail
 all_goals exact Nx.ret_fn rfl [] ⟨by unfold outB; congr 1; simp; omega,rfl⟩ (Ent.refl _)
abbrev Row:=Option Addr × Nat × List Int
def rowV (r : Row) : Value:=.slice r.1 r.2.2.length r.2.1
structure RowsOf (I : PH) (A : Option Addr) (c : Nat) (v : List Row) : Prop where
 outer : SliceOf rowV I A c v
 inner : ∀ r ∈ v,Ints I r.1 r.2.1 r.2.2
theorem RowsOf.at {I : PH} {A : Option Addr} {c : Nat} {v : List Row} (h : RowsOf I A c v) {k : Nat} (hk : k < v.length) : Ints I (v.getD k default).1 (v.getD k default).2.1 (v.getD k default).2.2 :=
 h.inner _ (by rw [gEl,gEq hk]; exact List.getElem_mem _)
structure Viewed (l : List Int) (v : List Row) : Prop where
 len : v.length = l.length
 each : ∀ k,k < l.length → ((v.getD k default).2.2.length : Int) = l.getD k default ∧ numbB (v.getD k default).2.2 = true
theorem View_spec (A B : Option Addr) (c cv : Nat) (l : List Int) (v : List Row) (I : PH) (hl : Ints I A c l) (hs : Sizes l) (hv : RowsOf I B cv v) (hw : Viewed l v) :
  FnSpec Tryz.prog 135 [.agg #[.slice A l.length c],.agg #[.slice B v.length cv]] I [] (fun v R' => v = .int .i64 0 ∧ R' = []):=by
 have hlen:=hl.len
 have hvl:=hw.len
 refine FnSpec.enterP Tryz.func135 rfl Tryz.ntmps135 rfl fun w F => ?_
 repeat' first | refine kW ?_ | (refine Nx.zo ?_; first | refine kP ?_ | refine Nx.callv rfl rfl rfl (by kernel_rfl) rfl (Check_spec _ _ _ _ hl hs) ?_) | refine kS ?_ | refine kB fun bx => ?_ | refine kA fun A2 c2 => ?_ | refine kX (fun hc => ?_) fun hc => ?_ | fail
 rename_i b2
 refine Nx.p_loop (σ:=Nat) (fun k => [(2,.pointer (some ⟨b2,0,none⟩)),(21,.slice B v.length cv),(22,.int .i64 v.length),(23,.int .i64 (k : Int))])
  (fun _ => [Blk b2 54 [.slice A l.length c],F]) (fun k => k ≤ v.length) (fun k => v.length - k) 0 rfl (nZl _) zR (by exact zE) ?_
 intro k hk
 have he:=hw.each k
 repeat' first | refine kW ?_ | (refine Nx.zo ?_; first | refine kP ?_ | refine Nx.indexAddr_nat rfl rfl rfl rfl rfl (by omega) (hv.outer.isSome (by omega)) ?_ | refine Nx.indexAddr_nat rfl rfl rfl rfl rfl (by omega) (hl.isSome (by omega)) ?_ | refine Nx.load rfl rfl rfl (hl.rd (by omega)) ?_ | refine Nx.load rfl rfl rfl (hv.outer.rd (by omega)) ?_ | refine Nx.callv rfl rfl rfl (by kernel_rfl) rfl (numbered_spec _ _ _ _ (hv.at (by omega))) ?_) | refine kS ?_ | refine kB fun bx => ?_ | refine kA fun A2 c2 => ?_ | refine kX (fun hc => ?_) fun hc => ?_ | fail
 ·exact absurd hc (by rw [(he (by omega)).2]; decide)
 ·exact Nx.again (k + 1) (by omega) (by omega) zR (by exact zE)
 ·exact kT
end Go.Proofs.YtpcnapidlhpbkaaGreatDoor
namespace Go.Sol
abbrev Eqn:=List Nat × Int
def sumC (t : List Int) : List Nat → Int
 | [] => 0
 | c :: cs => t.getD c 0 + sumC t cs
theorem sumC_congr {s t : List Int} : ∀ {cs : List Nat},(∀ c ∈ cs,s.getD c 0 = t.getD c 0) → sumC s cs = sumC t cs
 | [],_ => rfl
 | c :: cs,h => by rw [sumC,sumC,h c (by simp),sumC_congr fun x hx => h x (by simp [hx])]
theorem getD_setI {t : List Int} {c d : Nat} {v : Int} (hc : c < t.length) : (t.set c v).getD d 0 = if d = c then v else t.getD d 0:=by
 rw [gEl,List.getElem?_set]
 by_cases h : c = d
 ·rw [if_pos h,if_pos h.symm,if_pos hc]; rfl
 ·rw [if_neg h,if_neg (Ne.symm h),← gEl]
theorem sumC_set {t : List Int} {c : Nat} {v : Int} (hc : c < t.length) : ∀ {cs : List Nat},cs.Nodup → sumC (t.set c v) cs = sumC t cs + if c ∈ cs then v - t.getD c 0 else 0
 | [],_ => by simp [sumC]
 | d :: cs,hn => by
  obtain ⟨h1,h2⟩:=List.nodup_cons.1 hn
  rw [sumC,sumC,sumC_set hc h2,getD_setI hc]
  by_cases hd : d = c
  ·subst hd
   rw [if_pos rfl,if_neg h1,if_pos (by simp)]; omega
  ·rw [if_neg hd]
   by_cases hm : c ∈ cs
   ·rw [if_pos hm,if_pos (by simp [hm])]; omega
   ·rw [if_neg hm,if_neg (by simp [hm,Ne.symm hd])]; omega
def restQ (t : List Int) (q : Eqn) : Int:=q.2 - sumC t q.1
def openQ (U : List Nat) (q : Eqn) : Nat:=(q.1.filter fun c => decide (c ∈ U)).length
def lowF (t : List Int) (U : List Nat) (c : Nat) : List Eqn → Int
 | [] => 0
 | q :: l => if c ∈ q.1 ∧ openQ U q = 1 then max (restQ t q) (lowF t U c l) else lowF t U c l
def highF (M : Int) (t : List Int) (c : Nat) : List Eqn → Int
 | [] => M
 | q :: l => if c ∈ q.1 then min (restQ t q) (highF M t c l) else highF M t c l
theorem lowF_le {t : List Int} {U : List Nat} {c : Nat} {v : Int} : ∀ {l : List Eqn},lowF t U c l ≤ v ↔ 0 ≤ v ∧ ∀ q ∈ l,c ∈ q.1 → openQ U q = 1 → restQ t q ≤ v
 | [] => by simp [lowF]
 | q :: l => by
  unfold lowF
  by_cases h : c ∈ q.1 ∧ openQ U q = 1
  ·rw [if_pos h,Int.max_le,lowF_le]
   constructor
   ·rintro ⟨h1,h2,h3⟩
    refine ⟨h2,fun p hp => ?_⟩
    rcases List.mem_cons.1 hp with rfl | hp
    ·exact fun _ _ => h1
    ·exact h3 p hp
   ·rintro ⟨h1,h2⟩
    exact ⟨h2 q (by simp) h.1 h.2,h1,fun p hp => h2 p (by simp [hp])⟩
  ·rw [if_neg h,lowF_le]
   constructor
   ·rintro ⟨h2,h3⟩
    refine ⟨h2,fun p hp => ?_⟩
    rcases List.mem_cons.1 hp with rfl | hp
    ·exact fun a b => absurd ⟨a,b⟩ h
    ·exact h3 p hp
   ·rintro ⟨h1,h2⟩
    exact ⟨h1,fun p hp => h2 p (by simp [hp])⟩
theorem le_highF {M : Int} {t : List Int} {c : Nat} {v : Int} : ∀ {l : List Eqn},v ≤ highF M t c l ↔ v ≤ M ∧ ∀ q ∈ l,c ∈ q.1 → v ≤ restQ t q
 | [] => by simp [highF]
 | q :: l => by
  unfold highF
  by_cases h : c ∈ q.1
  ·rw [if_pos h,Int.le_min,le_highF]
   constructor
   ·rintro ⟨h1,h2,h3⟩
    refine ⟨h2,fun p hp => ?_⟩
    rcases List.mem_cons.1 hp with rfl | hp
    ·exact fun _ => h1
    ·exact h3 p hp
   ·rintro ⟨h1,h2⟩
    exact ⟨h2 q (by simp) h,h1,fun p hp => h2 p (by simp [hp])⟩
  ·rw [if_neg h,le_highF]
   constructor
   ·rintro ⟨h2,h3⟩
    refine ⟨h2,fun p hp => ?_⟩
    rcases List.mem_cons.1 hp with rfl | hp
    ·exact fun a => absurd a h
    ·exact h3 p hp
   ·rintro ⟨h1,h2⟩
    exact ⟨h1,fun p hp => h2 p (by simp [hp])⟩
def enum (M : Int) (l : List Eqn) : Bool → List Nat → List Int → List (List Int)
 | _,[],t => [t]
 | down,c :: U,t => (List.range (highF M t c l - lowF t (c :: U) c l + 1).toNat).flatMap fun (k : Nat) => enum M l false U (t.set c (if down then highF M t c l - (k : Int) else lowF t (c :: U) c l + (k : Int)))
structure Inv (n : Nat) (l : List Eqn) (U : List Nat) (t : List Int) : Prop where
 len : t.length = n
 nd : U.Nodup
 lt : ∀ c ∈ U,c < n
 zero : ∀ c ∈ U,t.getD c 0 = 0
 pos : ∀ q ∈ l,0 ≤ restQ t q
 done : ∀ q ∈ l,openQ U q = 0 → restQ t q = 0
def Once (l : List Eqn) : Prop:=∀ q ∈ l,q.1.Nodup
theorem openQ_cons {c : Nat} {U : List Nat} {q : Eqn} (hn : q.1.Nodup) (hc : c ∉ U) : openQ (c :: U) q = openQ U q + if c ∈ q.1 then 1 else 0:=by
 unfold openQ
 obtain ⟨cs,v⟩:=q
 dsimp only at *
 induction cs with
 | nil => rfl
 | cons d cs ih =>
  obtain ⟨h1,h2⟩:=List.nodup_cons.1 hn
  have ih:=ih h2
  by_cases hd : d = c
  ·subst hd
   rw [List.filter_cons_of_pos (by simp),List.filter_cons_of_neg (by simp [hc]),List.length_cons,ih,if_neg h1,if_pos (by simp)]
  ·have hmem : (d ∈ c :: U) ↔ d ∈ U:=by simp [hd]
   have e1 : (c ∈ d :: cs) ↔ c ∈ cs:=by simp [Ne.symm hd]
   by_cases hdU : d ∈ U
   ·rw [List.filter_cons_of_pos (by simp [hdU]),List.filter_cons_of_pos (by simp [hdU]),List.length_cons,List.length_cons,ih]
    by_cases hcs : c ∈ cs
    ·rw [if_pos hcs,if_pos (e1.2 hcs)]
    ·rw [if_neg hcs,if_neg fun h => hcs (e1.1 h)]
   ·rw [List.filter_cons_of_neg (by simp [hdU,hd]),List.filter_cons_of_neg (by simp [hdU]),ih]
    by_cases hcs : c ∈ cs
    ·rw [if_pos hcs,if_pos (e1.2 hcs)]
    ·rw [if_neg hcs,if_neg fun h => hcs (e1.1 h)]
theorem restQ_set {t : List Int} {c : Nat} {v : Int} {q : Eqn} (hc : c < t.length) (hn : q.1.Nodup) (h0 : t.getD c 0 = 0) : restQ (t.set c v) q = restQ t q - if c ∈ q.1 then v else 0:=by
 unfold restQ
 rw [sumC_set hc hn,h0]
 split <;> omega
theorem Inv.step {n : Nat} {l : List Eqn} {c : Nat} {U : List Nat} {t : List Int} {M v : Int} (ho : Once l) (h : Inv n l (c :: U) t) (h1 : lowF t (c :: U) c l ≤ v) (h2 : v ≤ highF M t c l) : Inv n l U (t.set c v):=by
 obtain ⟨hn1,hn2⟩:=List.nodup_cons.1 h.nd
 have hcn:=h.lt c (by simp)
 have hlen:=h.len
 have h0:=h.zero c (by simp)
 obtain ⟨hv,hlow⟩:=lowF_le.1 h1
 obtain ⟨_,hhigh⟩:=le_highF.1 h2
 refine ⟨by rw [List.length_set]; exact hlen,hn2,fun d hd => h.lt d (by simp [hd]),fun d hd => ?_,fun q hq => ?_,fun q hq hop => ?_⟩
 ·rw [getD_setI (by omega),if_neg (fun e => hn1 (by rw [← e]; exact hd))]
  exact h.zero d (by simp [hd])
 ·rw [restQ_set (by omega) (ho q hq) h0]
  have:=h.pos q hq
  by_cases hc : c ∈ q.1
  ·rw [if_pos hc]; have:=hhigh q hq hc; omega
  ·rw [if_neg hc]; omega
 ·have hoc:=openQ_cons (q:=q) (ho q hq) hn1
  rw [restQ_set (by omega) (ho q hq) h0]
  by_cases hc : c ∈ q.1
  ·rw [if_pos hc] at hoc ⊢
   have e1:=hlow q hq hc (by omega)
   have e2:=hhigh q hq hc
   omega
  ·rw [if_neg hc] at hoc ⊢
   have:=h.done q hq (by omega)
   omega
theorem sumC_split {s t : List Int} {U : List Nat} : ∀ {cs : List Nat},(∀ c ∈ cs,c ∉ U → s.getD c 0 = t.getD c 0) → (∀ c ∈ cs,c ∈ U → t.getD c 0 = 0) → sumC s cs = sumC t cs + sumC s (cs.filter fun c => decide (c ∈ U))
 | [],_,_ => rfl
 | c :: cs,h1,h2 => by
  have ih:=sumC_split (s:=s) (t:=t) (U:=U) (cs:=cs) (fun d hd => h1 d (by simp [hd])) (fun d hd => h2 d (by simp [hd]))
  rw [sumC,sumC,ih]
  by_cases hc : c ∈ U
  ·rw [List.filter_cons_of_pos (by simp [hc]),sumC,h2 c (by simp) hc]; omega
  ·rw [List.filter_cons_of_neg (by simp [hc]),h1 c (by simp) hc]; omega
theorem sumC_nonneg {s : List Int} : ∀ {cs : List Nat},(∀ c ∈ cs,0 ≤ s.getD c 0) → 0 ≤ sumC s cs
 | [],_ => Int.le_refl _
 | c :: cs,h => by have:=h c (by simp); have:=sumC_nonneg (cs:=cs) fun d hd => h d (by simp [hd]); rw [sumC]; omega
theorem le_sumC {s : List Int} {c : Nat} : ∀ {cs : List Nat},(∀ d ∈ cs,0 ≤ s.getD d 0) → c ∈ cs → s.getD c 0 ≤ sumC s cs
 | d :: cs,h,hc => by
  have h1:=sumC_nonneg (cs:=cs) fun e he => h e (by simp [he])
  have h2:=h d (by simp)
  rw [sumC]
  rcases List.mem_cons.1 hc with rfl | hc
  ·omega
  ·have:=le_sumC (fun e he => h e (by simp [he])) hc; omega
structure Goes (n : Nat) (M : Int) (l : List Eqn) (U : List Nat) (t s : List Int) : Prop where
 len : s.length = n
 same : ∀ c,c ∉ U → s.getD c 0 = t.getD c 0
 pos : ∀ c ∈ U,0 ≤ s.getD c 0 ∧ s.getD c 0 ≤ M
 sum : ∀ q ∈ l,sumC s q.1 = q.2
theorem ext_len {s t : List Int} (hl : s.length = t.length) (h : ∀ c,s.getD c 0 = t.getD c 0) : s = t:=by
 refine List.ext_getElem hl fun i h1 h2 => ?_
 have:=h i
 rw [gEl,gEl,gEq h1,gEq h2] at this
 exact this
theorem Goes.step {n : Nat} {M : Int} {l : List Eqn} {c : Nat} {U : List Nat} {t s : List Int} (hinv : Inv n l (c :: U) t) (h : Goes n M l (c :: U) t s) : Goes n M l U (t.set c (s.getD c 0)) s:=by
 have hcn:=hinv.lt c (by simp)
 have hlen:=hinv.len
 refine ⟨h.len,fun d hd => ?_,fun d hd => h.pos d (by simp [hd]),h.sum⟩
 rw [getD_setI (by omega)]
 by_cases hdc : d = c
 ·rw [if_pos hdc,hdc]
 ·rw [if_neg hdc]; exact h.same d (by simp [hd,hdc])
theorem Goes.back {n : Nat} {M : Int} {l : List Eqn} {c : Nat} {U : List Nat} {t s : List Int} {v : Int} (hinv : Inv n l (c :: U) t) (h : Goes n M l U (t.set c v) s) (h0 : 0 ≤ v) (hM : v ≤ M) : Goes n M l (c :: U) t s ∧ s.getD c 0 = v:=by
 have hcn:=hinv.lt c (by simp)
 have hlen:=hinv.len
 obtain ⟨hn1,_⟩:=List.nodup_cons.1 hinv.nd
 have hcv : s.getD c 0 = v:=by rw [h.same c hn1,getD_setI (by omega),if_pos rfl]
 refine ⟨⟨h.len,fun d hd => ?_,fun d hd => ?_,h.sum⟩,hcv⟩
 ·have hd' : d ≠ c ∧ d ∉ U:=by simpa using hd
  rw [h.same d hd'.2,getD_setI (by omega),if_neg hd'.1]
 ·rcases List.mem_cons.1 hd with rfl | hd
  ·rw [hcv]; exact ⟨h0,hM⟩
  ·exact h.pos d hd
theorem Goes.span {n : Nat} {M : Int} {l : List Eqn} {c : Nat} {U : List Nat} {t s : List Int} (hinv : Inv n l (c :: U) t) (h : Goes n M l (c :: U) t s) : lowF t (c :: U) c l ≤ s.getD c 0 ∧ s.getD c 0 ≤ highF M t c l:=by
 have hp:=h.pos c (by simp)
 have hrest : ∀ q ∈ l,restQ t q = sumC s (q.1.filter fun d => decide (d ∈ c :: U)):=fun q hq => by
  have h1:=sumC_split (s:=s) (t:=t) (U:=c :: U) (cs:=q.1) (fun d _ hd => h.same d hd) (fun d _ hd => hinv.zero d hd)
  have h2:=h.sum q hq
  unfold restQ
  omega
 have hnn : ∀ q : Eqn,∀ d ∈ q.1.filter (fun d => decide (d ∈ c :: U)),0 ≤ s.getD d 0:=fun q d hd => (h.pos d (by have:=(List.mem_filter.1 hd).2; exact of_decide_eq_true this)).1
 constructor
 ·rw [lowF_le]
  refine ⟨hp.1,fun q hq hc hop => ?_⟩
  rw [hrest q hq]
  have hmem : c ∈ q.1.filter (fun d => decide (d ∈ c :: U)):=List.mem_filter.2 ⟨hc,by simp⟩
  unfold openQ at hop
  generalize q.1.filter (fun d => decide (d ∈ c :: U)) = f at hop hmem
  match f,hop,hmem with
  | [x],_,hm =>
   rw [List.mem_singleton.1 hm]
   simp [sumC]
 ·rw [le_highF]
  refine ⟨hp.2,fun q hq hc => ?_⟩
  rw [hrest q hq]
  exact le_sumC (hnn q) (List.mem_filter.2 ⟨hc,by simp⟩)
theorem mem_enum {n : Nat} {M : Int} {l : List Eqn} (ho : Once l) : ∀ {U : List Nat} {down : Bool} {t s : List Int},Inv n l U t → (s ∈ enum M l down U t ↔ Goes n M l U t s)
 | [],down,t,s,h => by
  unfold enum
  rw [List.mem_singleton]
  constructor
  ·rintro rfl
   exact ⟨h.len,fun _ _ => rfl,fun c hc => absurd hc List.not_mem_nil,fun q hq => by
    have:=h.done q hq (by unfold openQ; simp)
    unfold restQ at this
    omega⟩
  ·intro hg
   exact ext_len (by rw [hg.len,h.len]) fun c => hg.same c List.not_mem_nil
 | c :: U,down,t,s,h => by
  unfold enum
  rw [List.mem_flatMap]
  constructor
  ·rintro ⟨k,hk,hs⟩
   have hk:=List.mem_range.1 hk
   have hv : lowF t (c :: U) c l ≤ (if down then highF M t c l - (k : Int) else lowF t (c :: U) c l + (k : Int)) ∧ (if down then highF M t c l - (k : Int) else lowF t (c :: U) c l + (k : Int)) ≤ highF M t c l:=by split <;> omega
   have hg:=(mem_enum ho (h.step ho hv.1 hv.2)).1 hs
   exact (Goes.back h hg (lowF_le.1 hv.1).1 (le_highF.1 hv.2).1).1
  ·intro hg
   obtain ⟨h1,h2⟩:=Goes.span h hg
   have hk : ∃ k : Nat,(k : Int) ≤ highF M t c l - lowF t (c :: U) c l ∧ (if down then highF M t c l - (k : Int) else lowF t (c :: U) c l + (k : Int)) = s.getD c 0:=by
    by_cases hd : down = true
    ·refine ⟨(highF M t c l - s.getD c 0).toNat,by omega,?_⟩
     rw [if_pos hd]; omega
    ·refine ⟨(s.getD c 0 - lowF t (c :: U) c l).toNat,by omega,?_⟩
     rw [if_neg hd]; omega
   obtain ⟨k,hk1,hk2⟩:=hk
   refine ⟨k,List.mem_range.2 (by omega),?_⟩
   rw [hk2]
   exact (mem_enum ho (h.step ho h1 h2)).2 (hg.step h)
def ltU : Bool → List Nat → List Int → List Int → Prop
 | _,[],_,_ => False
 | down,c :: U,a,b => (if down then b.getD c 0 < a.getD c 0 else a.getD c 0 < b.getD c 0) ∨ (a.getD c 0 = b.getD c 0 ∧ ltU false U a b)
theorem pairwise_flatMap {α β : Type} {r : β → β → Prop} {f : α → List β} : ∀ {l : List α},(∀ x ∈ l,(f x).Pairwise r) → l.Pairwise (fun x y => ∀ a ∈ f x,∀ b ∈ f y,r a b) → (l.flatMap f).Pairwise r
 | [],_,_ => List.Pairwise.nil
 | x :: l,h1,h2 => by
  rw [List.flatMap_cons,List.pairwise_append]
  obtain ⟨h3,h4⟩:=List.pairwise_cons.1 h2
  refine ⟨h1 x (by simp),pairwise_flatMap (fun y hy => h1 y (by simp [hy])) h4,fun a ha b hb => ?_⟩
  obtain ⟨y,hy,hb⟩:=List.mem_flatMap.1 hb
  exact h3 y hy a ha b hb
theorem enum_sorted {n : Nat} {M : Int} {l : List Eqn} (ho : Once l) : ∀ {U : List Nat} {down : Bool} {t : List Int},Inv n l U t → (enum M l down U t).Pairwise (ltU down U)
 | [],down,t,_ => by unfold enum; exact List.pairwise_singleton _ _
 | c :: U,down,t,h => by
  unfold enum
  have hat : ∀ k : Nat,k < (highF M t c l - lowF t (c :: U) c l + 1).toNat → ∀ a ∈ enum M l false U (t.set c (if down then highF M t c l - (k : Int) else lowF t (c :: U) c l + (k : Int))),a.getD c 0 = if down then highF M t c l - (k : Int) else lowF t (c :: U) c l + (k : Int):=fun k hk a ha => by
   have hv : lowF t (c :: U) c l ≤ (if down then highF M t c l - (k : Int) else lowF t (c :: U) c l + (k : Int)) ∧ (if down then highF M t c l - (k : Int) else lowF t (c :: U) c l + (k : Int)) ≤ highF M t c l:=by split <;> omega
   exact (Goes.back h ((mem_enum ho (h.step ho hv.1 hv.2)).1 ha) (lowF_le.1 hv.1).1 (le_highF.1 hv.2).1).2
  refine pairwise_flatMap (fun k hk => ?_) ?_
  ·have hk:=List.mem_range.1 hk
   have hv : lowF t (c :: U) c l ≤ (if down then highF M t c l - (k : Int) else lowF t (c :: U) c l + (k : Int)) ∧ (if down then highF M t c l - (k : Int) else lowF t (c :: U) c l + (k : Int)) ≤ highF M t c l:=by split <;> omega
   refine (enum_sorted ho (h.step ho hv.1 hv.2)).imp_of_mem fun {a b} ha hb hab => ?_
   exact Or.inr ⟨by rw [hat k hk a ha,hat k hk b hb],hab⟩
  ·refine (List.pairwise_lt_range (n:=_)).imp_of_mem fun {x y} hx hy hxy a ha b hb => ?_
   have hx:=List.mem_range.1 hx
   have hy:=List.mem_range.1 hy
   left
   rw [hat x hx a ha,hat y hy b hb]
   by_cases hd : down = true
   ·rw [if_pos hd,if_pos hd,if_pos hd]; omega
   ·rw [if_neg hd,if_neg hd,if_neg hd]; omega
theorem ltU_irrefl : ∀ {U : List Nat} {down : Bool} {a : List Int},¬ ltU down U a a
 | [],_,_,h => h
 | c :: U,down,a,h => by
  rcases h with h | ⟨_,h⟩
  ·split at h <;> omega
  ·exact ltU_irrefl h
theorem ltU_asymm : ∀ {U : List Nat} {down : Bool} {a b : List Int},ltU down U a b → ¬ ltU down U b a
 | [],_,_,_,h,_ => h
 | c :: U,down,a,b,h,h2 => by
  unfold ltU at h h2
  rcases h with h | ⟨h,h1⟩ <;> rcases h2 with h2 | ⟨h2,h3⟩
  ·cases down <;> simp only [if_true,Bool.false_eq_true,if_false] at h h2 <;> omega
  ·cases down <;> simp only [if_true,Bool.false_eq_true,if_false] at h <;> omega
  ·cases down <;> simp only [if_true,Bool.false_eq_true,if_false] at h2 <;> omega
  ·exact ltU_asymm h1 h3
theorem sorted_same {α : Type} {r : α → α → Prop} (hi : ∀ a,¬ r a a) (ha : ∀ a b,r a b → ¬ r b a) : ∀ {x y : List α},x.Pairwise r → y.Pairwise r → (∀ a,a ∈ x ↔ a ∈ y) → x = y
 | [],[],_,_,_ => rfl
 | [],b :: y,_,_,h => absurd ((h b).2 (by simp)) List.not_mem_nil
 | a :: x,[],_,_,h => absurd ((h a).1 (by simp)) List.not_mem_nil
 | a :: x,b :: y,hx,hy,h => by
  obtain ⟨hx1,hx2⟩:=List.pairwise_cons.1 hx
  obtain ⟨hy1,hy2⟩:=List.pairwise_cons.1 hy
  have hab : a = b:=by
   rcases List.mem_cons.1 ((h a).1 (by simp)) with h1 | h1
   ·exact h1
   rcases List.mem_cons.1 ((h b).2 (by simp)) with h2 | h2
   ·exact h2.symm
   exact absurd (hx1 b h2) (ha _ _ (hy1 a h1))
  subst hab
  rw [sorted_same hi ha hx2 hy2 fun c => ?_]
  constructor
  ·intro hc
   rcases List.mem_cons.1 ((h c).1 (by simp [hc])) with h1 | h1
   ·subst h1; exact absurd (hx1 c hc) (hi c)
   ·exact h1
  ·intro hc
   rcases List.mem_cons.1 ((h c).2 (by simp [hc])) with h1 | h1
   ·subst h1; exact absurd (hy1 c hc) (hi c)
   ·exact h1
def foldStop {σ α : Type} (f : σ → α → σ × Bool) : σ → List α → σ × Bool
 | s,[] => (s,true)
 | s,x :: l => if (f s x).2 then foldStop f (f s x).1 l else ((f s x).1,false)
theorem foldStop_append {σ α : Type} (f : σ → α → σ × Bool) : ∀ (s : σ) (x y : List α),foldStop f s (x ++ y) = if (foldStop f s x).2 then foldStop f (foldStop f s x).1 y else foldStop f s x
 | s,[],y => by simp [foldStop]
 | s,a :: x,y => by
  rw [List.cons_append,foldStop,foldStop]
  by_cases h : (f s a).2 = true
  ·rw [if_pos h,if_pos h]; exact foldStop_append f _ x y
  ·rw [if_neg h,if_neg h,if_neg (by simp)]
end Go.Sol
namespace Go.Eng
section
variable {C : Cx} {e e' : Env} {I I' : PH} {R R' : List Res} {K K' : Act → World → Prop} {Q : Exit → Act → World → Prop} {W : World}
theorem St.imm_le {w : World} (hle : PH.le I I') (h : St W I' R w) : St W I R w:=by
 obtain ⟨⟨m,hm,hs⟩,hst⟩:=h
 exact ⟨⟨m,hm,⟨fun i o hi => hs.imm i o (hle i o hi),hs.own,dis_sub hs.dis hle (PH.le_refl _)⟩⟩,hst⟩
theorem Nx.imm_le (hle : PH.le I I') (h : Nx C e I R K) : Nx C e I' R K:=fun a w ha hw => h a w ha (hw.imm_le hle)
theorem Stars.get : ∀ {R : List Res} {m : PH} (k : Nat) {r : Res},Stars R m → nthL R k = some r → ∃ m',PH.le m' m ∧ r m'
 | [],_,k,r,_,hk => by cases k <;> simp [nthL] at hk
 | r0 :: R,m,0,r,h,hk => by
  obtain ⟨m1,m2,hd,rfl,h1,_⟩:=h
  simp [nthL] at hk
  subst hk
  exact ⟨m1,PH.le_or_left _ _,h1⟩
 | r0 :: R,m,k + 1,r,h,hk => by
  obtain ⟨m1,m2,hd,rfl,_,h2⟩:=h
  obtain ⟨m',hle,hr⟩:=Stars.get k h2 hk
  exact ⟨m',hle.trans (PH.le_or_right hd),hr⟩
theorem Nx.freezeAt (k : Nat) {r : Res} (hk : nthL R k = some r) (h : ∀ I' m,PH.le I I' → PH.le m I' → r m → Nx C e I' (R.eraseIdx k) K) : Nx C e I R K :=
 Nx.freeze (B:=[r]) (R':=R.eraseIdx k) (Ent.pull k R r (nthL_eq.symm.trans hk)) (fun m hd hB => by
  obtain ⟨m1,m2,hd',rfl,hr,_⟩:=hB
  exact h _ m1 (PH.le_or_left _ _) ((PH.le_or_left m1 m2).trans (PH.le_or_right hd)) hr)
theorem Nx.unfoldAt (k : Nat) {B : List Res} (hk : nthL R k = some (Stars B)) (h : Nx C e I (B ++ R.eraseIdx k) K) : Nx C e I R K:=by
 refine Nx.ent (Ent.pull k R _ (nthL_eq.symm.trans hk)) (Nx.ent ?_ h)
 rintro m ⟨m1,m2,hd,rfl,h1,h2⟩
 obtain ⟨k,hk,hkS⟩:=Stars.join hd h1 h2
 exact ⟨k,hk,hkS⟩
theorem Ent.bundle {r : Res} {B : List Res} {R : List Res} : Ent (r :: Stars B :: R) (Stars (B ++ [r]) :: R):=by
 refine (Ent.swap _ _ _).trans ?_
 rintro m ⟨m1,m2,hd,rfl,h1,n1,n2,hd',rfl,h2,h3⟩
 obtain ⟨d1,d2⟩:=PH.dis_or.1 hd
 obtain ⟨k,hk,hkS⟩:=Stars.join (a:=B) (b:=[r]) d1 h1 ⟨n1,fun _ => none,fun _ => .inr rfl,by funext i; unfold PH.or; cases n1 i <;> rfl,h2,trivial⟩
 have hkn : PH.dis k n2:=dis_sub (PH.dis.symm (PH.dis_or.2 ⟨d2.symm,hd'.symm⟩)) hk (PH.le_refl _)
 refine ⟨k.or n2,?_,k,n2,hkn,rfl,hkS,h3⟩
 rw [← PH.or_assoc]
 refine PH.or_le (hk.trans (PH.le_or_left _ _)) (PH.le_or_right (PH.dis.symm (PH.dis_or.2 ⟨d2.symm,hd'.symm⟩)))
theorem Ent.stars_nil (R : List Res) : Ent R (Stars [] :: R):=fun m hm => ⟨m,PH.le_refl m,fun _ => none,m,fun _ => .inl rfl,by funext i; rfl,trivial,hm⟩
theorem Ent.pack2 {r s : Res} {R : List Res} : Ent (r :: s :: R) (Stars [r,s] :: R):=by
 rintro m ⟨m1,mm,hd,rfl,h1,m2,m3,hd',rfl,h2,h3⟩
 obtain ⟨d1,d2⟩:=PH.dis_or.1 hd
 refine ⟨_,PH.le_refl _,m1.or m2,m3,PH.dis.symm (PH.dis_or.2 ⟨d2.symm,hd'.symm⟩),(PH.or_assoc _ _ _).symm,?_,h3⟩
 exact ⟨m1,m2,d1,rfl,h1,m2,fun _ => none,fun _ => .inr rfl,by funext i; unfold PH.or; cases m2 i <;> rfl,h2,trivial⟩
section
variable {d : Nat} {ty t el : TypeId} {pos : String} {after : Array Edge} {g : Option (Nat × Bool)} {x y : Operand} {A : Option Addr} {n c : Nat}
theorem Nx.store_of (k : Nat) {α : Type} (f : α → Value) {i : Nat} {l : List α} {z : α} (hx : evo e x = some (.pointer (some ((ad A).add (i * 1))))) (hy : evo e y = some (f z)) (hc : cellsL (f z) = [f z]) (h1 : (f z).oneCell' = true) (hn : cellsIn C.P t = some 1) (hk : nthL R k = some (Vec el 1 A n c (l.map f))) (hi : i < n)
  (h : Nx C e I (Vec el 1 A n c ((l.set i z).map f) :: R.eraseIdx k) K) : Nx C e I R (opK C.P ⟨none,.store t x y,ty,pos,after,g⟩ K Q):=by
 rw [Nat.mul_one] at hx
 refine Nx.ent (Ent.pull k R _ (nthL_eq.symm.trans hk)) (Nx.store hx hy ((cellsL_eq _).trans hc) hn rfl (Wr.vec hi h1) ?_)
 rw [List.map_set] at h
 exact h
end
end
end Go.Eng
namespace Go.Eng
section
variable {C : Cx} {e : Env} {I : PH} {R : List Res} {K : Act → World → Prop} {Q : Exit → Act → World → Prop} {W : World} {d n c : Nat} {v : Value} {o : Oper} {P : Program} {t ty el : TypeId} {pos : String} {after : Array Edge} {g : Option (Nat × Bool)} {x y : Operand} {A : Option Addr}
theorem Nx.quietly (hd : o.dst = some d) (hlt : Nat.blt d C.n = true) (h : QRun C e (St C.W I R) o v) (k : Nx C ((d,v) :: e) I R K) : Nx C e I R (opK C.P o K Q):=Nx.op_run hd hlt (fun a w ha hw => by unfold QRun at h; exact h a w ha hw) k
theorem Wr.vecN {sz i : Nat} {xs : List Value} (hi : i < n * sz) (h1 : v.oneCell' = true) : Wr P W I (Vec t sz A n c xs :: R) ((ad A).add i) [v] (Vec t sz A n c (xs.set i v) :: R):=by
 intro w hw
 obtain ⟨⟨m,⟨m1,m2,hd,rfl,hv,h2⟩,hsat⟩,hst⟩:=id hw
 rcases hv.2 with ⟨_,h0,_⟩ | ⟨b,cur,rfl,hb,hnc,hcm,hsz,htake⟩
 ·rw [h0,Nat.zero_mul] at hi; omega
 have hb0 : w.heap[b]? = some (.cells cur t (0,0)):=hsat.own _ _ (PH.le_or_left _ _ _ _ hb)
 have hle : n * sz ≤ c * sz:=Nat.mul_le_mul_right _ hnc
 have hrun:=run_store1 (P:=P) hb0 (i:=i) (by omega) h1
 refine ⟨w.setCell ⟨b,i,none⟩ v,?_,hw.upd (o:=.cells (cur.setIfInBounds i v) t (0,0)) (b:=b) (fun mm hm => ?_) ?_ (fun k hne o' ho => (heap_setCell_other w ⟨b,i,none⟩ k v hne).trans ho) ⟨rfl,rfl,rfl,by simp,nLr _⟩⟩
 ·rw [ad_some,Addr.add_lit,Nat.zero_add]
  unfold storeCells
  rw [Sem.run_bind,Addr.add_zero',hrun]
  rfl
 ·rcases hm.2 with ⟨he,_,_⟩ | ⟨b',cur',he,hb',h1',h2',h3',h4'⟩
  ·cases he
  ·cases he
   refine ⟨by rw [hb']; rfl,by simpa using hm.1,.inr ⟨b,cur.setIfInBounds i v,rfl,by simp,h1',h2',by simpa using hsz,?_⟩⟩
   rw [← htake]
   simp only [Array.toList_setIfInBounds]
   rw [List.take_set]
 ·exact heap_setCell_same w b i cur t v hb0
theorem Nx.store_fld (k : Nat) {sz i j : Nat} {xs : List Value} (hx : evo e x = some (.pointer (some (((ad A).add (i * sz)).add j)))) (hy : evo e y = some v) (hc : cellsL v = [v]) (h1 : v.oneCell' = true) (hn : cellsIn C.P t = some 1) (hk : nthL R k = some (Vec el sz A n c xs)) (hi : i * sz + j < n * sz)
  (h : Nx C e I (Vec el sz A n c (xs.set (i * sz + j) v) :: R.eraseIdx k) K) : Nx C e I R (opK C.P ⟨none,.store t x y,ty,pos,after,g⟩ K Q):=by
 rw [Addr.add_add] at hx
 exact Nx.ent (Ent.pull k R _ (nthL_eq.symm.trans hk)) (Nx.store hx hy ((cellsL_eq _).trans hc) hn rfl (Wr.vecN hi h1) h)
end
end Go.Eng
namespace Go.Eng
structure PoolOp where
 k : Nat
 d : Nat
 t : TypeId
 cs : List Value
def pe : List PoolOp → List (Option Nat) → Env
 | p :: ps,some b :: bs => (p.d,.pointer (some ⟨b,0,none⟩)) :: pe ps bs
 | _ :: ps,none :: bs => pe ps bs
 | _,_ => []
def pr : List PoolOp → List (Option Nat) → List Res
 | p :: ps,some b :: bs => Blk b p.t p.cs :: pr ps bs
 | _ :: ps,none :: bs => pr ps bs
 | _,_ => []
def keysFree (pool : List PoolOp) : Env → Bool
 | [] => true
 | (t,_) :: e => pool.all (fun p => !Nat.beq p.d t) && keysFree pool e
theorem keysFree_lk {pool : List PoolOp} : ∀ {e : Env} {p : PoolOp},keysFree pool e = true → p ∈ pool → lk e p.d = none
 | [],_,_,_ => rfl
 | (t,v) :: e,p,h,hp => by
  simp only [keysFree,Bool.and_eq_true,List.all_eq_true] at h
  have h1:=h.1 p hp
  unfold lk
  have hne : Nat.beq t p.d = false:=by
   cases hb : Nat.beq t p.d with
   | false => rfl
   | true => have:=Nat.eq_of_beq_eq_true hb; subst this; simp at h1
  rw [hne]
  exact keysFree_lk h.2 hp
theorem lk_cons (k : Nat) (u : Value) (r : Env) (t : Nat) : lk ((k,u) :: r) t = match Nat.beq k t with | true => some u | false => lk r t:=rfl
theorem Stars.up : ∀ {R : List Res} {m m' : PH},Stars R m' → PH.le m' m → Stars R m
 | [],_,_,_,_ => trivial
 | r :: rs,m,_,⟨m1,m2,hd,rfl,hr,h2⟩,hle => by
  refine ⟨m1,fun i => match m1 i with | some _ => none | none => m i,fun i => ?_,?_,hr,Stars.up h2 fun i o hi => ?_⟩
  ·cases h : m1 i with
   | none => exact .inl rfl
   | some o => exact .inr (by show (match m1 i with | some _ => none | none => m i) = none; rw [h])
  ·funext i
   show m i = (match m1 i with | some o => some o | none => (match m1 i with | some _ => none | none => m i))
   cases h : m1 i with
   | none => simp only
   | some o => exact hle i o (PH.le_or_left m1 m2 i o h)
  ·have h1 : m1 i = none:=by
    rcases hd i with h | h
    ·exact h
    ·rw [h] at hi; cases hi
   show (match m1 i with | some _ => none | none => m i) = some o
   rw [h1]
   exact hle i o (PH.le_or_right hd i o hi)
theorem lk_app {a b : Env} {t : Nat} {v : Value} (h : lk (a ++ b) t = some v) : lk a t = some v ∨ (lk a t = none ∧ lk b t = some v):=by
 induction a with
 | nil => exact .inr ⟨rfl,h⟩
 | cons x r ih =>
  obtain ⟨k,u⟩:=x
  simp only [List.cons_append] at h
  rw [lk_cons] at h ⊢
  cases hb : Nat.beq k t with
  | true => rw [hb] at h; exact .inl h
  | false => rw [hb] at h; exact ih h
theorem lk_app_l {a b : Env} {t : Nat} {v : Value} (h : lk a t = some v) : lk (a ++ b) t = some v:=by
 induction a with
 | nil => simp [lk] at h
 | cons x r ih =>
  obtain ⟨k,u⟩:=x
  simp only [List.cons_append]
  rw [lk_cons] at h ⊢
  cases hb : Nat.beq k t with
  | true => rw [hb] at h; exact h
  | false => rw [hb] at h; exact ih h
theorem lk_app_r {a b : Env} {t : Nat} (h : lk a t = none) : lk (a ++ b) t = lk b t:=by
 induction a with
 | nil => rfl
 | cons x r ih =>
  obtain ⟨k,u⟩:=x
  simp only [List.cons_append]
  rw [lk_cons] at h ⊢
  cases hb : Nat.beq k t with
  | true => rw [hb] at h; cases h
  | false => rw [hb] at h; exact ih h
theorem pe_set : ∀ {pool : List PoolOp} {bs : List (Option Nat)} {j : Nat} {p : PoolOp} {b t : Nat} {v : Value},pool[j]? = some p → lk (pe pool (bs.set j (some b))) t = some v → (t = p.d ∧ v = .pointer (some ⟨b,0,none⟩)) ∨ lk (pe pool bs) t = some v ∨ bs[j]? ≠ some none
 | [],_,j,p,_,_,_,hj,_ => by simp at hj
 | q :: ps,[],j,p,_,_,_,_,h => by simp [pe,lk] at h
 | q :: ps,o :: bs,0,p,b,t,v,hj,h => by
  simp at hj
  subst hj
  cases o with
  | some b0 => exact .inr (.inr (by simp))
  | none =>
   simp only [List.set_cons_zero,pe] at h ⊢
   unfold lk at h
   cases hb : Nat.beq q.d t with
   | true => rw [hb] at h; have:=Nat.eq_of_beq_eq_true hb; subst this; exact .inl ⟨rfl,(Option.some.inj h).symm⟩
   | false => rw [hb] at h; exact .inr (.inl h)
 | q :: ps,o :: bs,j + 1,p,b,t,v,hj,h => by
  simp only [List.set_cons_succ] at h
  have hj' : ps[j]? = some p:=by simpa using hj
  cases o with
  | none =>
   simp only [pe] at h ⊢
   rcases pe_set hj' h with h1 | h1 | h1
   ·exact .inl h1
   ·exact .inr (.inl h1)
   ·exact .inr (.inr (by simpa using h1))
  | some b0 =>
   simp only [pe] at h ⊢
   unfold lk at h ⊢
   cases hb : Nat.beq q.d t with
   | true => rw [hb] at h; exact .inr (.inl h)
   | false =>
    rw [hb] at h
    rcases pe_set hj' h with h1 | h1 | h1
    ·exact .inl h1
    ·exact .inr (.inl h1)
    ·exact .inr (.inr (by simpa using h1))
theorem pr_set : ∀ {pool : List PoolOp} {bs : List (Option Nat)} {j : Nat} {p : PoolOp} {b : Nat},pool[j]? = some p → bs[j]? = some none → Ent (Blk b p.t p.cs :: pr pool bs) (pr pool (bs.set j (some b)))
 | [],_,j,p,_,hj,_ => by simp at hj
 | q :: ps,[],j,p,_,_,h => by simp at h
 | q :: ps,o :: bs,0,p,b,hj,h => by
  simp at hj h
  subst hj; subst h
  simp only [List.set_cons_zero,pr]
  exact Ent.refl _
 | q :: ps,o :: bs,j + 1,p,b,hj,h => by
  simp only [List.set_cons_succ]
  have hj' : ps[j]? = some p:=by simpa using hj
  have h' : bs[j]? = some none:=by simpa using h
  cases o with
  | none => simp only [pr]; exact pr_set hj' h'
  | some b0 => simp only [pr]; exact (Ent.swap _ _ _).trans (Ent.cons (pr_set hj' h'))
theorem pe_none : ∀ {pool : List PoolOp} {bs : List (Option Nat)} {j : Nat} {p : PoolOp},(pool.map (·.d)).Pairwise (· ≠ ·) → pool[j]? = some p → bs[j]? = some none → lk (pe pool bs) p.d = none
 | [],_,j,p,_,hj,_ => by simp at hj
 | q :: ps,[],j,p,_,_,h => by simp at h
 | q :: ps,o :: bs,0,p,hd,hj,h => by
  simp at hj h
  subst hj; subst h
  simp only [pe]
  simp only [List.map_cons,List.pairwise_cons] at hd
  have key : ∀ (ps : List PoolOp) (bs : List (Option Nat)),(∀ a ∈ ps.map (·.d),q.d ≠ a) → lk (pe ps bs) q.d = none:=by
   intro ps
   induction ps with
   | nil => intro bs _; simp [pe,lk]
   | cons r ps ih =>
    intro bs hh
    cases bs with
    | nil => simp [pe,lk]
    | cons o bs =>
     cases o with
     | none => simp only [pe]; exact ih bs fun a ha => hh a (by simp at ha ⊢; exact .inr ha)
     | some b0 =>
      simp only [pe]
      unfold lk
      have hne : Nat.beq r.d q.d = false:=by
       cases hb : Nat.beq r.d q.d with
       | false => rfl
       | true => exact absurd (Nat.eq_of_beq_eq_true hb).symm (hh r.d (by simp))
      rw [hne]
      exact ih bs fun a ha => hh a (by simp at ha ⊢; exact .inr ha)
  exact key ps bs hd.1
 | q :: ps,o :: bs,j + 1,p,hd,hj,h => by
  have hj' : ps[j]? = some p:=by simpa using hj
  have h' : bs[j]? = some none:=by simpa using h
  simp only [List.map_cons,List.pairwise_cons] at hd
  cases o with
  | none => simp only [pe]; exact pe_none hd.2 hj' h'
  | some b0 =>
   simp only [pe]
   unfold lk
   have hne : Nat.beq q.d p.d = false:=by
    cases hb : Nat.beq q.d p.d with
    | false => rfl
    | true => exact absurd (Nat.eq_of_beq_eq_true hb) (hd.1 p.d (List.mem_map.2 ⟨p,List.mem_of_getElem? hj',rfl⟩))
   rw [hne]
   exact pe_none hd.2 hj' h'
def findP : List PoolOp → List Bool → Nat → Nat → Option Nat
 | p :: ps,f :: fl,i,j => if Nat.beq p.k i && !f then some j else findP ps fl i (j + 1)
 | _,_,_,_ => none
theorem findP_ok : ∀ {pool : List PoolOp} {fl : List Bool} {i j j0 : Nat},findP pool fl i j0 = some j → ∃ m p,j = j0 + m ∧ pool[m]? = some p ∧ fl[m]? = some false ∧ p.k = i
 | [],_,_,_,_,h => by simp [findP] at h
 | _ :: _,[],_,_,_,h => by simp [findP] at h
 | p :: ps,f :: fl,i,j,j0,h => by
  unfold findP at h
  split at h
  ·rename_i hc
   simp only [Bool.and_eq_true,Bool.not_eq_true'] at hc
   exact ⟨0,p,by simpa using h.symm,rfl,by simp [hc.2],Nat.eq_of_beq_eq_true hc.1⟩
  ·obtain ⟨m,q,h1,h2,h3,h4⟩:=findP_ok h
   exact ⟨m + 1,q,by omega,by simpa using h2,by simpa using h3,h4⟩
structure PoolFit (C : Cx) (ops : Array Oper) (p : PoolOp) : Prop where
 op : ∃ ty pos after,ops[p.k]? = some ⟨some p.d,.alloc p.t,ty,pos,after,none⟩
 zero : zeroOf C.P p.t = some p.cs
 lt : Nat.blt p.d C.n = true
section
variable {C : Cx} {e e' : Env} {I : PH} {R R' R0 : List Res} {K K' : Act → World → Prop} {Q : Exit → Act → World → Prop} {W : World}
variable {ops : Array Oper} {S : World → Prop} {loud rest ch : List Nat} {pool : List PoolOp}
theorem map_isSome {bs : List (Option Nat)} (h : (bs.map Option.isSome).all id = true) : ∃ l : List Nat,bs = l.map some:=by
 induction bs with
 | nil => exact ⟨[],rfl⟩
 | cons o r ih =>
  simp only [List.map_cons,List.all_cons,Bool.and_eq_true,id_eq] at h
  obtain ⟨l,rfl⟩:=ih h.2
  cases o with
  | none => cases h.1
  | some b => exact ⟨b :: l,rfl⟩
theorem Mod.poolPut {n : Nat} {a : Act} {p : PoolOp} {bs : List (Option Nat)} {j b : Nat} (h : Mod n (e ++ pe pool bs) a) (hf : keysFree pool e = true) (hd : (pool.map (·.d)).Pairwise (· ≠ ·)) (hj : pool[j]? = some p) (hb : bs[j]? = some none) (hlt : Nat.blt p.d n = true) :
  Mod n (e ++ pe pool (bs.set j (some b))) (a.put (some p.d) (.pointer (some ⟨b,0,none⟩))):=by
 have h1:=h.put hlt (.pointer (some ⟨b,0,none⟩))
 refine ⟨h1.size,h1.defers,fun t v hv => ?_⟩
 have hpe:=keysFree_lk hf (List.mem_of_getElem? hj)
 have hpn:=pe_none hd hj hb
 have key : ∀ {t v},lk (e ++ pe pool bs) t = some v → (a.put (some p.d) (.pointer (some ⟨b,0,none⟩))).tmps[t]? = some v:=fun {t v} hv => by
  refine h1.get t v ?_
  unfold lk
  have hne : Nat.beq p.d t = false:=by
   cases hb : Nat.beq p.d t with
   | false => rfl
   | true =>
    have:=Nat.eq_of_beq_eq_true hb
    subst this
    rcases lk_app hv with h2 | ⟨_,h2⟩
    ·rw [hpe] at h2; cases h2
    ·rw [hpn] at h2; cases h2
  rw [hne]; exact hv
 rcases lk_app hv with h2 | ⟨h2,h3⟩
 ·exact key (lk_app_l h2)
 ·rcases pe_set hj h3 with ⟨rfl,rfl⟩ | h4 | h4
  ·exact h1.get _ _ (by unfold lk; rw [Nat.beq_refl])
  ·exact key (by rw [lk_app_r h2]; exact h4)
  ·exact absurd hb h4
def preOk (ops : Array Oper) (k : Array Bool → Bool) : List Nat → Array Bool → Bool
 | [],listed => k listed
 | q :: r,listed => Region.free .any ops listed q && (Region.ready .any ops listed).contains q && preOk ops k r (listed.setIfInBounds q true)
theorem wpMix_pre {P : Program} {T : Act → World → Prop} (hs : Region.noSelect ops = true) (hQ : PanicOk Q) {k : Array Bool → Bool} {fuel : Nat} (hT : ∀ listed a w,k listed = true → S w → T a w → wpAnyH P .any ops Q S fuel listed a w) : ∀ (q : List Nat) (listed : Array Bool) (a : Act) (w : World),
  preOk ops k q listed = true → S w → wpMix P ops (Exit.then T Q) S [] q a w → wpAnyH P .any ops Q S (fuel + q.length) listed a w
 | [],listed,a,w,hok,hSw,h => hT listed a w hok hSw h
 | i :: r,listed,a,w,hok,hSw,h => by
  obtain ⟨o,ho,h⟩:=h
  simp only [preOk,Bool.and_eq_true] at hok
  rw [if_neg (by simp)] at h
  obtain ⟨v,hy,h⟩:=h
  exact wpAnyH_take ho hs hok.1.1 hok.1.2 (fun c a w => hQ c o.dst v a w) hy hSw (wpMix_pre hs hQ hT r _ _ w hok.2 hSw h)
theorem pe_nones : ∀ (pool : List PoolOp),pe pool (pool.map fun _ => none) = [] ∧ pr pool (pool.map fun _ => none) = [] ∧ ((pool.map fun _ => (none : Option Nat)).map Option.isSome) = pool.map fun _ => false
 | [] => ⟨rfl,rfl,rfl⟩
 | p :: ps => by
  obtain ⟨h1,h2,h3⟩:=pe_nones ps
  exact ⟨by simp only [List.map_cons,pe]; exact h1,by simp only [List.map_cons,pr]; exact h2,by simp [h3]⟩
variable {c : Code}
end
end Go.Eng
