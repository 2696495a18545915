/-
  The proof engine, part S: the standard steps of a walk, each with the tactic that finds its premise.
-/
import Derived.Test.YtaoeapmdhpkidaaEngP
namespace Go.Eng
section
variable {C : Cx} {e e' : Env} {I : PH} {R R' : List Res} {K K' : Act → World → Prop} {Q : Exit → Act → World → Prop} {W : World} {o : Oper}
variable {ty t u : TypeId} {pos : String} {after : Array Edge} {g : Option (Nat × Bool)} {x y z : Operand} {v : Value} {dst : Option Tmp}
variable {ops : Array Oper} {i : Nat} {S : World → Prop} {loud r : List Nat}
theorem yielded_undef {n : Nat} {ops : Array Oper} {a : Act} {j d : Nat} (ha : Mod n e a) (hd : (ops[j]?).bind (·.dst) = some d) (hb : lk e d = some undef) : yielded ops a.tmps j = none := by
  have := ha.get d _ hb
  simp [yielded, hd, this, undef]
/-! Guards that were themselves not run. -/
theorem Nx.at_noU {j d t : Nat} {want : Bool} (ho : opAt ops.toList i = some o) (hg : o.guard = some (j, want)) (hd : (ops[j]?).bind (·.dst) = some d) (hb : lk e d = some undef) (ht : o.dst = some t) (hlt : Nat.blt t C.n = true)
    (h : Nx C ((t, undef) :: e) I R (wpAt C.P ops Q (i + 1))) : Nx C e I R (wpAt C.P ops Q i) := by
  unfold wpAt at *
  rw [drop_of (opAt_arr ho)]
  intro a w ha hw
  unfold wpList
  rw [if_neg (by simp [Region.wanted, hg, yielded_undef ha hd hb]), ht]
  exact h _ w (ha.put hlt _) hw
theorem Nx.at_noU0 {j d : Nat} {want : Bool} (ho : opAt ops.toList i = some o) (hg : o.guard = some (j, want)) (hd : (ops[j]?).bind (·.dst) = some d) (hb : lk e d = some undef) (ht : o.dst = none)
    (h : Nx C e I R (wpAt C.P ops Q (i + 1))) : Nx C e I R (wpAt C.P ops Q i) := by
  unfold wpAt at *
  rw [drop_of (opAt_arr ho)]
  intro a w ha hw
  unfold wpList
  rw [if_neg (by simp [Region.wanted, hg, yielded_undef ha hd hb]), ht]
  exact h _ w ha hw
theorem Nx.m_quiet_noU {k d : Nat} {j dj : Nat} {want : Bool} (ho : opAt ops.toList k = some o) (hl : loud.contains k = false) (hg : o.guard = some (j, want)) (hdj : (ops[j]?).bind (·.dst) = some dj) (hb : lk e dj = some undef) (hd : o.dst = some d) (hlt : Nat.blt d C.n = true)
    (h : Nx C ((d, undef) :: e) I R (wpMix C.P ops Q S loud r)) : Nx C e I R (wpMix C.P ops Q S loud (k :: r)) := by
  intro a w ha hw
  refine ⟨o, opAt_arr ho, ?_⟩
  rw [if_neg (by rw [hl]; simp)]
  refine ⟨undef, .inr ⟨by simp [Region.wanted, hg, yielded_undef ha hdj hb], rfl⟩, ?_⟩
  rw [hd]
  exact h _ w (ha.put hlt undef) hw
theorem Nx.m_loud_noU {k d : Nat} {j dj : Nat} {want : Bool} (ho : opAt ops.toList k = some o) (hl : loud.contains k = true) (hg : o.guard = some (j, want)) (hdj : (ops[j]?).bind (·.dst) = some dj) (hb : lk e dj = some undef) (hd : o.dst = some d) (hlt : Nat.blt d C.n = true)
    (h : Nx C ((d, undef) :: e) I R (fun a w => S w ∧ wpMix C.P ops Q S loud r a w)) : Nx C e I R (wpMix C.P ops Q S loud (k :: r)) := by
  intro a w ha hw
  refine ⟨o, opAt_arr ho, ?_⟩
  rw [if_pos hl]
  unfold wpOp
  simp only [opAt_arr ho]
  rw [if_neg (by simp [Region.wanted, hg, yielded_undef ha hdj hb]), hd]
  exact h _ w (ha.put hlt undef) hw
/-- Behind the operation the description is this one. -/
def OpTo (C : Cx) (o : Oper) (e : Env) (I : PH) (R : List Res) (e' : Env) (R' : List Res) : Prop := ∀ (K : Act → World → Prop) (Q : Exit → Act → World → Prop), Nx C e' I R' K → Nx C e I R (opK C.P o K Q)
def OpToB (C : Cx) (o : Oper) (e : Env) (I : PH) (R : List Res) (e' : Nat → Env) (R' : Nat → List Res) : Prop := ∀ (K : Act → World → Prop) (Q : Exit → Act → World → Prop), (∀ b, Nx C (e' b) I (R' b) K) → Nx C e I R (opK C.P o K Q)
def OpToA (C : Cx) (o : Oper) (e : Env) (I : PH) (R : List Res) (e' : Option Addr → Nat → Env) (R' : Option Addr → Nat → List Res) : Prop := ∀ (K : Act → World → Prop) (Q : Exit → Act → World → Prop), (∀ A c, Nx C (e' A c) I (R' A c) K) → Nx C e I R (opK C.P o K Q)
theorem OpTo.is_load {e1 : Env} {r1 : List Res} (h : OpTo C ⟨dst, .load t x, ty, pos, after, g⟩ e I R e1 r1) : OpTo C ⟨dst, .load t x, ty, pos, after, g⟩ e I R e1 r1 := h
theorem OpTo.is_store {e1 : Env} {r1 : List Res} (h : OpTo C ⟨dst, .store t x y, ty, pos, after, g⟩ e I R e1 r1) : OpTo C ⟨dst, .store t x y, ty, pos, after, g⟩ e I R e1 r1 := h
theorem OpTo.is_bin {e1 : Env} {r1 : List Res} {op : BinOp} (h : OpTo C ⟨dst, .binOp op t x y u, ty, pos, after, g⟩ e I R e1 r1) : OpTo C ⟨dst, .binOp op t x y u, ty, pos, after, g⟩ e I R e1 r1 := h
theorem OpTo.is_un {e1 : Env} {r1 : List Res} {op : UnOp} (h : OpTo C ⟨dst, .unOp op t x, ty, pos, after, g⟩ e I R e1 r1) : OpTo C ⟨dst, .unOp op t x, ty, pos, after, g⟩ e I R e1 r1 := h
theorem OpTo.is_conv {e1 : Env} {r1 : List Res} (h : OpTo C ⟨dst, .convert t u x, ty, pos, after, g⟩ e I R e1 r1) : OpTo C ⟨dst, .convert t u x, ty, pos, after, g⟩ e I R e1 r1 := h
theorem OpTo.is_build {e1 : Env} {r1 : List Res} {p : Array (Nat × Operand)} (h : OpTo C ⟨dst, .build t p, ty, pos, after, g⟩ e I R e1 r1) : OpTo C ⟨dst, .build t p, ty, pos, after, g⟩ e I R e1 r1 := h
theorem OpTo.is_call {e1 : Env} {r1 : List Res} {c : Call} (h : OpTo C ⟨dst, .call c, ty, pos, after, g⟩ e I R e1 r1) : OpTo C ⟨dst, .call c, ty, pos, after, g⟩ e I R e1 r1 := h
theorem OpToB.is_lit {e1 : Nat → Env} {r1 : Nat → List Res} {p : Array (Nat × Operand)} {n : Nat} (h : OpToB C ⟨dst, .buildSlice t n p, ty, pos, after, g⟩ e I R e1 r1) : OpToB C ⟨dst, .buildSlice t n p, ty, pos, after, g⟩ e I R e1 r1 := h
theorem OpToB.is_box {e1 : Nat → Env} {r1 : Nat → List Res} (h : OpToB C ⟨dst, .box t x, ty, pos, after, g⟩ e I R e1 r1) : OpToB C ⟨dst, .box t x, ty, pos, after, g⟩ e I R e1 r1 := h
theorem OpToB.is_alloc {e1 : Nat → Env} {r1 : Nat → List Res} (h : OpToB C ⟨dst, .alloc t, ty, pos, after, g⟩ e I R e1 r1) : OpToB C ⟨dst, .alloc t, ty, pos, after, g⟩ e I R e1 r1 := h
theorem OpToA.is_append {e1 : Option Addr → Nat → Env} {r1 : Option Addr → Nat → List Res} {xs : Array Operand} {tys : Array TypeId} (h : OpToA C ⟨dst, .call { callee := .builtin .append, args := xs, argTypes := tys }, ty, pos, after, g⟩ e I R e1 r1) : OpToA C ⟨dst, .call { callee := .builtin .append, args := xs, argTypes := tys }, ty, pos, after, g⟩ e I R e1 r1 := h
theorem Nx.so {e1 : Env} {r1 : List Res} (h : Nx C e1 I r1 K) (s : OpTo C o e I R e1 r1 := by first | ((with_reducible apply OpTo.is_load); first | exact fun _ _ h => Nx.load rfl rfl rfl (by first | exact Rd.at_ 0 rfl rfl | exact Rd.at_ 1 rfl rfl | exact Rd.at_ 2 rfl rfl | exact Rd.at_ 3 rfl rfl | exact Rd.at_ 4 rfl rfl | exact Rd.at_ 5 rfl rfl | exact Rd.at_ 6 rfl rfl | exact Rd.at_ 7 rfl rfl | exact Rd.at_ 8 rfl rfl | exact Rd.at_ 9 rfl rfl | exact Rd.at_ 10 rfl rfl | exact Rd.at_ 11 rfl rfl) h | exact fun _ _ h => Nx.loads rfl rfl rfl rfl (by first | exact Rds.at_ 0 rfl | exact Rds.at_ 1 rfl | exact Rds.at_ 2 rfl | exact Rds.at_ 3 rfl | exact Rds.at_ 4 rfl | exact Rds.at_ 5 rfl | exact Rds.at_ 6 rfl | exact Rds.at_ 7 rfl | exact Rds.at_ 8 rfl | exact Rds.at_ 9 rfl | exact Rds.at_ 10 rfl | exact Rds.at_ 11 rfl) rfl h) | ((with_reducible apply OpTo.is_bin); first | exact fun _ _ h => Nx.add rfl rfl (by unfold I64; omega) rfl h | exact fun _ _ h => Nx.sub rfl rfl (by unfold I64; omega) rfl h | exact fun _ _ h => Nx.mul rfl rfl (by unfold I64; omega) rfl h | exact fun _ _ h => Nx.rem rfl rfl (by omega) (by omega) rfl h | exact fun _ _ h => Nx.quo rfl rfl (by omega) (by omega) (by unfold I64; omega) rfl h) | ((with_reducible apply OpTo.is_conv); first | exact fun _ _ h => Nx.conv_i64 rfl rfl rfl (by unfold I64; omega) rfl h) | ((with_reducible apply OpTo.is_un); first | exact fun _ _ h => Nx.not_dec rfl rfl h | exact fun _ _ h => Nx.neg rfl (by unfold I64; omega) rfl h) | ((with_reducible apply OpTo.is_build); first | exact fun _ _ h => Nx.build rfl rfl (by kernel_rfl) rfl h) | ((with_reducible apply OpTo.is_store); first | exact fun _ _ h => Nx.store_blk 0 rfl rfl rfl rfl rfl rfl rfl h | exact fun _ _ h => Nx.store_blk 1 rfl rfl rfl rfl rfl rfl rfl h | exact fun _ _ h => Nx.store_blk 2 rfl rfl rfl rfl rfl rfl rfl h | exact fun _ _ h => Nx.store_blk 3 rfl rfl rfl rfl rfl rfl rfl h | exact fun _ _ h => Nx.store_blk 4 rfl rfl rfl rfl rfl rfl rfl h | exact fun _ _ h => Nx.store_blk 5 rfl rfl rfl rfl rfl rfl rfl h | exact fun _ _ h => Nx.store_blk 6 rfl rfl rfl rfl rfl rfl rfl h | exact fun _ _ h => Nx.store_blk 7 rfl rfl rfl rfl rfl rfl rfl h | exact fun _ _ h => Nx.store_blk 8 rfl rfl rfl rfl rfl rfl rfl h | exact fun _ _ h => Nx.store_blk 9 rfl rfl rfl rfl rfl rfl rfl h | exact fun _ _ h => Nx.store_blk 10 rfl rfl rfl rfl rfl rfl rfl h | exact fun _ _ h => Nx.store_blk 11 rfl rfl rfl rfl rfl rfl rfl h | exact fun _ _ h => Nx.store_ints 0 rfl rfl rfl rfl (by omega) h | exact fun _ _ h => Nx.store_ints 1 rfl rfl rfl rfl (by omega) h | exact fun _ _ h => Nx.store_ints 2 rfl rfl rfl rfl (by omega) h | exact fun _ _ h => Nx.store_ints 3 rfl rfl rfl rfl (by omega) h) | ((with_reducible apply OpTo.is_call); first | exact fun _ _ h => Nx.min2 rfl rfl rfl h | exact fun _ _ h => Nx.max2 rfl rfl rfl h) | exact fun _ _ h => Nx.makeFunc rfl rfl rfl h | exact fun _ _ h => Nx.fieldAddr rfl rfl rfl h) : Nx C e I R (opK C.P o K Q) := s K Q h
theorem Nx.sb {e1 : Nat → Env} {r1 : Nat → List Res} (h : ∀ b, Nx C (e1 b) I (r1 b) K) (s : OpToB C o e I R e1 r1 := by first | ((with_reducible apply OpToB.is_box); first | exact fun _ _ h => Nx.box_agg rfl rfl h | exact fun _ _ h => Nx.box1 rfl rfl rfl h) | ((with_reducible apply OpToB.is_alloc); first | exact fun _ _ h => Nx.alloc rfl rfl h) | ((with_reducible apply OpToB.is_lit); first | exact fun _ _ h => Nx.buildSlice0 rfl rfl rfl h | exact fun _ _ h => Nx.buildSlice rfl rfl rfl rfl rfl rfl rfl rfl rfl h) | exact fun _ _ h => Nx.makeInts rfl rfl rfl rfl rfl rfl rfl rfl (by omega) h) : Nx C e I R (opK C.P o K Q) := s K Q h
theorem Nx.sa {e1 : Option Addr → Nat → Env} {r1 : Option Addr → Nat → List Res} (h : ∀ A c, Nx C (e1 A c) I (r1 A c) K) (s : OpToA C o e I R e1 r1 := by first | ((with_reducible apply OpToA.is_append); first | exact fun _ _ h => Nx.append_lit 0 rfl rfl rfl rfl (by kernel_rfl) rfl rfl rfl rfl (by omega) h | exact fun _ _ h => Nx.append_lit 1 rfl rfl rfl rfl (by kernel_rfl) rfl rfl rfl rfl (by omega) h | exact fun _ _ h => Nx.append_lit 2 rfl rfl rfl rfl (by kernel_rfl) rfl rfl rfl rfl (by omega) h | exact fun _ _ h => Nx.append_lit 3 rfl rfl rfl rfl (by kernel_rfl) rfl rfl rfl rfl (by omega) h | exact fun _ _ h => Nx.append_lit 4 rfl rfl rfl rfl (by kernel_rfl) rfl rfl rfl rfl (by omega) h) ) : Nx C e I R (opK C.P o K Q) := s K Q h
theorem QRun.std {S : World → Prop} (s : QRun C e S o v := by first | exact QRun.load rfl rfl (by first | exact Rd.at_ 0 rfl rfl | exact Rd.at_ 1 rfl rfl | exact Rd.at_ 2 rfl rfl | exact Rd.at_ 3 rfl rfl | exact Rd.at_ 4 rfl rfl | exact Rd.at_ 5 rfl rfl | exact Rd.at_ 6 rfl rfl | exact Rd.at_ 7 rfl rfl | exact Rd.at_ 8 rfl rfl | exact Rd.at_ 9 rfl rfl | exact Rd.at_ 10 rfl rfl | exact Rd.at_ 11 rfl rfl) | exact QRun.loads rfl rfl rfl (by first | exact Rds.at_ 0 rfl | exact Rds.at_ 1 rfl | exact Rds.at_ 2 rfl | exact Rds.at_ 3 rfl | exact Rds.at_ 4 rfl | exact Rds.at_ 5 rfl | exact Rds.at_ 6 rfl | exact Rds.at_ 7 rfl | exact Rds.at_ 8 rfl | exact Rds.at_ 9 rfl | exact Rds.at_ 10 rfl | exact Rds.at_ 11 rfl) rfl | exact QRun.add rfl rfl (by unfold I64; omega) | exact QRun.sub rfl rfl (by unfold I64; omega) | exact QRun.mul rfl rfl (by unfold I64; omega) | exact QRun.rem rfl rfl (by omega) (by omega) | exact QRun.quo rfl rfl (by omega) (by omega) (by unfold I64; omega) | exact QRun.conv_i64 rfl rfl rfl (by unfold I64; omega) | exact QRun.build rfl rfl (by kernel_rfl) | exact QRun.min2 rfl rfl | exact QRun.max2 rfl rfl) : QRun C e S o v := s
def Adv (C : Cx) (e : Env) (I : PH) (R : List Res) (K : Act → World → Prop) (e1 : Env) (r1 : List Res) (K1 : Act → World → Prop) : Prop := Nx C e1 I r1 K1 → Nx C e I R K
theorem Adv.is_at {e1 : Env} {r1 : List Res} {ops : Array Oper} {i : Nat} (h : Adv C e I R (wpAt C.P ops Q i) e1 r1 K') : Adv C e I R (wpAt C.P ops Q i) e1 r1 K' := h
theorem Adv.is_wp {e1 : Env} {r1 : List Res} {c : Code} (h : Adv C e I R (c.wp C.P Q) e1 r1 K') : Adv C e I R (c.wp C.P Q) e1 r1 K' := h
theorem Adv.is_mix {e1 : Env} {r1 : List Res} {ops : Array Oper} {S : World → Prop} {l r : List Nat} (h : Adv C e I R (wpMix C.P ops Q S l r) e1 r1 K') : Adv C e I R (wpMix C.P ops Q S l r) e1 r1 K' := h
theorem Adv.is_mixS {e1 : Env} {r1 : List Res} {S : World → Prop} (h : Adv C e I R (fun a w => S w ∧ K a w) e1 r1 K') : Adv C e I R (fun a w => S w ∧ K a w) e1 r1 K' := h
theorem Nx.a {e1 : Env} {r1 : List Res} (h : Nx C e1 I r1 K') (s : Adv C e I R K e1 r1 K' := by first | exact fun h => Nx.at_no rfl rfl rfl rfl rfl rfl h | exact fun h => Nx.at_noU rfl rfl rfl rfl rfl rfl h | exact fun h => Nx.at_noU0 rfl rfl rfl rfl rfl h | exact fun h => Nx.at_endt rfl h | exact fun h => Nx.at_no0 rfl rfl rfl rfl rfl h | exact fun h => Nx.at_end rfl h) : Nx C e I R K := s h
theorem Nx.w {e1 : Env} {r1 : List Res} (h : Nx C e1 I r1 K') (s : Adv C e I R K e1 r1 K' := by first | exact fun h => Nx.p_seq rfl h | exact fun h => Nx.p_region rfl h | exact fun h => Nx.p_ret rfl h | exact fun h => Nx.p_skip rfl h | exact fun h => Nx.p_exit rfl rfl h | exact fun h => Nx.p_block rfl rfl h | exact fun h => Nx.p_t rfl rfl h | exact fun h => Nx.p_f rfl rfl h | exact fun h => Nx.p_label rfl h) : Nx C e I R K := s h
theorem Nx.wo {e1 : Env} {r1 : List Res} (h : Nx C e1 I r1 K') (s : Adv C e I R K e1 r1 K' := by first | exact fun h => Nx.p_seq rfl h | exact fun h => Nx.p_region rfl h | exact fun h => Nx.p_ret rfl h | exact fun h => Nx.p_skip rfl h | exact fun h => Nx.p_exit rfl rfl h | exact fun h => Nx.p_block rfl rfl h | exact fun h => Nx.p_t rfl rfl h | exact fun h => Nx.p_f rfl rfl h | exact fun h => Nx.p_label rfl h | exact fun h => Nx.p_dec_t rfl rfl (by omega) h | exact fun h => Nx.p_dec_f rfl rfl (by omega) h) : Nx C e I R K := s h
theorem Nx.m {e1 : Env} {r1 : List Res} (h : Nx C e1 I r1 K') (s : Adv C e I R K e1 r1 K' := by first | exact fun h => Nx.mix_nil_then h | exact fun h => Nx.mix_nil h | exact fun h => Nx.m_quiet_no rfl rfl rfl rfl rfl rfl rfl h | exact fun h => Nx.m_loud_no rfl rfl rfl rfl rfl rfl rfl h | exact fun h => Nx.m_quiet_noU rfl rfl rfl rfl rfl rfl rfl h | exact fun h => Nx.m_loud_noU rfl rfl rfl rfl rfl rfl rfl h | exact fun h => Nx.m_quiet rfl rfl rfl rfl rfl (by first | exact QRun.opr rfl | exact QRun.std) h | exact fun h => Nx.m_quiet_do rfl rfl rfl rfl rfl rfl rfl (by first | exact QRun.opr rfl | exact QRun.std) h) : Nx C e I R K := s h
theorem Nx.ex {e1 : Env} {r1 : List Res} (h : Nx C e1 I r1 K') (s : Adv C e I R K e1 r1 K' := by first | exact fun h => Nx.then_ret h | exact fun h => Nx.in_ret h | exact fun h => Nx.then_normal h | exact fun h => Nx.in_normal h | exact fun h => Nx.then_exit h | exact fun h => Nx.in_exit h | exact fun h => Nx.in_other rfl h | exact fun h => Nx.mix_T h | ((with_reducible apply Adv.is_mixS); exact fun h => Nx.mix_S (by first | exact Ent.refl _ | exact Ent.drop (Ent.refl _) | exact Ent.drop (Ent.drop (Ent.refl _)) | exact Ent.drop (Ent.drop (Ent.drop (Ent.refl _))) | exact Ent.nil _ | (repeat first | exact Ent.refl _ | exact Ent.nil _ | refine Ent.pick 0 rfl ?_ | refine Ent.pick 1 rfl ?_ | refine Ent.pick 2 rfl ?_ | refine Ent.pick 3 rfl ?_ | refine Ent.pick 4 rfl ?_ | refine Ent.pick 5 rfl ?_ | refine Ent.pick 6 rfl ?_ | refine Ent.pick 7 rfl ?_ | refine Ent.pick 8 rfl ?_)) h)) : Nx C e I R K := s h
end
end Go.Eng
