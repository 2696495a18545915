/-
  The proof engine, part C: calls and contracts, returns, stores, slices that are owned.
-/
import Derived.Test.YtaoeapmdhpkidaaEngB
namespace Go.Eng

/-! ## Contracts -/
/-- Called in any memory that holds 'Rpre' beside any other, the function returns a value, and memory holds what 'Post' says beside that other. -/
def FnSpec (P : Program) (f : FuncId) (args : List Value) (I : PH) (Rpre : List Res) (Post : Value → List Res → Prop) : Prop :=
  ∀ (w : World) (F : Res), St w I (Rpre ++ [F]) w → Calls P f args.toArray w fun e w' => ∃ v R', e = .returned v ∧ Post v R' ∧ St w I (R' ++ [F]) w'
def fnPost (P : Program) (fn : Func) (I : PH) (F : Res) (W : World) (Post : Value → List Res → Prop) : Exit → Act → World → Prop :=
  bodyPost P fn fun e w' => ∃ v R', e = .returned v ∧ Post v R' ∧ St W I (R' ++ [F]) w'
def argEnv : List Value → Nat → Env
  | [], _ => []
  | v :: r, i => (i, v) :: argEnv r (i + 1)
theorem argEnv_lk : ∀ (l : List Value) (i t : Nat) (v : Value), lk (argEnv l i) t = some v → i ≤ t ∧ l[t - i]? = some v
  | [], i, t, v, h => by simp [argEnv, lk] at h
  | u :: r, i, t, v, h => by
    unfold argEnv lk at h
    split at h
    · rename_i he
      have he : i = t := Nat.eq_of_beq_eq_true he
      simp at h
      subst he; subst h
      simp
    · rename_i he
      have he : i ≠ t := Nat.ne_of_beq_eq_false he
      obtain ⟨h1, h2⟩ := argEnv_lk r (i + 1) t v h
      refine ⟨by omega, ?_⟩
      rw [show t - i = (t - (i + 1)) + 1 by omega]
      simpa using h2
theorem FnSpec.enter {P : Program} {f : FuncId} {fn : Func} {c : Code} {args : List Value} {I : PH} {Rpre : List Res} {Post : Value → List Res → Prop} {n : Nat}
    (hf : P.funcs[f]? = some fn) (hb : fn.body = some c) (hn : fn.ntmps = n) (hle : Nat.ble args.length n = true)
    (h : ∀ w F, Nx ⟨P, n, w⟩ (argEnv args 0) I (Rpre ++ [F]) (c.wp P (fnPost P fn I F w Post))) : FnSpec P f args I Rpre Post := by
  intro w F hw
  have hle := Nat.le_of_ble_eq_true hle
  refine calls_of_wp hf hb (h w F _ w ⟨?_, rfl, fun t v ht => ?_⟩ hw)
  · simp [hn]; omega
  · obtain ⟨_, h2⟩ := argEnv_lk args 0 t v ht
    have hlt : t < args.length := by
      rcases Nat.lt_or_ge t args.length with h' | h'
      · exact h'
      · rw [Nat.sub_zero, List.getElem?_eq_none h'] at h2; cases h2
    rw [Array.getElem?_append_left (by simpa using hlt)]
    simpa using h2
theorem FnSpec.mono {P : Program} {f : FuncId} {args : List Value} {I : PH} {Rpre : List Res} {Post Post' : Value → List Res → Prop} (h : FnSpec P f args I Rpre Post) (hp : ∀ v R', Post v R' → Post' v R') : FnSpec P f args I Rpre Post' :=
  fun w F hw => (h w F hw).mono fun _ _ ⟨v, R', he, hv, hs⟩ => ⟨v, R', he, hp v R' hv, hs⟩

def callable (P : Program) (f : FuncId) : Bool := match P.funcs[f]? with
  | some fn => !(fn.name == "runtime.NumGoroutine") && fn.body.isSome
  | none => false
theorem run_callFunc {P : Program} {f : FuncId} (h : callable P f = true) (args : Array Value) (w : World) : (callFunc f args).run P w = .ok (.enter f args) w := by
  unfold callable at h
  split at h
  · rename_i fn hfn
    simp only [Bool.and_eq_true, Bool.not_eq_true'] at h
    have hb : fn.body.isNone = false := by
      cases hb : fn.body with
      | none => rw [hb] at h; cases h.2
      | some c => rfl
    unfold callFunc
    simp only [program, bind, Sem.bind, Sem.run, hfn, h.1, hb, Bool.false_eq_true, if_false]
    rfl
  · cases h

section
variable {C : Cx} {e e' : Env} {I : PH} {R R' : List Res} {K K' : Act → World → Prop} {Q : Exit → Act → World → Prop}
variable {d : Nat} {ty t u : TypeId} {pos : String} {after : Array Edge} {g : Option (Nat × Bool)} {x y z : Operand} {v vx vy vz : Value}

theorem run_call {P : Program} {ρ : Operand → Value} {o : Oper} {fx : Operand} {args : Array Operand} {tys : Array TypeId} {f : FuncId} {c1 c2 : Array Value} {vs al : List Value} {w : World}
    (ho : o.op = .call { callee := .value fx, args, argTypes := tys }) (hfx : ρ fx = .func (.func f) c1 c2) (hvs : args.toList.map ρ = vs) (hal : c1.toList ++ vs ++ c2.toList = al) (hc : callable P f = true) :
    (execOp ρ o).run P w = .ok (.enter f al.toArray) w := by
  have e1 : c1 ++ args.map ρ ++ c2 = al.toArray := by
    rw [← hal, ← hvs]
    apply Array.ext'
    simp
  unfold execOp
  simp only [ho, resolve, hfx, Deferred.ofValue]
  rw [Sem.run_bind]
  show Sem.run P (callFunc f (c1 ++ args.map ρ ++ c2)) w = _
  rw [e1]
  exact run_callFunc hc _ w

theorem St.split {W : World} {A B : List Res} {w : World} (h : St W I (A ++ B) w) : St w I (A ++ [Stars B]) w := by
  obtain ⟨⟨m, hm, hs⟩, _⟩ := h.ent (Ent.foldAt A B)
  exact ⟨⟨m, hm, hs⟩, Still.refl w⟩
theorem St.unsplit {W w0 : World} {A B : List Res} {w : World} (h0 : Still W w0) (h : St w0 I (A ++ [Stars B]) w) : St W I (A ++ B) w := by
  obtain ⟨hm, hs⟩ := h.ent (Ent.unfoldAt A B)
  exact ⟨hm, h0.trans hs⟩

/-- A call, by the callee's contract. -/
theorem Nx.call {fx : Operand} {args : Array Operand} {tys : Array TypeId} {f : FuncId} {c1 c2 : Array Value} {vs al : List Value} {Rpre Rrest : List Res} {Post : Value → List Res → Prop}
    (hfx : evo e fx = some (.func (.func f) c1 c2)) (hvs : evs e args.toList = some vs) (hal : c1.toList ++ vs ++ c2.toList = al) (hc : callable C.P f = true) (hlt : Nat.blt d C.n = true)
    (hs : FnSpec C.P f al I Rpre Post) (hR : Ent R (Rpre ++ Rrest))
    (h : ∀ v R', Post v R' → Nx C ((d, v) :: e) I (R' ++ Rrest) K) : Nx C e I R (opK C.P ⟨some d, .call { callee := .value fx, args, argTypes := tys }, ty, pos, after, g⟩ K Q) := by
  intro a w ha hw
  unfold opK Oper.wp
  rw [run_call rfl (ha.eval hfx) (ha.evals hvs) hal hc]
  refine Calls.mono (hs w (Stars Rrest) (hw.ent hR).split) ?_
  rintro en w' ⟨v, R', rfl, hv, hst⟩
  exact h v R' hv _ w' (ha.put hlt v) (hst.unsplit hw.still)
/-- A call whose value nobody takes. -/
theorem Nx.call0 {fx : Operand} {args : Array Operand} {tys : Array TypeId} {f : FuncId} {c1 c2 : Array Value} {vs al : List Value} {Rpre Rrest : List Res} {Post : Value → List Res → Prop}
    (hfx : evo e fx = some (.func (.func f) c1 c2)) (hvs : evs e args.toList = some vs) (hal : c1.toList ++ vs ++ c2.toList = al) (hc : callable C.P f = true)
    (hs : FnSpec C.P f al I Rpre Post) (hR : Ent R (Rpre ++ Rrest))
    (h : ∀ v R', Post v R' → Nx C e I (R' ++ Rrest) K) : Nx C e I R (opK C.P ⟨none, .call { callee := .value fx, args, argTypes := tys }, ty, pos, after, g⟩ K Q) := by
  intro a w ha hw
  unfold opK Oper.wp
  rw [run_call rfl (ha.eval hfx) (ha.evals hvs) hal hc]
  refine Calls.mono (hs w (Stars Rrest) (hw.ent hR).split) ?_
  rintro en w' ⟨v, R', rfl, hv, hst⟩
  exact h v R' hv _ w' ha (hst.unsplit hw.still)

theorem St.lend {W : World} {B A : List Res} {w : World} (h : St W I (B ++ A) w) : ∃ m, PH.dis I m ∧ Stars B m ∧ St W (I.or m) A w ∧
    ∀ {w' : World} {A' : List Res}, St W (I.or m) A' w' → St W I (B ++ A') w' := by
  obtain ⟨⟨m, hm, hs⟩, hst⟩ := h
  obtain ⟨m1, m2, hd, rfl, h1, h2⟩ := Stars.append hm
  have hd' := PH.dis_or.1 hs.dis
  refine ⟨m1, hd'.1, h1, ⟨⟨m2, h2, ⟨fun i o hi => ?_, fun i o hi => hs.own i o (PH.le_or_right hd i o hi), ?_⟩⟩, hst⟩, ?_⟩
  · rcases PH.or_eq_some hi with hi | ⟨_, hi⟩
    · exact hs.imm i o hi
    · exact hs.own i o (PH.le_or_left _ _ i o hi)
  · exact (PH.dis_or.2 ⟨hd'.2.symm, hd.symm⟩).symm
  · rintro w' A' ⟨⟨m', hm', hs'⟩, hst'⟩
    have hda := PH.dis_or.1 hs'.dis.symm
    obtain ⟨k, hk, hkS⟩ := Stars.join hda.2.symm h1 hm'
    refine ⟨⟨k, hkS, ⟨fun i o hi => hs'.imm i o (PH.le_or_left _ _ i o hi), fun i o hi => ?_, ?_⟩⟩, hst'⟩
    · rcases PH.or_eq_some (hk i o hi) with hi' | ⟨_, hi'⟩
      · exact hs'.imm i o (PH.le_or_right hd'.1 i o hi')
      · exact hs'.own i o hi'
    · exact dis_sub (PH.dis_or.2 ⟨hd'.1, hda.1.symm⟩) (PH.le_refl _) hk
/-- A call to which some of what is owned is lent for reading. -/
theorem Nx.call_lend {fx : Operand} {args : Array Operand} {tys : Array TypeId} {f : FuncId} {c1 c2 : Array Value} {vs al : List Value} {B Rpre Rrest : List Res} {Post : Value → List Res → Prop}
    (hfx : evo e fx = some (.func (.func f) c1 c2)) (hvs : evs e args.toList = some vs) (hal : c1.toList ++ vs ++ c2.toList = al) (hc : callable C.P f = true) (hlt : Nat.blt d C.n = true)
    (hs : ∀ m, PH.dis I m → Stars B m → FnSpec C.P f al (I.or m) Rpre Post) (hR : Ent R (B ++ (Rpre ++ Rrest)))
    (h : ∀ v R', Post v R' → Nx C ((d, v) :: e) I (B ++ (R' ++ Rrest)) K) : Nx C e I R (opK C.P ⟨some d, .call { callee := .value fx, args, argTypes := tys }, ty, pos, after, g⟩ K Q) := by
  intro a w ha hw
  unfold opK Oper.wp
  rw [run_call rfl (ha.eval hfx) (ha.evals hvs) hal hc]
  obtain ⟨m, hd, hB, hl, hback⟩ := (hw.ent hR).lend
  refine Calls.mono (hs m hd hB w (Stars Rrest) hl.split) ?_
  rintro en w' ⟨v, R', rfl, hv, hst⟩
  exact h v R' hv _ w' (ha.put hlt v) (hback (hst.unsplit hw.still))
/-- What is owned is given up for a while: nobody writes it. -/
theorem Nx.freeze {B : List Res} (hR : Ent R (B ++ R')) (h : ∀ m, PH.dis I m → Stars B m → Nx C e (I.or m) R' K) : Nx C e I R K := by
  intro a w ha hw
  obtain ⟨m, hd, hB, hl, _⟩ := (hw.ent hR).lend
  exact h m hd hB a w ha hl
/-- It is taken back. -/
theorem Nx.thaw {B : List Res} {m : PH} (hd : PH.dis I m) (hB : Stars B m) (h : Nx C e I (B ++ R) K) : Nx C e (I.or m) R K := by
  rintro a w ha ⟨⟨m', hm', hs'⟩, hst'⟩
  refine h a w ha ⟨?_, hst'⟩
  have hda := PH.dis_or.1 hs'.dis.symm
  obtain ⟨k, hk, hkS⟩ := Stars.join hda.2.symm hB hm'
  refine ⟨k, hkS, ⟨fun i o hi => hs'.imm i o (PH.le_or_left _ _ i o hi), fun i o hi => ?_, ?_⟩⟩
  · rcases PH.or_eq_some (hk i o hi) with hi' | ⟨_, hi'⟩
    · exact hs'.imm i o (PH.le_or_right hd i o hi')
    · exact hs'.own i o hi'
  · exact dis_sub (PH.dis_or.2 ⟨hd, hda.1.symm⟩) (PH.le_refl _) hk

/-! ## The end of a function -/
def resV (e : Env) : List ResultVar → Option Value
  | [] => some (.tuple #[])
  | [.tmp t] => lk e t
  | [.tmp t, .tmp u] => match lk e t, lk e u with
    | some a, some b => some (.tuple #[a, b])
    | _, _ => none
  | [.tmp t, .tmp u, .tmp x] => match lk e t, lk e u, lk e x with
    | some a, some b, some c => some (.tuple #[a, b, c])
    | _, _, _ => none
  | [.tmp t, .tmp u, .tmp x, .tmp y] => match lk e t, lk e u, lk e x, lk e y with
    | some a, some b, some c, some d => some (.tuple #[a, b, c, d])
    | _, _, _, _ => none
  | _ => none
theorem resV_run {n : Nat} {a : Act} (ha : Mod n e a) {P : Program} {w : World} {fn : Func} {v : Value} (h : resV e fn.results.toList = some v) : (results fn a.tmps).run P w = .ok v w := by
  have hd : ∀ {t : Nat} {u : Value}, lk e t = some u → a.tmps[t]?.getD undef = u := fun {t u} ht => by simp [ha.get t u ht]
  generalize hl : fn.results.toList = l at h
  have hr : fn.results = l.toArray := by rw [← hl]
  unfold resV at h
  split at h
  · simp at h; subst h; simp [results, hr]
  · rename_i t; simp [results, hr, hd h]
  · rename_i t u
    split at h
    · rename_i v1 v2 h1 h2; simp at h; subst h; simp [results, hr, hd h1, hd h2]
    · cases h
  · rename_i t u x
    split at h
    · rename_i v1 v2 v3 h1 h2 h3; simp at h; subst h; simp [results, hr, hd h1, hd h2, hd h3]
    · cases h
  · rename_i t u x y
    split at h
    · rename_i v1 v2 v3 v4 h1 h2 h3 h4; simp at h; subst h; simp [results, hr, hd h1, hd h2, hd h3, hd h4]
    · cases h
  · cases h
theorem Nx.ret_fn {fn : Func} {F : Res} {Post : Value → List Res → Prop} (hv : resV e fn.results.toList = some v) (R' : List Res) (hp : Post v R') (hR : Ent R (R' ++ [F])) : Nx C e I R (fnPost C.P fn I F C.W Post .ret) :=
  fun _ _ ha hw => ⟨ha.defers, v, resV_run ha hv, v, R', rfl, hp, hw.ent hR⟩
theorem Nx.end_fn {fn : Func} {F : Res} {Post : Value → List Res → Prop} (hv : resV e fn.results.toList = some v) (R' : List Res) (hp : Post v R') (hR : Ent R (R' ++ [F])) : Nx C e I R (fnPost C.P fn I F C.W Post .normal) :=
  fun _ _ ha hw => ⟨ha.defers, v, resV_run ha hv, v, R', rfl, hp, hw.ent hR⟩

/-- One result, kept in a variable of the call's own: a struct. -/
theorem resC_run {n nc t0 b : Nat} {ty : TypeId} {cs : List Value} {a : Act} (ha : Mod n e a) {P : Program} {w : World} {fn : Func} (hres : fn.results.toList = [.cell t0 ty]) (hx : lk e t0 = some (.pointer (some ⟨b, 0, none⟩)))
    (ht : aggT P ty = true) (hn : cellsIn P ty = some nc) (hl : cs.length = nc) (hc : ∀ j u, cs[j]? = some u → w.cell? ((⟨b, 0, none⟩ : Addr).add j) = some u) : (results fn a.tmps).run P w = .ok (.agg cs.toArray) w := by
  have hr : fn.results = #[.cell t0 ty] := by
    have : fn.results = [ResultVar.cell t0 ty].toArray := by rw [← hres]
    simpa using this
  have hd : a.tmps[t0]?.getD undef = .pointer (some ⟨b, 0, none⟩) := by simp [ha.get t0 _ hx]
  have hload := run_loadVar_agg (A := ⟨b, 0, none⟩) ht hn hl hc
  simp [results, hr, hd, asAddr, hload]
theorem Nx.ret_cell (k : Nat) {fn : Func} {F : Res} {Post : Value → List Res → Prop} {nc t0 b : Nat} {ty tb : TypeId} {cs : List Value} (hres : fn.results.toList = [.cell t0 ty]) (hx : lk e t0 = some (.pointer (some ⟨b, 0, none⟩)))
    (ht : aggT C.P ty = true) (hn : cellsIn C.P ty = some nc) (hl : cs.length = nc) (hk : nthL R k = some (Blk b tb cs)) (R' : List Res) (hp : Post (.agg cs.toArray) R') (hR : Ent R (R' ++ [F])) : Nx C e I R (fnPost C.P fn I F C.W Post .ret) :=
  fun _ w ha hw => ⟨ha.defers, _, resC_run ha hres hx ht hn hl (fun j u hj => (Rds.at_ k hk : Rds C.W I R ⟨b, 0, none⟩ cs) j u hj w hw), _, R', rfl, hp, hw.ent hR⟩

/-! ## Stores -/
/-- 'vs' may be stored from the cell A on; behind it memory holds R'. -/
def Wr (P : Program) (W : World) (I : PH) (R : List Res) (A : Addr) (vs : List Value) (R' : List Res) : Prop :=
  ∀ w, St W I R w → ∃ w', (storeCells A vs).run P w = .ok () w' ∧ St W I R' w'
theorem Wr.tail {P : Program} {W : World} {A : Addr} {vs : List Value} {r : Res} (h : ∀ W F, Wr P W I (R ++ [F]) A vs (R' ++ [F])) : Wr P W I (r :: R) A vs (r :: R') := by
  intro w hw
  have h1 : St W I (R ++ [r]) w := hw.ent (by
    intro m hm
    obtain ⟨m1, m2, hd, rfl, h1, h2⟩ := hm
    obtain ⟨k, hk, hkS⟩ := Stars.join (a := R) (b := [r]) hd.symm h2 ⟨m1, fun _ => none, fun _ => .inr rfl, by funext i; unfold PH.or; cases m1 i <;> rfl, h1, trivial⟩
    exact ⟨k, by rw [PH.or_comm hd]; exact hk, hkS⟩)
  obtain ⟨w', hr, hst⟩ := h W r w h1
  refine ⟨w', hr, hst.ent ?_⟩
  intro m hm
  obtain ⟨m1, m2, hd, rfl, h1, n1, n2, hd', rfl, hr', _⟩ := Stars.append hm
  refine ⟨n1.or m1, ?_, n1, m1, (PH.dis_or.1 hd).1.symm, rfl, hr', h1⟩
  exact PH.or_le ((PH.le_or_left _ _).trans (PH.le_or_right hd)) (PH.le_or_left _ _)

/-- The block b of the first resource turns into o; all else stays. -/
theorem St.upd {W w w' : World} {r r' : Res} {b : Nat} {o : Obj} (h : St W I (r :: R) w) (hr : ∀ m, r m → (m b).isSome = true ∧ r' (fun i => if i = b then some o else m i))
    (hb : w'.heap[b]? = some o) (hne : ∀ i, i ≠ b → ∀ o', w.heap[i]? = some o' → w'.heap[i]? = some o') (hst : Still w w') : St W I (r' :: R) w' := by
  obtain ⟨⟨m, ⟨m1, m2, hd, rfl, h1, h2⟩, hs⟩, hst0⟩ := h
  obtain ⟨hsome, hr'⟩ := hr m1 h1
  have hIb : I b = none := by
    rcases hs.dis b with e | e
    · exact e
    · rw [(PH.or_eq_none.1 e).1] at hsome; cases hsome
  have h2b : m2 b = none := by
    rcases hd b with e | e
    · rw [e] at hsome; cases hsome
    · exact e
  refine ⟨⟨_, ⟨_, m2, ?_, rfl, hr', h2⟩, ⟨fun i o' hi => ?_, fun i o' hi => ?_, fun i => ?_⟩⟩, hst0.trans hst⟩
  · intro i
    by_cases hi : i = b
    · subst hi; exact .inr h2b
    · simp only [hi, if_false]; exact hd i
  · by_cases hib : i = b
    · subst hib; rw [hIb] at hi; cases hi
    · exact hne i hib o' (hs.imm i o' hi)
  · by_cases hib : i = b
    · subst hib
      rcases PH.or_eq_some hi with hi | ⟨hi, _⟩
      · simp at hi; subst hi; exact hb
      · simp at hi
    · refine hne i hib o' (hs.own i o' ?_)
      rcases PH.or_eq_some hi with hi | ⟨hi, hi'⟩
      · simp only [hib, if_false] at hi; exact PH.le_or_left _ _ i o' hi
      · exact PH.le_or_right hd i o' hi'
  · by_cases hib : i = b
    · subst hib; exact .inl hIb
    · rcases hs.dis i with e | e
      · exact .inl e
      · right
        have := PH.or_eq_none.1 e
        exact PH.or_eq_none.2 ⟨by simp only [hib, if_false]; exact this.1, this.2⟩

/-- Cells of a literal, set one behind the other (the list is written out). -/
def setAt : List Value → Nat → Value → Option (List Value)
  | [], _, _ => none
  | _ :: r, 0, v => some (v :: r)
  | c :: r, i + 1, v => match setAt r i v with
    | some r' => some (c :: r')
    | none => none
theorem setAt_eq : ∀ {l l' : List Value} {i : Nat} {v : Value}, setAt l i v = some l' → i < l.length ∧ l' = l.set i v
  | [], l', i, v, h => by simp [setAt] at h
  | c :: r, l', 0, v, h => by simp [setAt] at h; simp [h]
  | c :: r, l', i + 1, v, h => by
    unfold setAt at h
    split at h
    · rename_i r' hr
      obtain ⟨h1, h2⟩ := setAt_eq hr
      simp at h
      subst h; subst h2
      simp; omega
    · cases h
def setsAt : List Value → Nat → List Value → Option (List Value)
  | cs, _, [] => some cs
  | cs, i, v :: vs => match setAt cs i v with
    | none => none
    | some cs' => setsAt cs' (i + 1) vs
theorem Wr.nil {P : Program} {W : World} {A : Addr} : Wr P W I R A [] R := fun w hw => ⟨w, rfl, hw⟩
theorem run_store1 {P : Program} {w : World} {b i : Nat} {t : TypeId} {cs : Array Value} {v : Value} (hb : w.heap[b]? = some (.cells cs t (0, 0))) (hi : i < cs.size) (h1 : v.oneCell' = true) :
    (store ⟨b, i, none⟩ v).run P w = .ok () (w.setCell ⟨b, i, none⟩ v) := by
  rw [run_store P w _ v _ h1]
  have hc : w.cell? ⟨b, i, none⟩ = some cs[i] := by rw [cell_of_row w b i cs t (0, 0) hb]; exact Array.getElem?_eq_getElem hi
  simp [hc, frozen_of_row w b i cs t hb]
theorem storeCells_from {P : Program} {b : Nat} {t : TypeId} : ∀ (vs cs cs' : List Value) (i j : Nat) (w : World), w.heap[b]? = some (.cells cs.toArray t (0, 0)) → setsAt cs (i + j) vs = some cs' → (∀ v ∈ vs, v.oneCell' = true) →
    ∃ w', (storeCells ⟨b, i, none⟩ vs j).run P w = .ok () w' ∧ w'.heap[b]? = some (.cells cs'.toArray t (0, 0)) ∧ (∀ k, k ≠ b → w'.heap[k]? = w.heap[k]?) ∧ Still w w'
  | [], cs, cs', i, j, w, hb, hs, _ => by simp [setsAt] at hs; subst hs; exact ⟨w, rfl, hb, fun _ _ => rfl, Still.refl w⟩
  | v :: vs, cs, cs', i, j, w, hb, hs, h1 => by
    unfold setsAt at hs
    split at hs
    · cases hs
    · rename_i cs1 hcs1
      obtain ⟨hlt, he⟩ := setAt_eq hcs1
      have hrun := run_store1 (P := P) hb (i := i + j) (by simpa using hlt) (h1 v (by simp))
      have hb1 : (w.setCell ⟨b, i + j, none⟩ v).heap[b]? = some (.cells cs1.toArray t (0, 0)) := by
        rw [heap_setCell_same w b (i + j) cs.toArray t v hb, he]
        simp
      obtain ⟨w', hr, hb', hk, hst⟩ := storeCells_from (P := P) vs cs1 cs' i (j + 1) _ hb1 hs (fun u hu => h1 u (by simp [hu]))
      refine ⟨w', ?_, hb', fun k hne => (hk k hne).trans (heap_setCell_other w _ k v hne), Still.trans (b := w.setCell ⟨b, i + j, none⟩ v) ⟨rfl, rfl, rfl, by simp, Nat.le_refl _⟩ hst⟩
      unfold storeCells
      rw [Sem.run_bind, Addr.add_lit, hrun, Result.andThen_ok]
      exact hr
theorem Wr.blk {P : Program} {W : World} {b i : Nat} {cs vs cs' : List Value} (hs : setsAt cs i vs = some cs') (h1 : ∀ v ∈ vs, v.oneCell' = true) : Wr P W I (Blk b t cs :: R) ⟨b, i, none⟩ vs (Blk b t cs' :: R) := by
  intro w hw
  obtain ⟨⟨m, ⟨m1, m2, hd, rfl, hb, h2⟩, hsat⟩, hst⟩ := id hw
  have hb0 : w.heap[b]? = some (.cells cs.toArray t (0, 0)) := hsat.own _ _ (PH.le_or_left _ _ _ _ hb)
  obtain ⟨w', hr, hb', hk, hst'⟩ := storeCells_from (P := P) vs cs cs' i 0 w hb0 hs h1
  exact ⟨w', hr, hw.upd (o := .cells cs'.toArray t (0, 0)) (b := b) (fun m hm => ⟨by rw [show m b = _ from hm]; rfl, by simp [Blk]⟩) hb' (fun k hne o' ho => (hk k hne).trans ho) hst'⟩
/-- One cell, at a computed place. -/
theorem Wr.blk1 {P : Program} {W : World} {b i : Nat} {cs : List Value} (hi : i < cs.length) (h1 : v.oneCell' = true) : Wr P W I (Blk b t cs :: R) ⟨b, i, none⟩ [v] (Blk b t (cs.set i v) :: R) := by
  intro w hw
  obtain ⟨⟨m, ⟨m1, m2, hd, rfl, hb, h2⟩, hsat⟩, hst⟩ := id hw
  have hb0 : w.heap[b]? = some (.cells cs.toArray t (0, 0)) := hsat.own _ _ (PH.le_or_left _ _ _ _ hb)
  have hrun := run_store1 (P := P) hb0 (i := i) (by simpa using hi) h1
  refine ⟨_, ?_, hw.upd (o := .cells (cs.set i v).toArray t (0, 0)) (b := b) (fun m hm => ⟨by rw [show m b = _ from hm]; rfl, by simp [Blk]⟩) ?_ (fun k hne o' ho => (heap_setCell_other w ⟨b, i, none⟩ k v hne).trans ho) ⟨rfl, rfl, rfl, by simp, Nat.le_refl _⟩⟩
  · unfold storeCells
    rw [Sem.run_bind, Addr.add_zero', hrun]
    rfl
  · rw [heap_setCell_same w b i cs.toArray t v hb0]; simp
theorem Nx.store {n : Nat} {A : Addr} {vs : List Value} (hx : evo e x = some (.pointer (some A))) (hy : evo e y = some vy) (hc : vy.cells.toList = vs) (hn : cellsIn C.P t = some n) (hl : Nat.beq vs.length n = true)
    (hw : Wr C.P C.W I R A vs R') (h : Nx C e I R' K) : Nx C e I R (opK C.P ⟨none, .store t x y, ty, pos, after, g⟩ K Q) := by
  intro a w ha hst
  obtain ⟨w', hr, hst'⟩ := hw w hst
  have hlen : vs.length = n := Nat.eq_of_beq_eq_true hl
  unfold opK Oper.wp
  have hrun : (execOp a.eval ⟨none, .store t x y, ty, pos, after, g⟩).run C.P w = .ok .skip w' := by
    simp only [execOp, ha.eval hx, ha.eval hy]
    rw [Sem.run_bind]
    unfold Instr.storeAt storeVar
    simp only [Instr.sureAddr]
    rw [Sem.run_bind, Sem.run_pure, Result.andThen_ok, Sem.run_bind, cellsIn_run hn, Result.andThen_ok]
    have hsz : vy.cells.size = n := by rw [← hlen, ← hc]; simp
    rw [if_neg (by simp [hsz]), hc, hr]
    rfl
  rw [hrun]
  exact h _ w' ha hst'
/-- A store into a variable of the call's own, resource number k. -/
theorem Nx.store_blk (k : Nat) {n b i : Nat} {t0 : TypeId} {cs cs' : List Value} (hx : evo e x = some (.pointer (some ⟨b, i, none⟩))) (hy : evo e y = some vy) (hk : nthL R k = some (Blk b t0 cs)) (hs : setsAt cs i (cellsL vy) = some cs')
    (h1 : (cellsL vy).all Value.oneCell' = true) (hn : cellsIn C.P t = some n) (hl : Nat.beq (cellsL vy).length n = true) (h : Nx C e I (Blk b t0 cs' :: R.eraseIdx k) K) : Nx C e I R (opK C.P ⟨none, .store t x y, ty, pos, after, g⟩ K Q) :=
  Nx.ent (Ent.pull k R _ (nthL_eq.symm.trans hk)) (Nx.store hx hy (cellsL_eq vy) hn hl (Wr.blk hs (fun u hu => List.all_eq_true.1 h1 u hu)) h)
end
end Go.Eng
