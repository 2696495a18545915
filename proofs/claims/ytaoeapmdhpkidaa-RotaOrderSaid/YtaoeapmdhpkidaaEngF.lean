/-
  The proof engine, part F: memory that nobody writes any more; lists of lists.
-/
import Derived.Test.YtaoeapmdhpkidaaEngZ
namespace Go.Eng
section
variable {C : Cx} {e e' : Env} {I I' : PH} {R R' : List Res} {K K' : Act → World → Prop} {Q : Exit → Act → World → Prop} {W : World}
theorem St.imm_le {w : World} (hle : PH.le I I') (h : St W I' R w) : St W I R w := by
  obtain ⟨⟨m, hm, hs⟩, hst⟩ := h
  exact ⟨⟨m, hm, ⟨fun i o hi => hs.imm i o (hle i o hi), hs.own, dis_sub hs.dis hle (PH.le_refl _)⟩⟩, hst⟩
/-- What was given up need not be told further on. -/
theorem Nx.imm_le (hle : PH.le I I') (h : Nx C e I R K) : Nx C e I' R K := fun a w ha hw => h a w ha (hw.imm_le hle)
theorem Stars.get : ∀ {R : List Res} {m : PH} (k : Nat) {r : Res}, Stars R m → nthL R k = some r → ∃ m', PH.le m' m ∧ r m'
  | [], _, k, r, _, hk => by cases k <;> simp [nthL] at hk
  | r0 :: R, m, 0, r, h, hk => by
    obtain ⟨m1, m2, hd, rfl, h1, _⟩ := h
    simp [nthL] at hk
    subst hk
    exact ⟨m1, PH.le_or_left _ _, h1⟩
  | r0 :: R, m, k + 1, r, h, hk => by
    obtain ⟨m1, m2, hd, rfl, _, h2⟩ := h
    obtain ⟨m', hle, hr⟩ := Stars.get k h2 hk
    exact ⟨m', hle.trans (PH.le_or_right hd), hr⟩
/-- Resource number k is given up for good: from here on nobody writes it. -/
theorem Nx.freezeAt (k : Nat) {r : Res} (hk : nthL R k = some r) (h : ∀ I' m, PH.le I I' → PH.le m I' → r m → Nx C e I' (R.eraseIdx k) K) : Nx C e I R K :=
  Nx.freeze (B := [r]) (R' := R.eraseIdx k) (Ent.pull k R r (nthL_eq.symm.trans hk)) (fun m hd hB => by
    obtain ⟨m1, m2, hd', rfl, hr, _⟩ := hB
    exact h _ m1 (PH.le_or_left _ _) ((PH.le_or_left m1 m2).trans (PH.le_or_right hd)) hr)
/-- Two of them. -/
theorem Nx.unfoldAt (k : Nat) {B : List Res} (hk : nthL R k = some (Stars B)) (h : Nx C e I (B ++ R.eraseIdx k) K) : Nx C e I R K := by
  refine Nx.ent (Ent.pull k R _ (nthL_eq.symm.trans hk)) (Nx.ent ?_ h)
  rintro m ⟨m1, m2, hd, rfl, h1, h2⟩
  obtain ⟨k, hk, hkS⟩ := Stars.join hd h1 h2
  exact ⟨k, hk, hkS⟩
/-- One more resource goes into a bundle: r and the bundle are the two that come first. -/
theorem Ent.bundle {r : Res} {B : List Res} {R : List Res} : Ent (r :: Stars B :: R) (Stars (B ++ [r]) :: R) := by
  refine (Ent.swap _ _ _).trans ?_
  rintro m ⟨m1, m2, hd, rfl, h1, n1, n2, hd', rfl, h2, h3⟩
  obtain ⟨d1, d2⟩ := PH.dis_or.1 hd
  obtain ⟨k, hk, hkS⟩ := Stars.join (a := B) (b := [r]) d1 h1 ⟨n1, fun _ => none, fun _ => .inr rfl, by funext i; unfold PH.or; cases n1 i <;> rfl, h2, trivial⟩
  have hkn : PH.dis k n2 := dis_sub (PH.dis.symm (PH.dis_or.2 ⟨d2.symm, hd'.symm⟩)) hk (PH.le_refl _)
  refine ⟨k.or n2, ?_, k, n2, hkn, rfl, hkS, h3⟩
  rw [← PH.or_assoc]
  refine PH.or_le (hk.trans (PH.le_or_left _ _)) (PH.le_or_right (PH.dis.symm (PH.dis_or.2 ⟨d2.symm, hd'.symm⟩)))
theorem Ent.stars_nil (R : List Res) : Ent R (Stars [] :: R) := fun m hm => ⟨m, PH.le_refl m, fun _ => none, m, fun _ => .inl rfl, by funext i; rfl, trivial, hm⟩
theorem Ent.pack2 {r s : Res} {R : List Res} : Ent (r :: s :: R) (Stars [r, s] :: R) := by
  rintro m ⟨m1, mm, hd, rfl, h1, m2, m3, hd', rfl, h2, h3⟩
  obtain ⟨d1, d2⟩ := PH.dis_or.1 hd
  refine ⟨_, PH.le_refl _, m1.or m2, m3, PH.dis.symm (PH.dis_or.2 ⟨d2.symm, hd'.symm⟩), (PH.or_assoc _ _ _).symm, ?_, h3⟩
  exact ⟨m1, m2, d1, rfl, h1, m2, fun _ => none, fun _ => .inr rfl, by funext i; unfold PH.or; cases m2 i <;> rfl, h2, trivial⟩
section
variable {d : Nat} {ty t el : TypeId} {pos : String} {after : Array Edge} {g : Option (Nat × Bool)} {x y : Operand} {A : Option Addr} {n c : Nat}
/-- A store into an owned list of values of one cell each, resource number k. -/
theorem Nx.store_of (k : Nat) {α : Type} (f : α → Value) {i : Nat} {l : List α} {z : α} (hx : evo e x = some (.pointer (some ((ad A).add (i * 1))))) (hy : evo e y = some (f z)) (hc : cellsL (f z) = [f z]) (h1 : (f z).oneCell' = true) (hn : cellsIn C.P t = some 1) (hk : nthL R k = some (Vec el 1 A n c (l.map f))) (hi : i < n)
    (h : Nx C e I (Vec el 1 A n c ((l.set i z).map f) :: R.eraseIdx k) K) : Nx C e I R (opK C.P ⟨none, .store t x y, ty, pos, after, g⟩ K Q) := by
  rw [Nat.mul_one] at hx
  refine Nx.ent (Ent.pull k R _ (nthL_eq.symm.trans hk)) (Nx.store hx hy ((cellsL_eq _).trans hc) hn rfl (Wr.vec hi h1) ?_)
  rw [List.map_set] at h
  exact h
/-- make([]bool, m). -/
theorem Nx.makeBools {kl kc : IntKind} {m : Nat} {i : TypeInfo} (hx : evo e x = some (.int kl (m : Int))) (hy : evo e y = some (.int kc (m : Int))) (ht : C.P.underlying t = some (.slice el))
    (hi : C.P.info? el = some i) (hz : i.zero = some (.bool false)) (hs : i.size = 1) (hb : i.bytes = 1) (hlt : Nat.blt d C.n = true) (h63 : m ≤ 34359738368)
    (h : ∀ b, Nx C ((d, .slice (some ⟨b, 0, none⟩) m m) :: e) I (Vec el 1 (some ⟨b, 0, none⟩) m m ((List.replicate m false).map Value.bool) :: R) K) : Nx C e I R (opK C.P ⟨some d, .makeSlice t x y, ty, pos, after, g⟩ K Q) :=
  Nx.makeSlice hx hy ht hi hz hs hb rfl hlt (by omega) (by unfold maxLen; omega) (fun b => by have := h b; rw [List.map_replicate] at this; exact this)
end
end
end Go.Eng
