/- Contracts of functions of the given program, and lemmas about plain lists and numbers: what the laws of this seat lean on. -/
import Derived.Test.YtaoeapmdhpkidaaS21
namespace Go.Proofs.Ytaoeapmdhpkidaa
open Go.Eng
/-! RotaOrder: plain law -/
theorem asc_sub : ∀ {W g : List Shift}, (W.Pairwise fun a b => beforeB a b = true) → (g.Pairwise fun a b => beforeB a b = true) → (∀ x ∈ g, x ∈ W) → g.Sublist W
  | W, [], _, _, _ => List.nil_sublist W
  | [], x :: g, _, _, h => by have := h x List.mem_cons_self; cases this
  | w :: W, x :: g, hW, hg, h => by
    rw [List.pairwise_cons] at hW
    by_cases hx : x = w
    · subst hx
      have hg2 := List.pairwise_cons.1 hg
      refine List.Sublist.cons_cons x (asc_sub hW.2 hg2.2 fun y hy => ?_)
      rcases List.mem_cons.1 (h y (List.mem_cons_of_mem _ hy)) with rfl | h2
      · have := hg2.1 y hy; rw [before_irr] at this; cases this
      · exact h2
    · have hxW : x ∈ W := (List.mem_cons.1 (h x List.mem_cons_self)).resolve_left hx
      have hwx := hW.1 x hxW
      refine List.Sublist.cons w (asc_sub hW.2 hg fun y hy => ?_)
      rcases List.mem_cons.1 (h y hy) with rfl | h2
      · rcases List.mem_cons.1 hy with h3 | h3
        · exact absurd h3.symm hx
        · have := before_trans hwx ((List.pairwise_cons.1 hg).1 _ h3); rw [before_irr] at this; cases this
      · exact h2
/-- Where shift number i of the walk stands. -/
def ixO (n t i : Nat) : Nat := (i * 5 + t) % n
theorem ixO_lt {n t i : Nat} (h : 0 < n) : ixO n t i < n := Nat.mod_lt _ h
theorem ixO_lt5 {n t i j : Nat} (hn : n % 5 ≠ 0) (hij : j < i) (hi : i < n) : ixO n t i ≠ ixO n t j := by
  intro h
  unfold ixO at h
  have e1 := Nat.div_add_mod (i * 5 + t) n
  have e2 := Nat.div_add_mod (j * 5 + t) n
  rw [← h] at e2
  obtain ⟨d, hd⟩ : ∃ d, (i * 5 + t) / n = (j * 5 + t) / n + d := ⟨(i * 5 + t) / n - (j * 5 + t) / n, by
    have := Nat.div_le_div_right (c := n) (show j * 5 + t ≤ i * 5 + t by omega); omega⟩
  rw [hd, Nat.mul_add] at e1
  have e3 : n * d = 5 * (i - j) := by omega
  have hd5 : d < 5 := by
    rcases Nat.lt_or_ge d 5 with h5 | h5
    · exact h5
    · have := Nat.mul_le_mul_left n h5; omega
  have hd6 : d = 0 ∨ d = 1 ∨ d = 2 ∨ d = 3 ∨ d = 4 := by omega
  rcases hd6 with rfl | rfl | rfl | rfl | rfl <;> omega
structure OrdInv (W : List Shift) (t i : Nat) (g : List Shift) : Prop where
  rota : Rota g
  mem : ∀ x ∈ g, ∃ j, j < i ∧ x = W.getD (ixO W.length t j) default
  len : W.length % 5 ≠ 0 → g.length = i
theorem ord_nil (W : List Shift) (t : Nat) : OrdInv W t 0 [] := ⟨rota_nil, by simp, fun _ => rfl⟩
theorem ord_step {W g : List Shift} {t i : Nat} (hW : Rota W) (h : OrdInv W t i g) (hi : i < W.length) : OrdInv W t (i + 1) (addL g (W.getD (ixO W.length t i) default)) ∧ (W.length % 5 ≠ 0 → addE g (W.getD (ixO W.length t i) default) = 0) := by
  have hix : ixO W.length t i < W.length := ixO_lt (by omega)
  have hmem : W.getD (ixO W.length t i) default ∈ W := by rw [sh_at hix]; exact List.getElem_mem _
  have hE : W.length % 5 ≠ 0 → addE g (W.getD (ixO W.length t i) default) = 0 := fun hn => by
    have hs := hW.each _ hmem
    have hnp : nameB (W.getD (ixO W.length t i) default).1 = true ∧ properB (W.getD (ixO W.length t i) default) = true := by
      unfold singleE at hs
      split at hs
      · split at hs
        · exact ⟨by assumption, by assumption⟩
        · omega
      · omega
    have hm : meetsB g (W.getD (ixO W.length t i) default) = false := by
      unfold meetsB
      rw [List.any_eq_false]
      intro y hy
      obtain ⟨j, hj, rfl⟩ := h.mem y hy
      have hjx : ixO W.length t j < W.length := ixO_lt (by omega)
      have hne := ixO_lt5 (t := t) hn hj hi
      rw [sh_at hjx, sh_at hix]
      have hap := List.pairwise_iff_getElem.1 hW.apart
      rcases Nat.lt_or_gt_of_ne hne with h1 | h1
      · rw [meet_symm, hap _ _ hix hjx h1]; decide
      · rw [hap _ _ hjx hix h1]; decide
    have hl := h.len hn
    have hf := hW.few
    unfold addE
    rw [if_neg (by rw [rota_iff.2 h.rota]; decide), if_neg (by rw [hnp.1]; decide), if_neg (by rw [hnp.2]; decide), if_neg (by rw [hm]; decide), if_neg (by omega)]
  refine ⟨⟨h.rota.add, fun x hx => ?_, fun hn => ?_⟩, hE⟩
  · rcases addL_mem hx with rfl | hx
    · exact ⟨i, by omega, rfl⟩
    · obtain ⟨j, hj, he⟩ := h.mem x hx
      exact ⟨j, by omega, he⟩
  · unfold addL
    rw [if_pos (hE hn), insL_len, h.len hn]
theorem ord_end {W g : List Shift} {t : Nat} (hW : Rota W) (h : OrdInv W t W.length g) (hn : W.length % 5 ≠ 0) : g = W := by
  refine (asc_sub hW.asc h.rota.asc fun x hx => ?_).eq_of_length (h.len hn)
  obtain ⟨j, hj, rfl⟩ := h.mem x hx
  have hjx : ixO W.length t j < W.length := ixO_lt (by omega)
  rw [sh_at hjx]
  exact List.getElem_mem _
end Go.Proofs.Ytaoeapmdhpkidaa
