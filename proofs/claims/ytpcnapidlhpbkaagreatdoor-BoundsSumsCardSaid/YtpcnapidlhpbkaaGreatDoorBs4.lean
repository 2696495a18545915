/- Contracts of functions of the given program, and lemmas about plain lists and numbers: what the laws of this seat lean on. -/
import Derived.Sort.Grow
import Derived.Lib.AppendIntMem
import Derived.Lib.ItoaLen
import Derived.Laws.Concat
import Derived.Laws.Strings
import Derived.Laws.StructEq
import Derived.Laws.Small
import Derived.Test.YtpcnapidlhpbkaaGreatDoorProg
import Derived.Test.YtpcnapidlhpbkaaGreatDoorBs3
namespace Go.Proofs.YtpcnapidlhpbkaaGreatDoor
open Go.Eng
attribute [local irreducible] opK wpList Code.wp Exit.then Exit.inBlock fnPost bodyPost Nx Calls Oper.wp Rd Rds Wr Ent Stars Blk Again Vec FnSpec wpMix QRun Stop Upto wpAt
set_option maxHeartbeats 8000000 in
theorem Valid_t {n d : Int} (h : FOk n d) (I : PH) : FnSpec Tryz.prog 43 [fracV n d] I [] (fun v R' => v = .bool true ∧ R' = []) := by
  have := frValid_spec n d (by have := h.2.2.1; have := h.2.2.2.1; unfold I64; omega) (by have := h.1; have := h.2.1; unfold I64; omega) I
  rw [decide_eq_true h] at this; exact this
set_option maxHeartbeats 8000000 in
theorem Valid_f {n d : Int} (hn : I64 n) (hd : I64 d) (h : ¬FOk n d) (I : PH) : FnSpec Tryz.prog 43 [fracV n d] I [] (fun v R' => v = .bool false ∧ R' = []) := by
  have := frValid_spec n d hn hd I
  rw [decide_eq_false h] at this; exact this
set_option maxHeartbeats 8000000 in
theorem rValid_t {n d : Int} (h : FOk n d) (I : PH) : FnSpec Tryz.prog 50 [fracV n d] I [] (fun v R' => v = .bool true ∧ R' = []) := by
  have := rValid_spec n d (by have := h.2.2.1; have := h.2.2.2.1; unfold I64; omega) (by have := h.1; have := h.2.1; unfold I64; omega) I
  rw [decide_eq_true h] at this; exact this
set_option maxHeartbeats 8000000 in
theorem rValid_f {n d : Int} (hn : I64 n) (hd : I64 d) (h : ¬FOk n d) (I : PH) : FnSpec Tryz.prog 50 [fracV n d] I [] (fun v R' => v = .bool false ∧ R' = []) := by
  have := rValid_spec n d hn hd I
  rw [decide_eq_false h] at this; exact this
theorem prod_bd {a b : Int} (ha : a.natAbs ≤ 1152921504606846976) (hb : b.natAbs ≤ 1152921504606846976) : (a * b).natAbs ≤ 1329227995784915872903807060280344576 := by
  rw [Int.natAbs_mul]
  exact Nat.mul_le_mul ha hb
theorem fok_abs {n d : Int} (h : FOk n d) : n.natAbs ≤ 1152921504606846976 ∧ d.natAbs ≤ 1152921504606846976 ∧ 0 < d := by
  obtain ⟨h1, h2, h3, h4, _⟩ := h
  omega
theorem fok_i64 {n d : Int} (h : FOk n d) : I64 n ∧ I64 d := by
  obtain ⟨h1, h2, h3, h4, _⟩ := h
  unfold I64; omega
set_option maxHeartbeats 2000000 in
set_option maxRecDepth 10000 in
theorem crossed_spec (n d m e : Int) (hn : I64 n) (hd : I64 d) (hm : I64 m) (he : I64 e) (I : PH) : FnSpec Tryz.prog 168 [fracV n d, fracV m e] I [] (fun v R' => v = .tuple #[wideV (n * e), wideV (m * d)] ∧ R' = []) := by
  refine FnSpec.enterP Tryz.func168 rfl Tryz.ntmps168 rfl fun w F => ?_
  repeat' first
    | ((with_reducible refine Nx.is_wp ?_); first | refine Nx.wo ?_ | refine Nx.p_drawF (id := 1) rfl [0, 1, 3, 4, 7, 8, 10, 11, 2, 5, 6, 9] [2, 5, 6, 9] [12, 13, 14, 15] _ rfl rfl (by kernel_rfl) (by kernel_rfl) rfl (by repeat first | exact PanicOk.fn | refine PanicOk.then_ ?_ | refine PanicOk.inB ?_) (Ent.refl _) ?_ | refine Nx.zp (fun hc => ?_) (fun hc => ?_))
    | (refine Nx.zo ?_; first | refine Nx.opr rfl rfl ?_ | refine Nx.callv rfl rfl rfl (by kernel_rfl) rfl (whole_spec _ hn I) ?_ | refine Nx.callv rfl rfl rfl (by kernel_rfl) rfl (whole_spec _ hd I) ?_ | refine Nx.callv rfl rfl rfl (by kernel_rfl) rfl (whole_spec _ hm I) ?_ | refine Nx.callv rfl rfl rfl (by kernel_rfl) rfl (whole_spec _ he I) ?_ | refine Nx.callv rfl rfl rfl (by kernel_rfl) rfl (times_spec _ _ I) ?_ | refine Nx.so ?_ | refine Nx.sb (fun bx => ?_) | refine Nx.sa (fun A2 c2 => ?_))
    | ((with_reducible refine Nx.is_at ?_); first | refine Nx.a ?_ | refine Nx.zd ?_ | refine Nx.zs (fun hc => ?_) (fun hc => ?_))
    | ((with_reducible refine Nx.is_mix ?_); first | refine Nx.m ?_ | refine Nx.zm ?_ | refine Nx.zt (fun hc => ?_) (fun hc => ?_))
    | refine Nx.zx ?_ | fail
  exact Nx.ret2 rfl (ROne.cell 1 rfl rfl rfl rfl rfl) (ROne.cell 0 rfl rfl rfl rfl rfl) [] ⟨rfl, rfl⟩ (by (exact Ent.auto))
set_option maxHeartbeats 2000000 in
set_option maxRecDepth 10000 in
theorem combine_spec (n d m e : Int) (hn : I64 n) (hd : I64 d) (hm : I64 m) (he : I64 e) (I : PH) (hT : TabI I) (fo : FuncId) (f : Int → Int → Int) (hcal : callable Tryz.prog fo = true)
    (hf : ∀ a b, FnSpec Tryz.prog fo [wideV a, wideV b] I [] (fun v R' => v = wideV (f a b) ∧ R' = []))
    (hbd : ∀ a b : Int, a.natAbs ≤ 1329227995784915872903807060280344576 → b.natAbs ≤ 1329227995784915872903807060280344576 → (f a b).natAbs < H127) :
    FnSpec Tryz.prog 212 [fracV n d, fracV m e, .func (.func fo) #[] #[]] I [] (fun v R' => v = opV n d m e (Rat.divInt (f (n * e) (m * d)) (d * e)) ∧ R' = []) := by
  unfold opV
  by_cases h1 : FOk n d
  · by_cases h2 : FOk m e
    · obtain ⟨a1, a2, a3⟩ := fok_abs h1
      obtain ⟨b1, b2, b3⟩ := fok_abs h2
      rw [if_pos ⟨h1, h2⟩]
      have hde := prod_bd a2 b2
      have hpos : 0 < d * e := Int.mul_pos a3 b3
      refine FnSpec.enterP Tryz.func212 rfl Tryz.ntmps212 rfl fun w F => ?_
      repeat' first
        | ((with_reducible refine Nx.is_wp ?_); first | refine Nx.wo ?_ | refine Nx.p_drawF (id := 3) rfl [0, 1, 2, 7, 8, 10, 11, 3, 4, 5, 6, 9, 12, 13, 14, 15, 16] [3, 6, 9, 12, 13, 14] [17, 18] _ rfl rfl (by kernel_rfl) (by kernel_rfl) rfl (by repeat first | exact PanicOk.fn | refine PanicOk.then_ ?_ | refine PanicOk.inB ?_) (Ent.refl _) ?_ | refine Nx.zp (fun hc => ?_) (fun hc => ?_))
        | (refine Nx.zo ?_; first | refine Nx.opr rfl rfl ?_ | refine Nx.callv rfl rfl rfl (by kernel_rfl) rfl (Valid_t h1 I) ?_ | refine Nx.callv rfl rfl rfl (by kernel_rfl) rfl (Valid_t h2 I) ?_ | refine Nx.callv rfl rfl rfl (by kernel_rfl) rfl (crossed_spec n d m e hn hd hm he I) ?_ | refine Nx.callv rfl rfl rfl (by kernel_rfl) rfl (whole_spec _ hd I) ?_ | refine Nx.callv rfl rfl rfl (by kernel_rfl) rfl (whole_spec _ he I) ?_ | refine Nx.callv rfl rfl rfl (by kernel_rfl) rfl (times_spec _ _ I) ?_ | refine Nx.callv rfl rfl rfl (by kernel_rfl) rfl (Reduced_spec _ _ (hbd _ _ (prod_bd a1 b2) (prod_bd b1 a2)) (by omega) (by unfold H127; omega) I hT) ?_ | refine Nx.callv rfl rfl rfl hcal rfl (hf _ _) ?_ | refine Nx.so ?_ | refine Nx.sb (fun bx => ?_) | refine Nx.sa (fun A2 c2 => ?_))
        | ((with_reducible refine Nx.is_at ?_); first | refine Nx.a ?_ | refine Nx.zd ?_ | refine Nx.zs (fun hc => ?_) (fun hc => ?_))
        | ((with_reducible refine Nx.is_mix ?_); first | refine Nx.m ?_ | refine Nx.zm ?_ | refine Nx.zt (fun hc => ?_) (fun hc => ?_))
        | refine Nx.zx ?_ | fail
      exact Nx.ret2 rfl (ROne.cell 0 rfl rfl rfl rfl rfl) (ROne.tmp rfl) [] ⟨rfl, rfl⟩ (by (exact Ent.auto))
    · rw [if_neg (fun h => h2 h.2)]
      refine FnSpec.enterP Tryz.func212 rfl Tryz.ntmps212 rfl fun w F => ?_
      repeat' first
        | ((with_reducible refine Nx.is_wp ?_); first | refine Nx.wo ?_ | refine Nx.zp (fun hc => ?_) (fun hc => ?_))
        | (refine Nx.zo ?_; first | refine Nx.opr rfl rfl ?_ | refine Nx.callv rfl rfl rfl (by kernel_rfl) rfl (Valid_t h1 I) ?_ | refine Nx.callv rfl rfl rfl (by kernel_rfl) rfl (Valid_f hm he h2 I) ?_ | refine Nx.so ?_ | refine Nx.sb (fun bx => ?_) | refine Nx.sa (fun A2 c2 => ?_))
        | ((with_reducible refine Nx.is_at ?_); first | refine Nx.a ?_ | refine Nx.zd ?_ | refine Nx.zs (fun hc => ?_) (fun hc => ?_))
        | ((with_reducible refine Nx.is_mix ?_); first | refine Nx.m ?_ | refine Nx.zm ?_ | refine Nx.zt (fun hc => ?_) (fun hc => ?_))
        | refine Nx.zx ?_ | fail
      exact Nx.ret2 rfl (ROne.cell 0 rfl rfl rfl rfl rfl) (ROne.tmp rfl) [] ⟨rfl, rfl⟩ (by (exact Ent.auto))
  · rw [if_neg (fun h => h1 h.1)]
    refine FnSpec.enterP Tryz.func212 rfl Tryz.ntmps212 rfl fun w F => ?_
    repeat' first
      | ((with_reducible refine Nx.is_wp ?_); first | refine Nx.wo ?_ | refine Nx.zp (fun hc => ?_) (fun hc => ?_))
      | (refine Nx.zo ?_; first | refine Nx.opr rfl rfl ?_ | refine Nx.callv rfl rfl rfl (by kernel_rfl) rfl (Valid_f hn hd h1 I) ?_ | refine Nx.so ?_ | refine Nx.sb (fun bx => ?_) | refine Nx.sa (fun A2 c2 => ?_))
      | ((with_reducible refine Nx.is_at ?_); first | refine Nx.a ?_ | refine Nx.zd ?_ | refine Nx.zs (fun hc => ?_) (fun hc => ?_))
      | ((with_reducible refine Nx.is_mix ?_); first | refine Nx.m ?_ | refine Nx.zm ?_ | refine Nx.zt (fun hc => ?_) (fun hc => ?_))
      | refine Nx.zx ?_ | fail
    exact Nx.ret2 rfl (ROne.cell 0 rfl rfl rfl rfl rfl) (ROne.tmp rfl) [] ⟨rfl, rfl⟩ (by (exact Ent.auto))
end Go.Proofs.YtpcnapidlhpbkaaGreatDoor
/- Contracts of functions of the given program, and lemmas about plain lists and numbers: what the laws of this seat lean on. -/
namespace Go.Proofs.YtpcnapidlhpbkaaGreatDoor
open Go.Eng
attribute [local irreducible] opK wpList Code.wp Exit.then Exit.inBlock fnPost bodyPost Nx Calls Oper.wp Rd Rds Wr Ent Stars Blk Again Vec FnSpec wpMix QRun Stop Upto wpAt
theorem add_mul_bd {a b : Int} (ha : a.natAbs ≤ 1329227995784915872903807060280344576) (hb : b.natAbs ≤ 1329227995784915872903807060280344576) : (a + b).natAbs < H127 ∧ (a - b).natAbs < H127 := by
  unfold H127; omega
set_option maxHeartbeats 2000000 in
set_option maxRecDepth 10000 in
theorem Add_spec (n d m e : Int) (hn : I64 n) (hd : I64 d) (hm : I64 m) (he : I64 e) (I : PH) (hT : TabI I) : FnSpec Tryz.prog 163 [fracV n d, fracV m e] I [] (fun v R' => v = opV n d m e (Rat.divInt n d + Rat.divInt m e) ∧ R' = []) := by
  have hc := combine_spec n d m e hn hd hm he I hT 213 (fun a b => a + b) (by kernel_rfl) (fun a b => plus_spec a b I) (fun a b ha hb => (add_mul_bd ha hb).1)
  rw [show opV n d m e (Rat.divInt ((fun a b : Int => a + b) (n * e) (m * d)) (d * e)) = opV n d m e (Rat.divInt n d + Rat.divInt m e) from opV_congr fun h => by
    rw [Rat.divInt_add_divInt _ _ (by have := h.1.1; omega) (by have := h.2.1; omega)]] at hc
  refine FnSpec.enterP Tryz.func163 rfl Tryz.ntmps163 rfl fun w F => ?_
  by_cases h : FOk n d ∧ FOk m e
  · unfold opV at *
    rw [if_pos h] at *
    repeat' first
      | ((with_reducible refine Nx.is_wp ?_); first | refine Nx.wo ?_ | refine Nx.zp (fun hc => ?_) (fun hc => ?_))
      | (refine Nx.zo ?_; first | refine Nx.opr rfl rfl ?_ | refine Nx.callv rfl rfl rfl (by kernel_rfl) rfl (hc) ?_ | refine Nx.so ?_ | refine Nx.sb (fun bx => ?_) | refine Nx.sa (fun A2 c2 => ?_))
      | ((with_reducible refine Nx.is_at ?_); first | refine Nx.a ?_ | refine Nx.zd ?_ | refine Nx.zs (fun hc => ?_) (fun hc => ?_))
      | ((with_reducible refine Nx.is_mix ?_); first | refine Nx.m ?_ | refine Nx.zm ?_ | refine Nx.zt (fun hc => ?_) (fun hc => ?_))
      | refine Nx.zx ?_ | fail
    exact Nx.ret2 rfl (ROne.cell 0 rfl rfl rfl rfl rfl) (ROne.tmp rfl) [] ⟨rfl, rfl⟩ (by (exact Ent.auto))
  · unfold opV at *
    rw [if_neg h] at *
    repeat' first
      | ((with_reducible refine Nx.is_wp ?_); first | refine Nx.wo ?_ | refine Nx.zp (fun hc => ?_) (fun hc => ?_))
      | (refine Nx.zo ?_; first | refine Nx.opr rfl rfl ?_ | refine Nx.callv rfl rfl rfl (by kernel_rfl) rfl (hc) ?_ | refine Nx.so ?_ | refine Nx.sb (fun bx => ?_) | refine Nx.sa (fun A2 c2 => ?_))
      | ((with_reducible refine Nx.is_at ?_); first | refine Nx.a ?_ | refine Nx.zd ?_ | refine Nx.zs (fun hc => ?_) (fun hc => ?_))
      | ((with_reducible refine Nx.is_mix ?_); first | refine Nx.m ?_ | refine Nx.zm ?_ | refine Nx.zt (fun hc => ?_) (fun hc => ?_))
      | refine Nx.zx ?_ | fail
    exact Nx.ret2 rfl (ROne.cell 0 rfl rfl rfl rfl rfl) (ROne.tmp rfl) [] ⟨rfl, rfl⟩ (by (exact Ent.auto))
set_option maxHeartbeats 2000000 in
set_option maxRecDepth 10000 in
theorem Sub_spec (n d m e : Int) (hn : I64 n) (hd : I64 d) (hm : I64 m) (he : I64 e) (I : PH) (hT : TabI I) : FnSpec Tryz.prog 221 [fracV n d, fracV m e] I [] (fun v R' => v = opV n d m e (Rat.divInt n d - Rat.divInt m e) ∧ R' = []) := by
  have hc := combine_spec n d m e hn hd hm he I hT 169 (fun a b => a - b) (by kernel_rfl) (fun a b => minus_spec a b I) (fun a b ha hb => (add_mul_bd ha hb).2)
  rw [show opV n d m e (Rat.divInt ((fun a b : Int => a - b) (n * e) (m * d)) (d * e)) = opV n d m e (Rat.divInt n d - Rat.divInt m e) from opV_congr fun h => by
    rw [Rat.divInt_sub_divInt _ _ (by have := h.1.1; omega) (by have := h.2.1; omega)]] at hc
  refine FnSpec.enterP Tryz.func221 rfl Tryz.ntmps221 rfl fun w F => ?_
  by_cases h : FOk n d ∧ FOk m e
  · unfold opV at *
    rw [if_pos h] at *
    repeat' first
      | ((with_reducible refine Nx.is_wp ?_); first | refine Nx.wo ?_ | refine Nx.zp (fun hc => ?_) (fun hc => ?_))
      | (refine Nx.zo ?_; first | refine Nx.opr rfl rfl ?_ | refine Nx.callv rfl rfl rfl (by kernel_rfl) rfl (hc) ?_ | refine Nx.so ?_ | refine Nx.sb (fun bx => ?_) | refine Nx.sa (fun A2 c2 => ?_))
      | ((with_reducible refine Nx.is_at ?_); first | refine Nx.a ?_ | refine Nx.zd ?_ | refine Nx.zs (fun hc => ?_) (fun hc => ?_))
      | ((with_reducible refine Nx.is_mix ?_); first | refine Nx.m ?_ | refine Nx.zm ?_ | refine Nx.zt (fun hc => ?_) (fun hc => ?_))
      | refine Nx.zx ?_ | fail
    exact Nx.ret2 rfl (ROne.cell 0 rfl rfl rfl rfl rfl) (ROne.tmp rfl) [] ⟨rfl, rfl⟩ (by (exact Ent.auto))
  · unfold opV at *
    rw [if_neg h] at *
    repeat' first
      | ((with_reducible refine Nx.is_wp ?_); first | refine Nx.wo ?_ | refine Nx.zp (fun hc => ?_) (fun hc => ?_))
      | (refine Nx.zo ?_; first | refine Nx.opr rfl rfl ?_ | refine Nx.callv rfl rfl rfl (by kernel_rfl) rfl (hc) ?_ | refine Nx.so ?_ | refine Nx.sb (fun bx => ?_) | refine Nx.sa (fun A2 c2 => ?_))
      | ((with_reducible refine Nx.is_at ?_); first | refine Nx.a ?_ | refine Nx.zd ?_ | refine Nx.zs (fun hc => ?_) (fun hc => ?_))
      | ((with_reducible refine Nx.is_mix ?_); first | refine Nx.m ?_ | refine Nx.zm ?_ | refine Nx.zt (fun hc => ?_) (fun hc => ?_))
      | refine Nx.zx ?_ | fail
    exact Nx.ret2 rfl (ROne.cell 0 rfl rfl rfl rfl rfl) (ROne.tmp rfl) [] ⟨rfl, rfl⟩ (by (exact Ent.auto))
set_option maxHeartbeats 2000000 in
set_option maxRecDepth 10000 in
theorem Mul_spec (n d m e : Int) (hn : I64 n) (hd : I64 d) (hm : I64 m) (he : I64 e) (I : PH) (hT : TabI I) : FnSpec Tryz.prog 104 [fracV n d, fracV m e] I [] (fun v R' => v = opV n d m e (Rat.divInt n d * Rat.divInt m e) ∧ R' = []) := by
  unfold opV
  by_cases h1 : FOk n d
  · by_cases h2 : FOk m e
    · obtain ⟨a1, a2, a3⟩ := fok_abs h1
      obtain ⟨b1, b2, b3⟩ := fok_abs h2
      rw [if_pos ⟨h1, h2⟩, Rat.divInt_mul_divInt]
      have hde := prod_bd a2 b2
      have hnm := prod_bd a1 b1
      have hpos : 0 < d * e := Int.mul_pos a3 b3
      refine FnSpec.enterP Tryz.func104 rfl Tryz.ntmps104 rfl fun w F => ?_
      repeat' first
        | ((with_reducible refine Nx.is_wp ?_); first | refine Nx.wo ?_ | refine Nx.p_drawF (id := 3) rfl [0, 1, 3, 4, 7, 8, 10, 11, 2, 5, 6, 9, 12, 13, 14, 15, 16] [2, 5, 6, 9, 12, 13, 14] [17, 18] _ rfl rfl (by kernel_rfl) (by kernel_rfl) rfl (by repeat first | exact PanicOk.fn | refine PanicOk.then_ ?_ | refine PanicOk.inB ?_) (Ent.refl _) ?_ | refine Nx.zp (fun hc => ?_) (fun hc => ?_))
        | (refine Nx.zo ?_; first | refine Nx.opr rfl rfl ?_ | refine Nx.callv rfl rfl rfl (by kernel_rfl) rfl (Valid_t h1 I) ?_ | refine Nx.callv rfl rfl rfl (by kernel_rfl) rfl (Valid_t h2 I) ?_ | refine Nx.callv rfl rfl rfl (by kernel_rfl) rfl (whole_spec _ hn I) ?_ | refine Nx.callv rfl rfl rfl (by kernel_rfl) rfl (whole_spec _ hd I) ?_ | refine Nx.callv rfl rfl rfl (by kernel_rfl) rfl (whole_spec _ hm I) ?_ | refine Nx.callv rfl rfl rfl (by kernel_rfl) rfl (whole_spec _ he I) ?_ | refine Nx.callv rfl rfl rfl (by kernel_rfl) rfl (times_spec _ _ I) ?_ | refine Nx.callv rfl rfl rfl (by kernel_rfl) rfl (Reduced_spec _ _ (by unfold H127; omega) (by omega) (by unfold H127; omega) I hT) ?_ | refine Nx.so ?_ | refine Nx.sb (fun bx => ?_) | refine Nx.sa (fun A2 c2 => ?_))
        | ((with_reducible refine Nx.is_at ?_); first | refine Nx.a ?_ | refine Nx.zd ?_ | refine Nx.zs (fun hc => ?_) (fun hc => ?_))
        | ((with_reducible refine Nx.is_mix ?_); first | refine Nx.m ?_ | refine Nx.zm ?_ | refine Nx.zt (fun hc => ?_) (fun hc => ?_))
        | refine Nx.zx ?_ | fail
      exact Nx.ret2 rfl (ROne.cell 0 rfl rfl rfl rfl rfl) (ROne.tmp rfl) [] ⟨rfl, rfl⟩ (by (exact Ent.auto))
    · rw [if_neg (fun h => h2 h.2)]
      refine FnSpec.enterP Tryz.func104 rfl Tryz.ntmps104 rfl fun w F => ?_
      repeat' first
        | ((with_reducible refine Nx.is_wp ?_); first | refine Nx.wo ?_ | refine Nx.zp (fun hc => ?_) (fun hc => ?_))
        | (refine Nx.zo ?_; first | refine Nx.opr rfl rfl ?_ | refine Nx.callv rfl rfl rfl (by kernel_rfl) rfl (Valid_t h1 I) ?_ | refine Nx.callv rfl rfl rfl (by kernel_rfl) rfl (Valid_f hm he h2 I) ?_ | refine Nx.so ?_ | refine Nx.sb (fun bx => ?_) | refine Nx.sa (fun A2 c2 => ?_))
        | ((with_reducible refine Nx.is_at ?_); first | refine Nx.a ?_ | refine Nx.zd ?_ | refine Nx.zs (fun hc => ?_) (fun hc => ?_))
        | ((with_reducible refine Nx.is_mix ?_); first | refine Nx.m ?_ | refine Nx.zm ?_ | refine Nx.zt (fun hc => ?_) (fun hc => ?_))
        | refine Nx.zx ?_ | fail
      exact Nx.ret2 rfl (ROne.cell 0 rfl rfl rfl rfl rfl) (ROne.tmp rfl) [] ⟨rfl, rfl⟩ (by (exact Ent.auto))
  · rw [if_neg (fun h => h1 h.1)]
    refine FnSpec.enterP Tryz.func104 rfl Tryz.ntmps104 rfl fun w F => ?_
    repeat' first
      | ((with_reducible refine Nx.is_wp ?_); first | refine Nx.wo ?_ | refine Nx.zp (fun hc => ?_) (fun hc => ?_))
      | (refine Nx.zo ?_; first | refine Nx.opr rfl rfl ?_ | refine Nx.callv rfl rfl rfl (by kernel_rfl) rfl (Valid_f hn hd h1 I) ?_ | refine Nx.so ?_ | refine Nx.sb (fun bx => ?_) | refine Nx.sa (fun A2 c2 => ?_))
      | ((with_reducible refine Nx.is_at ?_); first | refine Nx.a ?_ | refine Nx.zd ?_ | refine Nx.zs (fun hc => ?_) (fun hc => ?_))
      | ((with_reducible refine Nx.is_mix ?_); first | refine Nx.m ?_ | refine Nx.zm ?_ | refine Nx.zt (fun hc => ?_) (fun hc => ?_))
      | refine Nx.zx ?_ | fail
    exact Nx.ret2 rfl (ROne.cell 0 rfl rfl rfl rfl rfl) (ROne.tmp rfl) [] ⟨rfl, rfl⟩ (by (exact Ent.auto))
set_option maxHeartbeats 2000000 in
set_option maxRecDepth 10000 in
theorem Div_spec (n d m e : Int) (hn : I64 n) (hd : I64 d) (hm : I64 m) (he : I64 e) (I : PH) (hT : TabI I) : FnSpec Tryz.prog 220 [fracV n d, fracV m e] I [] (fun v R' => v = divV n d m e ∧ R' = []) := by
  unfold divV
  by_cases h1 : FOk n d
  · by_cases h2 : FOk m e
    · obtain ⟨a1, a2, a3⟩ := fok_abs h1
      obtain ⟨b1, b2, b3⟩ := fok_abs h2
      rw [if_pos ⟨h1, h2⟩]
      by_cases h0 : m = 0
      · rw [if_pos h0]
        subst h0
        refine FnSpec.enterP Tryz.func220 rfl Tryz.ntmps220 rfl fun w F => ?_
        repeat' first
          | ((with_reducible refine Nx.is_wp ?_); first | refine Nx.wo ?_ | refine Nx.zp (fun hc => ?_) (fun hc => ?_))
          | (refine Nx.zo ?_; first | refine Nx.opr rfl rfl ?_ | refine Nx.callv rfl rfl rfl (by kernel_rfl) rfl (Valid_t h1 I) ?_ | refine Nx.callv rfl rfl rfl (by kernel_rfl) rfl (Valid_t h2 I) ?_ | refine Nx.so ?_ | refine Nx.sb (fun bx => ?_) | refine Nx.sa (fun A2 c2 => ?_))
          | ((with_reducible refine Nx.is_at ?_); first | refine Nx.a ?_ | refine Nx.zd ?_ | refine Nx.zs (fun hc => ?_) (fun hc => ?_))
          | ((with_reducible refine Nx.is_mix ?_); first | refine Nx.m ?_ | refine Nx.zm ?_ | refine Nx.zt (fun hc => ?_) (fun hc => ?_))
          | refine Nx.zx ?_ | fail
        exact Nx.ret2 rfl (ROne.cell 0 rfl rfl rfl rfl rfl) (ROne.tmp rfl) [] ⟨rfl, rfl⟩ (by (exact Ent.auto))
      · rw [if_neg h0, rat_div_eq, Int.mul_comm d m]
        have hmd := prod_bd b1 a2
        rw [Int.mul_comm] at hmd
        have hne := prod_bd a1 b2
        have hnz : m * d ≠ 0 := Int.mul_ne_zero (by omega) (by omega)
        refine FnSpec.enterP Tryz.func220 rfl Tryz.ntmps220 rfl fun w F => ?_
        repeat' first
          | ((with_reducible refine Nx.is_wp ?_); first | refine Nx.wo ?_ | refine Nx.zp (fun hc => ?_) (fun hc => ?_))
          | (refine Nx.zo ?_; first | refine Nx.opr rfl rfl ?_ | refine Nx.callv rfl rfl rfl (by kernel_rfl) rfl (Valid_t h1 I) ?_ | refine Nx.callv rfl rfl rfl (by kernel_rfl) rfl (Valid_t h2 I) ?_ | refine Nx.callv rfl rfl rfl (by kernel_rfl) rfl (crossed_spec n d m e hn hd hm he I) ?_ | refine Nx.callv rfl rfl rfl (by kernel_rfl) rfl (whole_spec _ hn I) ?_ | refine Nx.callv rfl rfl rfl (by kernel_rfl) rfl (whole_spec _ hd I) ?_ | refine Nx.callv rfl rfl rfl (by kernel_rfl) rfl (whole_spec _ hm I) ?_ | refine Nx.callv rfl rfl rfl (by kernel_rfl) rfl (whole_spec _ he I) ?_ | refine Nx.callv rfl rfl rfl (by kernel_rfl) rfl (times_spec _ _ I) ?_ | refine Nx.callv rfl rfl rfl (by kernel_rfl) rfl (Reduced_spec _ _ (by unfold H127; omega) hnz (by unfold H127; first | omega | (rw [Int.mul_comm]; omega)) I hT) ?_ | refine Nx.so ?_ | refine Nx.sb (fun bx => ?_) | refine Nx.sa (fun A2 c2 => ?_))
          | ((with_reducible refine Nx.is_at ?_); first | refine Nx.a ?_ | refine Nx.zd ?_ | refine Nx.zs (fun hc => ?_) (fun hc => ?_))
          | ((with_reducible refine Nx.is_mix ?_); first | refine Nx.m ?_ | refine Nx.zm ?_ | refine Nx.zt (fun hc => ?_) (fun hc => ?_))
          | refine Nx.zx ?_ | fail
        exact Nx.ret2 rfl (ROne.cell 0 rfl rfl rfl rfl rfl) (ROne.tmp rfl) [] ⟨rfl, rfl⟩ (by (exact Ent.auto))
    · rw [if_neg (fun h => h2 h.2)]
      refine FnSpec.enterP Tryz.func220 rfl Tryz.ntmps220 rfl fun w F => ?_
      repeat' first
        | ((with_reducible refine Nx.is_wp ?_); first | refine Nx.wo ?_ | refine Nx.zp (fun hc => ?_) (fun hc => ?_))
        | (refine Nx.zo ?_; first | refine Nx.opr rfl rfl ?_ | refine Nx.callv rfl rfl rfl (by kernel_rfl) rfl (Valid_t h1 I) ?_ | refine Nx.callv rfl rfl rfl (by kernel_rfl) rfl (Valid_f hm he h2 I) ?_ | refine Nx.so ?_ | refine Nx.sb (fun bx => ?_) | refine Nx.sa (fun A2 c2 => ?_))
        | ((with_reducible refine Nx.is_at ?_); first | refine Nx.a ?_ | refine Nx.zd ?_ | refine Nx.zs (fun hc => ?_) (fun hc => ?_))
        | ((with_reducible refine Nx.is_mix ?_); first | refine Nx.m ?_ | refine Nx.zm ?_ | refine Nx.zt (fun hc => ?_) (fun hc => ?_))
        | refine Nx.zx ?_ | fail
      exact Nx.ret2 rfl (ROne.cell 0 rfl rfl rfl rfl rfl) (ROne.tmp rfl) [] ⟨rfl, rfl⟩ (by (exact Ent.auto))
  · rw [if_neg (fun h => h1 h.1)]
    refine FnSpec.enterP Tryz.func220 rfl Tryz.ntmps220 rfl fun w F => ?_
    repeat' first
      | ((with_reducible refine Nx.is_wp ?_); first | refine Nx.wo ?_ | refine Nx.zp (fun hc => ?_) (fun hc => ?_))
      | (refine Nx.zo ?_; first | refine Nx.opr rfl rfl ?_ | refine Nx.callv rfl rfl rfl (by kernel_rfl) rfl (Valid_f hn hd h1 I) ?_ | refine Nx.so ?_ | refine Nx.sb (fun bx => ?_) | refine Nx.sa (fun A2 c2 => ?_))
      | ((with_reducible refine Nx.is_at ?_); first | refine Nx.a ?_ | refine Nx.zd ?_ | refine Nx.zs (fun hc => ?_) (fun hc => ?_))
      | ((with_reducible refine Nx.is_mix ?_); first | refine Nx.m ?_ | refine Nx.zm ?_ | refine Nx.zt (fun hc => ?_) (fun hc => ?_))
      | refine Nx.zx ?_ | fail
    exact Nx.ret2 rfl (ROne.cell 0 rfl rfl rfl rfl rfl) (ROne.tmp rfl) [] ⟨rfl, rfl⟩ (by (exact Ent.auto))
set_option maxHeartbeats 2000000 in
set_option maxRecDepth 10000 in
theorem Less_spec (n d m e : Int) (hn : I64 n) (hd : I64 d) (hm : I64 m) (he : I64 e) (I : PH) : FnSpec Tryz.prog 106 [fracV n d, fracV m e] I [] (fun v R' => v = .bool (decide (FOk n d ∧ FOk m e ∧ n * e < m * d)) ∧ R' = []) := by
  by_cases h1 : FOk n d
  · by_cases h2 : FOk m e
    · obtain ⟨a1, a2, a3⟩ := fok_abs h1
      obtain ⟨b1, b2, b3⟩ := fok_abs h2
      rw [show decide (FOk n d ∧ FOk m e ∧ n * e < m * d) = decide (n * e < m * d) from decide_eq_decide.2 ⟨fun h => h.2.2, fun h => ⟨h1, h2, h⟩⟩]
      have hmd := prod_bd b1 a2
      have hne := prod_bd a1 b2
      have hw : InW (n * e - m * d) := by unfold InW; omega
      refine FnSpec.enterP Tryz.func106 rfl Tryz.ntmps106 rfl fun w F => ?_
      repeat' first
        | ((with_reducible refine Nx.is_wp ?_); first | refine Nx.wo ?_ | refine Nx.zp (fun hc => ?_) (fun hc => ?_))
        | (refine Nx.zo ?_; first | refine Nx.opr rfl rfl ?_ | refine Nx.callv rfl rfl rfl (by kernel_rfl) rfl (Valid_t h1 I) ?_ | refine Nx.callv rfl rfl rfl (by kernel_rfl) rfl (Valid_t h2 I) ?_ | refine Nx.callv rfl rfl rfl (by kernel_rfl) rfl (crossed_spec n d m e hn hd hm he I) ?_ | refine Nx.callv rfl rfl rfl (by kernel_rfl) rfl (whole_spec _ hn I) ?_ | refine Nx.callv rfl rfl rfl (by kernel_rfl) rfl (whole_spec _ hd I) ?_ | refine Nx.callv rfl rfl rfl (by kernel_rfl) rfl (whole_spec _ hm I) ?_ | refine Nx.callv rfl rfl rfl (by kernel_rfl) rfl (whole_spec _ he I) ?_ | refine Nx.callv rfl rfl rfl (by kernel_rfl) rfl (times_spec _ _ I) ?_ | refine Nx.callv rfl rfl rfl (by kernel_rfl) rfl (minus_spec _ _ I) ?_ | refine Nx.callv rfl rfl rfl (by kernel_rfl) rfl (sign_spec _ hw I) ?_ | refine Nx.so ?_ | refine Nx.sb (fun bx => ?_) | refine Nx.sa (fun A2 c2 => ?_))
        | ((with_reducible refine Nx.is_at ?_); first | refine Nx.a ?_ | refine Nx.zd ?_ | refine Nx.zs (fun hc => ?_) (fun hc => ?_))
        | ((with_reducible refine Nx.is_mix ?_); first | refine Nx.m ?_ | refine Nx.zm ?_ | refine Nx.zt (fun hc => ?_) (fun hc => ?_))
        | refine Nx.zx ?_ | fail
      all_goals refine Nx.ret_fn rfl [] ⟨bool_congr ?_, rfl⟩ (by (exact Ent.auto))
      all_goals first
        | (rw [Int.sign_neg_iff]; omega)
        | omega
    · rw [decide_eq_false (fun h => h2 h.2.1)]
      refine FnSpec.enterP Tryz.func106 rfl Tryz.ntmps106 rfl fun w F => ?_
      repeat' first
        | ((with_reducible refine Nx.is_wp ?_); first | refine Nx.wo ?_ | refine Nx.zp (fun hc => ?_) (fun hc => ?_))
        | (refine Nx.zo ?_; first | refine Nx.opr rfl rfl ?_ | refine Nx.callv rfl rfl rfl (by kernel_rfl) rfl (crossed_spec n d m e hn hd hm he I) ?_ | refine Nx.callv rfl rfl rfl (by kernel_rfl) rfl (Valid_t h1 I) ?_ | refine Nx.callv rfl rfl rfl (by kernel_rfl) rfl (Valid_f hm he h2 I) ?_ | refine Nx.so ?_ | refine Nx.sb (fun bx => ?_) | refine Nx.sa (fun A2 c2 => ?_))
        | ((with_reducible refine Nx.is_at ?_); first | refine Nx.a ?_ | refine Nx.zd ?_ | refine Nx.zs (fun hc => ?_) (fun hc => ?_))
        | ((with_reducible refine Nx.is_mix ?_); first | refine Nx.m ?_ | refine Nx.zm ?_ | refine Nx.zt (fun hc => ?_) (fun hc => ?_))
        | refine Nx.zx ?_ | fail
      exact Nx.ret_fn rfl [] ⟨rfl, rfl⟩ (by (exact Ent.auto))
  · rw [decide_eq_false (fun h => h1 h.1)]
    refine FnSpec.enterP Tryz.func106 rfl Tryz.ntmps106 rfl fun w F => ?_
    repeat' first
      | ((with_reducible refine Nx.is_wp ?_); first | refine Nx.wo ?_ | refine Nx.zp (fun hc => ?_) (fun hc => ?_))
      | (refine Nx.zo ?_; first | refine Nx.opr rfl rfl ?_ | refine Nx.callv rfl rfl rfl (by kernel_rfl) rfl (crossed_spec n d m e hn hd hm he I) ?_ | refine Nx.callv rfl rfl rfl (by kernel_rfl) rfl (Valid_f hn hd h1 I) ?_ | refine Nx.so ?_ | refine Nx.sb (fun bx => ?_) | refine Nx.sa (fun A2 c2 => ?_))
      | ((with_reducible refine Nx.is_at ?_); first | refine Nx.a ?_ | refine Nx.zd ?_ | refine Nx.zs (fun hc => ?_) (fun hc => ?_))
      | ((with_reducible refine Nx.is_mix ?_); first | refine Nx.m ?_ | refine Nx.zm ?_ | refine Nx.zt (fun hc => ?_) (fun hc => ?_))
      | refine Nx.zx ?_ | fail
    exact Nx.ret_fn rfl [] ⟨rfl, rfl⟩ (by (exact Ent.auto))
end Go.Proofs.YtpcnapidlhpbkaaGreatDoor
/-
  The proof engine, part T: a library function that makes new memory and draws; strings.
-/
namespace Go.Eng
open Go.Sort (grow)
theorem St.grown {W w : World} {I : PH} {R : List Res} (h : St W I R w) (k : Nat) (os : Array Obj) : St W I R (grow (w.drewN k) os) := by
  obtain ⟨⟨m, hm, hs⟩, hst⟩ := h
  have hold : ∀ (i : Nat) (o : Obj), w.heap[i]? = some o → (grow (w.drewN k) os).heap[i]? = some o := fun i o hi => by
    have hlt := (Array.getElem?_eq_some_iff.1 hi).1
    show (w.heap ++ os)[i]? = some o
    rw [Array.getElem?_append_left hlt]
    exact hi
  refine ⟨⟨m, hm, ⟨fun i o hi => hold i o (hs.imm i o hi), fun i o hi => hold i o (hs.own i o hi), hs.dis⟩⟩, ⟨hst.os, hst.tape, hst.output, Nat.le_trans hst.size (Lib.size_grow w k os), Nat.le_trans hst.drawn (Nat.le_add_right _ _)⟩⟩
/-- A text, by its bytes. -/
def strV (l : List UInt8) : Value := .string ⟨l.toArray⟩
section
variable {P : Program} {t : TypeId} {x y : Operand} {a b : List UInt8}
end
end Go.Eng
/- Contracts of functions of the given program, and lemmas about plain lists and numbers: what the laws of this seat lean on. -/
namespace Go.Proofs.YtpcnapidlhpbkaaGreatDoor
open Go.Eng
theorem part_frac0 (a b : Int) (w : World) : (part 3 #[.int .i64 a, .int .i64 b] 0).run Tryz.prog w = .ok (.int .i64 a) w := run_of_pureRun (by kernel_rfl) w
theorem part_frac1 (a b : Int) (w : World) : (part 3 #[.int .i64 a, .int .i64 b] 1).run Tryz.prog w = .ok (.int .i64 b) w := run_of_pureRun (by kernel_rfl) w
theorem eqFields_frac (a b c d : Int) (w : World) (fs : List Field) (hf : fs.map (fun f => (f.name, f.type, f.offset)) = [("Num", 3, 0), ("Den", 3, 1)]) :
    (Op.eqFields 9999 #[.int .i64 a, .int .i64 b] #[.int .i64 c, .int .i64 d] fs).run Tryz.prog w = .ok (a == c && b == d) w := by
  obtain ⟨f, g, rfl⟩ : ∃ f g, fs = [f, g] := by
    rcases fs with _ | ⟨f, _ | ⟨g, _ | ⟨k, r⟩⟩⟩
    · simp at hf
    · simp at hf
    · exact ⟨f, g, rfl⟩
    · simp at hf
  · simp only [List.map_cons, List.map_nil, List.cons.injEq, Prod.mk.injEq, and_true] at hf
    obtain ⟨⟨h1, h2, h3⟩, h4, h5, h6⟩ := hf
    simp only [Op.eqFields, h1, h2, h3, h4, h5, h6]
    rw [if_pos (by decide), if_pos (by decide), Sem.run_bind, part_frac0, Result.andThen_ok, Sem.run_bind, part_frac0, Result.andThen_ok, Sem.run_bind, run_equalIn_int _ 9998 _ .i64 .i64 a c Tryz.underlying3, Result.andThen_ok]
    cases (a == c)
    · rfl
    · rw [if_neg (by decide), Sem.run_bind, part_frac1, Result.andThen_ok, Sem.run_bind, part_frac1, Result.andThen_ok, Sem.run_bind, run_equalIn_int _ 9998 _ .i64 .i64 b d Tryz.underlying3, Result.andThen_ok]
      cases (b == d) <;> rfl
theorem frac_bool (a b c d : Int) : (a == c && b == d) = decide (a = c ∧ b = d) := by
  rw [Bool.eq_iff_iff]
  simp
theorem eql_frac {x y : Operand} (a b c d : Int) (w : World) :
    (do eqGuard .eql 24 x y (.agg #[.int .i64 a, .int .i64 b]) (.agg #[.int .i64 c, .int .i64 d]); binOp .eql 24 (.agg #[.int .i64 a, .int .i64 b]) (.agg #[.int .i64 c, .int .i64 d])).run Tryz.prog w = .ok (.bool (decide (a = c ∧ b = d))) w := by
  rw [Sem.run_bind, run_eqGuard_agg _ _ _ _ _ _ _ Tryz.eqGuardType24, Result.andThen_ok, run_eql_struct, run_equalIn_struct _ 9999 24 _ _ (by kernel_rfl) Tryz.stoodInHeld24,
    eqFields_frac a b c d w _ (by kernel_rfl), frac_bool]
  rfl
theorem neq_frac {x y : Operand} (a b c d : Int) (w : World) :
    (do eqGuard .neq 24 x y (.agg #[.int .i64 a, .int .i64 b]) (.agg #[.int .i64 c, .int .i64 d]); binOp .neq 24 (.agg #[.int .i64 a, .int .i64 b]) (.agg #[.int .i64 c, .int .i64 d])).run Tryz.prog w = .ok (.bool (decide (¬(a = c ∧ b = d)))) w := by
  rw [Sem.run_bind, run_eqGuard_agg _ _ _ _ _ _ _ Tryz.eqGuardType24, Result.andThen_ok, run_neq_struct, run_equalIn_struct _ 9999 24 _ _ (by kernel_rfl) Tryz.stoodInHeld24,
    eqFields_frac a b c d w _ (by kernel_rfl), frac_bool, show decide (¬(a = c ∧ b = d)) = !decide (a = c ∧ b = d) by simp]
  rfl
end Go.Proofs.YtpcnapidlhpbkaaGreatDoor
namespace Go.Proofs.YtpcnapidlhpbkaaGreatDoor
open Go.Eng
attribute [local irreducible] opK wpList Code.wp Exit.then Exit.inBlock fnPost bodyPost Nx Calls Oper.wp Rd Rds Wr Ent Stars Blk Again Vec FnSpec wpMix QRun Stop Upto wpAt
end Go.Proofs.YtpcnapidlhpbkaaGreatDoor
/- Contracts of functions of the given program, and lemmas about plain lists and numbers: what the laws of this seat lean on. -/
namespace Go.Proofs.YtpcnapidlhpbkaaGreatDoor
open Go.Eng
attribute [local irreducible] opK wpList Code.wp Exit.then Exit.inBlock fnPost bodyPost Nx Calls Oper.wp Rd Rds Wr Ent Stars Blk Again Vec FnSpec wpMix QRun Stop Upto wpAt
set_option maxHeartbeats 2000000 in
set_option maxRecDepth 10000 in
theorem rsum_false (n d m e : Int) (hn : I64 n) (hd : I64 d) (hm : I64 m) (he : I64 e) (I : PH) : FnSpec Tryz.prog 57 [fracV n d, fracV m e, .bool false] I [] (fun v R' => v = opV n d m e (Rat.divInt n d + Rat.divInt m e) ∧ R' = []) := by
  unfold opV
  by_cases h1 : FOk n d
  · by_cases h2 : FOk m e
    · obtain ⟨a1, a2, a3⟩ := fok_abs h1
      obtain ⟨b1, b2, b3⟩ := fok_abs h2
      rw [if_pos ⟨h1, h2⟩, Rat.divInt_add_divInt _ _ (by omega) (by omega)]
      have hde := prod_bd a2 b2
      have hne := prod_bd a1 b2
      have hmd := prod_bd b1 a2
      have hpos : 0 < d * e := Int.mul_pos a3 b3
      refine FnSpec.enterP Tryz.func57 rfl Tryz.ntmps57 rfl fun w F => ?_
      repeat' first
        | ((with_reducible refine Nx.is_wp ?_); first | refine Nx.wo ?_ | refine Nx.p_poolF (id := 3) rfl [0, 1, 3, 4, 7, 8, 10, 11, 2, 5, 6, 9, 12, 13] [2, 5, 6, 9, 12, 13] [] [16, 17] [16, 17] [⟨14, 8, 104, _⟩, ⟨15, 9, 104, _⟩] rfl rfl (by kernel_rfl) (by kernel_rfl) (by decide) (PoolFit.cons ⟨⟨_, _, _, rfl⟩, rfl, rfl⟩ (PoolFit.cons ⟨⟨_, _, _, rfl⟩, rfl, rfl⟩ PoolFit.nil)) (by repeat first | exact PanicOk.fn | refine PanicOk.then_ ?_ | refine PanicOk.inB ?_) (Ent.refl _) ?_ | refine Nx.p_drawF (id := 5) rfl [0, 1, 3, 4, 6, 7, 2, 5, 8, 9, 10, 11, 12] [2, 5, 8, 9, 10] [13, 14] _ rfl rfl (by kernel_rfl) (by kernel_rfl) rfl (by repeat first | exact PanicOk.fn | refine PanicOk.then_ ?_ | refine PanicOk.inB ?_) (Ent.refl _) ?_ | refine Nx.p_drawF (id := 6) rfl [0, 1, 3, 4, 6, 7, 2, 5, 8, 9, 10, 11, 12] [2, 5, 8, 9, 10] [13, 14] _ rfl rfl (by kernel_rfl) (by kernel_rfl) rfl (by repeat first | exact PanicOk.fn | refine PanicOk.then_ ?_ | refine PanicOk.inB ?_) (Ent.refl _) ?_ | refine Nx.zp (fun hc => ?_) (fun hc => ?_))
        | ((first | refine Nx.at_op rfl rfl ?_ | refine Nx.m_loud rfl rfl rfl ?_ | refine Nx.at_do rfl rfl rfl rfl ?_ | refine Nx.m_loud_do rfl rfl rfl rfl rfl ?_ | refine GoodF.loud_ rfl rfl rfl rfl (fun ex X => ?_)); first | refine Nx.opr rfl rfl ?_ | refine Nx.callv rfl rfl rfl (by kernel_rfl) rfl (rValid_t h1 I) ?_ | refine Nx.callv rfl rfl rfl (by kernel_rfl) rfl (rValid_t h2 I) ?_ | refine Nx.callv rfl rfl rfl (by kernel_rfl) rfl (from_spec _ hn I) ?_ | refine Nx.callv rfl rfl rfl (by kernel_rfl) rfl (from_spec _ hd I) ?_ | refine Nx.callv rfl rfl rfl (by kernel_rfl) rfl (from_spec _ hm I) ?_ | refine Nx.callv rfl rfl rfl (by kernel_rfl) rfl (from_spec _ he I) ?_ | refine Nx.callv rfl rfl rfl (by kernel_rfl) rfl (rtimes_spec _ _ I) ?_ | refine Nx.callv rfl rfl rfl (by kernel_rfl) rfl (rplus_spec _ _ I) ?_ | refine Nx.callv rfl rfl rfl (by kernel_rfl) rfl (Reduce_spec _ _ (by unfold H127; omega) (by omega) (by unfold H127; omega) I) ?_ | refine Nx.so ?_ | refine Nx.sb (fun bx => ?_) | refine Nx.sa (fun A2 c2 => ?_))
        | ((with_reducible refine Nx.is_at ?_); first | refine Nx.a ?_ | refine Nx.zd ?_ | refine Nx.zs (fun hc => ?_) (fun hc => ?_))
        | ((with_reducible refine Nx.is_mix ?_); first | refine Nx.m ?_ | refine Nx.zm ?_ | refine Nx.zt (fun hc => ?_) (fun hc => ?_))
        | ((with_reducible refine GoodF.is ?_); first | refine GoodF.quiet rfl rfl rfl rfl rfl rfl (by first | exact QRun.opr rfl |  exact QRun.std) ?_ | refine GoodF.done1 rfl (fun bx => ?_) | refine GoodF.done2 rfl (fun bx by_ => ?_) | refine GoodF.done3 rfl (fun bx by_ bz => ?_))
        | ((fail_if_success (with_reducible refine Nx.is_at ?_)); (fail_if_success (with_reducible refine Nx.is_wp ?_)); (fail_if_success (with_reducible refine Nx.is_mix ?_)); first | refine Nx.ex ?_ | refine Nx.pool_nextF 0 rfl (by exact Ent.auto) ?_ | refine Nx.pool_nextF 1 rfl (by exact Ent.auto) ?_ | refine Nx.pool_nextF 2 rfl (by exact Ent.auto) ?_ | refine Nx.pool_nextF 3 rfl (by exact Ent.auto) ?_)
      exact Nx.ret2 rfl (ROne.cell 0 rfl rfl rfl rfl rfl) (ROne.tmp rfl) [] ⟨rfl, rfl⟩ (by (exact Ent.auto))
    · rw [if_neg (fun h => h2 h.2)]
      refine FnSpec.enterP Tryz.func57 rfl Tryz.ntmps57 rfl fun w F => ?_
      repeat' first
        | ((with_reducible refine Nx.is_wp ?_); first | refine Nx.wo ?_ | refine Nx.zp (fun hc => ?_) (fun hc => ?_))
        | (refine Nx.zo ?_; first | refine Nx.opr rfl rfl ?_ | refine Nx.callv rfl rfl rfl (by kernel_rfl) rfl (rValid_t h1 I) ?_ | refine Nx.callv rfl rfl rfl (by kernel_rfl) rfl (rValid_f hm he h2 I) ?_ | refine Nx.so ?_ | refine Nx.sb (fun bx => ?_) | refine Nx.sa (fun A2 c2 => ?_))
        | ((with_reducible refine Nx.is_at ?_); first | refine Nx.a ?_ | refine Nx.zd ?_ | refine Nx.zs (fun hc => ?_) (fun hc => ?_))
        | ((with_reducible refine Nx.is_mix ?_); first | refine Nx.m ?_ | refine Nx.zm ?_ | refine Nx.zt (fun hc => ?_) (fun hc => ?_))
        | refine Nx.zx ?_ | fail
      exact Nx.ret2 rfl (ROne.cell 0 rfl rfl rfl rfl rfl) (ROne.tmp rfl) [] ⟨rfl, rfl⟩ (by (exact Ent.auto))
  · rw [if_neg (fun h => h1 h.1)]
    refine FnSpec.enterP Tryz.func57 rfl Tryz.ntmps57 rfl fun w F => ?_
    repeat' first
      | ((with_reducible refine Nx.is_wp ?_); first | refine Nx.wo ?_ | refine Nx.zp (fun hc => ?_) (fun hc => ?_))
      | (refine Nx.zo ?_; first | refine Nx.opr rfl rfl ?_ | refine Nx.callv rfl rfl rfl (by kernel_rfl) rfl (rValid_f hn hd h1 I) ?_ | refine Nx.so ?_ | refine Nx.sb (fun bx => ?_) | refine Nx.sa (fun A2 c2 => ?_))
      | ((with_reducible refine Nx.is_at ?_); first | refine Nx.a ?_ | refine Nx.zd ?_ | refine Nx.zs (fun hc => ?_) (fun hc => ?_))
      | ((with_reducible refine Nx.is_mix ?_); first | refine Nx.m ?_ | refine Nx.zm ?_ | refine Nx.zt (fun hc => ?_) (fun hc => ?_))
      | refine Nx.zx ?_ | fail
    exact Nx.ret2 rfl (ROne.cell 0 rfl rfl rfl rfl rfl) (ROne.tmp rfl) [] ⟨rfl, rfl⟩ (by (exact Ent.auto))
set_option maxHeartbeats 2000000 in
set_option maxRecDepth 10000 in
theorem rAdd_spec (n d m e : Int) (hn : I64 n) (hd : I64 d) (hm : I64 m) (he : I64 e) (I : PH) : FnSpec Tryz.prog 18 [fracV n d, fracV m e] I [] (fun v R' => v = opV n d m e (Rat.divInt n d + Rat.divInt m e) ∧ R' = []) := by
  have hc := rsum_false n d m e hn hd hm he I
  refine FnSpec.enterP Tryz.func18 rfl Tryz.ntmps18 rfl fun w F => ?_
  by_cases h : FOk n d ∧ FOk m e
  · unfold opV at *
    rw [if_pos h] at *
    repeat' first
      | ((with_reducible refine Nx.is_wp ?_); first | refine Nx.wo ?_ | refine Nx.zp (fun hc => ?_) (fun hc => ?_))
      | (refine Nx.zo ?_; first | refine Nx.opr rfl rfl ?_ | refine Nx.callv rfl rfl rfl (by kernel_rfl) rfl (hc) ?_ | refine Nx.so ?_ | refine Nx.sb (fun bx => ?_) | refine Nx.sa (fun A2 c2 => ?_))
      | ((with_reducible refine Nx.is_at ?_); first | refine Nx.a ?_ | refine Nx.zd ?_ | refine Nx.zs (fun hc => ?_) (fun hc => ?_))
      | ((with_reducible refine Nx.is_mix ?_); first | refine Nx.m ?_ | refine Nx.zm ?_ | refine Nx.zt (fun hc => ?_) (fun hc => ?_))
      | refine Nx.zx ?_ | fail
    exact Nx.ret2 rfl (ROne.cell 0 rfl rfl rfl rfl rfl) (ROne.tmp rfl) [] ⟨rfl, rfl⟩ (by (exact Ent.auto))
  · unfold opV at *
    rw [if_neg h] at *
    repeat' first
      | ((with_reducible refine Nx.is_wp ?_); first | refine Nx.wo ?_ | refine Nx.zp (fun hc => ?_) (fun hc => ?_))
      | (refine Nx.zo ?_; first | refine Nx.opr rfl rfl ?_ | refine Nx.callv rfl rfl rfl (by kernel_rfl) rfl (hc) ?_ | refine Nx.so ?_ | refine Nx.sb (fun bx => ?_) | refine Nx.sa (fun A2 c2 => ?_))
      | ((with_reducible refine Nx.is_at ?_); first | refine Nx.a ?_ | refine Nx.zd ?_ | refine Nx.zs (fun hc => ?_) (fun hc => ?_))
      | ((with_reducible refine Nx.is_mix ?_); first | refine Nx.m ?_ | refine Nx.zm ?_ | refine Nx.zt (fun hc => ?_) (fun hc => ?_))
      | refine Nx.zx ?_ | fail
    exact Nx.ret2 rfl (ROne.cell 0 rfl rfl rfl rfl rfl) (ROne.tmp rfl) [] ⟨rfl, rfl⟩ (by (exact Ent.auto))
set_option maxHeartbeats 2000000 in
set_option maxRecDepth 10000 in
theorem rLess_spec (n d m e : Int) (hn : I64 n) (hd : I64 d) (hm : I64 m) (he : I64 e) (I : PH) : FnSpec Tryz.prog 19 [fracV n d, fracV m e] I [] (fun v R' => v = .bool (decide (FOk n d ∧ FOk m e ∧ n * e < m * d)) ∧ R' = []) := by
  by_cases h1 : FOk n d
  · by_cases h2 : FOk m e
    · obtain ⟨a1, a2, a3⟩ := fok_abs h1
      obtain ⟨b1, b2, b3⟩ := fok_abs h2
      rw [show decide (FOk n d ∧ FOk m e ∧ n * e < m * d) = decide (n * e < m * d) from decide_eq_decide.2 ⟨fun h => h.2.2, fun h => ⟨h1, h2, h⟩⟩]
      have hmd := prod_bd b1 a2
      have hne := prod_bd a1 b2
      have hw : InW (n * e - m * d) := by unfold InW; omega
      refine FnSpec.enterP Tryz.func19 rfl Tryz.ntmps19 rfl fun w F => ?_
      repeat' first
        | ((with_reducible refine Nx.is_wp ?_); first | refine Nx.wo ?_ | refine Nx.p_drawF (id := 3) rfl [0, 1, 3, 4, 7, 8, 10, 11, 2, 5, 6, 9] [2, 5, 6, 9] [12, 13, 14, 15, 16] _ rfl rfl (by kernel_rfl) (by kernel_rfl) rfl (by repeat first | exact PanicOk.fn | refine PanicOk.then_ ?_ | refine PanicOk.inB ?_) (Ent.refl _) ?_ | refine Nx.zp (fun hc => ?_) (fun hc => ?_))
        | (refine Nx.zo ?_; first | refine Nx.opr rfl rfl ?_ | refine Nx.callv rfl rfl rfl (by kernel_rfl) rfl (rValid_t h1 I) ?_ | refine Nx.callv rfl rfl rfl (by kernel_rfl) rfl (rValid_t h2 I) ?_ | refine Nx.callv rfl rfl rfl (by kernel_rfl) rfl (from_spec _ hn I) ?_ | refine Nx.callv rfl rfl rfl (by kernel_rfl) rfl (from_spec _ hd I) ?_ | refine Nx.callv rfl rfl rfl (by kernel_rfl) rfl (from_spec _ hm I) ?_ | refine Nx.callv rfl rfl rfl (by kernel_rfl) rfl (from_spec _ he I) ?_ | refine Nx.callv rfl rfl rfl (by kernel_rfl) rfl (rtimes_spec _ _ I) ?_ | refine Nx.callv rfl rfl rfl (by kernel_rfl) rfl (rminus_spec _ _ I) ?_ | refine Nx.callv rfl rfl rfl (by kernel_rfl) rfl (negative_spec _ hw I) ?_ | refine Nx.so ?_ | refine Nx.sb (fun bx => ?_) | refine Nx.sa (fun A2 c2 => ?_))
        | ((with_reducible refine Nx.is_at ?_); first | refine Nx.a ?_ | refine Nx.zd ?_ | refine Nx.zs (fun hc => ?_) (fun hc => ?_))
        | ((with_reducible refine Nx.is_mix ?_); first | refine Nx.m ?_ | refine Nx.zm ?_ | refine Nx.zt (fun hc => ?_) (fun hc => ?_))
        | refine Nx.zx ?_ | fail
      all_goals refine Nx.ret_fn rfl [] ⟨bool_congr ?_, rfl⟩ (by (exact Ent.auto))
      all_goals first
        | (rw [Int.sign_neg_iff]; omega)
        | omega
    · rw [decide_eq_false (fun h => h2 h.2.1)]
      refine FnSpec.enterP Tryz.func19 rfl Tryz.ntmps19 rfl fun w F => ?_
      repeat' first
        | ((with_reducible refine Nx.is_wp ?_); first | refine Nx.wo ?_ | refine Nx.zp (fun hc => ?_) (fun hc => ?_))
        | (refine Nx.zo ?_; first | refine Nx.opr rfl rfl ?_ | refine Nx.callv rfl rfl rfl (by kernel_rfl) rfl (rValid_t h1 I) ?_ | refine Nx.callv rfl rfl rfl (by kernel_rfl) rfl (rValid_f hm he h2 I) ?_ | refine Nx.so ?_ | refine Nx.sb (fun bx => ?_) | refine Nx.sa (fun A2 c2 => ?_))
        | ((with_reducible refine Nx.is_at ?_); first | refine Nx.a ?_ | refine Nx.zd ?_ | refine Nx.zs (fun hc => ?_) (fun hc => ?_))
        | ((with_reducible refine Nx.is_mix ?_); first | refine Nx.m ?_ | refine Nx.zm ?_ | refine Nx.zt (fun hc => ?_) (fun hc => ?_))
        | refine Nx.zx ?_ | fail
      exact Nx.ret_fn rfl [] ⟨rfl, rfl⟩ (by (exact Ent.auto))
  · rw [decide_eq_false (fun h => h1 h.1)]
    refine FnSpec.enterP Tryz.func19 rfl Tryz.ntmps19 rfl fun w F => ?_
    repeat' first
      | ((with_reducible refine Nx.is_wp ?_); first | refine Nx.wo ?_ | refine Nx.zp (fun hc => ?_) (fun hc => ?_))
      | (refine Nx.zo ?_; first | refine Nx.opr rfl rfl ?_ | refine Nx.callv rfl rfl rfl (by kernel_rfl) rfl (rValid_f hn hd h1 I) ?_ | refine Nx.so ?_ | refine Nx.sb (fun bx => ?_) | refine Nx.sa (fun A2 c2 => ?_))
      | ((with_reducible refine Nx.is_at ?_); first | refine Nx.a ?_ | refine Nx.zd ?_ | refine Nx.zs (fun hc => ?_) (fun hc => ?_))
      | ((with_reducible refine Nx.is_mix ?_); first | refine Nx.m ?_ | refine Nx.zm ?_ | refine Nx.zt (fun hc => ?_) (fun hc => ?_))
      | refine Nx.zx ?_ | fail
    exact Nx.ret_fn rfl [] ⟨rfl, rfl⟩ (by (exact Ent.auto))
end Go.Proofs.YtpcnapidlhpbkaaGreatDoor
/- Contracts of functions of the given program, and lemmas about plain lists and numbers: what the laws of this seat lean on. -/
namespace Go.Proofs.YtpcnapidlhpbkaaGreatDoor
open Go.Eng
attribute [local irreducible] opK wpList Code.wp Exit.then Exit.inBlock fnPost bodyPost Nx Calls Oper.wp Rd Rds Wr Ent Stars Blk Again Vec FnSpec wpMix QRun Stop Upto wpAt
/-! Codes, from which all made values are drawn -/
set_option maxHeartbeats 2000000 in
set_option maxRecDepth 10000 in
theorem New_spec (A : Option Addr) (c : Nat) (l : List Int) (I : PH) (hl : SliceOf (fun x : Int => Value.int .u8 x) I A c l) :
    FnSpec Tryz.prog 10 [.slice A l.length c] I [] (fun v R' => ∃ b, v = .pointer (some ⟨b, 0, none⟩) ∧ R' = [Blk b 83 [.slice A (l.take 400).length c, .int .i64 0]]) := by
  have hlen := hl.len
  have hcap := hl.cap
  have e1 : (min (l.length : Int) 400) = ((min l.length 400 : Nat) : Int) := by omega
  have e2 : (l.take 400).length = min l.length 400 := by rw [List.length_take]; omega
  refine FnSpec.enterP Tryz.func10 rfl Tryz.ntmps10 rfl fun w F => ?_
  repeat' first
    | ((with_reducible refine Nx.is_wp ?_); first | refine Nx.wo ?_ | refine Nx.zp (fun hc => ?_) (fun hc => ?_))
    | (refine Nx.zo ?_; first | refine Nx.opr rfl rfl ?_ | refine Nx.so ?_ | refine Nx.sb (fun bx => ?_) | refine Nx.sa (fun A2 c2 => ?_))
    | ((with_reducible refine Nx.is_at ?_); first | refine Nx.a ?_ | refine Nx.zd ?_ | refine Nx.zs (fun hc => ?_) (fun hc => ?_))
    | ((with_reducible refine Nx.is_mix ?_); first | refine Nx.m ?_ | refine Nx.zm ?_ | refine Nx.zt (fun hc => ?_) (fun hc => ?_))
    | refine Nx.zx ?_ | fail
  rw [e1]
  repeat' first
    | ((with_reducible refine Nx.is_wp ?_); first | refine Nx.wo ?_ | refine Nx.zp (fun hc => ?_) (fun hc => ?_))
    | (refine Nx.zo ?_; first | refine Nx.opr rfl rfl ?_ | refine Nx.slice_hi rfl rfl rfl rfl rfl (by omega) ?_ | refine Nx.so ?_ | refine Nx.sb (fun bx => ?_) | refine Nx.sa (fun A2 c2 => ?_))
    | ((with_reducible refine Nx.is_at ?_); first | refine Nx.a ?_ | refine Nx.zd ?_ | refine Nx.zs (fun hc => ?_) (fun hc => ?_))
    | ((with_reducible refine Nx.is_mix ?_); first | refine Nx.m ?_ | refine Nx.zm ?_ | refine Nx.zt (fun hc => ?_) (fun hc => ?_))
    | refine Nx.zx ?_ | fail
  rw [e2]
  exact Nx.ret_fn rfl [_] ⟨_, rfl, rfl⟩ (by (exact Ent.auto))
set_option maxHeartbeats 2000000 in
set_option maxRecDepth 10000 in
/-- Where a draw stands, and what it yields: any number below n. -/
theorem Next_spec (b : Nat) (A : Option Addr) (c : Nat) (l : List Int) (k : Nat) (n : Int) (I : PH) (hl : SliceOf (fun x : Int => Value.int .u8 x) I A c l) (hx : ∀ x ∈ l, 0 ≤ x ∧ x < 256) (hk : k ≤ l.length) (hn : 1 ≤ n ∧ n ≤ 1000000) :
    FnSpec Tryz.prog 13 [.pointer (some ⟨b, 0, none⟩), .int .i64 n] I [Blk b 83 [.slice A l.length c, .int .i64 (k : Int)]]
      (fun v R' => ∃ (r : Int) (k' : Nat), v = .int .i64 r ∧ (0 ≤ r ∧ r < n) ∧ k' ≤ l.length ∧ R' = [Blk b 83 [.slice A l.length c, .int .i64 (k' : Int)]]) := by
  have hlen := hl.len
  refine FnSpec.enterP Tryz.func13 rfl Tryz.ntmps13 rfl fun w F => ?_
  have hget : ∀ j : Nat, j < l.length → 0 ≤ l.getD j default ∧ l.getD j default < 256 := fun j h => hx _ (by rw [List.getD_eq_getElem?_getD, List.getElem?_eq_getElem h]; exact List.getElem_mem _)
  have hg1 : 0 < l.length - k → 0 ≤ l.getD ((k : Int) + 1 - 1).toNat default ∧ l.getD ((k : Int) + 1 - 1).toNat default < 256 := fun h => hget _ (by omega)
  have hg2 : 0 < l.length - (k + 1) → 0 ≤ l.getD ((k : Int) + 1).toNat default ∧ l.getD ((k : Int) + 1).toNat default < 256 := fun h => hget _ (by omega)
  repeat' first
    | ((with_reducible refine Nx.is_wp ?_); first | refine Nx.wo ?_ | refine Nx.p_draw (id := 1) rfl [0, 1, 2, 3, 4, 5, 6, 7, 8, 9, 10, 11, 12, 13] [] _ rfl rfl (by kernel_rfl) (by kernel_rfl) rfl (by repeat first | exact PanicOk.fn | refine PanicOk.then_ ?_ | refine PanicOk.inB ?_) (Ent.refl _) ?_ | refine Nx.p_draw (id := 4) rfl [0, 1, 2, 3, 4, 5, 6, 7, 8, 9, 10, 11, 12] [] _ rfl rfl (by kernel_rfl) (by kernel_rfl) rfl (by repeat first | exact PanicOk.fn | refine PanicOk.then_ ?_ | refine PanicOk.inB ?_) (Ent.refl _) ?_ | refine Nx.p_draw (id := 5) rfl [0, 1, 2, 3, 4, 5, 6, 7, 8, 9, 10, 11, 12, 13] [] _ rfl rfl (by kernel_rfl) (by kernel_rfl) rfl (by repeat first | exact PanicOk.fn | refine PanicOk.then_ ?_ | refine PanicOk.inB ?_) (Ent.refl _) ?_ | refine Nx.p_draw (id := 6) rfl [0, 1, 2, 3, 4, 5, 6, 7, 8, 9, 10, 11, 12, 13, 14] [] _ rfl rfl (by kernel_rfl) (by kernel_rfl) rfl (by repeat first | exact PanicOk.fn | refine PanicOk.then_ ?_ | refine PanicOk.inB ?_) (Ent.refl _) ?_ | refine Nx.zp (fun hc => ?_) (fun hc => ?_))
    | (refine Nx.zo ?_; first | refine Nx.opr rfl rfl ?_ | refine Nx.so ?_ | refine Nx.sb (fun bx => ?_) | refine Nx.sa (fun A2 c2 => ?_))
    | ((with_reducible refine Nx.is_at ?_); first | refine Nx.a ?_ | refine Nx.zd ?_ | refine Nx.zs (fun hc => ?_) (fun hc => ?_))
    | ((with_reducible refine Nx.is_mix ?_); first | refine Nx.m_quiet rfl rfl rfl rfl rfl (by first | exact QRun.opr rfl | exact QRun.idxi rfl rfl rfl rfl (by omega) (by omega) (hl.isSome (by omega)) | exact QRun.load rfl rfl (hl.rd (by omega))) ?_ | refine Nx.m_quiet_do rfl rfl rfl rfl rfl rfl rfl (by first | exact QRun.opr rfl | exact QRun.idxi rfl rfl rfl rfl (by omega) (by omega) (hl.isSome (by omega)) | exact QRun.load rfl rfl (hl.rd (by omega))) ?_ | refine Nx.m ?_ | refine Nx.zm ?_ | refine Nx.zt (fun hc => ?_) (fun hc => ?_))
    | refine Nx.zx ?_ | fail
  · exact Nx.ret_fn rfl [_] ⟨0, k, rfl, ⟨by omega, by omega⟩, hk, rfl⟩ (Ent.refl _)
  · exact Nx.ret_fn rfl [_] ⟨_, k + 2, rfl, ⟨Int.emod_nonneg _ (by omega), Int.emod_lt_of_pos _ (by omega)⟩, by omega, by rw [show ((k + 2 : Nat) : Int) = (k : Int) + 1 + 1 by omega]⟩ (by (exact Ent.auto))
  · exact Nx.ret_fn rfl [_] ⟨_, k + 1, rfl, ⟨Int.emod_nonneg _ (by omega), Int.emod_lt_of_pos _ (by omega)⟩, by omega, by rw [show ((k + 1 : Nat) : Int) = (k : Int) + 1 by omega]⟩ (by (exact Ent.auto))
  · exact Nx.ret_fn rfl [_] ⟨_, k + 1, rfl, ⟨Int.emod_nonneg _ (by omega), Int.emod_lt_of_pos _ (by omega)⟩, by omega, by rw [show ((k + 1 : Nat) : Int) = (k : Int) + 1 by omega]⟩ (by (exact Ent.auto))
end Go.Proofs.YtpcnapidlhpbkaaGreatDoor
/- Contracts of functions of the given program, and lemmas about plain lists and numbers: what the laws of this seat lean on. -/
namespace Go.Proofs.YtpcnapidlhpbkaaGreatDoor
open Go.Eng
attribute [local irreducible] opK wpList Code.wp Exit.then Exit.inBlock fnPost bodyPost Nx Calls Oper.wp Rd Rds Wr Ent Stars Blk Again Vec FnSpec wpMix QRun Stop Upto wpAt
/-- Codes: bytes, at most 400 of them, and how many are used up. -/
structure CodesI (I : PH) (A : Option Addr) (c : Nat) (L : List Int) : Prop where
  sl : SliceOf (fun x : Int => Value.int .u8 x) I A c L
  each : ∀ x ∈ L, 0 ≤ x ∧ x < 256
theorem CodesI.mono {I I' : PH} {A : Option Addr} {c : Nat} {L : List Int} (hle : PH.le I I') (h : CodesI I A c L) : CodesI I' A c L := ⟨h.sl.mono hle, h.each⟩
end Go.Proofs.YtpcnapidlhpbkaaGreatDoor
/- Contracts of functions of the given program, and lemmas about plain lists and numbers: what the laws of this seat lean on. -/
namespace Go.Proofs.YtpcnapidlhpbkaaGreatDoor
open Go.Eng
attribute [local irreducible] opK wpList Code.wp Exit.then Exit.inBlock fnPost bodyPost Nx Calls Oper.wp Rd Rds Wr Ent Stars Blk Again Vec FnSpec wpMix QRun Stop Upto wpAt
theorem rat_i64 {q : Rat} (h : RB q) : I64 q.num ∧ I64 q.den := fok_i64 h.fok
theorem opV_rat {p q : Rat} (hp : RB p) (hq : RB q) (r : Rat) : opV p.num p.den q.num q.den r = redV r := by
  unfold opV
  rw [if_pos ⟨hp.fok, hq.fok⟩]
set_option maxHeartbeats 8000000 in
theorem Add_rat (p q : Rat) (hp : RB p) (hq : RB q) (I : PH) (hT : TabI I) : FnSpec Tryz.prog 163 [ratV p, ratV q] I [] (fun v R' => v = redV (p + q) ∧ R' = []) := by
  have := Add_spec p.num p.den q.num q.den (rat_i64 hp).1 (rat_i64 hp).2 (rat_i64 hq).1 (rat_i64 hq).2 I hT
  rw [opV_rat hp hq, Rat.num_divInt_den, Rat.num_divInt_den] at this
  exact this
set_option maxHeartbeats 8000000 in
theorem Sub_rat (p q : Rat) (hp : RB p) (hq : RB q) (I : PH) (hT : TabI I) : FnSpec Tryz.prog 221 [ratV p, ratV q] I [] (fun v R' => v = redV (p - q) ∧ R' = []) := by
  have := Sub_spec p.num p.den q.num q.den (rat_i64 hp).1 (rat_i64 hp).2 (rat_i64 hq).1 (rat_i64 hq).2 I hT
  rw [opV_rat hp hq, Rat.num_divInt_den, Rat.num_divInt_den] at this
  exact this
set_option maxHeartbeats 8000000 in
theorem Mul_rat (p q : Rat) (hp : RB p) (hq : RB q) (I : PH) (hT : TabI I) : FnSpec Tryz.prog 104 [ratV p, ratV q] I [] (fun v R' => v = redV (p * q) ∧ R' = []) := by
  have := Mul_spec p.num p.den q.num q.den (rat_i64 hp).1 (rat_i64 hp).2 (rat_i64 hq).1 (rat_i64 hq).2 I hT
  rw [opV_rat hp hq, Rat.num_divInt_den, Rat.num_divInt_den] at this
  exact this
set_option maxHeartbeats 8000000 in
theorem Div_rat (p q : Rat) (hp : RB p) (hq : RB q) (h0 : q.num ≠ 0) (I : PH) (hT : TabI I) : FnSpec Tryz.prog 220 [ratV p, ratV q] I [] (fun v R' => v = redV (p / q) ∧ R' = []) := by
  have := Div_spec p.num p.den q.num q.den (rat_i64 hp).1 (rat_i64 hp).2 (rat_i64 hq).1 (rat_i64 hq).2 I hT
  unfold divV at this
  rw [if_pos ⟨hp.fok, hq.fok⟩, if_neg h0, Rat.num_divInt_den, Rat.num_divInt_den] at this
  exact this
set_option maxHeartbeats 8000000 in
theorem Less_rat (p q : Rat) (hp : RB p) (hq : RB q) (I : PH) : FnSpec Tryz.prog 106 [ratV p, ratV q] I [] (fun v R' => v = .bool (decide (p < q)) ∧ R' = []) := by
  have := Less_spec p.num p.den q.num q.den (rat_i64 hp).1 (rat_i64 hp).2 (rat_i64 hq).1 (rat_i64 hq).2 I
  rw [show decide (FOk p.num p.den ∧ FOk q.num q.den ∧ p.num * q.den < q.num * p.den) = decide (p < q) from decide_eq_decide.2 ⟨fun h => (Rat.lt_iff p q).2 h.2.2, fun h => ⟨hp.fok, hq.fok, (Rat.lt_iff p q).1 h⟩⟩] at this
  exact this
attribute [local irreducible] redN redD redE
theorem unstop {C : Cx} {e : Env} {I : PH} {R : List Res} {K : Act → World → Prop} (h : Nx C e I R K) : Nx C e I R (Stop K) := by unfold Stop; exact h
end Go.Proofs.YtpcnapidlhpbkaaGreatDoor
/- Determinants by expansion along the first row, over lists of row and column numbers: plain facts, no program in sight. -/
namespace Go.Det
def sg (k : Nat) : Int := if k % 2 = 0 then 1 else -1
theorem sg_zero : sg 0 = 1 := rfl
theorem sg_succ (k : Nat) : sg (k + 1) = -sg k := by unfold sg; split <;> split <;> omega
theorem sg_sq (k : Nat) : sg k * sg k = 1 := by unfold sg; split <;> rfl
theorem sg_add (a b : Nat) : sg (a + b) = sg a * sg b := by
  induction b with
  | zero => simp [sg_zero]
  | succ b ih => rw [Nat.add_succ, sg_succ, sg_succ, ih]; grind
theorem sg_or (k : Nat) : sg k = 1 ∨ sg k = -1 := by unfold sg; split <;> simp
/-- The sum over all ways to split a list at one of its elements; 'pre' stands ahead. -/
def spl (g : List Nat → Nat → List Nat → Int) : List Nat → List Nat → Int
  | _, [] => 0
  | pre, c :: post => g pre c post + spl g (pre ++ [c]) post
theorem spl_congr {g h : List Nat → Nat → List Nat → Int} : ∀ (cs pre : List Nat), (∀ p c q, p ++ c :: q = pre ++ cs → pre.length ≤ p.length → g p c q = h p c q) → spl g pre cs = spl h pre cs
  | [], _, _ => rfl
  | c :: post, pre, H => by
    unfold spl
    rw [H pre c post rfl (Nat.le_refl _), spl_congr post (pre ++ [c]) fun p d q e hl => H p d q (by simpa using e) (by simp at hl; omega)]
theorem spl_add {g h : List Nat → Nat → List Nat → Int} : ∀ (cs pre : List Nat), spl (fun p c q => g p c q + h p c q) pre cs = spl g pre cs + spl h pre cs
  | [], _ => by simp [spl]
  | c :: post, pre => by simp only [spl]; rw [spl_add post]; omega
theorem spl_mul (x : Int) {g : List Nat → Nat → List Nat → Int} : ∀ (cs pre : List Nat), spl (fun p c q => x * g p c q) pre cs = x * spl g pre cs
  | [], _ => by simp [spl]
  | c :: post, pre => by simp only [spl]; rw [spl_mul x post, Int.mul_add]
theorem spl_neg {g : List Nat → Nat → List Nat → Int} (cs pre : List Nat) : spl (fun p c q => -g p c q) pre cs = -spl g pre cs := by
  have := spl_mul (-1) (g := g) cs pre
  simpa [Int.neg_mul] using this
theorem spl_zero : ∀ (cs pre : List Nat), spl (fun _ _ _ => 0) pre cs = 0
  | [], _ => rfl
  | c :: post, pre => by simp only [spl]; rw [spl_zero post]; rfl
theorem spl_app {g : List Nat → Nat → List Nat → Int} (ys : List Nat) : ∀ (xs pre : List Nat), spl g pre (xs ++ ys) = spl (fun p c q => g p c (q ++ ys)) pre xs + spl g (pre ++ xs) ys
  | [], pre => by simp [spl]
  | c :: xs, pre => by simp only [List.cons_append, spl]; rw [spl_app ys xs]; simp; omega
theorem spl_pre {g : List Nat → Nat → List Nat → Int} (u : List Nat) : ∀ (cs pre : List Nat), spl g (u ++ pre) cs = spl (fun p c q => g (u ++ p) c q) pre cs
  | [], _ => rfl
  | c :: post, pre => by simp only [spl]; rw [← spl_pre u post]; simp
/-- Two elements chosen one after the other, the second one ahead of the first one: the order of choice is turned. -/
theorem spl_turn {G : List Nat → Nat → List Nat → Nat → List Nat → Int} : ∀ (cs pre : List Nat),
    spl (fun p c q => spl (fun p2 d m => G p2 d m c q) [] p) pre cs = spl (fun p2 d m0 => spl (fun m c q => G p2 d m c q) m0 cs) [] pre + spl (fun p2 d post => spl (fun m c q => G p2 d m c q) [] post) pre cs
  | [], pre => by simp [spl, spl_zero]
  | c :: cs, pre => by
    simp only [spl]
    rw [spl_turn cs, spl_add, spl_app (g := fun p2 d m0 => spl (fun m c q => G p2 d m c q) m0 cs) [c] pre []]
    simp only [spl, List.nil_append]
    omega
/-- The determinant of some rows and columns of a matrix. -/
def minr (A : Nat → Nat → Int) : List Nat → List Nat → Int
  | [], _ => 1
  | r :: rs, cs => spl (fun p c q => sg p.length * (A r c * minr A rs (p ++ q))) [] cs
theorem minr_cons (A : Nat → Nat → Int) (r : Nat) (rs cs : List Nat) : minr A (r :: rs) cs = spl (fun p c q => sg p.length * (A r c * minr A rs (p ++ q))) [] cs := rfl
theorem minr_congr {A B : Nat → Nat → Int} : ∀ (rs cs : List Nat), (∀ r ∈ rs, ∀ c ∈ cs, A r c = B r c) → minr A rs cs = minr B rs cs
  | [], _, _ => rfl
  | r :: rs, cs, h => by
    rw [minr_cons, minr_cons]
    refine spl_congr cs [] fun p c q e _ => ?_
    have e : p ++ c :: q = cs := e
    rw [h r (by simp) c (by rw [← e]; simp), minr_congr rs (p ++ q) fun s hs d hd => h s (by simp [hs]) d (by rw [← e]; simp at hd ⊢; rcases hd with h | h <;> simp [h])]
/-- Neighbouring columns exchanged. -/
theorem minr_cols (A : Nat → Nat → Int) : ∀ (rs p : List Nat) (a b : Nat) (q : List Nat), rs.length = p.length + q.length + 2 → minr A rs (p ++ b :: a :: q) = -minr A rs (p ++ a :: b :: q)
  | [], p, a, b, q, h => by simp at h
  | [r], p, a, b, q, h => by simp at h
  | r :: s :: rs, p, a, b, q, h => by
    have hl : (s :: rs).length = p.length + q.length + 1 := by simp at h ⊢; omega
    generalize s :: rs = rs at hl
    rw [minr_cons, minr_cons, spl_app, spl_app]
    simp only [spl, List.nil_append]
    rw [show spl (fun p c q => sg p.length * (A r c * minr A rs (p ++ q))) (p ++ [b] ++ [a]) q = -spl (fun p c q => sg p.length * (A r c * minr A rs (p ++ q))) (p ++ [a] ++ [b]) q by
      rw [show p ++ [b] ++ [a] = (p ++ [b, a]) ++ [] by simp, show p ++ [a] ++ [b] = (p ++ [a, b]) ++ [] by simp, spl_pre, spl_pre, ← spl_neg]
      refine spl_congr q [] fun u c v e _ => ?_
      have e : u ++ c :: v = q := e
      have := minr_cols A rs p a b (u ++ v) (by rw [hl, ← e]; simp; omega)
      simp only [List.append_assoc, List.cons_append, List.nil_append, List.length_append, List.length_cons] at this ⊢
      rw [this]
      grind]
    rw [show spl (fun p' c q' => sg p'.length * (A r c * minr A rs (p' ++ (q' ++ b :: a :: q)))) [] p = -spl (fun p' c q' => sg p'.length * (A r c * minr A rs (p' ++ (q' ++ a :: b :: q)))) [] p by
      rw [← spl_neg]
      refine spl_congr p [] fun u c v e _ => ?_
      have e : u ++ c :: v = p := e
      have := minr_cols A rs (u ++ v) a b q (by rw [hl, ← e]; simp; omega)
      simp only [List.append_assoc] at this
      rw [this]
      grind]
    simp only [List.length_append, List.length_cons, List.length_nil, sg_succ, List.append_assoc, List.cons_append, List.nil_append]
    grind
/-- A column moved to the right. -/
theorem minr_move (A : Nat → Nat → Int) (rs : List Nat) (c : Nat) : ∀ (m p q : List Nat), rs.length = p.length + m.length + q.length + 1 → minr A rs (p ++ c :: (m ++ q)) = sg m.length * minr A rs (p ++ (m ++ c :: q))
  | [], p, q, _ => by simp [sg_zero]
  | d :: m, p, q, h => by
    have h1 := minr_cols A rs p d c (m ++ q) (by rw [h]; simp; omega)
    have h2 := minr_move A rs c m (p ++ [d]) q (by rw [h]; simp; omega)
    simp only [List.append_assoc, List.cons_append, List.nil_append] at h1 h2 ⊢
    rw [h1, h2, List.length_cons, sg_succ, Int.neg_mul]
/-- Two equal columns. -/
theorem minr_twice (A : Nat → Nat → Int) (rs : List Nat) (a : Nat) (p m q : List Nat) (h : rs.length = p.length + m.length + q.length + 2) : minr A rs (p ++ a :: (m ++ a :: q)) = 0 := by
  have h1 := minr_move A rs a m p (a :: q) (by rw [h]; simp; omega)
  have h2 := minr_cols A rs (p ++ m) a a q (by rw [h]; simp)
  simp only [List.append_assoc] at h1 h2
  have h3 : minr A rs (p ++ (m ++ a :: a :: q)) = 0 := by omega
  rw [h1, h3, Int.mul_zero]
/-- Expansion along the first two rows. -/
theorem minr_two (A : Nat → Nat → Int) (r s : Nat) (rs cs : List Nat) : minr A (r :: s :: rs) cs = spl (fun p x post => spl (fun m y q => sg m.length * ((A r x * A s y - A r y * A s x) * minr A rs (p ++ (m ++ q)))) [] post) [] cs := by
  have h1 : ∀ (p : List Nat) (c : Nat) (q : List Nat), sg p.length * (A r c * minr A (s :: rs) (p ++ q)) =
      spl (fun p2 d m => sg (p2.length + m.length + 1) * sg p2.length * (A r c * A s d * minr A rs (p2 ++ (m ++ q)))) [] p + spl (fun m d q2 => sg m.length * (A r c * A s d * minr A rs (p ++ (m ++ q2)))) [] q := by
    intro p c q
    rw [minr_cons, spl_app, Int.mul_add, Int.mul_add, ← Int.mul_assoc, ← Int.mul_assoc, ← spl_mul, ← spl_mul]
    congr 1
    · refine spl_congr p [] fun p2 d m e _ => ?_
      have e : p2 ++ d :: m = p := e
      rw [← e, List.length_append, List.length_cons, ← Nat.add_assoc]
      grind
    · rw [show ([] : List Nat) ++ p = p ++ [] by simp, spl_pre]
      refine spl_congr q [] fun m d q2 _ _ => ?_
      have := sg_add p.length m.length
      have h2 := sg_sq p.length
      rw [List.append_assoc, List.length_append, this]
      grind
  rw [minr_cons, show (fun p c q => sg p.length * (A r c * minr A (s :: rs) (p ++ q))) = _ from funext fun p => funext fun c => funext fun q => h1 p c q, spl_add,
    spl_turn (G := fun p2 d m c q => sg (p2.length + m.length + 1) * sg p2.length * (A r c * A s d * minr A rs (p2 ++ (m ++ q)))) cs []]
  simp only [spl, Int.zero_add]
  rw [← spl_add]
  refine spl_congr cs [] fun p x post _ _ => ?_
  rw [← spl_add]
  refine spl_congr post [] fun m y q _ _ => ?_
  have h2 := sg_sq p.length
  rw [sg_succ, sg_add]
  grind
/-- Neighbouring rows exchanged. -/
theorem minr_rows (A : Nat → Nat → Int) (r s : Nat) (rs : List Nat) : ∀ (p cs : List Nat), minr A (p ++ s :: r :: rs) cs = -minr A (p ++ r :: s :: rs) cs
  | [], cs => by
    rw [List.nil_append, List.nil_append, minr_two, minr_two, ← spl_neg]
    refine spl_congr cs [] fun p x post _ _ => ?_
    rw [← spl_neg]
    refine spl_congr post [] fun m y q _ _ => ?_
    grind
  | t :: p, cs => by
    rw [List.cons_append, List.cons_append, minr_cons, minr_cons, ← spl_neg]
    refine spl_congr cs [] fun u c v _ _ => ?_
    rw [minr_rows A r s rs p (u ++ v)]
    grind
/-- A row moved down. -/
theorem minr_down (A : Nat → Nat → Int) (r : Nat) (cs : List Nat) : ∀ (m p q : List Nat), minr A (p ++ r :: (m ++ q)) cs = sg m.length * minr A (p ++ (m ++ r :: q)) cs
  | [], p, q => by simp [sg_zero]
  | d :: m, p, q => by
    have h1 := minr_rows A d r (m ++ q) p cs
    have h2 := minr_down A r cs m (p ++ [d]) q
    simp only [List.append_assoc, List.cons_append, List.nil_append] at h1 h2 ⊢
    rw [h1, h2, List.length_cons, sg_succ, Int.neg_mul]
/-- Expansion along the last row. -/
theorem minr_last (A : Nat → Nat → Int) (r : Nat) (R cs : List Nat) : minr A (R ++ [r]) cs = sg R.length * spl (fun p c q => sg p.length * (A r c * minr A R (p ++ q))) [] cs := by
  have h := minr_down A r cs R [] []
  simp only [List.nil_append, List.append_nil] at h
  have h2 := sg_sq R.length
  rw [← minr_cons, h, ← Int.mul_assoc, h2, Int.one_mul]
/-- A column replaced. -/
def rep (A : Nat → Nat → Int) (j : Nat) (b : Nat → Int) : Nat → Nat → Int := fun r c => if c = j then b r else A r c
theorem rep_at (A : Nat → Nat → Int) (j : Nat) (b : Nat → Int) (r : Nat) : rep A j b r j = b r := if_pos rfl
theorem rep_ne (A : Nat → Nat → Int) {j c : Nat} (b : Nat → Int) (r : Nat) (h : c ≠ j) : rep A j b r c = A r c := if_neg h
theorem rep_out (A : Nat → Nat → Int) {j : Nat} (b : Nat → Int) {rs cs : List Nat} (h : j ∉ cs) : minr (rep A j b) rs cs = minr A rs cs :=
  minr_congr rs cs fun r _ c hc => rep_ne A b r fun (e : c = j) => h (e ▸ hc)
theorem nd_mid {p q : List Nat} {d : Nat} (h : (p ++ d :: q).Nodup) : d ∉ p ++ q ∧ (p ++ q).Nodup :=
  List.nodup_cons.1 ((List.Perm.nodup_iff List.perm_middle).1 h)
/-- Linear in a column. -/
theorem rep_lin (A : Nat → Nat → Int) (j : Nat) (b c : Nat → Int) (x y : Int) : ∀ (rs cs : List Nat), rs.length = cs.length → cs.Nodup → j ∈ cs → minr (rep A j fun r => x * b r + y * c r) rs cs = x * minr (rep A j b) rs cs + y * minr (rep A j c) rs cs
  | [], cs, hl, _, hj => by
    have : cs = [] := List.eq_nil_of_length_eq_zero (by simpa using hl.symm)
    rw [this] at hj; simp at hj
  | r :: rs, cs, hl, hn, hj => by
    rw [minr_cons, minr_cons, minr_cons, ← spl_mul, ← spl_mul, ← spl_add]
    refine spl_congr cs [] fun p d q e _ => ?_
    have e : p ++ d :: q = cs := e
    subst e
    obtain ⟨hout, hnd⟩ := nd_mid hn
    by_cases hd : d = j
    · subst hd
      rw [rep_at, rep_at, rep_at, rep_out A _ hout, rep_out A _ hout, rep_out A _ hout]
      grind
    · rw [rep_ne A _ r hd, rep_ne A _ r hd, rep_ne A _ r hd, rep_lin A j b c x y rs (p ++ q) (by simp at hl ⊢; omega) hnd (by simp at hj ⊢; rcases hj with h | h | h; exact .inl h; exact absurd h.symm hd; exact .inr h)]
      grind
theorem rep_zero (A : Nat → Nat → Int) (j : Nat) (rs cs : List Nat) (hl : rs.length = cs.length) (hn : cs.Nodup) (hj : j ∈ cs) : minr (rep A j fun _ => 0) rs cs = 0 := by
  have := rep_lin A j (fun _ => 0) (fun _ => 0) 0 0 rs cs hl hn hj
  simpa using this
theorem spl_map {g : List Nat → Nat → List Nat → Int} (σ : Nat → Nat) : ∀ (cs pre : List Nat), spl g (pre.map σ) (cs.map σ) = spl (fun p c q => g (p.map σ) (σ c) (q.map σ)) pre cs
  | [], _ => rfl
  | c :: cs, pre => by
    have := spl_map (g := g) σ cs (pre ++ [c])
    simp only [List.map_append, List.map_cons, List.map_nil] at this
    simp only [List.map_cons, spl]
    rw [this]
theorem minr_map (A : Nat → Nat → Int) (σ : Nat → Nat) : ∀ (rs cs : List Nat), minr (fun r c => A r (σ c)) rs cs = minr A rs (cs.map σ)
  | [], _ => rfl
  | r :: rs, cs => by
    rw [minr_cons, minr_cons]
    have := spl_map (g := fun p c q => sg p.length * (A r c * minr A rs (p ++ q))) σ cs []
    simp only [List.map_nil] at this
    rw [this]
    refine spl_congr cs [] fun p c q _ _ => ?_
    rw [minr_map A σ rs (p ++ q), List.map_append, List.length_map]
/-- A column replaced by column i: the list of columns has i in the place of j. -/
theorem rep_col (A : Nat → Nat → Int) (i j : Nat) (rs p q : List Nat) (hn : (p ++ j :: q).Nodup) : minr (rep A j fun r => A r i) rs (p ++ j :: q) = minr A rs (p ++ i :: q) := by
  have h1 : minr (rep A j fun r => A r i) rs (p ++ j :: q) = minr (fun r c => A r (if c = j then i else c)) rs (p ++ j :: q) := minr_congr _ _ fun r _ c _ => by
    unfold rep
    split <;> rfl
  rw [h1, minr_map]
  obtain ⟨hout, _⟩ := nd_mid hn
  have hm : ∀ l : List Nat, j ∉ l → (l.map fun c => if c = j then i else c) = l := fun l hl => by
    have : l.map (fun c => if c = j then i else c) = l.map id := List.map_congr_left fun c hc => if_neg fun (e : c = j) => hl (e ▸ hc)
    rw [this, List.map_id]
  rw [List.map_append, List.map_cons, hm p fun h => hout (by simp [h]), hm q fun h => hout (by simp [h]), if_pos rfl]
/-- A column replaced by another one of the chosen ones. -/
theorem rep_other (A : Nat → Nat → Int) {i j : Nat} (hij : i ≠ j) (rs cs : List Nat) (hl : rs.length = cs.length) (hn : cs.Nodup) (hi : i ∈ cs) (hj : j ∈ cs) : minr (rep A j fun r => A r i) rs cs = 0 := by
  obtain ⟨p, q, rfl⟩ := List.append_of_mem hj
  rw [rep_col A i j rs p q hn]
  have hi : i ∈ p ∨ i ∈ q := by
    simp at hi
    rcases hi with h | h | h
    · exact .inl h
    · exact absurd h hij
    · exact .inr h
  rcases hi with h | h
  · obtain ⟨a, b, rfl⟩ := List.append_of_mem h
    have := minr_twice A rs i a b q (by rw [hl]; simp; omega)
    simpa using this
  · obtain ⟨a, b, rfl⟩ := List.append_of_mem h
    exact minr_twice A rs i p a b (by rw [hl]; simp; omega)
theorem rep_self (A : Nat → Nat → Int) (j : Nat) (rs cs : List Nat) : minr (rep A j fun r => A r j) rs cs = minr A rs cs :=
  minr_congr rs cs fun r _ c _ => by unfold rep; split <;> simp_all
/-- A sum of columns. -/
def comb (A : Nat → Nat → Int) (N : Nat → Int) : List Nat → Nat → Int
  | [], _ => 0
  | i :: L, r => N i * A r i + comb A N L r
theorem rep_comb (A : Nat → Nat → Int) (N : Nat → Int) (j : Nat) (rs cs : List Nat) (hl : rs.length = cs.length) (hn : cs.Nodup) (hj : j ∈ cs) : ∀ L : List Nat, (∀ i ∈ L, i ∈ cs) → L.Nodup →
    minr (rep A j (comb A N L)) rs cs = if j ∈ L then N j * minr A rs cs else 0
  | [], _, _ => by
    have : comb A N [] = fun _ => 0 := rfl
    rw [this, rep_zero A j rs cs hl hn hj]; rfl
  | i :: L, hL, hnd => by
    have e : comb A N (i :: L) = fun r => N i * (fun r => A r i) r + 1 * comb A N L r := funext fun r => by show N i * A r i + comb A N L r = N i * A r i + 1 * comb A N L r; omega
    rw [e, rep_lin A j _ _ (N i) 1 rs cs hl hn hj, rep_comb A N j rs cs hl hn hj L (fun x hx => hL x (by simp [hx])) (List.nodup_cons.1 hnd).2]
    by_cases hij : i = j
    · subst hij
      rw [rep_self, if_neg (List.nodup_cons.1 hnd).1, if_pos (by simp)]; omega
    · rw [rep_other A hij rs cs hl hn (hL i (by simp)) hj, Int.mul_zero, Int.zero_add, Int.one_mul]
      by_cases hjL : j ∈ L
      · rw [if_pos hjL, if_pos (by simp [hjL])]
      · rw [if_neg hjL, if_neg (by simp [hjL, Ne.symm hij])]
/-- Cramer's rule. -/
theorem cramer (A : Nat → Nat → Int) (N : Nat → Int) (b : Nat → Int) (j : Nat) (rs cs : List Nat) (hl : rs.length = cs.length) (hn : cs.Nodup) (hj : j ∈ cs) (hb : ∀ r ∈ rs, b r = comb A N cs r) : minr (rep A j b) rs cs = N j * minr A rs cs := by
  rw [← show minr (rep A j (comb A N cs)) rs cs = N j * minr A rs cs by rw [rep_comb A N j rs cs hl hn hj cs (fun _ h => h) hn, if_pos hj]]
  refine minr_congr rs cs fun r hr c _ => ?_
  unfold rep
  rw [hb r hr]
/-! Sizes -/
/-! The first columns -/
/-- The sum over a range. -/
def sumR (f : Nat → Int) : Nat → Int
  | 0 => 0
  | n + 1 => sumR f n + f n
theorem sumR_congr {f g : Nat → Int} : ∀ {n : Nat}, (∀ i, i < n → f i = g i) → sumR f n = sumR g n
  | 0, _ => rfl
  | n + 1, h => by unfold sumR; rw [sumR_congr fun i hi => h i (by omega), h n (by omega)]
theorem sumR_mul (x : Int) (f : Nat → Int) : ∀ n : Nat, sumR (fun i => x * f i) n = x * sumR f n
  | 0 => by simp [sumR]
  | n + 1 => by unfold sumR; rw [sumR_mul x f n, Int.mul_add]
theorem sumR_first (f : Nat → Int) : ∀ n : Nat, sumR f (n + 1) = f 0 + sumR (fun i => f (i + 1)) n
  | 0 => by simp [sumR]
  | n + 1 => by rw [sumR, sumR_first f n, sumR]; omega
theorem comb_range (A : Nat → Nat → Int) (N : Nat → Int) (r : Nat) : ∀ n : Nat, comb A N (List.range n) r = sumR (fun i => N i * A r i) n
  | 0 => rfl
  | n + 1 => by
    have app : ∀ p q : List Nat, comb A N (p ++ q) r = comb A N p r + comb A N q r := fun p q => by
      induction p with
      | nil => simp [comb]
      | cons c p ih => simp only [List.cons_append, comb]; rw [ih]; omega
    rw [List.range_succ, app, comb_range A N r n]
    simp [comb, sumR]
theorem spl_range {g : List Nat → Nat → List Nat → Int} : ∀ (n a : Nat), spl g (List.range a) (List.range' a n) = sumR (fun i => g (List.range (a + i)) (a + i) (List.range' (a + i + 1) (n - i - 1))) n
  | 0, _ => rfl
  | n + 1, a => by
    rw [List.range'_succ, spl, ← List.range_succ, spl_range n (a + 1), sumR_first]
    simp only [Nat.add_zero, Nat.sub_zero, Nat.add_sub_cancel]
    congr 1
    refine sumR_congr fun i hi => ?_
    rw [show a + 1 + i = a + (i + 1) by omega, show n + 1 - (i + 1) - 1 = n - i - 1 by omega]
theorem range_at {j k : Nat} (h : j < k) : List.range k = List.range j ++ j :: List.range' (j + 1) (k - j - 1) := by
  rw [List.range_eq_range', List.range_eq_range', ← List.range'_succ, show k - j - 1 + 1 = k - j by omega]
  have := List.range'_append (s := 0) (m := j) (n := k - j) (step := 1)
  simp only [Nat.one_mul, Nat.zero_add] at this
  rw [this, show j + (k - j) = k by omega]
/-- Column j of the first k ones replaced by column k. -/
theorem rep_last (A : Nat → Nat → Int) {j k : Nat} (hj : j < k) (R : List Nat) (hl : R.length = k) : minr (rep A j fun r => A r k) R (List.range k) = sg (k - 1 - j) * minr A R (List.range j ++ List.range' (j + 1) (k - j)) := by
  have hn : (List.range j ++ j :: List.range' (j + 1) (k - j - 1)).Nodup := by rw [← range_at hj]; exact List.nodup_range
  rw [range_at hj, rep_col A k j R _ _ hn]
  have := minr_move A R k (List.range' (j + 1) (k - j - 1)) (List.range j) [] (by rw [hl]; simp; omega)
  simp only [List.append_nil, List.length_range'] at this
  rw [this, show k - j - 1 = k - 1 - j by omega]
  congr 2
  congr 1
  have h2 := List.range'_append (s := j + 1) (m := k - 1 - j) (n := 1) (step := 1)
  simp only [Nat.one_mul] at h2
  rw [show k - j = k - 1 - j + 1 by omega, ← h2, show j + 1 + (k - 1 - j) = k by omega]
  rfl
/-- Where one more row adds nothing, the column k is a sum of those before. -/
theorem kernel (A : Nat → Nat → Int) (k r : Nat) (R : List Nat) (hl : R.length = k) (h : minr A (R ++ [r]) (List.range (k + 1)) = 0) :
    minr A R (List.range k) * A r k = comb A (fun j => minr (rep A j fun r => A r k) R (List.range k)) (List.range k) r := by
  rw [minr_last, hl] at h
  have hs := sg_sq k
  have h0 : spl (fun p c q => sg p.length * (A r c * minr A R (p ++ q))) [] (List.range (k + 1)) = 0 := by
    rcases Int.mul_eq_zero.1 h with h | h
    · rw [h] at hs; simp at hs
    · exact h
  have h1 := spl_range (g := fun p c q => sg p.length * (A r c * minr A R (p ++ q))) (k + 1) 0
  rw [← List.range_eq_range'] at h1
  have h1 := h1.symm.trans h0
  simp only [Nat.zero_add, List.length_range] at h1
  rw [comb_range]
  rw [sumR] at h1
  have h2 : sumR (fun i => sg i * (A r i * minr A R (List.range i ++ List.range' (i + 1) (k + 1 - i - 1)))) k = sumR (fun i => -sg k * ((minr (rep A i fun r => A r k) R (List.range k)) * A r i)) k := sumR_congr fun i hi => by
    rw [rep_last A hi R hl, show k + 1 - i - 1 = k - i by omega]
    have e1 : sg k = -(sg i * sg (k - 1 - i)) := by rw [← sg_add, ← sg_succ]; congr 1; omega
    have e2 := sg_sq (k - 1 - i)
    rw [e1]; grind
  rw [h2, sumR_mul, show k + 1 - k - 1 = 0 by omega] at h1
  simp only [List.range'_zero, List.append_nil] at h1
  have h3 : sg k * (A r k * minr A R (List.range k) - sumR (fun i => minr (rep A i fun r => A r k) R (List.range k) * A r i) k) = 0 := by grind
  rcases Int.mul_eq_zero.1 h3 with h | h
  · rw [h] at hs; simp at hs
  · grind
end Go.Det
/- The simplex method over fractions with Bland's rule ends: plain facts, no program in sight. -/
namespace Go.Bl
def sm : Nat → (Nat → Rat) → Rat
  | 0, _ => 0
  | n + 1, f => sm n f + f n
theorem sm_congr {n : Nat} {f g : Nat → Rat} (h : ∀ k, k < n → f k = g k) : sm n f = sm n g := by
  induction n with
  | zero => rfl
  | succ n ih => rw [sm, sm, ih fun k hk => h k (by omega), h n (by omega)]
theorem div_nonneg {a b : Rat} (ha : 0 ≤ a) (hb : 0 < b) : 0 ≤ a / b := by
  refine Classical.byContradiction fun hn => ?_
  have h1 : a = a / b * b := by grind
  have h2 := Rat.mul_pos (show 0 < - (a / b) by grind) hb
  grind
theorem sm_add (n : Nat) (f g : Nat → Rat) : sm n (fun k => f k + g k) = sm n f + sm n g := by
  induction n with
  | zero => rw [sm, sm, sm]; grind
  | succ n ih => rw [sm, sm, sm, ih]; grind
theorem sm_sub (n : Nat) (f g : Nat → Rat) : sm n (fun k => f k - g k) = sm n f - sm n g := by
  induction n with
  | zero => rw [sm, sm, sm]; grind
  | succ n ih => rw [sm, sm, sm, ih]; grind
theorem sm_mul (n : Nat) (c : Rat) (f : Nat → Rat) : sm n (fun k => f k * c) = sm n f * c := by
  induction n with
  | zero => rw [sm, sm]; grind
  | succ n ih => rw [sm, sm, ih]; grind
theorem sm_zero (n : Nat) : sm n (fun _ => 0) = 0 := by
  induction n with
  | zero => rfl
  | succ n ih => rw [sm, ih]; grind
theorem sm_one {n k : Nat} (f : Nat → Rat) (hk : k < n) : sm n (fun j => if j = k then f j else 0) = f k := by
  induction n with
  | zero => omega
  | succ n ih =>
    rw [sm]
    by_cases h : k = n
    · subst h
      rw [if_pos rfl, sm_congr (g := fun _ => 0) fun j hj => if_neg (by omega), sm_zero]; grind
    · rw [ih (by omega), if_neg (by omega)]; grind
theorem sm_but {n r : Nat} (f : Nat → Rat) (hr : r < n) : sm n f = sm n (fun k => if k = r then 0 else f k) + f r := by
  rw [← sm_one f hr, ← sm_add]
  refine sm_congr fun k _ => ?_
  by_cases hk : k = r
  · rw [if_pos hk, if_pos hk]; grind
  · rw [if_neg hk, if_neg hk]; grind
theorem sm_neg_ex : ∀ {n : Nat} {f : Nat → Rat}, sm n f < 0 → ∃ k, k < n ∧ f k < 0
  | 0, f, h => by rw [sm] at h; exact absurd h (by decide)
  | n + 1, f, h => by
    rw [sm] at h
    by_cases hn : f n < 0
    · exact ⟨n, by omega, hn⟩
    · obtain ⟨k, hk, h1⟩ := sm_neg_ex (n := n) (f := f) (by grind)
      exact ⟨k, by omega, h1⟩
/-- A tableau: the numbers of its rows at the columns, and the column that belongs to each row. -/
structure Tab where
  T : Nat → Nat → Rat
  B : Nat → Nat
def piv (s : Tab) (r e : Nat) : Tab :=
  ⟨fun i k => if i = r then s.T r k / s.T r e else s.T i k - s.T i e * (s.T r k / s.T r e), fun i => if i = r then e else s.B i⟩
def y (m : Nat) (cost : Nat → Rat) (s : Tab) (k : Nat) : Rat := sm m fun i => cost (s.B i) * s.T i k
def gain (m : Nat) (cost : Nat → Rat) (s : Tab) (k : Nat) : Rat := cost k - y m cost s k
/-- Rows, columns, and the values in the column behind them. -/
structure Ok (m N : Nat) (s : Tab) : Prop where
  bas : ∀ i, i < m → s.B i < N
  unit : ∀ i j, i < m → j < m → s.T j (s.B i) = if j = i then 1 else 0
  pos : ∀ i, i < m → 0 ≤ s.T i N
/-- The first column that is worth it. -/
structure Ent (m cnt : Nat) (cost : Nat → Rat) (s : Tab) (e : Nat) : Prop where
  lt : e < cnt
  pos : 0 < gain m cost s e
  first : ∀ k, k < e → gain m cost s k ≤ 0
/-- The row that leaves. -/
structure Lea (m N : Nat) (s : Tab) (e r : Nat) : Prop where
  lt : r < m
  pos : 0 < s.T r e
  least : ∀ i, i < m → 0 < s.T i e → s.T r N / s.T r e < s.T i N / s.T i e ∨ (s.T r N / s.T r e = s.T i N / s.T i e ∧ s.B r ≤ s.B i)
section
variable {m N cnt : Nat} {cost : Nat → Rat} {s : Tab}
theorem comb (g : Nat → Rat) {r e k : Nat} (hr : r < m) (hp : s.T r e ≠ 0) :
    (sm m fun i => g ((piv s r e).B i) * (piv s r e).T i k) = (sm m fun i => g (s.B i) * s.T i k) + (g e - sm m fun i => g (s.B i) * s.T i e) * (s.T r k / s.T r e) := by
  rw [sm_but _ hr, sm_but (fun i => g (s.B i) * s.T i k) hr, sm_but (fun i => g (s.B i) * s.T i e) hr]
  have e1 : (sm m fun k_1 => if k_1 = r then 0 else g ((piv s r e).B k_1) * (piv s r e).T k_1 k) = (sm m fun i => if i = r then 0 else g (s.B i) * s.T i k) - (sm m fun i => if i = r then 0 else g (s.B i) * s.T i e) * (s.T r k / s.T r e) := by
    rw [← sm_mul, ← sm_sub]
    refine sm_congr fun i _ => ?_
    by_cases hi : i = r
    · rw [if_pos hi, if_pos hi, if_pos hi]; grind
    · rw [if_neg hi, if_neg hi, if_neg hi]
      unfold piv
      dsimp only
      rw [if_neg hi, if_neg hi]
      grind
  rw [e1]
  unfold piv
  dsimp only
  rw [if_pos rfl, if_pos rfl]
  grind
theorem gain_basic (h : Ok m N s) {i : Nat} (hi : i < m) : gain m cost s (s.B i) = 0 := by
  unfold gain y
  have : (sm m fun j => cost (s.B j) * s.T j (s.B i)) = cost (s.B i) := by
    rw [sm_congr (g := fun j => if j = i then cost (s.B j) else 0) fun j hj => by
      rw [h.unit i j hi hj]
      by_cases hji : j = i
      · rw [if_pos hji, if_pos hji]; grind
      · rw [if_neg hji, if_neg hji]; grind]
    exact sm_one (fun j => cost (s.B j)) hi
  rw [this]; grind
theorem div_self {a : Rat} (h : a ≠ 0) : a / a = 1 := by grind
theorem ok_piv (h : Ok m N s) (hc : cnt ≤ N) {r e : Nat} (he : Ent m cnt cost s e) (hl : Lea m N s e r) : Ok m N (piv s r e) := by
  have hp : s.T r e ≠ 0 := by have := hl.pos; grind
  refine ⟨fun i hi => ?_, fun i j hi hj => ?_, fun i hi => ?_⟩
  · unfold piv
    dsimp only
    split
    · have := he.lt; omega
    · exact h.bas i hi
  · unfold piv
    dsimp only
    by_cases hir : i = r
    · rw [if_pos hir]
      by_cases hjr : j = r
      · rw [if_pos hjr, div_self hp, if_pos (hjr.trans hir.symm)]
      · rw [if_neg hjr, div_self hp, if_neg (by omega)]; grind
    · rw [if_neg hir]
      have hz : s.T r (s.B i) = 0 := by rw [h.unit i r hi hl.lt, if_neg (by omega)]
      by_cases hjr : j = r
      · rw [if_pos hjr, hz, if_neg (by omega)]; grind
      · rw [if_neg hjr, hz, h.unit i j hi hj]
        split <;> grind
  · unfold piv
    dsimp only
    have hq : 0 ≤ s.T r N / s.T r e := div_nonneg (h.pos r hl.lt) hl.pos
    split
    · exact hq
    · have h1 := h.pos i hi
      by_cases hie : 0 < s.T i e
      · have h2 : s.T r N / s.T r e ≤ s.T i N / s.T i e := by
          rcases hl.least i hi hie with h3 | h3
          · grind
          · rw [h3.1]; exact Rat.le_refl
        have h3 := Rat.mul_le_mul_of_nonneg_left h2 (show 0 ≤ s.T i e by grind)
        have h4 : s.T i e * (s.T i N / s.T i e) = s.T i N := by grind
        rw [h4] at h3
        grind
      · have h2 : 0 ≤ (- s.T i e) * (s.T r N / s.T r e) := Rat.mul_nonneg (by grind) hq
        grind
theorem y_piv {r e k : Nat} (hr : r < m) (hp : s.T r e ≠ 0) : y m cost (piv s r e) k = y m cost s k + gain m cost s e * (s.T r k / s.T r e) := comb cost hr hp
/-- What follows from the rows. -/
def RS (m N : Nat) (s : Tab) (f : Nat → Rat) : Prop := ∀ k, k ≤ N → f k = sm m fun i => f (s.B i) * s.T i k
theorem rs_piv {f : Nat → Rat} {r e : Nat} (hr : r < m) (he : e ≤ N) (hp : s.T r e ≠ 0) (h : RS m N s f) : RS m N (piv s r e) f := fun k hk => by
  rw [comb f hr hp, ← h k hk, ← h e he]; grind
theorem rs_y (h : Ok m N s) : RS m N s (y m cost s) := fun k _ => by
  show (sm m fun i => cost (s.B i) * s.T i k) = _
  refine sm_congr fun i hi => ?_
  have := gain_basic (cost := cost) h hi
  unfold gain at this
  have e : y m cost s (s.B i) = cost (s.B i) := by grind
  rw [e]
theorem rs_row (h : Ok m N s) {i : Nat} (hi : i < m) : RS m N s (s.T i) := fun k _ => by
  rw [sm_congr (g := fun j => if j = i then s.T j k else 0) fun j hj => by
    rw [h.unit j i hj hi]
    by_cases hji : j = i
    · rw [if_pos hji, if_pos hji.symm]; grind
    · rw [if_neg hji, if_neg (by omega)]; grind]
  exact (sm_one (fun j => s.T j k) hi).symm
theorem bas_inj (h : Ok m N s) {i j : Nat} (hi : i < m) (hj : j < m) (he : s.B i = s.B j) : i = j := by
  have h1 := h.unit i i hi hi
  have h2 := h.unit j i hj hi
  rw [if_pos rfl] at h1
  rw [← he, h1] at h2
  refine Classical.byContradiction fun hn => ?_
  rw [if_neg hn] at h2
  exact absurd h2 (by decide)
end
theorem least {P : Nat → Prop} : ∀ n, P n → ∃ m, P m ∧ ∀ k, k < m → ¬ P k := by
  intro n
  induction n using Nat.strongRecOn with
  | _ n ih =>
    intro hn
    by_cases h : ∃ k, k < n ∧ P k
    · obtain ⟨k, hk, hp⟩ := h
      exact ih k hk hp
    · exact ⟨n, hn, fun k hk hp => h ⟨k, hk, hp⟩⟩
/-- Two tableaus with the same rows, columns and values. -/
structure Same (m N : Nat) (s s' : Tab) : Prop where
  bas : ∀ i, i < m → s.B i = s'.B i
  num : ∀ i k, i < m → k ≤ N → s.T i k = s'.T i k
theorem same_y {m N : Nat} {cost : Nat → Rat} {s s' : Tab} (h : Same m N s s') {k : Nat} (hk : k ≤ N) : y m cost s k = y m cost s' k := sm_congr fun i hi => by rw [h.bas i hi, h.num i k hi hk]
/-- No walk by Bland's rule comes back to where it was. -/
theorem no_cycle {m N cnt n : Nat} {cost : Nat → Rat} (hc : cnt ≤ N) (hn : 1 ≤ n) (s : Nat → Tab) (E L : Nat → Nat) (h0 : Ok m N (s 0)) (hE : ∀ k, Ent m cnt cost (s k) (E k)) (hL : ∀ k, Lea m N (s k) (E k) (L k)) (hs : ∀ k, s (k + 1) = piv (s k) (L k) (E k))
    (hper : ∀ k, Same m N (s (k + n)) (s k)) : False := by
  have hp : ∀ k, (s k).T (L k) (E k) ≠ 0 := fun k => by have := (hL k).pos; grind
  have hok : ∀ k, Ok m N (s k) := fun k => by
    induction k with
    | zero => exact h0
    | succ k ih => rw [hs]; exact ok_piv ih hc (hE k) (hL k)
  have hq : ∀ k, 0 ≤ (s k).T (L k) N / (s k).T (L k) (E k) := fun k => div_nonneg ((hok k).pos _ (hL k).lt) (hL k).pos
  have hy : ∀ k, y m cost (s (k + 1)) N = y m cost (s k) N + gain m cost (s k) (E k) * ((s k).T (L k) N / (s k).T (L k) (E k)) := fun k => by rw [hs, y_piv (hL k).lt (hp k)]
  have hym : ∀ k, y m cost (s k) N ≤ y m cost (s (k + 1)) N := fun k => by
    rw [hy]
    have := Rat.mul_nonneg (show 0 ≤ gain m cost (s k) (E k) by have := (hE k).pos; grind) (hq k)
    grind
  have hyl : ∀ k j, y m cost (s k) N ≤ y m cost (s (k + j)) N := fun k j => by
    induction j with
    | zero => exact Rat.le_refl
    | succ j ih => exact Rat.le_trans ih (hym (k + j))
  have hz : ∀ k, (s k).T (L k) N = 0 := fun k => by
    have h1 := hyl (k + 1) (n - 1)
    rw [show k + 1 + (n - 1) = k + n by omega, same_y (hper k) (Nat.le_refl _), hy] at h1
    have h2 := (hE k).pos
    have h3 := hq k
    have h4 : (s k).T (L k) N / (s k).T (L k) (E k) = 0 := by
      refine Classical.byContradiction fun hne => ?_
      have := Rat.mul_pos h2 (show 0 < (s k).T (L k) N / (s k).T (L k) (E k) by grind)
      grind
    have h5 := hp k
    grind
  have hv : ∀ k i, (s (k + 1)).T i N = (s k).T i N := fun k i => by
    rw [hs]
    unfold piv
    dsimp only
    rw [hz k]
    by_cases hi : i = L k
    · rw [if_pos hi, hi, hz k]; grind
    · rw [if_neg hi]; grind
  have hv0 : ∀ k i, (s k).T i N = (s 0).T i N := fun k i => by
    induction k with
    | zero => rfl
    | succ k ih => rw [hv, ih]
  have hkeep : ∀ k i, L k ≠ i → (s (k + 1)).B i = (s k).B i := fun k i h => by
    rw [hs]
    unfold piv
    dsimp only
    rw [if_neg (by omega)]
  have hset : ∀ k, (s (k + 1)).B (L k) = E k := fun k => by
    rw [hs]
    unfold piv
    dsimp only
    rw [if_pos rfl]
  have hstay : ∀ k j i, (∀ x, k ≤ x → x < k + j → L x ≠ i) → (s (k + j)).B i = (s k).B i := fun k j i h => by
    induction j with
    | zero => rfl
    | succ j ih => rw [← Nat.add_assoc, hkeep _ _ (h (k + j) (by omega) (by omega)), ih fun x h1 h2 => h x h1 (by omega)]
  -- the greatest column that enters
  obtain ⟨g, ⟨a, ha⟩, hg⟩ := least (P := fun d => ∃ k, cnt - E k = d) _ ⟨0, rfl⟩
  have hmax : ∀ k, E k ≤ E a := fun k => by
    have h1 := hg (cnt - E k)
    have h2 := (hE k).lt
    have h3 := (hE a).lt
    refine Nat.le_of_not_lt fun h => h1 (by omega) ⟨k, rfl⟩
  have hnb : ∀ k i, i < m → (s k).B i = E k → False := fun k i hi h => by
    have h1 := gain_basic (cost := cost) (hok k) hi
    have h2 := (hE k).pos
    rw [h] at h1
    rw [h1] at h2
    exact absurd h2 (by decide)
  have hra := (hL a).lt
  -- it leaves again
  have hback : ∃ j, L (a + 1 + j) = L a := by
    refine Classical.byContradiction fun hno => ?_
    have h1 := hstay (a + 1) (n - 1) (L a) fun x hx _ hxl => hno ⟨x - (a + 1), by rw [show a + 1 + (x - (a + 1)) = x by omega]; exact hxl⟩
    rw [hset, show a + 1 + (n - 1) = a + n by omega, (hper a).bas _ hra] at h1
    exact hnb a _ hra h1
  obtain ⟨j0, hj0⟩ := hback
  obtain ⟨j, hj, hjm⟩ := least (P := fun j => L (a + 1 + j) = L a) j0 hj0
  obtain ⟨b, hb⟩ : ∃ b, b = a + 1 + j := ⟨_, rfl⟩
  rw [← hb] at hj
  have hbt : (s b).B (L a) = E a := by
    rw [hb, hstay (a + 1) j (L a) fun x h1 h2 hx => hjm (x - (a + 1)) (by omega) (by rw [show a + 1 + (x - (a + 1)) = x by omega]; exact hx), hset]
  have hlt : E b < E a := by
    have h1 := hmax b
    refine Nat.lt_of_le_of_ne h1 fun he => hnb b (L a) hra (hbt.trans he.symm)
  have hrs : ∀ j, RS m N (s (a + j)) (y m cost (s a)) := fun j => by
    induction j with
    | zero => exact rs_y (hok a)
    | succ j ih =>
      rw [← Nat.add_assoc, hs]
      exact rs_piv (hL _).lt (by have := (hE (a + j)).lt; omega) (hp _) ih
  have hrb := hrs (1 + j)
  rw [show a + (1 + j) = b by omega] at hrb
  have heb : E b ≤ N := by have := (hE b).lt; omega
  have hsum : (sm m fun i => gain m cost (s a) ((s b).B i) * (s b).T i (E b)) < 0 := by
    have e1 : (sm m fun i => gain m cost (s a) ((s b).B i) * (s b).T i (E b)) = y m cost (s b) (E b) - y m cost (s a) (E b) := by
      rw [hrb _ heb]
      unfold y
      rw [← sm_sub]
      refine sm_congr fun i _ => ?_
      unfold gain y
      grind
    have h1 := (hE b).pos
    have h2 := (hE a).first _ hlt
    unfold gain at h1 h2
    rw [e1]
    grind
  obtain ⟨i, hi, hneg⟩ := sm_neg_ex hsum
  have hEa := (hE a).pos
  by_cases hx : (s b).B i = E a
  · have : i = L a := bas_inj (hok b) hi hra (hx.trans hbt.symm)
    subst this
    rw [hx] at hneg
    have h1 := (hL b).pos
    rw [hj] at h1
    have := Rat.mul_pos hEa h1
    grind
  · have hch : ∃ k, L k = i ∧ E k = (s b).B i := by
      refine Classical.byContradiction fun hno => ?_
      by_cases hany : ∃ d, d < b - a ∧ L (b - 1 - d) = i
      · obtain ⟨d0, hd0⟩ := hany
        obtain ⟨d, hd, hdm⟩ := least (P := fun d => d < b - a ∧ L (b - 1 - d) = i) d0 hd0
        refine hno ⟨b - 1 - d, hd.2, ?_⟩
        have := hstay (b - 1 - d + 1) d i fun x h1 h2 hx => hdm (b - 1 - x) (by omega) ⟨by omega, by rw [show b - 1 - (b - 1 - x) = x by omega]; exact hx⟩
        rw [show b - 1 - d + 1 + d = b by omega] at this
        rw [this]
        have h3 := hset (b - 1 - d)
        rw [hd.2] at h3
        exact h3.symm
      · have := hstay a (b - a) i fun x h1 h2 hx => hany ⟨b - 1 - x, by omega, by rw [show b - 1 - (b - 1 - x) = x by omega]; exact hx⟩
        rw [show a + (b - a) = b by omega] at this
        rw [this, gain_basic (hok a) hi] at hneg
        grind
    obtain ⟨k, hk1, hk2⟩ := hch
    have hxt : (s b).B i < E a := by
      have := hmax k
      omega
    have hga := (hE a).first _ hxt
    have hTi : 0 < (s b).T i (E b) := by
      refine Classical.byContradiction fun hno => ?_
      have := Rat.mul_nonneg (show 0 ≤ - gain m cost (s a) ((s b).B i) by grind) (show 0 ≤ - (s b).T i (E b) by grind)
      grind
    have hvi : (s b).T i N = 0 := by rw [hv0 b, ← hv0 k, ← hk1]; exact hz k
    have hvr : (s b).T (L b) N = 0 := hz b
    rcases (hL b).least i hi hTi with h1 | ⟨_, h1⟩
    · rw [hvi, hvr] at h1
      grind
    · rw [hj, hbt] at h1
      omega
section
variable {m N cnt : Nat} {cost : Nat → Rat}
theorem Same.refl (s : Tab) : Same m N s s := ⟨fun _ _ => rfl, fun _ _ _ _ => rfl⟩
theorem Same.symm {s s' : Tab} (h : Same m N s s') : Same m N s' s := ⟨fun i hi => (h.bas i hi).symm, fun i k hi hk => (h.num i k hi hk).symm⟩
theorem Same.trans {s s' t : Tab} (h : Same m N s s') (h' : Same m N s' t) : Same m N s t := ⟨fun i hi => (h.bas i hi).trans (h'.bas i hi), fun i k hi hk => (h.num i k hi hk).trans (h'.num i k hi hk)⟩
theorem same_piv {s s' : Tab} (h : Same m N s s') {r e : Nat} (hr : r < m) (he : e ≤ N) : Same m N (piv s r e) (piv s' r e) := by
  refine ⟨fun i hi => ?_, fun i k hi hk => ?_⟩
  · unfold piv
    dsimp only
    rw [h.bas i hi]
  · unfold piv
    dsimp only
    rw [h.num r k hr hk, h.num r e hr he, h.num i k hi hk, h.num i e hi he]
theorem same_gain {s s' : Tab} (h : Same m N s s') {k : Nat} (hk : k ≤ N) : gain m cost s k = gain m cost s' k := by unfold gain; rw [same_y h hk]
theorem same_ent {s s' : Tab} (h : Same m N s s') (hc : cnt ≤ N) {e : Nat} (he : Ent m cnt cost s' e) : Ent m cnt cost s e :=
  ⟨he.lt, by rw [same_gain h (by have := he.lt; omega)]; exact he.pos, fun k hk => by rw [same_gain h (by have := he.lt; omega)]; exact he.first k hk⟩
theorem same_lea {s s' : Tab} (h : Same m N s s') {e r : Nat} (he : e ≤ N) (hl : Lea m N s' e r) : Lea m N s e r :=
  ⟨hl.lt, by rw [h.num r e hl.lt he]; exact hl.pos, fun i hi hp => by
    rw [h.num r e hl.lt he, h.num r N hl.lt (Nat.le_refl _), h.num i e hi he, h.num i N hi (Nat.le_refl _), h.bas r hl.lt, h.bas i hi]
    exact hl.least i hi (by rw [← h.num i e hi he]; exact hp)⟩
/-- A walk of some steps by Bland's rule. -/
structure Way (m N cnt : Nat) (cost : Nat → Rat) (k : Nat) (f : Nat → Tab) (E L : Nat → Nat) : Prop where
  ent : ∀ j, j < k → Ent m cnt cost (f j) (E j)
  lea : ∀ j, j < k → Lea m N (f j) (E j) (L j)
  next : ∀ j, j < k → f (j + 1) = piv (f j) (L j) (E j)
theorem Way.ok {k : Nat} {f : Nat → Tab} {E L : Nat → Nat} (h : Way m N cnt cost k f E L) (hc : cnt ≤ N) (h0 : Ok m N (f 0)) : ∀ j, j ≤ k → Ok m N (f j) := fun j => by
  induction j with
  | zero => exact fun _ => h0
  | succ j ih => exact fun hj => by rw [h.next j hj]; exact ok_piv (ih (by omega)) hc (h.ent j hj) (h.lea j hj)
theorem Way.rs {k : Nat} {f : Nat → Tab} {E L : Nat → Nat} (h : Way m N cnt cost k f E L) (hc : cnt ≤ N) {g : Nat → Rat} {i : Nat} (h0 : RS m N (f i) g) : ∀ j, i + j ≤ k → RS m N (f (i + j)) g := fun j => by
  induction j with
  | zero => exact fun _ => h0
  | succ j ih =>
    intro hj
    have hp := (h.lea (i + j) (by omega)).pos
    have he := (h.ent (i + j) (by omega)).lt
    rw [← Nat.add_assoc, h.next (i + j) (by omega)]
    exact rs_piv (h.lea (i + j) (by omega)).lt (by omega) (by grind) (ih (by omega))
theorem no_repeat {k : Nat} {f : Nat → Tab} {E L : Nat → Nat} (h : Way m N cnt cost k f E L) (hc : cnt ≤ N) (h0 : Ok m N (f 0)) {i j : Nat} (hij : i < j) (hj : j ≤ k) (he : ∀ r, r < m → (f i).B r = (f j).B r) : False := by
  have hoi := h.ok hc h0 i (by omega)
  have hoj := h.ok hc h0 j hj
  have hsame : Same m N (f j) (f i) := by
    refine ⟨fun r hr => (he r hr).symm, fun r c hr hcN => ?_⟩
    have h1 := h.rs hc (rs_row hoi hr) (j - i) (by omega)
    rw [show i + (j - i) = j by omega] at h1
    rw [h1 c hcN, sm_congr (g := fun x => if x = r then (f j).T x c else 0) fun x hx => by
      rw [← he x hx, hoi.unit x r hx hr]
      by_cases hxr : x = r
      · rw [if_pos hxr, if_pos hxr.symm]; grind
      · rw [if_neg hxr, if_neg (by omega)]; grind]
    exact (sm_one (fun x => (f j).T x c) hr).symm
  obtain ⟨n, hn⟩ : ∃ n, n = j - i := ⟨_, rfl⟩
  have hmod : ∀ t, t % n < n := fun t => Nat.mod_lt t (by omega)
  let g : Nat → Tab := fun t => Nat.rec (f i) (fun t s => piv s (L (i + t % n)) (E (i + t % n))) t
  have hg : ∀ t, Same m N (g t) (f (i + t % n)) := fun t => by
    induction t with
    | zero => rw [Nat.zero_mod]; exact Same.refl _
    | succ t ih =>
      have hlt := hmod t
      have h1 : Same m N (g (t + 1)) (f (i + t % n + 1)) := by
        rw [h.next (i + t % n) (by omega)]
        exact same_piv ih (h.lea _ (by omega)).lt (by have := (h.ent (i + t % n) (by omega)).lt; omega)
      by_cases hw : t % n + 1 < n
      · rw [show (t + 1) % n = t % n + 1 by rw [Nat.add_mod, Nat.mod_eq_of_lt (show 1 < n by omega), Nat.mod_eq_of_lt hw]]
        exact h1
      · have e : (t + 1) % n = 0 := by
          have h2 := Nat.div_add_mod t n
          rw [show t + 1 = n * (t / n + 1) by rw [Nat.mul_add]; omega, Nat.mul_mod_right]
        rw [e, Nat.add_zero]
        rw [show i + t % n + 1 = j by omega] at h1
        exact h1.trans hsame
  refine no_cycle (n := n) hc (by omega) g (fun t => E (i + t % n)) (fun t => L (i + t % n)) (show Ok m N (f i) from hoi) (fun t => same_ent (hg t) hc (h.ent _ (by have := hmod t; omega)))
    (fun t => same_lea (hg t) (by have := (h.ent (i + t % n) (by have := hmod t; omega)).lt; omega) (h.lea _ (by have := hmod t; omega))) (fun _ => rfl) fun t => ?_
  have h1 := hg (t + n)
  rw [Nat.add_mod_right] at h1
  exact h1.trans (hg t).symm
end
/-- A list of columns as one number. -/
def enc (N : Nat) (B : Nat → Nat) : Nat → Nat
  | 0 => 0
  | m + 1 => enc N B m + B m * N ^ m
theorem enc_lt {N : Nat} {B : Nat → Nat} : ∀ {m : Nat}, (∀ i, i < m → B i < N) → enc N B m < N ^ m
  | 0, _ => by rw [enc]; simp
  | m + 1, h => by
    have ih := enc_lt (m := m) fun i hi => h i (by omega)
    have hm := h m (by omega)
    rw [enc, Nat.pow_succ]
    have : (B m + 1) * N ^ m ≤ N * N ^ m := Nat.mul_le_mul_right _ hm
    rw [Nat.add_mul, Nat.one_mul] at this
    rw [Nat.mul_comm (N ^ m) N]
    omega
theorem enc_inj {N : Nat} {B C : Nat → Nat} : ∀ {m : Nat}, (∀ i, i < m → B i < N) → (∀ i, i < m → C i < N) → enc N B m = enc N C m → ∀ i, i < m → B i = C i
  | 0, _, _, _, i, hi => absurd hi (Nat.not_lt_zero _)
  | m + 1, hB, hC, h, i, hi => by
    have b1 := enc_lt (m := m) fun i hi => hB i (by omega)
    have c1 := enc_lt (m := m) fun i hi => hC i (by omega)
    rw [enc, enc] at h
    have hb := congrArg (· / N ^ m) h
    rw [Nat.add_mul_div_right _ _ (by omega), Nat.add_mul_div_right _ _ (by omega), Nat.div_eq_of_lt b1, Nat.div_eq_of_lt c1, Nat.zero_add, Nat.zero_add] at hb
    by_cases him : i = m
    · subst him; exact hb
    · rw [hb] at h
      exact enc_inj (m := m) (fun i hi => hB i (by omega)) (fun i hi => hC i (by omega)) (by omega) i (by omega)
theorem nodup_lt : ∀ (R : Nat) (l : List Nat), l.Nodup → (∀ x ∈ l, x < R) → l.length ≤ R
  | 0, l, _, h => by
    cases l with
    | nil => exact Nat.le_refl _
    | cons x l => exact absurd (h x List.mem_cons_self) (Nat.not_lt_zero _)
  | R + 1, l, hn, h => by
    have ih := nodup_lt R (l.erase R) (hn.erase R) fun x hx => by
      have := (List.Nodup.mem_erase_iff hn).1 hx
      have := h x this.2
      omega
    by_cases hR : R ∈ l
    · rw [List.length_erase_of_mem hR] at ih; omega
    · rw [List.erase_of_not_mem hR] at ih; omega
/-- A walk by Bland's rule ends. -/
theorem way_len {m N cnt k : Nat} {cost : Nat → Rat} {f : Nat → Tab} {E L : Nat → Nat} (h : Way m N cnt cost k f E L) (hc : cnt ≤ N) (h0 : Ok m N (f 0)) : k < N ^ m := by
  refine Classical.byContradiction fun hn => ?_
  have hB : ∀ j, j ≤ k → ∀ i, i < m → (f j).B i < N := fun j hj => (h.ok hc h0 j hj).bas
  have hnd : ((List.range (k + 1)).map fun j => enc N (f j).B m).Nodup := by
    rw [List.nodup_iff_pairwise_ne, List.pairwise_map]
    refine List.Pairwise.imp_of_mem (fun {a b} ha hb (hab : a < b) => ?_) List.pairwise_lt_range
    have ha := List.mem_range.1 ha
    have hb := List.mem_range.1 hb
    exact fun he => no_repeat h hc h0 hab (by omega) (enc_inj (hB a (by omega)) (hB b (by omega)) he)
  have := nodup_lt (N ^ m) _ hnd fun x hx => by
    obtain ⟨j, hj, rfl⟩ := List.mem_map.1 hx
    exact enc_lt (hB j (by have := List.mem_range.1 hj; omega))
  rw [List.length_map, List.length_range] at this
  omega
end Go.Bl
/- Sizes of the numbers in a tableau, by determinants: plain facts, no program in sight. -/
namespace Go.Bl
open Go.Det
def fact : Nat → Nat
  | 0 => 1
  | n + 1 => (n + 1) * fact n
def wprod (w : Nat → Nat) : List Nat → Nat
  | [] => 1
  | c :: cs => w c * wprod w cs
theorem wprod_app (w : Nat → Nat) : ∀ p q : List Nat, wprod w (p ++ q) = wprod w p * wprod w q
  | [], q => by simp [wprod]
  | c :: p, q => by rw [List.cons_append, wprod, wprod, wprod_app w p q, Nat.mul_assoc]
theorem wprod_mid (w : Nat → Nat) (p : List Nat) (c : Nat) (q : List Nat) : w c * wprod w (p ++ q) = wprod w (p ++ c :: q) := by
  rw [wprod_app, wprod_app, wprod]
  grind
theorem spl_bd {g : List Nat → Nat → List Nat → Int} (K : Nat) : ∀ (cs pre : List Nat), (∀ p c q, p ++ c :: q = pre ++ cs → (g p c q).natAbs ≤ K) → (spl g pre cs).natAbs ≤ cs.length * K
  | [], _, _ => by simp [spl]
  | c :: post, pre, h => by
    have h1 := h pre c post rfl
    have h2 := spl_bd K post (pre ++ [c]) fun p d q e => h p d q (by simpa using e)
    rw [spl, List.length_cons, Nat.add_mul, Nat.one_mul]
    omega
theorem sg_abs (k : Nat) : (sg k).natAbs = 1 := by rcases sg_or k with h | h <;> rw [h] <;> rfl
/-- The bound of Leibniz: so many products, each at most the product of the columns' bounds. -/
theorem minr_leib (A : Nat → Nat → Int) (w : Nat → Nat) : ∀ (rs cs : List Nat), rs.length = cs.length → (∀ r ∈ rs, ∀ c ∈ cs, (A r c).natAbs ≤ w c) → (minr A rs cs).natAbs ≤ fact rs.length * wprod w cs
  | [], cs, hl, _ => by
    have : cs = [] := List.eq_nil_of_length_eq_zero (by simpa using hl.symm)
    subst this
    exact Nat.le_refl _
  | r :: rs, cs, hl, h => by
    rw [minr_cons]
    have := spl_bd (g := fun p c q => sg p.length * (A r c * minr A rs (p ++ q))) (fact rs.length * wprod w cs) cs [] fun p c q e => by
      have e : p ++ c :: q = cs := e
      subst e
      have h1 := h r List.mem_cons_self c (by simp)
      have h2 := minr_leib A w rs (p ++ q) (by simp at hl ⊢; omega) fun r' hr' c' hc' => h r' (List.mem_cons_of_mem _ hr') c' (by simp at hc' ⊢; rcases hc' with h | h; exact .inl h; exact .inr (.inr h))
      rw [Int.natAbs_mul, Int.natAbs_mul, sg_abs, Nat.one_mul]
      have h3 := Nat.mul_le_mul h1 h2
      rw [← wprod_mid w p c q]
      calc _ ≤ w c * (fact rs.length * wprod w (p ++ q)) := h3
        _ = _ := by grind
    rw [List.length_cons, fact]
    have hl' : cs.length = rs.length + 1 := by simpa using hl.symm
    rw [hl'] at this
    calc _ ≤ (rs.length + 1) * (fact rs.length * wprod w cs) := this
      _ = _ := by grind
theorem cast_sum (f : Nat → Int) : ∀ n : Nat, ((sumR f n : Int) : Rat) = sm n fun i => (f i : Rat)
  | 0 => rfl
  | n + 1 => by rw [sumR, sm, Rat.intCast_add, cast_sum f n]
theorem whole_den (t : Rat) : ((t.num : Int) : Rat) = ((t.den : Int) : Rat) * t := by
  have h : t = (t.num : Rat) / ((t.den : Int) : Rat) := by
    rw [← Rat.divInt_eq_div]
    exact (Rat.num_divInt_den t).symm
  have hd : ((t.den : Int) : Rat) ≠ 0 := fun h0 => by
    have := Rat.intCast_inj.1 (h0.trans (by rfl : (0 : Rat) = ((0 : Int) : Rat)))
    have := t.den_pos
    omega
  grind
theorem common (t : Nat → Rat) : ∀ m : Nat, ∃ (d : Int) (n : Nat → Int), d ≠ 0 ∧ ∀ i, i < m → (n i : Rat) = (d : Rat) * t i
  | 0 => ⟨1, fun _ => 0, by decide, fun i hi => absurd hi (Nat.not_lt_zero _)⟩
  | m + 1 => by
    obtain ⟨d, n, hd, hn⟩ := common t m
    refine ⟨d * (t m).den, fun i => if i = m then d * (t m).num else n i * (t m).den, ?_, fun i hi => ?_⟩
    · have := (t m).den_pos
      exact Int.mul_ne_zero hd (by omega)
    · dsimp only
      by_cases him : i = m
      · subst him
        rw [if_pos rfl, Rat.intCast_mul, Rat.intCast_mul, whole_den]
        grind
      · rw [if_neg him, Rat.intCast_mul, Rat.intCast_mul, hn i (by omega)]
        grind
/-- The columns of the basis, in the equations as they were. -/
def matB (orig : Nat → Nat → Int) (s : Tab) : Nat → Nat → Int := fun j i => orig j (s.B i)
def detB (m : Nat) (orig : Nat → Nat → Int) (s : Tab) : Int := minr (matB orig s) (List.range m) (List.range m)
def numB (m : Nat) (orig : Nat → Nat → Int) (s : Tab) (i k : Nat) : Int := minr (rep (matB orig s) i fun j => orig j k) (List.range m) (List.range m)
/-- Each number of a tableau is a quotient of two determinants. -/
theorem tab_det {m N : Nat} {orig : Nat → Nat → Int} {s : Tab} (h : ∀ j, j < m → RS m N s fun k => (orig j k : Rat)) {i k : Nat} (hi : i < m) (hk : k ≤ N) : s.T i k * (detB m orig s : Rat) = (numB m orig s i k : Rat) := by
  obtain ⟨d, n, hd, hn⟩ := common (fun i => s.T i k) m
  have hd' : (d : Rat) ≠ 0 := fun h0 => hd (Rat.intCast_inj.1 (h0.trans (by rfl : (0 : Rat) = ((0 : Int) : Rat))))
  have hb : ∀ r ∈ List.range m, d * orig r k + 0 * orig r k = Det.comb (matB orig s) n (List.range m) r := fun r hr => by
    have hr := List.mem_range.1 hr
    rw [comb_range]
    refine Rat.intCast_inj.1 ?_
    have e := h r hr k hk
    dsimp only at e
    rw [cast_sum, Int.zero_mul, Int.add_zero, Rat.intCast_mul, e]
    rw [show (d : Rat) * (sm m fun i => (orig r (s.B i) : Rat) * s.T i k) = (sm m fun i => (orig r (s.B i) : Rat) * s.T i k) * (d : Rat) by grind, ← sm_mul]
    refine sm_congr fun x hx => ?_
    rw [Rat.intCast_mul, hn x hx]
    show _ = (d : Rat) * s.T x k * (orig r (s.B x) : Rat)
    grind
  have h1 := cramer (matB orig s) n (fun j => d * orig j k + 0 * orig j k) i (List.range m) (List.range m) rfl List.nodup_range (List.mem_range.2 hi) hb
  rw [rep_lin (matB orig s) i (fun j => orig j k) (fun j => orig j k) d 0 (List.range m) (List.range m) rfl List.nodup_range (List.mem_range.2 hi), Int.zero_mul, Int.add_zero] at h1
  have h2 := congrArg (fun x : Int => (x : Rat)) h1
  rw [Rat.intCast_mul, Rat.intCast_mul, hn i hi] at h2
  show s.T i k * ((minr (matB orig s) (List.range m) (List.range m) : Int) : Rat) = ((minr (rep (matB orig s) i fun j => orig j k) (List.range m) (List.range m) : Int) : Rat)
  grind
/-- A pivot multiplies the determinant of the basis. -/
theorem det_piv {m N : Nat} {orig : Nat → Nat → Int} {s : Tab} (h : ∀ j, j < m → RS m N s fun k => (orig j k : Rat)) {r e : Nat} (hr : r < m) (he : e ≤ N) : (detB m orig (piv s r e) : Rat) = s.T r e * (detB m orig s : Rat) := by
  rw [tab_det h hr he]
  have : matB orig (piv s r e) = rep (matB orig s) r fun j => orig j e := by
    funext j i
    unfold matB rep piv
    dsimp only
    split <;> rfl
  unfold detB numB
  rw [this]
/-- What a quotient of whole numbers looks like in lowest terms. -/
theorem small_of {t : Rat} {p q : Int} (hq : q ≠ 0) (h : t * (q : Rat) = (p : Rat)) : t.num.natAbs ≤ p.natAbs ∧ t.den ≤ q.natAbs := by
  have hq' : (q : Rat) ≠ 0 := fun h0 => hq (Rat.intCast_inj.1 (h0.trans (by rfl : (0 : Rat) = ((0 : Int) : Rat))))
  have e : t = Rat.divInt p q := by rw [Rat.divInt_eq_div]; grind
  rw [e, Rat.num_divInt, Rat.den_divInt, if_neg hq]
  constructor
  · refine Nat.le_trans (Int.natAbs_ediv_le_natAbs _ _) ?_
    rw [Int.natAbs_mul]
    have : q.sign.natAbs ≤ 1 := by
      rcases Int.lt_trichotomy q 0 with h | h | h
      · rw [Int.sign_eq_neg_one_of_neg h]; decide
      · exact absurd h hq
      · rw [Int.sign_eq_one_of_pos h]; decide
    have := Nat.mul_le_mul_right p.natAbs this
    omega
  · exact Nat.div_le_self _ _
end Go.Bl
/- What a tableau says where no column is worth it: plain facts, no program in sight. -/
namespace Go.Bl
theorem sm_comm (m n : Nat) (f : Nat → Nat → Rat) : sm m (fun i => sm n (f i)) = sm n (fun j => sm m fun i => f i j) := by
  induction m with
  | zero => rw [sm]; exact (sm_zero n).symm
  | succ m ih =>
    rw [sm, ih, ← sm_add]
    rfl
theorem sm_le {n : Nat} {f g : Nat → Rat} (h : ∀ k, k < n → f k ≤ g k) : sm n f ≤ sm n g := by
  induction n with
  | zero => exact Rat.le_refl
  | succ n ih =>
    have h1 := ih fun k hk => h k (by omega)
    have h2 := h n (by omega)
    rw [sm, sm]
    grind
theorem sm_nonneg {n : Nat} {f : Nat → Rat} (h : ∀ k, k < n → 0 ≤ f k) : 0 ≤ sm n f := by
  have := sm_le (f := fun _ => 0) h
  rwa [sm_zero] at this
/-- A sum of numbers that are not below 0 is 0 only if all are. -/
theorem sm_all0 : ∀ {n : Nat} {f : Nat → Rat}, (∀ k, k < n → 0 ≤ f k) → sm n f = 0 → ∀ k, k < n → f k = 0
  | 0, _, _, _, k, hk => absurd hk (Nat.not_lt_zero _)
  | n + 1, f, h, h0, k, hk => by
    have h1 := sm_nonneg (n := n) fun k hk => h k (by omega)
    have h2 := h n (by omega)
    rw [sm] at h0
    by_cases hkn : k = n
    · subst hkn; grind
    · exact sm_all0 (n := n) (fun k hk => h k (by omega)) (by grind) k (by omega)
/-- A point that satisfies the rows. -/
def Sat (m N : Nat) (s : Tab) (x : Nat → Rat) : Prop := ∀ i, i < m → sm N (fun k => s.T i k * x k) = s.T i N
section
variable {m N cnt : Nat} {cost : Nat → Rat} {s : Tab}
theorem sat_piv {x : Nat → Rat} (h : Sat m N s x) {r e : Nat} (hr : r < m) : Sat m N (piv s r e) x := fun i hi => by
  have h1 := h r hr
  have h2 := h i hi
  unfold piv
  dsimp only
  by_cases hir : i = r
  · rw [if_pos hir]
    rw [sm_congr (g := fun k => s.T r k * x k * (1 / s.T r e)) fun k _ => by rw [if_pos hir]; grind, sm_mul, h1]
    grind
  · rw [if_neg hir]
    rw [sm_congr (g := fun k => s.T i k * x k - s.T r k * x k * (s.T i e / s.T r e)) fun k _ => by rw [if_neg hir]; grind, sm_sub, sm_mul, h1, h2]
    grind
/-- The point that a tableau stands for. -/
def pt (m N : Nat) (s : Tab) (k : Nat) : Rat := sm m fun i => if s.B i = k then s.T i N else 0
theorem pt_pos (h : Ok m N s) (k : Nat) : 0 ≤ pt m N s k := sm_nonneg fun i hi => by
  split
  · exact h.pos i hi
  · exact Rat.le_refl
theorem pt_sum (h : Ok m N s) (f : Nat → Rat) : sm N (fun k => f k * pt m N s k) = sm m fun i => f (s.B i) * s.T i N := by
  unfold pt
  rw [sm_congr (g := fun k => sm m fun i => if s.B i = k then f k * s.T i N else 0) fun k _ => by
    rw [show (f k * sm m fun i => if s.B i = k then s.T i N else 0) = (sm m fun i => if s.B i = k then s.T i N else 0) * f k by grind, ← sm_mul]
    refine sm_congr fun i _ => ?_
    split <;> grind, sm_comm]
  refine sm_congr fun i hi => ?_
  have := sm_one (fun k => f k * s.T i N) (h.bas i hi)
  rw [← this]
  refine sm_congr fun k _ => ?_
  by_cases hk : k = s.B i
  · rw [if_pos hk, if_pos hk.symm]
  · rw [if_neg hk, if_neg fun he => hk he.symm]
/-- The point satisfies what follows from the rows. -/
theorem pt_rs (h : Ok m N s) {f : Nat → Rat} (hf : RS m N s f) : sm N (fun k => f k * pt m N s k) = f N := by
  rw [pt_sum h, ← hf N (Nat.le_refl _)]
/-- Where no column is worth it, no point is worth more. -/
theorem optimum {x : Nat → Rat} (hg : ∀ k, k < cnt → gain m cost s k ≤ 0) (hx : ∀ k, k < N → 0 ≤ x k) (h0 : ∀ k, cnt ≤ k → k < N → x k = 0) (hs : Sat m N s x) : sm N (fun k => cost k * x k) ≤ y m cost s N := by
  have e : sm N (fun k => y m cost s k * x k) = y m cost s N := by
    unfold y
    rw [sm_congr (g := fun k => sm m fun i => cost (s.B i) * s.T i k * x k) fun k _ => by rw [sm_mul], sm_comm]
    refine sm_congr fun i hi => ?_
    rw [sm_congr (g := fun k => s.T i k * x k * cost (s.B i)) fun k _ => by grind, sm_mul, hs i hi]
    grind
  rw [← e]
  refine sm_le fun k hk => ?_
  by_cases hkc : k < cnt
  · have h1 := hg k hkc
    unfold gain at h1
    have h2 := hx k hk
    have := Rat.mul_nonneg (show 0 ≤ y m cost s k - cost k by grind) h2
    grind
  · rw [h0 k (by omega) hk]; grind
/-- Where nothing can be won, a column without a positive number is not worth it. -/
theorem no_leave {e : Nat} (hl : ∀ i, i < m → s.T i e ≤ 0) (hcost : ∀ i, i < m → cost (s.B i) ≤ 0) (he : cost e ≤ 0) : gain m cost s e ≤ 0 := by
  unfold gain y
  have : 0 ≤ sm m fun i => cost (s.B i) * s.T i e := sm_nonneg fun i hi => by
    have h1 := hl i hi
    have h2 := hcost i hi
    have := Rat.mul_nonneg (show 0 ≤ - cost (s.B i) by grind) (show 0 ≤ - s.T i e by grind)
    grind
  grind
end
end Go.Bl
