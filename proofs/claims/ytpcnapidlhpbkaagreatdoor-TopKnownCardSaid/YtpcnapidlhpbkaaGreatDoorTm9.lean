/- Contracts of functions of the given program, and lemmas. -/
import Derived.Test.YtpcnapidlhpbkaaGreatDoorTm8
set_option maxHeartbeats 32000000
set_option maxRecDepth 10000
namespace Go.Proofs.YtpcnapidlhpbkaaGreatDoor
open Go.Eng
attribute [local irreducible] opK wpList Code.wp Exit.then Exit.inBlock fnPost bodyPost Nx Calls Oper.wp Rd Rds Wr Ent Stars Blk Again Vec FnSpec wpMix QRun Stop Upto wpAt
theorem add_mul_bd {a b : Int} (ha : a.natAbs ≤ 1329227995784915872903807060280344576) (hb : b.natAbs ≤ 1329227995784915872903807060280344576) : (a + b).natAbs < H127 ∧ (a - b).natAbs < H127:=by
 unfold H127; omega
theorem Add_spec (n d m e : Int) (hn : I64 n) (hd : I64 d) (hm : I64 m) (he : I64 e) (I : PH) (hT : TabI I) : FnSpec Tryz.prog 163 [fracV n d,fracV m e] I [] (fun v R' => v = opV n d m e (Rat.divInt n d + Rat.divInt m e) ∧ R' = []):=by
 have hc:=combine_spec n d m e hn hd hm he I hT 213 (fun a b => a + b) (by kernel_rfl) (fun a b => plus_spec a b I) (fun a b ha hb => (add_mul_bd ha hb).1)
 rw [show opV n d m e (Rat.divInt ((fun a b : Int => a + b) (n * e) (m * d)) (d * e)) = opV n d m e (Rat.divInt n d + Rat.divInt m e) from opV_congr fun h => by
  rw [Rat.divInt_add_divInt _ _ (by have:=h.1.1; omega) (by have:=h.2.1; omega)]] at hc
 refine FnSpec.enterP Tryz.func163 rfl Tryz.ntmps163 rfl fun w F => ?_
 by_cases h : FOk n d ∧ FOk m e
 ·unfold opV at *
  rw [if_pos h] at *
  repeat' first | refine kW ?_ | (refine Nx.zo ?_; first | refine kP ?_ | refine kV (hc) ?_) | refine kS ?_ | refine kB fun bx => ?_ | refine kA fun A2 c2 => ?_ | refine kX (fun hc => ?_) fun hc => ?_ | fail
  exact Nx.ret2 rfl (ROne.cell 0 rfl rfl rfl rfl rfl) (ROne.tmp rfl) [] ⟨rfl,rfl⟩ (by exact zE)
 ·unfold opV at *
  rw [if_neg h] at *
  repeat' first | refine kW ?_ | (refine Nx.zo ?_; first | refine kP ?_ | refine kV (hc) ?_) | refine kS ?_ | refine kB fun bx => ?_ | refine kA fun A2 c2 => ?_ | refine kX (fun hc => ?_) fun hc => ?_ | fail
  exact Nx.ret2 rfl (ROne.cell 0 rfl rfl rfl rfl rfl) (ROne.tmp rfl) [] ⟨rfl,rfl⟩ (by exact zE)
theorem Sub_spec (n d m e : Int) (hn : I64 n) (hd : I64 d) (hm : I64 m) (he : I64 e) (I : PH) (hT : TabI I) : FnSpec Tryz.prog 221 [fracV n d,fracV m e] I [] (fun v R' => v = opV n d m e (Rat.divInt n d - Rat.divInt m e) ∧ R' = []):=by
 have hc:=combine_spec n d m e hn hd hm he I hT 169 (fun a b => a - b) (by kernel_rfl) (fun a b => minus_spec a b I) (fun a b ha hb => (add_mul_bd ha hb).2)
 rw [show opV n d m e (Rat.divInt ((fun a b : Int => a - b) (n * e) (m * d)) (d * e)) = opV n d m e (Rat.divInt n d - Rat.divInt m e) from opV_congr fun h => by
  rw [Rat.divInt_sub_divInt _ _ (by have:=h.1.1; omega) (by have:=h.2.1; omega)]] at hc
 refine FnSpec.enterP Tryz.func221 rfl Tryz.ntmps221 rfl fun w F => ?_
 by_cases h : FOk n d ∧ FOk m e
 ·unfold opV at *
  rw [if_pos h] at *
  repeat' first | refine kW ?_ | (refine Nx.zo ?_; first | refine kP ?_ | refine kV (hc) ?_) | refine kS ?_ | refine kB fun bx => ?_ | refine kA fun A2 c2 => ?_ | refine kX (fun hc => ?_) fun hc => ?_ | fail
  exact Nx.ret2 rfl (ROne.cell 0 rfl rfl rfl rfl rfl) (ROne.tmp rfl) [] ⟨rfl,rfl⟩ (by exact zE)
 ·unfold opV at *
  rw [if_neg h] at *
  repeat' first | refine kW ?_ | (refine Nx.zo ?_; first | refine kP ?_ | refine kV (hc) ?_) | refine kS ?_ | refine kB fun bx => ?_ | refine kA fun A2 c2 => ?_ | refine kX (fun hc => ?_) fun hc => ?_ | fail
  exact Nx.ret2 rfl (ROne.cell 0 rfl rfl rfl rfl rfl) (ROne.tmp rfl) [] ⟨rfl,rfl⟩ (by exact zE)
theorem Mul_spec (n d m e : Int) (hn : I64 n) (hd : I64 d) (hm : I64 m) (he : I64 e) (I : PH) (hT : TabI I) : FnSpec Tryz.prog 104 [fracV n d,fracV m e] I [] (fun v R' => v = opV n d m e (Rat.divInt n d * Rat.divInt m e) ∧ R' = []):=by
 unfold opV
 by_cases h1 : FOk n d
 ·by_cases h2 : FOk m e
  ·obtain ⟨a1,a2,a3⟩:=fok_abs h1
   obtain ⟨b1,b2,b3⟩:=fok_abs h2
   rw [if_pos ⟨h1,h2⟩,Rat.divInt_mul_divInt]
   have hde:=prod_bd a2 b2
   have hnm:=prod_bd a1 b1
   have hpos : 0 < d * e:=Int.mul_pos a3 b3
   refine FnSpec.enterP Tryz.func104 rfl Tryz.ntmps104 rfl fun w F => ?_
   repeat' first | ((with_reducible refine Nx.is_wp ?_); first | refine Nx.wo ?_ | refine kF 3 [0,1,3,4,7,8,10,11,2,5,6,9,12,13,14,15,16] [2,5,6,9,12,13,14] [17,18] ?_) | (refine Nx.zo ?_; first | refine kP ?_ | refine kV (Valid_t h1 I) ?_ | refine kV (Valid_t h2 I) ?_ | refine Nx.callv rfl rfl rfl (by kernel_rfl) rfl (whole_spec _ hn I) ?_ | refine Nx.callv rfl rfl rfl (by kernel_rfl) rfl (whole_spec _ hd I) ?_ | refine Nx.callv rfl rfl rfl (by kernel_rfl) rfl (whole_spec _ hm I) ?_ | refine Nx.callv rfl rfl rfl (by kernel_rfl) rfl (whole_spec _ he I) ?_ | refine Nx.callv rfl rfl rfl (by kernel_rfl) rfl (times_spec _ _ I) ?_ | refine Nx.callv rfl rfl rfl (by kernel_rfl) rfl (Reduced_spec _ _ (by unfold H127; omega) (by omega) (by unfold H127; omega) I hT) ?_) | refine kS ?_ | refine kB fun bx => ?_ | refine kA fun A2 c2 => ?_ | refine kX (fun hc => ?_) fun hc => ?_ | fail
   exact Nx.ret2 rfl (ROne.cell 0 rfl rfl rfl rfl rfl) (ROne.tmp rfl) [] ⟨rfl,rfl⟩ (by exact zE)
  ·rw [if_neg (fun h => h2 h.2)]
   refine FnSpec.enterP Tryz.func104 rfl Tryz.ntmps104 rfl fun w F => ?_
   repeat' first | refine kW ?_ | (refine Nx.zo ?_; first | refine kP ?_ | refine kV (Valid_t h1 I) ?_ | refine kV (Valid_f hm he h2 I) ?_) | refine kS ?_ | refine kB fun bx => ?_ | refine kA fun A2 c2 => ?_ | refine kX (fun hc => ?_) fun hc => ?_ | fail
   exact Nx.ret2 rfl (ROne.cell 0 rfl rfl rfl rfl rfl) (ROne.tmp rfl) [] ⟨rfl,rfl⟩ (by exact zE)
 ·rw [if_neg (fun h => h1 h.1)]
  refine FnSpec.enterP Tryz.func104 rfl Tryz.ntmps104 rfl fun w F => ?_
  repeat' first | refine kW ?_ | (refine Nx.zo ?_; first | refine kP ?_ | refine kV (Valid_f hn hd h1 I) ?_) | refine kS ?_ | refine kB fun bx => ?_ | refine kA fun A2 c2 => ?_ | refine kX (fun hc => ?_) fun hc => ?_ | fail
  exact Nx.ret2 rfl (ROne.cell 0 rfl rfl rfl rfl rfl) (ROne.tmp rfl) [] ⟨rfl,rfl⟩ (by exact zE)
theorem Div_spec (n d m e : Int) (hn : I64 n) (hd : I64 d) (hm : I64 m) (he : I64 e) (I : PH) (hT : TabI I) : FnSpec Tryz.prog 220 [fracV n d,fracV m e] I [] (fun v R' => v = divV n d m e ∧ R' = []):=by
 unfold divV
 by_cases h1 : FOk n d
 ·by_cases h2 : FOk m e
  ·obtain ⟨a1,a2,a3⟩:=fok_abs h1
   obtain ⟨b1,b2,b3⟩:=fok_abs h2
   rw [if_pos ⟨h1,h2⟩]
   by_cases h0 : m = 0
   ·rw [if_pos h0]
    subst h0
    refine FnSpec.enterP Tryz.func220 rfl Tryz.ntmps220 rfl fun w F => ?_
    repeat' first | refine kW ?_ | (refine Nx.zo ?_; first | refine kP ?_ | refine kV (Valid_t h1 I) ?_ | refine kV (Valid_t h2 I) ?_) | refine kS ?_ | refine kB fun bx => ?_ | refine kA fun A2 c2 => ?_ | refine kX (fun hc => ?_) fun hc => ?_ | fail
    exact Nx.ret2 rfl (ROne.cell 0 rfl rfl rfl rfl rfl) (ROne.tmp rfl) [] ⟨rfl,rfl⟩ (by exact zE)
   ·rw [if_neg h0,rat_div_eq,Int.mul_comm d m]
    have hmd:=prod_bd b1 a2
    rw [Int.mul_comm] at hmd
    have hne:=prod_bd a1 b2
    have hnz : m * d ≠ 0:=Int.mul_ne_zero (by omega) (by omega)
    refine FnSpec.enterP Tryz.func220 rfl Tryz.ntmps220 rfl fun w F => ?_
    repeat' first | refine kW ?_ | (refine Nx.zo ?_; first | refine kP ?_ | refine kV (Valid_t h1 I) ?_ | refine kV (Valid_t h2 I) ?_ | refine kV (crossed_spec n d m e hn hd hm he I) ?_ | refine Nx.callv rfl rfl rfl (by kernel_rfl) rfl (whole_spec _ hn I) ?_ | refine Nx.callv rfl rfl rfl (by kernel_rfl) rfl (whole_spec _ hd I) ?_ | refine Nx.callv rfl rfl rfl (by kernel_rfl) rfl (whole_spec _ hm I) ?_ | refine Nx.callv rfl rfl rfl (by kernel_rfl) rfl (whole_spec _ he I) ?_ | refine Nx.callv rfl rfl rfl (by kernel_rfl) rfl (times_spec _ _ I) ?_ | refine Nx.callv rfl rfl rfl (by kernel_rfl) rfl (Reduced_spec _ _ (by unfold H127; omega) hnz (by unfold H127; first | omega | (rw [Int.mul_comm]; omega)) I hT) ?_) | refine kS ?_ | refine kB fun bx => ?_ | refine kA fun A2 c2 => ?_ | refine kX (fun hc => ?_) fun hc => ?_ | fail
    exact Nx.ret2 rfl (ROne.cell 0 rfl rfl rfl rfl rfl) (ROne.tmp rfl) [] ⟨rfl,rfl⟩ (by exact zE)
  ·rw [if_neg (fun h => h2 h.2)]
   refine FnSpec.enterP Tryz.func220 rfl Tryz.ntmps220 rfl fun w F => ?_
   repeat' first | refine kW ?_ | (refine Nx.zo ?_; first | refine kP ?_ | refine kV (Valid_t h1 I) ?_ | refine kV (Valid_f hm he h2 I) ?_) | refine kS ?_ | refine kB fun bx => ?_ | refine kA fun A2 c2 => ?_ | refine kX (fun hc => ?_) fun hc => ?_ | fail
   exact Nx.ret2 rfl (ROne.cell 0 rfl rfl rfl rfl rfl) (ROne.tmp rfl) [] ⟨rfl,rfl⟩ (by exact zE)
 ·rw [if_neg (fun h => h1 h.1)]
  refine FnSpec.enterP Tryz.func220 rfl Tryz.ntmps220 rfl fun w F => ?_
  repeat' first | refine kW ?_ | (refine Nx.zo ?_; first | refine kP ?_ | refine kV (Valid_f hn hd h1 I) ?_) | refine kS ?_ | refine kB fun bx => ?_ | refine kA fun A2 c2 => ?_ | refine kX (fun hc => ?_) fun hc => ?_ | fail
  exact Nx.ret2 rfl (ROne.cell 0 rfl rfl rfl rfl rfl) (ROne.tmp rfl) [] ⟨rfl,rfl⟩ (by exact zE)
theorem Less_spec (n d m e : Int) (hn : I64 n) (hd : I64 d) (hm : I64 m) (he : I64 e) (I : PH) : FnSpec Tryz.prog 106 [fracV n d,fracV m e] I [] (fun v R' => v = .bool (decide (FOk n d ∧ FOk m e ∧ n * e < m * d)) ∧ R' = []):=by
 by_cases h1 : FOk n d
 ·by_cases h2 : FOk m e
  ·obtain ⟨a1,a2,a3⟩:=fok_abs h1
   obtain ⟨b1,b2,b3⟩:=fok_abs h2
   rw [show decide (FOk n d ∧ FOk m e ∧ n * e < m * d) = decide (n * e < m * d) from decide_eq_decide.2 ⟨fun h => h.2.2,fun h => ⟨h1,h2,h⟩⟩]
   have hmd:=prod_bd b1 a2
   have hne:=prod_bd a1 b2
   have hw : InW (n * e - m * d):=by unfold InW; omega
   refine FnSpec.enterP Tryz.func106 rfl Tryz.ntmps106 rfl fun w F => ?_
   repeat' first | refine kW ?_ | (refine Nx.zo ?_; first | refine kP ?_ | refine kV (Valid_t h1 I) ?_ | refine kV (Valid_t h2 I) ?_ | refine kV (crossed_spec n d m e hn hd hm he I) ?_ | refine Nx.callv rfl rfl rfl (by kernel_rfl) rfl (whole_spec _ hn I) ?_ | refine Nx.callv rfl rfl rfl (by kernel_rfl) rfl (whole_spec _ hd I) ?_ | refine Nx.callv rfl rfl rfl (by kernel_rfl) rfl (whole_spec _ hm I) ?_ | refine Nx.callv rfl rfl rfl (by kernel_rfl) rfl (whole_spec _ he I) ?_ | refine Nx.callv rfl rfl rfl (by kernel_rfl) rfl (times_spec _ _ I) ?_ | refine Nx.callv rfl rfl rfl (by kernel_rfl) rfl (minus_spec _ _ I) ?_ | refine Nx.callv rfl rfl rfl (by kernel_rfl) rfl (sign_spec _ hw I) ?_) | refine kS ?_ | refine kB fun bx => ?_ | refine kA fun A2 c2 => ?_ | refine kX (fun hc => ?_) fun hc => ?_ | fail
   all_goals refine Nx.ret_fn rfl [] ⟨bool_congr ?_,rfl⟩ (by exact zE)
   all_goals first
    | (rw [Int.sign_neg_iff]; omega)
    | omega
  ·rw [decide_eq_false (fun h => h2 h.2.1)]
   refine FnSpec.enterP Tryz.func106 rfl Tryz.ntmps106 rfl fun w F => ?_
   repeat' first | refine kW ?_ | (refine Nx.zo ?_; first | refine kP ?_ | refine kV (crossed_spec n d m e hn hd hm he I) ?_ | refine kV (Valid_t h1 I) ?_ | refine kV (Valid_f hm he h2 I) ?_) | refine kS ?_ | refine kB fun bx => ?_ | refine kA fun A2 c2 => ?_ | refine kX (fun hc => ?_) fun hc => ?_ | fail
   exact kT
 ·rw [decide_eq_false (fun h => h1 h.1)]
  refine FnSpec.enterP Tryz.func106 rfl Tryz.ntmps106 rfl fun w F => ?_
  repeat' first | refine kW ?_ | (refine Nx.zo ?_; first | refine kP ?_ | refine kV (crossed_spec n d m e hn hd hm he I) ?_ | refine kV (Valid_f hn hd h1 I) ?_) | refine kS ?_ | refine kB fun bx => ?_ | refine kA fun A2 c2 => ?_ | refine kX (fun hc => ?_) fun hc => ?_ | fail
  exact kT
end Go.Proofs.YtpcnapidlhpbkaaGreatDoor
namespace Go.Proofs.YtpcnapidlhpbkaaGreatDoor
open Go.Eng
theorem part_frac0 (a b : Int) (w : World) : (part 3 #[.int .i64 a,.int .i64 b] 0).run Tryz.prog w = .ok (.int .i64 a) w:=run_of_pureRun (by kernel_rfl) w
theorem part_frac1 (a b : Int) (w : World) : (part 3 #[.int .i64 a,.int .i64 b] 1).run Tryz.prog w = .ok (.int .i64 b) w:=run_of_pureRun (by kernel_rfl) w
theorem eqFields_frac (a b c d : Int) (w : World) (fs : List Field) (hf : fs.map (fun f => (f.name, f.type, f.offset)) = [("Num", 3, 0), ("Den", 3, 1)]) :
  (Op.eqFields 9999 #[.int .i64 a, .int .i64 b] #[.int .i64 c, .int .i64 d] fs).run Tryz.prog w = .ok (a == c && b == d) w := by
 obtain ⟨f, g, rfl⟩ : ∃ f g, fs = [f, g] := by
  rcases fs with _ | ⟨f, _ | ⟨g, _ | ⟨k, r⟩⟩⟩
  ·simp at hf
  ·simp at hf
  ·exact ⟨f, g, rfl⟩
  ·simp at hf
 ·simp only [List.map_cons, List.map_nil, List.cons.injEq, Prod.mk.injEq, and_true] at hf
  obtain ⟨⟨h1, h2, h3⟩, h4, h5, h6⟩ := hf
  simp only [Op.eqFields, h1, h2, h3, h4, h5, h6]
  rw [if_pos (by decide), if_pos (by decide), Sem.run_bind, part_frac0, Result.andThen_ok, Sem.run_bind, part_frac0, Result.andThen_ok, Sem.run_bind, run_equalIn_int _ 9998 _ .i64 .i64 a c Tryz.underlying3, Result.andThen_ok]
  cases (a == c)
  ·rfl
  ·rw [if_neg (by decide), Sem.run_bind, part_frac1, Result.andThen_ok, Sem.run_bind, part_frac1, Result.andThen_ok, Sem.run_bind, run_equalIn_int _ 9998 _ .i64 .i64 b d Tryz.underlying3, Result.andThen_ok]
   cases (b == d) <;> rfl
theorem frac_bool (a b c d : Int) : (a == c && b == d) = decide (a = c ∧ b = d):=by
 rw [Bool.eq_iff_iff]
 simp
theorem eql_frac {x y : Operand} (a b c d : Int) (w : World) :
  (do eqGuard .eql 24 x y (.agg #[.int .i64 a,.int .i64 b]) (.agg #[.int .i64 c,.int .i64 d]); binOp .eql 24 (.agg #[.int .i64 a,.int .i64 b]) (.agg #[.int .i64 c,.int .i64 d])).run Tryz.prog w = .ok (.bool (decide (a = c ∧ b = d))) w:=by
 rw [Sem.run_bind,run_eqGuard_agg _ _ _ _ _ _ _ Tryz.eqGuardType24,Result.andThen_ok,run_eql_struct,run_equalIn_struct _ 9999 24 _ _ (by kernel_rfl) Tryz.stoodInHeld24,
  eqFields_frac a b c d w _ (by kernel_rfl),frac_bool]
 rfl
theorem neq_frac {x y : Operand} (a b c d : Int) (w : World) :
  (do eqGuard .neq 24 x y (.agg #[.int .i64 a,.int .i64 b]) (.agg #[.int .i64 c,.int .i64 d]); binOp .neq 24 (.agg #[.int .i64 a,.int .i64 b]) (.agg #[.int .i64 c,.int .i64 d])).run Tryz.prog w = .ok (.bool (decide (¬(a = c ∧ b = d)))) w:=by
 rw [Sem.run_bind,run_eqGuard_agg _ _ _ _ _ _ _ Tryz.eqGuardType24,Result.andThen_ok,run_neq_struct,run_equalIn_struct _ 9999 24 _ _ (by kernel_rfl) Tryz.stoodInHeld24,
  eqFields_frac a b c d w _ (by kernel_rfl),frac_bool,show decide (¬(a = c ∧ b = d)) = !decide (a = c ∧ b = d) by simp]
 rfl
attribute [local irreducible] opK wpList Code.wp Exit.then Exit.inBlock fnPost bodyPost Nx Calls Oper.wp Rd Rds Wr Ent Stars Blk Again Vec FnSpec wpMix QRun Stop Upto wpAt
theorem rLess_spec (n d m e : Int) (hn : I64 n) (hd : I64 d) (hm : I64 m) (he : I64 e) (I : PH) : FnSpec Tryz.prog 19 [fracV n d,fracV m e] I [] (fun v R' => v = .bool (decide (FOk n d ∧ FOk m e ∧ n * e < m * d)) ∧ R' = []):=by
 by_cases h1 : FOk n d
 ·by_cases h2 : FOk m e
  ·obtain ⟨a1,a2,a3⟩:=fok_abs h1
   obtain ⟨b1,b2,b3⟩:=fok_abs h2
   rw [show decide (FOk n d ∧ FOk m e ∧ n * e < m * d) = decide (n * e < m * d) from decide_eq_decide.2 ⟨fun h => h.2.2,fun h => ⟨h1,h2,h⟩⟩]
   have hmd:=prod_bd b1 a2
   have hne:=prod_bd a1 b2
   have hw : InW (n * e - m * d):=by unfold InW; omega
   refine FnSpec.enterP Tryz.func19 rfl Tryz.ntmps19 rfl fun w F => ?_
   repeat' first | ((with_reducible refine Nx.is_wp ?_); first | refine Nx.wo ?_ | refine kF 3 [0,1,3,4,7,8,10,11,2,5,6,9] [2,5,6,9] [12,13,14,15,16] ?_) | (refine Nx.zo ?_; first | refine kP ?_ | refine kV (rValid_t h1 I) ?_ | refine kV (rValid_t h2 I) ?_ | refine Nx.callv rfl rfl rfl (by kernel_rfl) rfl (from_spec _ hn I) ?_ | refine Nx.callv rfl rfl rfl (by kernel_rfl) rfl (from_spec _ hd I) ?_ | refine Nx.callv rfl rfl rfl (by kernel_rfl) rfl (from_spec _ hm I) ?_ | refine Nx.callv rfl rfl rfl (by kernel_rfl) rfl (from_spec _ he I) ?_ | refine Nx.callv rfl rfl rfl (by kernel_rfl) rfl (rtimes_spec _ _ I) ?_ | refine Nx.callv rfl rfl rfl (by kernel_rfl) rfl (rminus_spec _ _ I) ?_ | refine Nx.callv rfl rfl rfl (by kernel_rfl) rfl (negative_spec _ hw I) ?_) | refine kS ?_ | refine kB fun bx => ?_ | refine kA fun A2 c2 => ?_ | refine kX (fun hc => ?_) fun hc => ?_ | fail
   all_goals refine Nx.ret_fn rfl [] ⟨bool_congr ?_,rfl⟩ (by exact zE)
   all_goals first
    | (rw [Int.sign_neg_iff]; omega)
    | omega
  ·rw [decide_eq_false (fun h => h2 h.2.1)]
   refine FnSpec.enterP Tryz.func19 rfl Tryz.ntmps19 rfl fun w F => ?_
   repeat' first | refine kW ?_ | (refine Nx.zo ?_; first | refine kP ?_ | refine kV (rValid_t h1 I) ?_ | refine kV (rValid_f hm he h2 I) ?_) | refine kS ?_ | refine kB fun bx => ?_ | refine kA fun A2 c2 => ?_ | refine kX (fun hc => ?_) fun hc => ?_ | fail
   exact kT
 ·rw [decide_eq_false (fun h => h1 h.1)]
  refine FnSpec.enterP Tryz.func19 rfl Tryz.ntmps19 rfl fun w F => ?_
  repeat' first | refine kW ?_ | (refine Nx.zo ?_; first | refine kP ?_ | refine kV (rValid_f hn hd h1 I) ?_) | refine kS ?_ | refine kB fun bx => ?_ | refine kA fun A2 c2 => ?_ | refine kX (fun hc => ?_) fun hc => ?_ | fail
  exact kT
theorem rat_i64 {q : Rat} (h : RB q) : I64 q.num ∧ I64 q.den:=fok_i64 h.fok
theorem opV_rat {p q : Rat} (hp : RB p) (hq : RB q) (r : Rat) : opV p.num p.den q.num q.den r = redV r:=by
 unfold opV
 rw [if_pos ⟨hp.fok,hq.fok⟩]
theorem Add_rat (p q : Rat) (hp : RB p) (hq : RB q) (I : PH) (hT : TabI I) : FnSpec Tryz.prog 163 [ratV p,ratV q] I [] (fun v R' => v = redV (p + q) ∧ R' = []):=by
 have:=Add_spec p.num p.den q.num q.den (rat_i64 hp).1 (rat_i64 hp).2 (rat_i64 hq).1 (rat_i64 hq).2 I hT
 rw [opV_rat hp hq,Rat.num_divInt_den,Rat.num_divInt_den] at this
 exact this
theorem Sub_rat (p q : Rat) (hp : RB p) (hq : RB q) (I : PH) (hT : TabI I) : FnSpec Tryz.prog 221 [ratV p,ratV q] I [] (fun v R' => v = redV (p - q) ∧ R' = []):=by
 have:=Sub_spec p.num p.den q.num q.den (rat_i64 hp).1 (rat_i64 hp).2 (rat_i64 hq).1 (rat_i64 hq).2 I hT
 rw [opV_rat hp hq,Rat.num_divInt_den,Rat.num_divInt_den] at this
 exact this
theorem Mul_rat (p q : Rat) (hp : RB p) (hq : RB q) (I : PH) (hT : TabI I) : FnSpec Tryz.prog 104 [ratV p,ratV q] I [] (fun v R' => v = redV (p * q) ∧ R' = []):=by
 have:=Mul_spec p.num p.den q.num q.den (rat_i64 hp).1 (rat_i64 hp).2 (rat_i64 hq).1 (rat_i64 hq).2 I hT
 rw [opV_rat hp hq,Rat.num_divInt_den,Rat.num_divInt_den] at this
 exact this
theorem Div_rat (p q : Rat) (hp : RB p) (hq : RB q) (h0 : q.num ≠ 0) (I : PH) (hT : TabI I) : FnSpec Tryz.prog 220 [ratV p,ratV q] I [] (fun v R' => v = redV (p / q) ∧ R' = []):=by
 have:=Div_spec p.num p.den q.num q.den (rat_i64 hp).1 (rat_i64 hp).2 (rat_i64 hq).1 (rat_i64 hq).2 I hT
 unfold divV at this
 rw [if_pos ⟨hp.fok,hq.fok⟩,if_neg h0,Rat.num_divInt_den,Rat.num_divInt_den] at this
 exact this
theorem Less_rat (p q : Rat) (hp : RB p) (hq : RB q) (I : PH) : FnSpec Tryz.prog 106 [ratV p,ratV q] I [] (fun v R' => v = .bool (decide (p < q)) ∧ R' = []):=by
 have:=Less_spec p.num p.den q.num q.den (rat_i64 hp).1 (rat_i64 hp).2 (rat_i64 hq).1 (rat_i64 hq).2 I
 rw [show decide (FOk p.num p.den ∧ FOk q.num q.den ∧ p.num * q.den < q.num * p.den) = decide (p < q) from decide_eq_decide.2 ⟨fun h => (Rat.lt_iff p q).2 h.2.2,fun h => ⟨hp.fok,hq.fok,(Rat.lt_iff p q).1 h⟩⟩] at this
 exact this
attribute [local irreducible] redN redD redE
end Go.Proofs.YtpcnapidlhpbkaaGreatDoor
namespace Go.Det
def sg (k : Nat) : Int:=if k % 2 = 0 then 1 else -1
theorem sg_zero : sg 0 = 1:=rfl
theorem sg_succ (k : Nat) : sg (k + 1) = -sg k:=by unfold sg; split <;> split <;> omega
theorem sg_or (k : Nat) : sg k = 1 ∨ sg k = -1:=by unfold sg; split <;> simp
def spl (g : List Nat → Nat → List Nat → Int) : List Nat → List Nat → Int
 | _,[] => 0
 | pre,c :: post => g pre c post + spl g (pre ++ [c]) post
theorem spl_congr {g h : List Nat → Nat → List Nat → Int} : ∀ (cs pre : List Nat),(∀ p c q,p ++ c :: q = pre ++ cs → pre.length ≤ p.length → g p c q = h p c q) → spl g pre cs = spl h pre cs
 | [],_,_ => rfl
 | c :: post,pre,H => by
  unfold spl
  rw [H pre c post rfl (nLr _),spl_congr post (pre ++ [c]) fun p d q e hl => H p d q (by simpa using e) (by simp at hl; omega)]
theorem spl_add {g h : List Nat → Nat → List Nat → Int} : ∀ (cs pre : List Nat),spl (fun p c q => g p c q + h p c q) pre cs = spl g pre cs + spl h pre cs
 | [],_ => by simp [spl]
 | c :: post,pre => by simp only [spl]; rw [spl_add post]; omega
theorem spl_mul (x : Int) {g : List Nat → Nat → List Nat → Int} : ∀ (cs pre : List Nat),spl (fun p c q => x * g p c q) pre cs = x * spl g pre cs
 | [],_ => by simp [spl]
 | c :: post,pre => by simp only [spl]; rw [spl_mul x post,Int.mul_add]
theorem spl_neg {g : List Nat → Nat → List Nat → Int} (cs pre : List Nat) : spl (fun p c q => -g p c q) pre cs = -spl g pre cs:=by
 have:=spl_mul (-1) (g:=g) cs pre
 simpa [Int.neg_mul] using this
theorem spl_zero : ∀ (cs pre : List Nat),spl (fun _ _ _ => 0) pre cs = 0
 | [],_ => rfl
 | c :: post,pre => by simp only [spl]; rw [spl_zero post]; rfl
theorem spl_app {g : List Nat → Nat → List Nat → Int} (ys : List Nat) : ∀ (xs pre : List Nat),spl g pre (xs ++ ys) = spl (fun p c q => g p c (q ++ ys)) pre xs + spl g (pre ++ xs) ys
 | [],pre => by simp [spl]
 | c :: xs,pre => by simp only [List.cons_append,spl]; rw [spl_app ys xs]; simp; omega
theorem spl_pre {g : List Nat → Nat → List Nat → Int} (u : List Nat) : ∀ (cs pre : List Nat),spl g (u ++ pre) cs = spl (fun p c q => g (u ++ p) c q) pre cs
 | [],_ => rfl
 | c :: post,pre => by simp only [spl]; rw [← spl_pre u post]; simp
def minr (A : Nat → Nat → Int) : List Nat → List Nat → Int
 | [],_ => 1
 | r :: rs,cs => spl (fun p c q => sg p.length * (A r c * minr A rs (p ++ q))) [] cs
theorem minr_cons (A : Nat → Nat → Int) (r : Nat) (rs cs : List Nat) : minr A (r :: rs) cs = spl (fun p c q => sg p.length * (A r c * minr A rs (p ++ q))) [] cs:=rfl
theorem minr_congr {A B : Nat → Nat → Int} : ∀ (rs cs : List Nat),(∀ r ∈ rs,∀ c ∈ cs,A r c = B r c) → minr A rs cs = minr B rs cs
 | [],_,_ => rfl
 | r :: rs,cs,h => by
  rw [minr_cons,minr_cons]
  refine spl_congr cs [] fun p c q e _ => ?_
  have e : p ++ c :: q = cs:=e
  rw [h r (by simp) c (by rw [← e]; simp),minr_congr rs (p ++ q) fun s hs d hd => h s (by simp [hs]) d (by rw [← e]; simp at hd ⊢; rcases hd with h | h <;> simp [h])]
theorem minr_cols (A : Nat → Nat → Int) : ∀ (rs p : List Nat) (a b : Nat) (q : List Nat),rs.length = p.length + q.length + 2 → minr A rs (p ++ b :: a :: q) = -minr A rs (p ++ a :: b :: q)
 | [],p,a,b,q,h => by simp at h
 | [r],p,a,b,q,h => by simp at h
 | r :: s :: rs,p,a,b,q,h => by
  have hl : (s :: rs).length = p.length + q.length + 1:=by simp at h ⊢; omega
  generalize s :: rs = rs at hl
  rw [minr_cons,minr_cons,spl_app,spl_app]
  simp only [spl,List.nil_append]
  rw [show spl (fun p c q => sg p.length * (A r c * minr A rs (p ++ q))) (p ++ [b] ++ [a]) q = -spl (fun p c q => sg p.length * (A r c * minr A rs (p ++ q))) (p ++ [a] ++ [b]) q by
   rw [show p ++ [b] ++ [a] = (p ++ [b,a]) ++ [] by simp,show p ++ [a] ++ [b] = (p ++ [a,b]) ++ [] by simp,spl_pre,spl_pre,← spl_neg]
   refine spl_congr q [] fun u c v e _ => ?_
   have e : u ++ c :: v = q:=e
   have:=minr_cols A rs p a b (u ++ v) (by rw [hl,← e]; simp; omega)
   simp only [List.append_assoc,List.cons_append,List.nil_append,List.length_append,List.length_cons] at this ⊢
   rw [this]
   grind]
  rw [show spl (fun p' c q' => sg p'.length * (A r c * minr A rs (p' ++ (q' ++ b :: a :: q)))) [] p = -spl (fun p' c q' => sg p'.length * (A r c * minr A rs (p' ++ (q' ++ a :: b :: q)))) [] p by
   rw [← spl_neg]
   refine spl_congr p [] fun u c v e _ => ?_
   have e : u ++ c :: v = p:=e
   have:=minr_cols A rs (u ++ v) a b q (by rw [hl,← e]; simp; omega)
   simp only [List.append_assoc] at this
   rw [this]
   grind]
  simp only [List.length_append,List.length_cons,List.length_nil,sg_succ,List.append_assoc,List.cons_append,List.nil_append]
  grind
theorem minr_move (A : Nat → Nat → Int) (rs : List Nat) (c : Nat) : ∀ (m p q : List Nat),rs.length = p.length + m.length + q.length + 1 → minr A rs (p ++ c :: (m ++ q)) = sg m.length * minr A rs (p ++ (m ++ c :: q))
 | [],p,q,_ => by simp [sg_zero]
 | d :: m,p,q,h => by
  have h1:=minr_cols A rs p d c (m ++ q) (by rw [h]; simp; omega)
  have h2:=minr_move A rs c m (p ++ [d]) q (by rw [h]; simp; omega)
  simp only [List.append_assoc,List.cons_append,List.nil_append] at h1 h2 ⊢
  rw [h1,h2,List.length_cons,sg_succ,Int.neg_mul]
theorem minr_twice (A : Nat → Nat → Int) (rs : List Nat) (a : Nat) (p m q : List Nat) (h : rs.length = p.length + m.length + q.length + 2) : minr A rs (p ++ a :: (m ++ a :: q)) = 0:=by
 have h1:=minr_move A rs a m p (a :: q) (by rw [h]; simp; omega)
 have h2:=minr_cols A rs (p ++ m) a a q (by rw [h]; simp)
 simp only [List.append_assoc] at h1 h2
 have h3 : minr A rs (p ++ (m ++ a :: a :: q)) = 0:=by omega
 rw [h1,h3,Int.mul_zero]
def rep (A : Nat → Nat → Int) (j : Nat) (b : Nat → Int) : Nat → Nat → Int:=fun r c => if c = j then b r else A r c
theorem rep_at (A : Nat → Nat → Int) (j : Nat) (b : Nat → Int) (r : Nat) : rep A j b r j = b r:=if_pos rfl
theorem rep_ne (A : Nat → Nat → Int) {j c : Nat} (b : Nat → Int) (r : Nat) (h : c ≠ j) : rep A j b r c = A r c:=if_neg h
theorem rep_out (A : Nat → Nat → Int) {j : Nat} (b : Nat → Int) {rs cs : List Nat} (h : j ∉ cs) : minr (rep A j b) rs cs = minr A rs cs :=
 minr_congr rs cs fun r _ c hc => rep_ne A b r fun (e : c = j) => h (e ▸ hc)
theorem nd_mid {p q : List Nat} {d : Nat} (h : (p ++ d :: q).Nodup) : d ∉ p ++ q ∧ (p ++ q).Nodup :=
 List.nodup_cons.1 ((List.Perm.nodup_iff List.perm_middle).1 h)
theorem rep_lin (A : Nat → Nat → Int) (j : Nat) (b c : Nat → Int) (x y : Int) : ∀ (rs cs : List Nat),rs.length = cs.length → cs.Nodup → j ∈ cs → minr (rep A j fun r => x * b r + y * c r) rs cs = x * minr (rep A j b) rs cs + y * minr (rep A j c) rs cs
 | [],cs,hl,_,hj => by
  have : cs = []:=List.eq_nil_of_length_eq_zero (by simpa using hl.symm)
  rw [this] at hj; simp at hj
 | r :: rs,cs,hl,hn,hj => by
  rw [minr_cons,minr_cons,minr_cons,← spl_mul,← spl_mul,← spl_add]
  refine spl_congr cs [] fun p d q e _ => ?_
  have e : p ++ d :: q = cs:=e
  subst e
  obtain ⟨hout,hnd⟩:=nd_mid hn
  by_cases hd : d = j
  ·subst hd
   rw [rep_at,rep_at,rep_at,rep_out A _ hout,rep_out A _ hout,rep_out A _ hout]
   grind
  ·rw [rep_ne A _ r hd,rep_ne A _ r hd,rep_ne A _ r hd,rep_lin A j b c x y rs (p ++ q) (by simp at hl ⊢; omega) hnd (by simp at hj ⊢; rcases hj with h | h | h; exact .inl h; exact absurd h.symm hd; exact .inr h)]
   grind
theorem rep_zero (A : Nat → Nat → Int) (j : Nat) (rs cs : List Nat) (hl : rs.length = cs.length) (hn : cs.Nodup) (hj : j ∈ cs) : minr (rep A j fun _ => 0) rs cs = 0:=by
 have:=rep_lin A j (fun _ => 0) (fun _ => 0) 0 0 rs cs hl hn hj
 simpa using this
theorem spl_map {g : List Nat → Nat → List Nat → Int} (σ : Nat → Nat) : ∀ (cs pre : List Nat),spl g (pre.map σ) (cs.map σ) = spl (fun p c q => g (p.map σ) (σ c) (q.map σ)) pre cs
 | [],_ => rfl
 | c :: cs,pre => by
  have:=spl_map (g:=g) σ cs (pre ++ [c])
  simp only [List.map_append,List.map_cons,List.map_nil] at this
  simp only [List.map_cons,spl]
  rw [this]
theorem minr_map (A : Nat → Nat → Int) (σ : Nat → Nat) : ∀ (rs cs : List Nat),minr (fun r c => A r (σ c)) rs cs = minr A rs (cs.map σ)
 | [],_ => rfl
 | r :: rs,cs => by
  rw [minr_cons,minr_cons]
  have:=spl_map (g:=fun p c q => sg p.length * (A r c * minr A rs (p ++ q))) σ cs []
  simp only [List.map_nil] at this
  rw [this]
  refine spl_congr cs [] fun p c q _ _ => ?_
  rw [minr_map A σ rs (p ++ q),mAp,lMp]
theorem rep_col (A : Nat → Nat → Int) (i j : Nat) (rs p q : List Nat) (hn : (p ++ j :: q).Nodup) : minr (rep A j fun r => A r i) rs (p ++ j :: q) = minr A rs (p ++ i :: q):=by
 have h1 : minr (rep A j fun r => A r i) rs (p ++ j :: q) = minr (fun r c => A r (if c = j then i else c)) rs (p ++ j :: q):=minr_congr _ _ fun r _ c _ => by
  unfold rep
  split <;> rfl
 rw [h1,minr_map]
 obtain ⟨hout,_⟩:=nd_mid hn
 have hm : ∀ l : List Nat,j ∉ l → (l.map fun c => if c = j then i else c) = l:=fun l hl => by
  have : l.map (fun c => if c = j then i else c) = l.map id:=List.map_congr_left fun c hc => if_neg fun (e : c = j) => hl (e ▸ hc)
  rw [this,List.map_id]
 rw [List.map_append,List.map_cons,hm p fun h => hout (by simp [h]),hm q fun h => hout (by simp [h]),if_pos rfl]
theorem rep_other (A : Nat → Nat → Int) {i j : Nat} (hij : i ≠ j) (rs cs : List Nat) (hl : rs.length = cs.length) (hn : cs.Nodup) (hi : i ∈ cs) (hj : j ∈ cs) : minr (rep A j fun r => A r i) rs cs = 0:=by
 obtain ⟨p,q,rfl⟩:=List.append_of_mem hj
 rw [rep_col A i j rs p q hn]
 have hi : i ∈ p ∨ i ∈ q:=by
  simp at hi
  rcases hi with h | h | h
  ·exact .inl h
  ·exact absurd h hij
  ·exact .inr h
 rcases hi with h | h
 ·obtain ⟨a,b,rfl⟩:=List.append_of_mem h
  have:=minr_twice A rs i a b q (by rw [hl]; simp; omega)
  simpa using this
 ·obtain ⟨a,b,rfl⟩:=List.append_of_mem h
  exact minr_twice A rs i p a b (by rw [hl]; simp; omega)
theorem rep_self (A : Nat → Nat → Int) (j : Nat) (rs cs : List Nat) : minr (rep A j fun r => A r j) rs cs = minr A rs cs :=
 minr_congr rs cs fun r _ c _ => by unfold rep; split <;> simp_all
def comb (A : Nat → Nat → Int) (N : Nat → Int) : List Nat → Nat → Int
 | [],_ => 0
 | i :: L,r => N i * A r i + comb A N L r
theorem rep_comb (A : Nat → Nat → Int) (N : Nat → Int) (j : Nat) (rs cs : List Nat) (hl : rs.length = cs.length) (hn : cs.Nodup) (hj : j ∈ cs) : ∀ L : List Nat,(∀ i ∈ L,i ∈ cs) → L.Nodup →
  minr (rep A j (comb A N L)) rs cs = if j ∈ L then N j * minr A rs cs else 0
 | [],_,_ => by
  have : comb A N [] = fun _ => 0:=rfl
  rw [this,rep_zero A j rs cs hl hn hj]; rfl
 | i :: L,hL,hnd => by
  have e : comb A N (i :: L) = fun r => N i * (fun r => A r i) r + 1 * comb A N L r:=funext fun r => by show N i * A r i + comb A N L r = N i * A r i + 1 * comb A N L r; omega
  rw [e,rep_lin A j _ _ (N i) 1 rs cs hl hn hj,rep_comb A N j rs cs hl hn hj L (fun x hx => hL x (by simp [hx])) (List.nodup_cons.1 hnd).2]
  by_cases hij : i = j
  ·subst hij
   rw [rep_self,if_neg (List.nodup_cons.1 hnd).1,if_pos (by simp)]; omega
  ·rw [rep_other A hij rs cs hl hn (hL i (by simp)) hj,Int.mul_zero,Int.zero_add,Int.one_mul]
   by_cases hjL : j ∈ L
   ·rw [if_pos hjL,if_pos (by simp [hjL])]
   ·rw [if_neg hjL,if_neg (by simp [hjL,Ne.symm hij])]
theorem cramer (A : Nat → Nat → Int) (N : Nat → Int) (b : Nat → Int) (j : Nat) (rs cs : List Nat) (hl : rs.length = cs.length) (hn : cs.Nodup) (hj : j ∈ cs) (hb : ∀ r ∈ rs,b r = comb A N cs r) : minr (rep A j b) rs cs = N j * minr A rs cs:=by
 rw [← show minr (rep A j (comb A N cs)) rs cs = N j * minr A rs cs by rw [rep_comb A N j rs cs hl hn hj cs (fun _ h => h) hn,if_pos hj]]
 refine minr_congr rs cs fun r hr c _ => ?_
 unfold rep
 rw [hb r hr]
def sumR (f : Nat → Int) : Nat → Int
 | 0 => 0
 | n + 1 => sumR f n + f n
theorem sumR_mul (x : Int) (f : Nat → Int) : ∀ n : Nat,sumR (fun i => x * f i) n = x * sumR f n
 | 0 => by simp [sumR]
 | n + 1 => by unfold sumR; rw [sumR_mul x f n,Int.mul_add]
theorem comb_range (A : Nat → Nat → Int) (N : Nat → Int) (r : Nat) : ∀ n : Nat,comb A N (List.range n) r = sumR (fun i => N i * A r i) n
 | 0 => rfl
 | n + 1 => by
  have app : ∀ p q : List Nat,comb A N (p ++ q) r = comb A N p r + comb A N q r:=fun p q => by
   induction p with
   | nil => simp [comb]
   | cons c p ih => simp only [List.cons_append,comb]; rw [ih]; omega
  rw [List.range_succ,app,comb_range A N r n]
  simp [comb,sumR]
theorem range_at {j k : Nat} (h : j < k) : List.range k = List.range j ++ j :: List.range' (j + 1) (k - j - 1):=by
 rw [List.range_eq_range',List.range_eq_range',← List.range'_succ,show k - j - 1 + 1 = k - j by omega]
 have:=List.range'_append (s:=0) (m:=j) (n:=k - j) (step:=1)
 simp only [Nat.one_mul,Nat.zero_add] at this
 rw [this,show j + (k - j) = k by omega]
end Go.Det
namespace Go.Bl
def sm : Nat → (Nat → Rat) → Rat
 | 0,_ => 0
 | n + 1,f => sm n f + f n
theorem sm_congr {n : Nat} {f g : Nat → Rat} (h : ∀ k,k < n → f k = g k) : sm n f = sm n g:=by
 induction n with
 | zero => rfl
 | succ n ih => rw [sm,sm,ih fun k hk => h k (by omega),h n (by omega)]
theorem div_nonneg {a b : Rat} (ha : 0 ≤ a) (hb : 0 < b) : 0 ≤ a / b:=by
 refine Classical.byContradiction fun hn => ?_
 have h1 : a = a / b * b:=by grind
 have h2:=Rat.mul_pos (show 0 < - (a / b) by grind) hb
 grind
theorem sm_add (n : Nat) (f g : Nat → Rat) : sm n (fun k => f k + g k) = sm n f + sm n g:=by
 induction n with
 | zero => rw [sm,sm,sm]; grind
 | succ n ih => rw [sm,sm,sm,ih]; grind
theorem sm_sub (n : Nat) (f g : Nat → Rat) : sm n (fun k => f k - g k) = sm n f - sm n g:=by
 induction n with
 | zero => rw [sm,sm,sm]; grind
 | succ n ih => rw [sm,sm,sm,ih]; grind
theorem sm_mul (n : Nat) (c : Rat) (f : Nat → Rat) : sm n (fun k => f k * c) = sm n f * c:=by
 induction n with
 | zero => rw [sm,sm]; grind
 | succ n ih => rw [sm,sm,ih]; grind
theorem sm_zero (n : Nat) : sm n (fun _ => 0) = 0:=by
 induction n with
 | zero => rfl
 | succ n ih => rw [sm,ih]; grind
theorem sm_one {n k : Nat} (f : Nat → Rat) (hk : k < n) : sm n (fun j => if j = k then f j else 0) = f k:=by
 induction n with
 | zero => omega
 | succ n ih =>
  rw [sm]
  by_cases h : k = n
  ·subst h
   rw [if_pos rfl,sm_congr (g:=fun _ => 0) fun j hj => if_neg (by omega),sm_zero]; grind
  ·rw [ih (by omega),if_neg (by omega)]; grind
theorem sm_but {n r : Nat} (f : Nat → Rat) (hr : r < n) : sm n f = sm n (fun k => if k = r then 0 else f k) + f r:=by
 rw [← sm_one f hr,← sm_add]
 refine sm_congr fun k _ => ?_
 by_cases hk : k = r
 ·rw [if_pos hk,if_pos hk]; grind
 ·rw [if_neg hk,if_neg hk]; grind
theorem sm_neg_ex : ∀ {n : Nat} {f : Nat → Rat},sm n f < 0 → ∃ k,k < n ∧ f k < 0
 | 0,f,h => by rw [sm] at h; exact absurd h (by decide)
 | n + 1,f,h => by
  rw [sm] at h
  by_cases hn : f n < 0
  ·exact ⟨n,by omega,hn⟩
  ·obtain ⟨k,hk,h1⟩:=sm_neg_ex (n:=n) (f:=f) (by grind)
   exact ⟨k,by omega,h1⟩
structure Tab where
 T : Nat → Nat → Rat
 B : Nat → Nat
def piv (s : Tab) (r e : Nat) : Tab :=
 ⟨fun i k => if i = r then s.T r k / s.T r e else s.T i k - s.T i e * (s.T r k / s.T r e),fun i => if i = r then e else s.B i⟩
def y (m : Nat) (cost : Nat → Rat) (s : Tab) (k : Nat) : Rat:=sm m fun i => cost (s.B i) * s.T i k
def gain (m : Nat) (cost : Nat → Rat) (s : Tab) (k : Nat) : Rat:=cost k - y m cost s k
structure Ok (m N : Nat) (s : Tab) : Prop where
 bas : ∀ i,i < m → s.B i < N
 unit : ∀ i j,i < m → j < m → s.T j (s.B i) = if j = i then 1 else 0
 pos : ∀ i,i < m → 0 ≤ s.T i N
structure Ent (m cnt : Nat) (cost : Nat → Rat) (s : Tab) (e : Nat) : Prop where
 lt : e < cnt
 pos : 0 < gain m cost s e
 first : ∀ k,k < e → gain m cost s k ≤ 0
structure Lea (m N : Nat) (s : Tab) (e r : Nat) : Prop where
 lt : r < m
 pos : 0 < s.T r e
 least : ∀ i,i < m → 0 < s.T i e → s.T r N / s.T r e < s.T i N / s.T i e ∨ (s.T r N / s.T r e = s.T i N / s.T i e ∧ s.B r ≤ s.B i)
section
variable {m N cnt : Nat} {cost : Nat → Rat} {s : Tab}
theorem comb (g : Nat → Rat) {r e k : Nat} (hr : r < m) (hp : s.T r e ≠ 0) :
  (sm m fun i => g ((piv s r e).B i) * (piv s r e).T i k) = (sm m fun i => g (s.B i) * s.T i k) + (g e - sm m fun i => g (s.B i) * s.T i e) * (s.T r k / s.T r e):=by
 rw [sm_but _ hr,sm_but (fun i => g (s.B i) * s.T i k) hr,sm_but (fun i => g (s.B i) * s.T i e) hr]
 have e1 : (sm m fun k_1 => if k_1 = r then 0 else g ((piv s r e).B k_1) * (piv s r e).T k_1 k) = (sm m fun i => if i = r then 0 else g (s.B i) * s.T i k) - (sm m fun i => if i = r then 0 else g (s.B i) * s.T i e) * (s.T r k / s.T r e):=by
  rw [← sm_mul,← sm_sub]
  refine sm_congr fun i _ => ?_
  by_cases hi : i = r
  ·rw [if_pos hi,if_pos hi,if_pos hi]; grind
  ·rw [if_neg hi,if_neg hi,if_neg hi]
   unfold piv
   dsimp only
   rw [if_neg hi,if_neg hi]
   grind
 rw [e1]
 unfold piv
 dsimp only
 rw [if_pos rfl,if_pos rfl]
 grind
theorem gain_basic (h : Ok m N s) {i : Nat} (hi : i < m) : gain m cost s (s.B i) = 0:=by
 unfold gain y
 have : (sm m fun j => cost (s.B j) * s.T j (s.B i)) = cost (s.B i):=by
  rw [sm_congr (g:=fun j => if j = i then cost (s.B j) else 0) fun j hj => by
   rw [h.unit i j hi hj]
   by_cases hji : j = i
   ·rw [if_pos hji,if_pos hji]; grind
   ·rw [if_neg hji,if_neg hji]; grind]
  exact sm_one (fun j => cost (s.B j)) hi
 rw [this]; grind
theorem div_self {a : Rat} (h : a ≠ 0) : a / a = 1:=by grind
theorem ok_piv (h : Ok m N s) (hc : cnt ≤ N) {r e : Nat} (he : Ent m cnt cost s e) (hl : Lea m N s e r) : Ok m N (piv s r e):=by
 have hp : s.T r e ≠ 0:=by have:=hl.pos; grind
 refine ⟨fun i hi => ?_,fun i j hi hj => ?_,fun i hi => ?_⟩
 ·unfold piv
  dsimp only
  split
  ·have:=he.lt; omega
  ·exact h.bas i hi
 ·unfold piv
  dsimp only
  by_cases hir : i = r
  ·rw [if_pos hir]
   by_cases hjr : j = r
   ·rw [if_pos hjr,div_self hp,if_pos (hjr.trans hir.symm)]
   ·rw [if_neg hjr,div_self hp,if_neg (by omega)]; grind
  ·rw [if_neg hir]
   have hz : s.T r (s.B i) = 0:=by rw [h.unit i r hi hl.lt,if_neg (by omega)]
   by_cases hjr : j = r
   ·rw [if_pos hjr,hz,if_neg (by omega)]; grind
   ·rw [if_neg hjr,hz,h.unit i j hi hj]
    split <;> grind
 ·unfold piv
  dsimp only
  have hq : 0 ≤ s.T r N / s.T r e:=div_nonneg (h.pos r hl.lt) hl.pos
  split
  ·exact hq
  ·have h1:=h.pos i hi
   by_cases hie : 0 < s.T i e
   ·have h2 : s.T r N / s.T r e ≤ s.T i N / s.T i e:=by
     rcases hl.least i hi hie with h3 | h3
     ·grind
     ·rw [h3.1]; exact Rat.le_refl
    have h3:=Rat.mul_le_mul_of_nonneg_left h2 (show 0 ≤ s.T i e by grind)
    have h4 : s.T i e * (s.T i N / s.T i e) = s.T i N:=by grind
    rw [h4] at h3
    grind
   ·have h2 : 0 ≤ (- s.T i e) * (s.T r N / s.T r e):=Rat.mul_nonneg (by grind) hq
    grind
theorem y_piv {r e k : Nat} (hr : r < m) (hp : s.T r e ≠ 0) : y m cost (piv s r e) k = y m cost s k + gain m cost s e * (s.T r k / s.T r e):=comb cost hr hp
def RS (m N : Nat) (s : Tab) (f : Nat → Rat) : Prop:=∀ k,k ≤ N → f k = sm m fun i => f (s.B i) * s.T i k
theorem rs_piv {f : Nat → Rat} {r e : Nat} (hr : r < m) (he : e ≤ N) (hp : s.T r e ≠ 0) (h : RS m N s f) : RS m N (piv s r e) f:=fun k hk => by
 rw [comb f hr hp,← h k hk,← h e he]; grind
theorem rs_y (h : Ok m N s) : RS m N s (y m cost s):=fun k _ => by
 show (sm m fun i => cost (s.B i) * s.T i k) = _
 refine sm_congr fun i hi => ?_
 have:=gain_basic (cost:=cost) h hi
 unfold gain at this
 have e : y m cost s (s.B i) = cost (s.B i):=by grind
 rw [e]
theorem rs_row (h : Ok m N s) {i : Nat} (hi : i < m) : RS m N s (s.T i):=fun k _ => by
 rw [sm_congr (g:=fun j => if j = i then s.T j k else 0) fun j hj => by
  rw [h.unit j i hj hi]
  by_cases hji : j = i
  ·rw [if_pos hji,if_pos hji.symm]; grind
  ·rw [if_neg hji,if_neg (by omega)]; grind]
 exact (sm_one (fun j => s.T j k) hi).symm
theorem bas_inj (h : Ok m N s) {i j : Nat} (hi : i < m) (hj : j < m) (he : s.B i = s.B j) : i = j:=by
 have h1:=h.unit i i hi hi
 have h2:=h.unit j i hj hi
 rw [if_pos rfl] at h1
 rw [← he,h1] at h2
 refine Classical.byContradiction fun hn => ?_
 rw [if_neg hn] at h2
 exact absurd h2 (by decide)
end
theorem least {P : Nat → Prop} : ∀ n,P n → ∃ m,P m ∧ ∀ k,k < m → ¬ P k:=by
 intro n
 induction n using Nat.strongRecOn with
 | _ n ih =>
  intro hn
  by_cases h : ∃ k,k < n ∧ P k
  ·obtain ⟨k,hk,hp⟩:=h
   exact ih k hk hp
  ·exact ⟨n,hn,fun k hk hp => h ⟨k,hk,hp⟩⟩
structure Same (m N : Nat) (s s' : Tab) : Prop where
 bas : ∀ i,i < m → s.B i = s'.B i
 num : ∀ i k,i < m → k ≤ N → s.T i k = s'.T i k
theorem same_y {m N : Nat} {cost : Nat → Rat} {s s' : Tab} (h : Same m N s s') {k : Nat} (hk : k ≤ N) : y m cost s k = y m cost s' k:=sm_congr fun i hi => by rw [h.bas i hi,h.num i k hi hk]
theorem no_cycle {m N cnt n : Nat} {cost : Nat → Rat} (hc : cnt ≤ N) (hn : 1 ≤ n) (s : Nat → Tab) (E L : Nat → Nat) (h0 : Ok m N (s 0)) (hE : ∀ k,Ent m cnt cost (s k) (E k)) (hL : ∀ k,Lea m N (s k) (E k) (L k)) (hs : ∀ k,s (k + 1) = piv (s k) (L k) (E k))
  (hper : ∀ k,Same m N (s (k + n)) (s k)) : False:=by
 have hp : ∀ k,(s k).T (L k) (E k) ≠ 0:=fun k => by have:=(hL k).pos; grind
 have hok : ∀ k,Ok m N (s k):=fun k => by
  induction k with
  | zero => exact h0
  | succ k ih => rw [hs]; exact ok_piv ih hc (hE k) (hL k)
 have hq : ∀ k,0 ≤ (s k).T (L k) N / (s k).T (L k) (E k):=fun k => div_nonneg ((hok k).pos _ (hL k).lt) (hL k).pos
 have hy : ∀ k,y m cost (s (k + 1)) N = y m cost (s k) N + gain m cost (s k) (E k) * ((s k).T (L k) N / (s k).T (L k) (E k)):=fun k => by rw [hs,y_piv (hL k).lt (hp k)]
 have hym : ∀ k,y m cost (s k) N ≤ y m cost (s (k + 1)) N:=fun k => by
  rw [hy]
  have:=Rat.mul_nonneg (show 0 ≤ gain m cost (s k) (E k) by have:=(hE k).pos; grind) (hq k)
  grind
 have hyl : ∀ k j,y m cost (s k) N ≤ y m cost (s (k + j)) N:=fun k j => by
  induction j with
  | zero => exact Rat.le_refl
  | succ j ih => exact Rat.le_trans ih (hym (k + j))
 have hz : ∀ k,(s k).T (L k) N = 0:=fun k => by
  have h1:=hyl (k + 1) (n - 1)
  rw [show k + 1 + (n - 1) = k + n by omega,same_y (hper k) (nLr _),hy] at h1
  have h2:=(hE k).pos
  have h3:=hq k
  have h4 : (s k).T (L k) N / (s k).T (L k) (E k) = 0:=by
   refine Classical.byContradiction fun hne => ?_
   have:=Rat.mul_pos h2 (show 0 < (s k).T (L k) N / (s k).T (L k) (E k) by grind)
   grind
  have h5:=hp k
  grind
 have hv : ∀ k i,(s (k + 1)).T i N = (s k).T i N:=fun k i => by
  rw [hs]
  unfold piv
  dsimp only
  rw [hz k]
  by_cases hi : i = L k
  ·rw [if_pos hi,hi,hz k]; grind
  ·rw [if_neg hi]; grind
 have hv0 : ∀ k i,(s k).T i N = (s 0).T i N:=fun k i => by
  induction k with
  | zero => rfl
  | succ k ih => rw [hv,ih]
 have hkeep : ∀ k i,L k ≠ i → (s (k + 1)).B i = (s k).B i:=fun k i h => by
  rw [hs]
  unfold piv
  dsimp only
  rw [if_neg (by omega)]
 have hset : ∀ k,(s (k + 1)).B (L k) = E k:=fun k => by
  rw [hs]
  unfold piv
  dsimp only
  rw [if_pos rfl]
 have hstay : ∀ k j i,(∀ x,k ≤ x → x < k + j → L x ≠ i) → (s (k + j)).B i = (s k).B i:=fun k j i h => by
  induction j with
  | zero => rfl
  | succ j ih => rw [← Nat.add_assoc,hkeep _ _ (h (k + j) (by omega) (by omega)),ih fun x h1 h2 => h x h1 (by omega)]
 -- the greatest column that enters
 obtain ⟨g,⟨a,ha⟩,hg⟩:=least (P:=fun d => ∃ k,cnt - E k = d) _ ⟨0,rfl⟩
 have hmax : ∀ k,E k ≤ E a:=fun k => by
  have h1:=hg (cnt - E k)
  have h2:=(hE k).lt
  have h3:=(hE a).lt
  refine Nat.le_of_not_lt fun h => h1 (by omega) ⟨k,rfl⟩
 have hnb : ∀ k i,i < m → (s k).B i = E k → False:=fun k i hi h => by
  have h1:=gain_basic (cost:=cost) (hok k) hi
  have h2:=(hE k).pos
  rw [h] at h1
  rw [h1] at h2
  exact absurd h2 (by decide)
 have hra:=(hL a).lt
 -- it leaves again
 have hback : ∃ j,L (a + 1 + j) = L a:=by
  refine Classical.byContradiction fun hno => ?_
  have h1:=hstay (a + 1) (n - 1) (L a) fun x hx _ hxl => hno ⟨x - (a + 1),by rw [show a + 1 + (x - (a + 1)) = x by omega]; exact hxl⟩
  rw [hset,show a + 1 + (n - 1) = a + n by omega,(hper a).bas _ hra] at h1
  exact hnb a _ hra h1
 obtain ⟨j0,hj0⟩:=hback
 obtain ⟨j,hj,hjm⟩:=least (P:=fun j => L (a + 1 + j) = L a) j0 hj0
 obtain ⟨b,hb⟩ : ∃ b,b = a + 1 + j:=⟨_,rfl⟩
 rw [← hb] at hj
 have hbt : (s b).B (L a) = E a:=by
  rw [hb,hstay (a + 1) j (L a) fun x h1 h2 hx => hjm (x - (a + 1)) (by omega) (by rw [show a + 1 + (x - (a + 1)) = x by omega]; exact hx),hset]
 have hlt : E b < E a:=by
  have h1:=hmax b
  refine Nat.lt_of_le_of_ne h1 fun he => hnb b (L a) hra (hbt.trans he.symm)
 have hrs : ∀ j,RS m N (s (a + j)) (y m cost (s a)):=fun j => by
  induction j with
  | zero => exact rs_y (hok a)
  | succ j ih =>
   rw [← Nat.add_assoc,hs]
   exact rs_piv (hL _).lt (by have:=(hE (a + j)).lt; omega) (hp _) ih
 have hrb:=hrs (1 + j)
 rw [show a + (1 + j) = b by omega] at hrb
 have heb : E b ≤ N:=by have:=(hE b).lt; omega
 have hsum : (sm m fun i => gain m cost (s a) ((s b).B i) * (s b).T i (E b)) < 0:=by
  have e1 : (sm m fun i => gain m cost (s a) ((s b).B i) * (s b).T i (E b)) = y m cost (s b) (E b) - y m cost (s a) (E b):=by
   rw [hrb _ heb]
   unfold y
   rw [← sm_sub]
   refine sm_congr fun i _ => ?_
   unfold gain y
   grind
  have h1:=(hE b).pos
  have h2:=(hE a).first _ hlt
  unfold gain at h1 h2
  rw [e1]
  grind
 obtain ⟨i,hi,hneg⟩:=sm_neg_ex hsum
 have hEa:=(hE a).pos
 by_cases hx : (s b).B i = E a
 ·have : i = L a:=bas_inj (hok b) hi hra (hx.trans hbt.symm)
  subst this
  rw [hx] at hneg
  have h1:=(hL b).pos
  rw [hj] at h1
  have:=Rat.mul_pos hEa h1
  grind
 ·have hch : ∃ k,L k = i ∧ E k = (s b).B i:=by
   refine Classical.byContradiction fun hno => ?_
   by_cases hany : ∃ d,d < b - a ∧ L (b - 1 - d) = i
   ·obtain ⟨d0,hd0⟩:=hany
    obtain ⟨d,hd,hdm⟩:=least (P:=fun d => d < b - a ∧ L (b - 1 - d) = i) d0 hd0
    refine hno ⟨b - 1 - d,hd.2,?_⟩
    have:=hstay (b - 1 - d + 1) d i fun x h1 h2 hx => hdm (b - 1 - x) (by omega) ⟨by omega,by rw [show b - 1 - (b - 1 - x) = x by omega]; exact hx⟩
    rw [show b - 1 - d + 1 + d = b by omega] at this
    rw [this]
    have h3:=hset (b - 1 - d)
    rw [hd.2] at h3
    exact h3.symm
   ·have:=hstay a (b - a) i fun x h1 h2 hx => hany ⟨b - 1 - x,by omega,by rw [show b - 1 - (b - 1 - x) = x by omega]; exact hx⟩
    rw [show a + (b - a) = b by omega] at this
    rw [this,gain_basic (hok a) hi] at hneg
    grind
  obtain ⟨k,hk1,hk2⟩:=hch
  have hxt : (s b).B i < E a:=by
   have:=hmax k
   omega
  have hga:=(hE a).first _ hxt
  have hTi : 0 < (s b).T i (E b):=by
   refine Classical.byContradiction fun hno => ?_
   have:=Rat.mul_nonneg (show 0 ≤ - gain m cost (s a) ((s b).B i) by grind) (show 0 ≤ - (s b).T i (E b) by grind)
   grind
  have hvi : (s b).T i N = 0:=by rw [hv0 b,← hv0 k,← hk1]; exact hz k
  have hvr : (s b).T (L b) N = 0:=hz b
  rcases (hL b).least i hi hTi with h1 | ⟨_,h1⟩
  ·rw [hvi,hvr] at h1
   grind
  ·rw [hj,hbt] at h1
   omega
section
variable {m N cnt : Nat} {cost : Nat → Rat}
theorem Same.refl (s : Tab) : Same m N s s:=⟨fun _ _ => rfl,fun _ _ _ _ => rfl⟩
theorem Same.symm {s s' : Tab} (h : Same m N s s') : Same m N s' s:=⟨fun i hi => (h.bas i hi).symm,fun i k hi hk => (h.num i k hi hk).symm⟩
theorem Same.trans {s s' t : Tab} (h : Same m N s s') (h' : Same m N s' t) : Same m N s t:=⟨fun i hi => (h.bas i hi).trans (h'.bas i hi),fun i k hi hk => (h.num i k hi hk).trans (h'.num i k hi hk)⟩
theorem same_piv {s s' : Tab} (h : Same m N s s') {r e : Nat} (hr : r < m) (he : e ≤ N) : Same m N (piv s r e) (piv s' r e):=by
 refine ⟨fun i hi => ?_,fun i k hi hk => ?_⟩
 ·unfold piv
  dsimp only
  rw [h.bas i hi]
 ·unfold piv
  dsimp only
  rw [h.num r k hr hk,h.num r e hr he,h.num i k hi hk,h.num i e hi he]
theorem same_gain {s s' : Tab} (h : Same m N s s') {k : Nat} (hk : k ≤ N) : gain m cost s k = gain m cost s' k:=by unfold gain; rw [same_y h hk]
theorem same_ent {s s' : Tab} (h : Same m N s s') (hc : cnt ≤ N) {e : Nat} (he : Ent m cnt cost s' e) : Ent m cnt cost s e :=
 ⟨he.lt,by rw [same_gain h (by have:=he.lt; omega)]; exact he.pos,fun k hk => by rw [same_gain h (by have:=he.lt; omega)]; exact he.first k hk⟩
theorem same_lea {s s' : Tab} (h : Same m N s s') {e r : Nat} (he : e ≤ N) (hl : Lea m N s' e r) : Lea m N s e r :=
 ⟨hl.lt,by rw [h.num r e hl.lt he]; exact hl.pos,fun i hi hp => by
  rw [h.num r e hl.lt he,h.num r N hl.lt (nLr _),h.num i e hi he,h.num i N hi (nLr _),h.bas r hl.lt,h.bas i hi]
  exact hl.least i hi (by rw [← h.num i e hi he]; exact hp)⟩
structure Way (m N cnt : Nat) (cost : Nat → Rat) (k : Nat) (f : Nat → Tab) (E L : Nat → Nat) : Prop where
 ent : ∀ j,j < k → Ent m cnt cost (f j) (E j)
 lea : ∀ j,j < k → Lea m N (f j) (E j) (L j)
 next : ∀ j,j < k → f (j + 1) = piv (f j) (L j) (E j)
theorem Way.ok {k : Nat} {f : Nat → Tab} {E L : Nat → Nat} (h : Way m N cnt cost k f E L) (hc : cnt ≤ N) (h0 : Ok m N (f 0)) : ∀ j,j ≤ k → Ok m N (f j):=fun j => by
 induction j with
 | zero => exact fun _ => h0
 | succ j ih => exact fun hj => by rw [h.next j hj]; exact ok_piv (ih (by omega)) hc (h.ent j hj) (h.lea j hj)
theorem Way.rs {k : Nat} {f : Nat → Tab} {E L : Nat → Nat} (h : Way m N cnt cost k f E L) (hc : cnt ≤ N) {g : Nat → Rat} {i : Nat} (h0 : RS m N (f i) g) : ∀ j,i + j ≤ k → RS m N (f (i + j)) g:=fun j => by
 induction j with
 | zero => exact fun _ => h0
 | succ j ih =>
  intro hj
  have hp:=(h.lea (i + j) (by omega)).pos
  have he:=(h.ent (i + j) (by omega)).lt
  rw [← Nat.add_assoc,h.next (i + j) (by omega)]
  exact rs_piv (h.lea (i + j) (by omega)).lt (by omega) (by grind) (ih (by omega))
theorem no_repeat {k : Nat} {f : Nat → Tab} {E L : Nat → Nat} (h : Way m N cnt cost k f E L) (hc : cnt ≤ N) (h0 : Ok m N (f 0)) {i j : Nat} (hij : i < j) (hj : j ≤ k) (he : ∀ r,r < m → (f i).B r = (f j).B r) : False:=by
 have hoi:=h.ok hc h0 i (by omega)
 have hoj:=h.ok hc h0 j hj
 have hsame : Same m N (f j) (f i):=by
  refine ⟨fun r hr => (he r hr).symm,fun r c hr hcN => ?_⟩
  have h1:=h.rs hc (rs_row hoi hr) (j - i) (by omega)
  rw [show i + (j - i) = j by omega] at h1
  rw [h1 c hcN,sm_congr (g:=fun x => if x = r then (f j).T x c else 0) fun x hx => by
   rw [← he x hx,hoi.unit x r hx hr]
   by_cases hxr : x = r
   ·rw [if_pos hxr,if_pos hxr.symm]; grind
   ·rw [if_neg hxr,if_neg (by omega)]; grind]
  exact (sm_one (fun x => (f j).T x c) hr).symm
 obtain ⟨n,hn⟩ : ∃ n,n = j - i:=⟨_,rfl⟩
 have hmod : ∀ t,t % n < n:=fun t => Nat.mod_lt t (by omega)
 let g : Nat → Tab:=fun t => Nat.rec (f i) (fun t s => piv s (L (i + t % n)) (E (i + t % n))) t
 have hg : ∀ t,Same m N (g t) (f (i + t % n)):=fun t => by
  induction t with
  | zero => rw [Nat.zero_mod]; exact Same.refl _
  | succ t ih =>
   have hlt:=hmod t
   have h1 : Same m N (g (t + 1)) (f (i + t % n + 1)):=by
    rw [h.next (i + t % n) (by omega)]
    exact same_piv ih (h.lea _ (by omega)).lt (by have:=(h.ent (i + t % n) (by omega)).lt; omega)
   by_cases hw : t % n + 1 < n
   ·rw [show (t + 1) % n = t % n + 1 by rw [Nat.add_mod,Nat.mod_eq_of_lt (show 1 < n by omega),Nat.mod_eq_of_lt hw]]
    exact h1
   ·have e : (t + 1) % n = 0:=by
     have h2:=Nat.div_add_mod t n
     rw [show t + 1 = n * (t / n + 1) by rw [Nat.mul_add]; omega,Nat.mul_mod_right]
    rw [e,Nat.add_zero]
    rw [show i + t % n + 1 = j by omega] at h1
    exact h1.trans hsame
 refine no_cycle (n:=n) hc (by omega) g (fun t => E (i + t % n)) (fun t => L (i + t % n)) (show Ok m N (f i) from hoi) (fun t => same_ent (hg t) hc (h.ent _ (by have:=hmod t; omega)))
  (fun t => same_lea (hg t) (by have:=(h.ent (i + t % n) (by have:=hmod t; omega)).lt; omega) (h.lea _ (by have:=hmod t; omega))) (fun _ => rfl) fun t => ?_
 have h1:=hg (t + n)
 rw [Nat.add_mod_right] at h1
 exact h1.trans (hg t).symm
end
def enc (N : Nat) (B : Nat → Nat) : Nat → Nat
 | 0 => 0
 | m + 1 => enc N B m + B m * N ^ m
theorem enc_lt {N : Nat} {B : Nat → Nat} : ∀ {m : Nat},(∀ i,i < m → B i < N) → enc N B m < N ^ m
 | 0,_ => by rw [enc]; simp
 | m + 1,h => by
  have ih:=enc_lt (m:=m) fun i hi => h i (by omega)
  have hm:=h m (by omega)
  rw [enc,Nat.pow_succ]
  have : (B m + 1) * N ^ m ≤ N * N ^ m:=Nat.mul_le_mul_right _ hm
  rw [Nat.add_mul,Nat.one_mul] at this
  rw [Nat.mul_comm (N ^ m) N]
  omega
theorem enc_inj {N : Nat} {B C : Nat → Nat} : ∀ {m : Nat},(∀ i,i < m → B i < N) → (∀ i,i < m → C i < N) → enc N B m = enc N C m → ∀ i,i < m → B i = C i
 | 0,_,_,_,i,hi => absurd hi (Nat.not_lt_zero _)
 | m + 1,hB,hC,h,i,hi => by
  have b1:=enc_lt (m:=m) fun i hi => hB i (by omega)
  have c1:=enc_lt (m:=m) fun i hi => hC i (by omega)
  rw [enc,enc] at h
  have hb:=congrArg (· / N ^ m) h
  rw [Nat.add_mul_div_right _ _ (by omega),Nat.add_mul_div_right _ _ (by omega),Nat.div_eq_of_lt b1,Nat.div_eq_of_lt c1,Nat.zero_add,Nat.zero_add] at hb
  by_cases him : i = m
  ·subst him; exact hb
  ·rw [hb] at h
   exact enc_inj (m:=m) (fun i hi => hB i (by omega)) (fun i hi => hC i (by omega)) (by omega) i (by omega)
theorem nodup_lt : ∀ (R : Nat) (l : List Nat),l.Nodup → (∀ x ∈ l,x < R) → l.length ≤ R
 | 0,l,_,h => by
  cases l with
  | nil => exact nLr _
  | cons x l => exact absurd (h x List.mem_cons_self) (Nat.not_lt_zero _)
 | R + 1,l,hn,h => by
  have ih:=nodup_lt R (l.erase R) (hn.erase R) fun x hx => by
   have:=(List.Nodup.mem_erase_iff hn).1 hx
   have:=h x this.2
   omega
  by_cases hR : R ∈ l
  ·rw [List.length_erase_of_mem hR] at ih; omega
  ·rw [List.erase_of_not_mem hR] at ih; omega
theorem way_len {m N cnt k : Nat} {cost : Nat → Rat} {f : Nat → Tab} {E L : Nat → Nat} (h : Way m N cnt cost k f E L) (hc : cnt ≤ N) (h0 : Ok m N (f 0)) : k < N ^ m:=by
 refine Classical.byContradiction fun hn => ?_
 have hB : ∀ j,j ≤ k → ∀ i,i < m → (f j).B i < N:=fun j hj => (h.ok hc h0 j hj).bas
 have hnd : ((List.range (k + 1)).map fun j => enc N (f j).B m).Nodup:=by
  rw [List.nodup_iff_pairwise_ne,List.pairwise_map]
  refine List.Pairwise.imp_of_mem (fun {a b} ha hb (hab : a < b) => ?_) List.pairwise_lt_range
  have ha:=List.mem_range.1 ha
  have hb:=List.mem_range.1 hb
  exact fun he => no_repeat h hc h0 hab (by omega) (enc_inj (hB a (by omega)) (hB b (by omega)) he)
 have:=nodup_lt (N ^ m) _ hnd fun x hx => by
  obtain ⟨j,hj,rfl⟩:=List.mem_map.1 hx
  exact enc_lt (hB j (by have:=List.mem_range.1 hj; omega))
 rw [lMp,List.length_range] at this
 omega
end Go.Bl
namespace Go.Bl
open Go.Det
def fact : Nat → Nat
 | 0 => 1
 | n + 1 => (n + 1) * fact n
def wprod (w : Nat → Nat) : List Nat → Nat
 | [] => 1
 | c :: cs => w c * wprod w cs
theorem wprod_app (w : Nat → Nat) : ∀ p q : List Nat,wprod w (p ++ q) = wprod w p * wprod w q
 | [],q => by simp [wprod]
 | c :: p,q => by rw [List.cons_append,wprod,wprod,wprod_app w p q,Nat.mul_assoc]
theorem wprod_mid (w : Nat → Nat) (p : List Nat) (c : Nat) (q : List Nat) : w c * wprod w (p ++ q) = wprod w (p ++ c :: q):=by
 rw [wprod_app,wprod_app,wprod]
 grind
theorem spl_bd {g : List Nat → Nat → List Nat → Int} (K : Nat) : ∀ (cs pre : List Nat),(∀ p c q,p ++ c :: q = pre ++ cs → (g p c q).natAbs ≤ K) → (spl g pre cs).natAbs ≤ cs.length * K
 | [],_,_ => by simp [spl]
 | c :: post,pre,h => by
  have h1:=h pre c post rfl
  have h2:=spl_bd K post (pre ++ [c]) fun p d q e => h p d q (by simpa using e)
  rw [spl,List.length_cons,Nat.add_mul,Nat.one_mul]
  omega
theorem sg_abs (k : Nat) : (sg k).natAbs = 1:=by rcases sg_or k with h | h <;> rw [h] <;> rfl
theorem minr_leib (A : Nat → Nat → Int) (w : Nat → Nat) : ∀ (rs cs : List Nat),rs.length = cs.length → (∀ r ∈ rs,∀ c ∈ cs,(A r c).natAbs ≤ w c) → (minr A rs cs).natAbs ≤ fact rs.length * wprod w cs
 | [],cs,hl,_ => by
  have : cs = []:=List.eq_nil_of_length_eq_zero (by simpa using hl.symm)
  subst this
  exact nLr _
 | r :: rs,cs,hl,h => by
  rw [minr_cons]
  have:=spl_bd (g:=fun p c q => sg p.length * (A r c * minr A rs (p ++ q))) (fact rs.length * wprod w cs) cs [] fun p c q e => by
   have e : p ++ c :: q = cs:=e
   subst e
   have h1:=h r List.mem_cons_self c (by simp)
   have h2:=minr_leib A w rs (p ++ q) (by simp at hl ⊢; omega) fun r' hr' c' hc' => h r' (List.mem_cons_of_mem _ hr') c' (by simp at hc' ⊢; rcases hc' with h | h; exact .inl h; exact .inr (.inr h))
   rw [Int.natAbs_mul,Int.natAbs_mul,sg_abs,Nat.one_mul]
   have h3:=Nat.mul_le_mul h1 h2
   rw [← wprod_mid w p c q]
   calc _ ≤ w c * (fact rs.length * wprod w (p ++ q)):=h3
    _ = _:=by grind
  rw [List.length_cons,fact]
  have hl' : cs.length = rs.length + 1:=by simpa using hl.symm
  rw [hl'] at this
  calc _ ≤ (rs.length + 1) * (fact rs.length * wprod w cs):=this
   _ = _:=by grind
theorem cast_sum (f : Nat → Int) : ∀ n : Nat,((sumR f n : Int) : Rat) = sm n fun i => (f i : Rat)
 | 0 => rfl
 | n + 1 => by rw [sumR,sm,Rat.intCast_add,cast_sum f n]
theorem whole_den (t : Rat) : ((t.num : Int) : Rat) = ((t.den : Int) : Rat) * t:=by
 have h : t = (t.num : Rat) / ((t.den : Int) : Rat):=by
  rw [← Rat.divInt_eq_div]
  exact (Rat.num_divInt_den t).symm
 have hd : ((t.den : Int) : Rat) ≠ 0:=fun h0 => by
  have:=Rat.intCast_inj.1 (h0.trans (by rfl : (0 : Rat) = ((0 : Int) : Rat)))
  have:=t.den_pos
  omega
 grind
theorem common (t : Nat → Rat) : ∀ m : Nat,∃ (d : Int) (n : Nat → Int),d ≠ 0 ∧ ∀ i,i < m → (n i : Rat) = (d : Rat) * t i
 | 0 => ⟨1,fun _ => 0,by decide,fun i hi => absurd hi (Nat.not_lt_zero _)⟩
 | m + 1 => by
  obtain ⟨d,n,hd,hn⟩:=common t m
  refine ⟨d * (t m).den,fun i => if i = m then d * (t m).num else n i * (t m).den,?_,fun i hi => ?_⟩
  ·have:=(t m).den_pos
   exact Int.mul_ne_zero hd (by omega)
  ·dsimp only
   by_cases him : i = m
   ·subst him
    rw [if_pos rfl,Rat.intCast_mul,Rat.intCast_mul,whole_den]
    grind
   ·rw [if_neg him,Rat.intCast_mul,Rat.intCast_mul,hn i (by omega)]
    grind
def matB (orig : Nat → Nat → Int) (s : Tab) : Nat → Nat → Int:=fun j i => orig j (s.B i)
def detB (m : Nat) (orig : Nat → Nat → Int) (s : Tab) : Int:=minr (matB orig s) (List.range m) (List.range m)
def numB (m : Nat) (orig : Nat → Nat → Int) (s : Tab) (i k : Nat) : Int:=minr (rep (matB orig s) i fun j => orig j k) (List.range m) (List.range m)
theorem tab_det {m N : Nat} {orig : Nat → Nat → Int} {s : Tab} (h : ∀ j,j < m → RS m N s fun k => (orig j k : Rat)) {i k : Nat} (hi : i < m) (hk : k ≤ N) : s.T i k * (detB m orig s : Rat) = (numB m orig s i k : Rat):=by
 obtain ⟨d,n,hd,hn⟩:=common (fun i => s.T i k) m
 have hd' : (d : Rat) ≠ 0:=fun h0 => hd (Rat.intCast_inj.1 (h0.trans (by rfl : (0 : Rat) = ((0 : Int) : Rat))))
 have hb : ∀ r ∈ List.range m,d * orig r k + 0 * orig r k = Det.comb (matB orig s) n (List.range m) r:=fun r hr => by
  have hr:=List.mem_range.1 hr
  rw [comb_range]
  refine Rat.intCast_inj.1 ?_
  have e:=h r hr k hk
  dsimp only at e
  rw [cast_sum,Int.zero_mul,Int.add_zero,Rat.intCast_mul,e]
  rw [show (d : Rat) * (sm m fun i => (orig r (s.B i) : Rat) * s.T i k) = (sm m fun i => (orig r (s.B i) : Rat) * s.T i k) * (d : Rat) by grind,← sm_mul]
  refine sm_congr fun x hx => ?_
  rw [Rat.intCast_mul,hn x hx]
  show _ = (d : Rat) * s.T x k * (orig r (s.B x) : Rat)
  grind
 have h1:=cramer (matB orig s) n (fun j => d * orig j k + 0 * orig j k) i (List.range m) (List.range m) rfl List.nodup_range (List.mem_range.2 hi) hb
 rw [rep_lin (matB orig s) i (fun j => orig j k) (fun j => orig j k) d 0 (List.range m) (List.range m) rfl List.nodup_range (List.mem_range.2 hi),Int.zero_mul,Int.add_zero] at h1
 have h2:=congrArg (fun x : Int => (x : Rat)) h1
 rw [Rat.intCast_mul,Rat.intCast_mul,hn i hi] at h2
 show s.T i k * ((minr (matB orig s) (List.range m) (List.range m) : Int) : Rat) = ((minr (rep (matB orig s) i fun j => orig j k) (List.range m) (List.range m) : Int) : Rat)
 grind
theorem det_piv {m N : Nat} {orig : Nat → Nat → Int} {s : Tab} (h : ∀ j,j < m → RS m N s fun k => (orig j k : Rat)) {r e : Nat} (hr : r < m) (he : e ≤ N) : (detB m orig (piv s r e) : Rat) = s.T r e * (detB m orig s : Rat):=by
 rw [tab_det h hr he]
 have : matB orig (piv s r e) = rep (matB orig s) r fun j => orig j e:=by
  funext j i
  unfold matB rep piv
  dsimp only
  split <;> rfl
 unfold detB numB
 rw [this]
theorem small_of {t : Rat} {p q : Int} (hq : q ≠ 0) (h : t * (q : Rat) = (p : Rat)) : t.num.natAbs ≤ p.natAbs ∧ t.den ≤ q.natAbs:=by
 have hq' : (q : Rat) ≠ 0:=fun h0 => hq (Rat.intCast_inj.1 (h0.trans (by rfl : (0 : Rat) = ((0 : Int) : Rat))))
 have e : t = Rat.divInt p q:=by rw [Rat.divInt_eq_div]; grind
 rw [e,Rat.num_divInt,Rat.den_divInt,if_neg hq]
 constructor
 ·refine Nat.le_trans (Int.natAbs_ediv_le_natAbs _ _) ?_
  rw [Int.natAbs_mul]
  have : q.sign.natAbs ≤ 1:=by
   rcases Int.lt_trichotomy q 0 with h | h | h
   ·rw [Int.sign_eq_neg_one_of_neg h]; decide
   ·exact absurd h hq
   ·rw [Int.sign_eq_one_of_pos h]; decide
  have:=Nat.mul_le_mul_right p.natAbs this
  omega
 ·exact Nat.div_le_self _ _
end Go.Bl
namespace Go.Bl
theorem sm_comm (m n : Nat) (f : Nat → Nat → Rat) : sm m (fun i => sm n (f i)) = sm n (fun j => sm m fun i => f i j):=by
 induction m with
 | zero => rw [sm]; exact (sm_zero n).symm
 | succ m ih =>
  rw [sm,ih,← sm_add]
  rfl
theorem sm_le {n : Nat} {f g : Nat → Rat} (h : ∀ k,k < n → f k ≤ g k) : sm n f ≤ sm n g:=by
 induction n with
 | zero => exact Rat.le_refl
 | succ n ih =>
  have h1:=ih fun k hk => h k (by omega)
  have h2:=h n (by omega)
  rw [sm,sm]
  grind
theorem sm_nonneg {n : Nat} {f : Nat → Rat} (h : ∀ k,k < n → 0 ≤ f k) : 0 ≤ sm n f:=by
 have:=sm_le (f:=fun _ => 0) h
 rwa [sm_zero] at this
theorem sm_all0 : ∀ {n : Nat} {f : Nat → Rat},(∀ k,k < n → 0 ≤ f k) → sm n f = 0 → ∀ k,k < n → f k = 0
 | 0,_,_,_,k,hk => absurd hk (Nat.not_lt_zero _)
 | n + 1,f,h,h0,k,hk => by
  have h1:=sm_nonneg (n:=n) fun k hk => h k (by omega)
  have h2:=h n (by omega)
  rw [sm] at h0
  by_cases hkn : k = n
  ·subst hkn; grind
  ·exact sm_all0 (n:=n) (fun k hk => h k (by omega)) (by grind) k (by omega)
def Sat (m N : Nat) (s : Tab) (x : Nat → Rat) : Prop:=∀ i,i < m → sm N (fun k => s.T i k * x k) = s.T i N
section
variable {m N cnt : Nat} {cost : Nat → Rat} {s : Tab}
theorem sat_piv {x : Nat → Rat} (h : Sat m N s x) {r e : Nat} (hr : r < m) : Sat m N (piv s r e) x:=fun i hi => by
 have h1:=h r hr
 have h2:=h i hi
 unfold piv
 dsimp only
 by_cases hir : i = r
 ·rw [if_pos hir]
  rw [sm_congr (g:=fun k => s.T r k * x k * (1 / s.T r e)) fun k _ => by rw [if_pos hir]; grind,sm_mul,h1]
  grind
 ·rw [if_neg hir]
  rw [sm_congr (g:=fun k => s.T i k * x k - s.T r k * x k * (s.T i e / s.T r e)) fun k _ => by rw [if_neg hir]; grind,sm_sub,sm_mul,h1,h2]
  grind
def pt (m N : Nat) (s : Tab) (k : Nat) : Rat:=sm m fun i => if s.B i = k then s.T i N else 0
theorem pt_pos (h : Ok m N s) (k : Nat) : 0 ≤ pt m N s k:=sm_nonneg fun i hi => by
 split
 ·exact h.pos i hi
 ·exact Rat.le_refl
theorem pt_sum (h : Ok m N s) (f : Nat → Rat) : sm N (fun k => f k * pt m N s k) = sm m fun i => f (s.B i) * s.T i N:=by
 unfold pt
 rw [sm_congr (g:=fun k => sm m fun i => if s.B i = k then f k * s.T i N else 0) fun k _ => by
  rw [show (f k * sm m fun i => if s.B i = k then s.T i N else 0) = (sm m fun i => if s.B i = k then s.T i N else 0) * f k by grind,← sm_mul]
  refine sm_congr fun i _ => ?_
  split <;> grind,sm_comm]
 refine sm_congr fun i hi => ?_
 have:=sm_one (fun k => f k * s.T i N) (h.bas i hi)
 rw [← this]
 refine sm_congr fun k _ => ?_
 by_cases hk : k = s.B i
 ·rw [if_pos hk,if_pos hk.symm]
 ·rw [if_neg hk,if_neg fun he => hk he.symm]
theorem pt_rs (h : Ok m N s) {f : Nat → Rat} (hf : RS m N s f) : sm N (fun k => f k * pt m N s k) = f N:=by
 rw [pt_sum h,← hf N (nLr _)]
theorem optimum {x : Nat → Rat} (hg : ∀ k,k < cnt → gain m cost s k ≤ 0) (hx : ∀ k,k < N → 0 ≤ x k) (h0 : ∀ k,cnt ≤ k → k < N → x k = 0) (hs : Sat m N s x) : sm N (fun k => cost k * x k) ≤ y m cost s N:=by
 have e : sm N (fun k => y m cost s k * x k) = y m cost s N:=by
  unfold y
  rw [sm_congr (g:=fun k => sm m fun i => cost (s.B i) * s.T i k * x k) fun k _ => by rw [sm_mul],sm_comm]
  refine sm_congr fun i hi => ?_
  rw [sm_congr (g:=fun k => s.T i k * x k * cost (s.B i)) fun k _ => by grind,sm_mul,hs i hi]
  grind
 rw [← e]
 refine sm_le fun k hk => ?_
 by_cases hkc : k < cnt
 ·have h1:=hg k hkc
  unfold gain at h1
  have h2:=hx k hk
  have:=Rat.mul_nonneg (show 0 ≤ y m cost s k - cost k by grind) h2
  grind
 ·rw [h0 k (by omega) hk]; grind
theorem no_leave {e : Nat} (hl : ∀ i,i < m → s.T i e ≤ 0) (hcost : ∀ i,i < m → cost (s.B i) ≤ 0) (he : cost e ≤ 0) : gain m cost s e ≤ 0:=by
 unfold gain y
 have : 0 ≤ sm m fun i => cost (s.B i) * s.T i e:=sm_nonneg fun i hi => by
  have h1:=hl i hi
  have h2:=hcost i hi
  have:=Rat.mul_nonneg (show 0 ≤ - cost (s.B i) by grind) (show 0 ≤ - s.T i e by grind)
  grind
 grind
end
end Go.Bl
namespace Go.Bl
open Go.Det
structure Eqs where
 cnt : Nat
 m : Nat
 cell : Nat → Nat → Bool
 val : Nat → Int
abbrev Eqs.N (q : Eqs) : Nat:=q.cnt + q.m
def Eqs.orig (q : Eqs) (j k : Nat) : Int:=if k < q.cnt then (if q.cell j k then 1 else 0) else if k = q.cnt + q.m then q.val j else if k = q.cnt + j then 1 else 0
def Eqs.s0 (q : Eqs) : Tab:=⟨fun i k => (q.orig i k : Rat),fun i => q.cnt + i⟩
structure Eqs.Small (q : Eqs) : Prop where
 cnt : q.cnt ≤ 10
 m : q.m ≤ 10
 val : ∀ j,j < q.m → 0 ≤ q.val j ∧ q.val j ≤ 1000
theorem orig_cell {q : Eqs} {j k : Nat} (h : k < q.cnt) : q.orig j k = if q.cell j k then 1 else 0:=if_pos h
theorem orig_val (q : Eqs) (j : Nat) : q.orig j (q.cnt + q.m) = q.val j:=by
 unfold Eqs.orig
 rw [if_neg (by omega),if_pos rfl]
theorem orig_art {q : Eqs} {j i : Nat} (hi : i < q.m) : q.orig j (q.cnt + i) = if j = i then 1 else 0:=by
 unfold Eqs.orig
 rw [if_neg (by omega),if_neg (by omega)]
 by_cases h : j = i
 ·rw [if_pos (by omega),if_pos h]
 ·rw [if_neg (by omega),if_neg h]
theorem orig_bd {q : Eqs} {j k : Nat} (hk : k < q.N) : (q.orig j k).natAbs ≤ 1 ∧ 0 ≤ q.orig j k:=by
 by_cases hc : k < q.cnt
 ·rw [orig_cell hc]; split <;> decide
 ·obtain ⟨i,rfl⟩ : ∃ i,k = q.cnt + i:=⟨k - q.cnt,by omega⟩
  rw [orig_art (by show i < q.m; have : q.cnt + i < q.cnt + q.m:=hk; omega)]
  split <;> decide
theorem spl_all0 {g : List Nat → Nat → List Nat → Int} {cs pre : List Nat} (h : ∀ p c q,p ++ c :: q = pre ++ cs → pre.length ≤ p.length → g p c q = 0) : spl g pre cs = 0:=(spl_congr cs pre h).trans (spl_zero cs pre)
theorem minr_id {A : Nat → Nat → Int} : ∀ rs : List Nat,rs.Nodup → (∀ r ∈ rs,∀ c ∈ rs,A r c = if r = c then 1 else 0) → minr A rs rs = 1
 | [],_,_ => rfl
 | r :: rs,hn,h => by
  have hn':=List.nodup_cons.1 hn
  rw [minr_cons,spl,List.nil_append,minr_id rs hn'.2 fun a ha b hb => h a (List.mem_cons_of_mem _ ha) b (List.mem_cons_of_mem _ hb),h r List.mem_cons_self r List.mem_cons_self,if_pos rfl]
  rw [spl_all0 fun p c q e hp => ?_]
  ·rfl
  ·have hc : c ∈ rs:=by
    cases p with
    | nil => simp at hp
    | cons a p' =>
     have e2 : a :: (p' ++ c :: q) = r :: rs:=by simpa using e
     injection e2 with e3 e4
     rw [← e4]; simp
   rw [h r List.mem_cons_self c (List.mem_cons_of_mem _ hc),if_neg (fun he : r = c => hn'.1 (he ▸ hc))]
   simp
theorem cast_if (p : Prop) [Decidable p] : (((if p then 1 else 0 : Int) : Int) : Rat) = if p then 1 else 0:=by split <;> rfl
structure Inv (q : Eqs) (s : Tab) : Prop where
 ok : Ok q.m q.N s
 rs : ∀ j,j < q.m → RS q.m q.N s fun k => (q.orig j k : Rat)
 det : detB q.m q.orig s ≠ 0
 rc : ∀ i,i < q.m → ∀ k,k ≤ q.N → s.T i k = sm q.m fun j => s.T i (q.cnt + j) * (q.orig j k : Rat)
theorem s0_inv {q : Eqs} (hq : q.Small) : Inv q q.s0:=by
 have hT : ∀ i k,q.s0.T i k = (q.orig i k : Rat):=fun _ _ => rfl
 have hB : ∀ i,q.s0.B i = q.cnt + i:=fun _ => rfl
 refine ⟨⟨fun i hi => ?_,fun i j hi hj => ?_,fun i hi => ?_⟩,fun j hj k hk => ?_,?_,fun i hi k hk => ?_⟩
 ·rw [hB]; show q.cnt + i < q.cnt + q.m; omega
 ·rw [hB,hT,orig_art hi,cast_if]
 ·rw [hT,show q.N = q.cnt + q.m from rfl,orig_val]
  have:=(hq.val i hi).1
  exact_mod_cast this
 ·rw [sm_congr (g:=fun i => if i = j then (q.orig i k : Rat) else 0) fun i hi => ?_,sm_one _ hj]
  rw [hB,hT]
  dsimp only
  rw [orig_art hi,cast_if]
  by_cases h : j = i
  ·rw [if_pos h,if_pos h.symm]; grind
  ·rw [if_neg h,if_neg (Ne.symm h)]; grind
 ·have : detB q.m q.orig q.s0 = 1:=minr_id _ List.nodup_range fun r hr c hc => by
   show q.orig r (q.s0.B c) = _
   rw [hB,orig_art (List.mem_range.1 hc)]
  rw [this]; decide
 ·rw [sm_congr (g:=fun j => if j = i then (q.orig j k : Rat) else 0) fun j hj => ?_,sm_one _ hi,hT]
  rw [hT,orig_art hj,cast_if]
  by_cases h : i = j
  ·rw [if_pos h,if_pos h.symm]; grind
  ·rw [if_neg h,if_neg (Ne.symm h)]; grind
section
variable {q : Eqs} {s : Tab}
theorem piv_T {r e i k : Nat} : (piv s r e).T i k = if i = r then s.T r k / s.T r e else s.T i k - s.T i e * (s.T r k / s.T r e):=rfl
theorem Inv.piv (h : Inv q s) {r e : Nat} (hr : r < q.m) (he : e < q.cnt) (hp : s.T r e ≠ 0) (hpos : ∀ i,i < q.m → 0 ≤ (piv s r e).T i q.N) : Inv q (piv s r e):=by
 have heN : e ≤ q.N:=by show e ≤ q.cnt + q.m; omega
 refine ⟨⟨fun i hi => ?_,fun i j hi hj => ?_,hpos⟩,fun j hj => rs_piv hr heN hp (h.rs j hj),?_,fun i hi k hk => ?_⟩
 ·unfold Bl.piv
  dsimp only
  split
  ·show e < q.cnt + q.m; omega
  ·exact h.ok.bas i hi
 ·unfold Bl.piv
  dsimp only
  by_cases hir : i = r
  ·rw [if_pos hir]
   by_cases hjr : j = r
   ·rw [if_pos hjr,div_self hp,if_pos (hjr.trans hir.symm)]
   ·rw [if_neg hjr,div_self hp,if_neg (by omega)]; grind
  ·rw [if_neg hir]
   have hz : s.T r (s.B i) = 0:=by rw [h.ok.unit i r hi hr,if_neg (by omega)]
   by_cases hjr : j = r
   ·rw [if_pos hjr,hz,if_neg (by omega)]; grind
   ·rw [if_neg hjr,hz,h.ok.unit i j hi hj]
    split <;> grind
 ·intro h0
  have h1:=det_piv h.rs hr heN
  rw [h0] at h1
  have hd : (detB q.m q.orig s : Rat) ≠ 0:=fun h2 => h.det (Rat.intCast_inj.1 (h2.trans (by rfl : (0 : Rat) = ((0 : Int) : Rat))))
  have h3 : s.T r e * (detB q.m q.orig s : Rat) = 0:=h1.symm.trans rfl
  rcases Rat.mul_eq_zero.1 h3 with h4 | h4
  ·exact hp h4
  ·exact hd h4
 ·by_cases hir : i = r
  ·subst hir
   rw [piv_T,if_pos rfl,h.rc i hi k hk]
   rw [show (sm q.m fun j => s.T i (q.cnt + j) * (q.orig j k : Rat)) / s.T i e = (sm q.m fun j => s.T i (q.cnt + j) * (q.orig j k : Rat)) * (1 / s.T i e) by grind,← sm_mul]
   refine sm_congr fun j _ => ?_
   rw [piv_T,if_pos rfl]; grind
  ·rw [piv_T,if_neg hir,h.rc i hi k hk,h.rc r hr k hk]
   rw [show (sm q.m fun j => s.T i (q.cnt + j) * (q.orig j k : Rat)) - s.T i e * ((sm q.m fun j => s.T r (q.cnt + j) * (q.orig j k : Rat)) / s.T r e) = (sm q.m fun j => s.T i (q.cnt + j) * (q.orig j k : Rat)) - (sm q.m fun j => s.T r (q.cnt + j) * (q.orig j k : Rat)) * (s.T i e / s.T r e) by grind,← sm_mul,← sm_sub]
   refine sm_congr fun j _ => ?_
   rw [piv_T,if_neg hir]; grind
theorem Inv.step {cost : Nat → Rat} (h : Inv q s) {r e : Nat} (he : Ent q.m q.cnt cost s e) (hl : Lea q.m q.N s e r) : Inv q (Bl.piv s r e) :=
 h.piv hl.lt he.lt (by have:=hl.pos; grind) (ok_piv h.ok (by show q.cnt ≤ q.cnt + q.m; omega) he hl).pos
theorem Inv.out (h : Inv q s) {r e : Nat} (hr : r < q.m) (he : e < q.cnt) (hp : s.T r e ≠ 0) (h0 : s.T r q.N = 0) : Inv q (Bl.piv s r e):=h.piv hr he hp fun i hi => by
 rw [piv_T,h0]
 have:=h.ok.pos i hi
 split <;> grind
end
abbrev RBp (t : Rat) : Prop:=t.num.natAbs ≤ 1152921504606846976 ∧ t.den ≤ 1152921504606846976
theorem rb_of {t : Rat} {p D : Int} (hD : D ≠ 0) (h : t * (D : Rat) = (p : Rat)) (hp : p.natAbs ≤ 1152921504606846976) (hd : D.natAbs ≤ 1152921504606846976) : RBp t:=by
 obtain ⟨h1,h2⟩:=small_of hD h
 exact ⟨by omega,by omega⟩
structure Num (q : Eqs) (s : Tab) (D : Int) : Prop where
 ne : D ≠ 0
 le : D.natAbs ≤ 3628800
 num : ∀ i,i < q.m → ∀ k,k ≤ q.N → ∃ p : Int,s.T i k * (D : Rat) = (p : Rat) ∧ p.natAbs ≤ 3628800000 ∧ (k < q.N → p.natAbs ≤ 3628800)
theorem fact_le {n : Nat} (h : n ≤ 10) : fact n ≤ 3628800:=by
 have : n = 0 ∨ n = 1 ∨ n = 2 ∨ n = 3 ∨ n = 4 ∨ n = 5 ∨ n = 6 ∨ n = 7 ∨ n = 8 ∨ n = 9 ∨ n = 10:=by omega
 rcases this with rfl | rfl | rfl | rfl | rfl | rfl | rfl | rfl | rfl | rfl | rfl <;> decide
theorem wprod_ones {w : Nat → Nat} : ∀ l : List Nat,(∀ c ∈ l,w c = 1) → wprod w l = 1
 | [],_ => rfl
 | c :: l,h => by rw [wprod,h c List.mem_cons_self,wprod_ones l fun d hd => h d (List.mem_cons_of_mem _ hd)]
theorem wprod_one {w : Nat → Nat} {i W : Nat} (hW : 1 ≤ W) (hi : w i = W) : ∀ l : List Nat,l.Nodup → (∀ c ∈ l,c ≠ i → w c = 1) → wprod w l ≤ W
 | [],_,_ => hW
 | c :: l,hn,h => by
  have hn':=List.nodup_cons.1 hn
  rw [wprod]
  by_cases hc : c = i
  ·subst hc
   rw [wprod_ones l fun d hd => h d (List.mem_cons_of_mem _ hd) (fun he : d = c => hn'.1 (he ▸ hd)),hi,Nat.mul_one]
   exact nLr _
  ·rw [h c List.mem_cons_self hc,Nat.one_mul]
   exact wprod_one hW hi l hn'.2 fun d hd => h d (List.mem_cons_of_mem _ hd)
theorem Inv.num {q : Eqs} {s : Tab} (hq : q.Small) (h : Inv q s) : ∃ D,Num q s D:=by
 have hf:=fact_le hq.m
 have hB : ∀ c ∈ List.range q.m,∀ r,(q.orig r (s.B c)).natAbs ≤ 1:=fun c hc r => (orig_bd (h.ok.bas c (List.mem_range.1 hc))).1
 refine ⟨detB q.m q.orig s,h.det,?_,fun i hi k hk => ⟨numB q.m q.orig s i k,tab_det h.rs hi hk,?_⟩⟩
 ·have:=minr_leib (matB q.orig s) (fun _ => 1) (List.range q.m) (List.range q.m) rfl fun r _ c hc => hB c hc r
  rw [wprod_ones _ (fun _ _ => rfl),Nat.mul_one,List.length_range] at this
  unfold detB
  omega
 ·have key : ∀ W : Nat,1 ≤ W → (∀ r,r < q.m → (q.orig r k).natAbs ≤ W) → (numB q.m q.orig s i k).natAbs ≤ fact q.m * W:=fun W hW hb => by
   have h1:=minr_leib (rep (matB q.orig s) i fun j => q.orig j k) (fun c => if c = i then W else 1) (List.range q.m) (List.range q.m) rfl fun r hr c hc => by
    unfold rep
    by_cases hci : c = i
    ·rw [if_pos hci,if_pos hci]; exact hb r (List.mem_range.1 hr)
    ·rw [if_neg hci,if_neg hci]; exact hB c hc r
   rw [List.length_range] at h1
   exact Nat.le_trans h1 (Nat.mul_le_mul_left _ (wprod_one (w:=fun c => if c = i then W else 1) (i:=i) hW (if_pos rfl) _ List.nodup_range fun c _ hc => if_neg hc))
  constructor
  ·have:=key 1000 (by decide) fun r hr => by
    rcases Nat.lt_or_ge k q.N with hlt | hge
    ·have:=(orig_bd (q:=q) (j:=r) hlt).1; omega
    ·rw [show k = q.cnt + q.m from Nat.le_antisymm hk hge,orig_val]
     have:=hq.val r hr
     omega
   omega
  ·intro hlt
   have:=key 1 (by decide) fun r _ => (orig_bd hlt).1
   omega
section
variable {q : Eqs} {s : Tab} {D : Int}
theorem Num.d60 (h : Num q s D) : D.natAbs ≤ 1152921504606846976:=by have:=h.le; omega
theorem Num.rb (h : Num q s D) {i k : Nat} (hi : i < q.m) (hk : k ≤ q.N) : RBp (s.T i k):=by
 obtain ⟨p,h1,h2,_⟩:=h.num i hi k hk
 exact rb_of h.ne h1 (by omega) h.d60
theorem cast_ne {p : Int} (h : p ≠ 0) : (p : Rat) ≠ 0:=fun h0 => h (Rat.intCast_inj.1 (h0.trans (by rfl : (0 : Rat) = ((0 : Int) : Rat))))
theorem ne_of_mul {t : Rat} {p D : Int} (ht : t ≠ 0) (hD : D ≠ 0) (h : t * (D : Rat) = (p : Rat)) : p ≠ 0:=fun hp => by
 subst hp
 rcases Rat.mul_eq_zero.1 (h.trans rfl) with h1 | h1
 ·exact ht h1
 ·exact cast_ne hD h1
theorem Num.quo (h : Num q s D) {i j k e : Nat} (hi : i < q.m) (hj : j < q.m) (hk : k ≤ q.N) (he : e < q.N) (hne : s.T j e ≠ 0) : ∃ p p' : Int,p' ≠ 0 ∧ p'.natAbs ≤ 3628800 ∧ p.natAbs ≤ 3628800000 ∧ s.T i k / s.T j e * (p' : Rat) = (p : Rat):=by
 obtain ⟨p,h1,h2,_⟩:=h.num i hi k hk
 obtain ⟨p',h3,_,h4⟩:=h.num j hj e (Nat.le_of_lt he)
 have hp':=ne_of_mul hne h.ne h3
 refine ⟨p,p',hp',h4 he,h2,?_⟩
 rw [← h3,← h1]
 grind
theorem Num.rbq (h : Num q s D) {i j k e : Nat} (hi : i < q.m) (hj : j < q.m) (hk : k ≤ q.N) (he : e < q.N) (hne : s.T j e ≠ 0) : RBp (s.T i k / s.T j e):=by
 obtain ⟨p,p',h1,h2,h3,h4⟩:=h.quo hi hj hk he hne
 exact rb_of h1 h4 (by omega) (by omega)
theorem Num.rbt (h : Num q s D) {i j k e : Nat} (hi : i < q.m) (hj : j < q.m) (hk : k ≤ q.N) (he : e < q.N) (hne : s.T j e ≠ 0) : RBp (s.T i e * (s.T j k / s.T j e)):=by
 obtain ⟨p,p',h1,h2,h3,h4⟩:=h.quo hj hj hk he hne
 obtain ⟨r,h5,_,h6⟩:=h.num i hi e (Nat.le_of_lt he)
 have h6:=h6 he
 have hd:=h.le
 refine rb_of (D:=D * p') (p:=r * p) (Int.mul_ne_zero h.ne h1) ?_ ?_ ?_
 ·rw [Rat.intCast_mul,Rat.intCast_mul,← h5,← h4]; grind
 ·rw [Int.natAbs_mul]
  have:=Nat.mul_le_mul h6 h3
  omega
 ·rw [Int.natAbs_mul]
  have:=Nat.mul_le_mul hd h2
  omega
theorem Num.sum (h : Num q s D) {k : Nat} (hk : k < q.N) (c : Nat → Int) (hc : ∀ i,(c i).natAbs ≤ 1) : ∀ j,j ≤ q.m → ∃ P : Int,(sm j fun i => (c i : Rat) * s.T i k) * (D : Rat) = (P : Rat) ∧ P.natAbs ≤ j * 3628800
 | 0,_ => ⟨0,by rw [sm]; grind,nZl _⟩
 | j + 1,hj => by
  obtain ⟨P,h1,h2⟩:=Num.sum h hk c hc j (by omega)
  obtain ⟨p,h3,_,h4⟩:=h.num j (by omega) k (Nat.le_of_lt hk)
  have h4:=h4 hk
  refine ⟨P + c j * p,?_,?_⟩
  ·rw [sm,Rat.intCast_add,Rat.intCast_mul,← h1,← h3]; grind
  ·have h5 : (c j * p).natAbs ≤ 3628800:=by
    rw [Int.natAbs_mul]
    have:=Nat.mul_le_mul (hc j) h4
    omega
   have : (P + c j * p).natAbs ≤ P.natAbs + (c j * p).natAbs:=Int.natAbs_add_le _ _
   omega
theorem Num.rbs (h : Num q s D) (hq : q.Small) {k : Nat} (hk : k < q.N) (c : Nat → Int) (hc : ∀ i,(c i).natAbs ≤ 1) (c0 : Int) (h0 : c0.natAbs ≤ 1) {j : Nat} (hj : j ≤ q.m) : RBp ((c0 : Rat) - sm j fun i => (c i : Rat) * s.T i k):=by
 obtain ⟨P,h1,h2⟩:=h.sum hk c hc j hj
 have hd:=h.le
 have hm:=hq.m
 refine rb_of (p:=c0 * D - P) h.ne ?_ ?_ h.d60
 ·rw [Rat.intCast_sub,Rat.intCast_mul,← h1]; grind
 ·have h3 : (c0 * D).natAbs ≤ 3628800:=by
   rw [Int.natAbs_mul]
   have:=Nat.mul_le_mul h0 hd
   omega
  have : (c0 * D - P).natAbs ≤ (c0 * D).natAbs + P.natAbs:=Int.natAbs_sub_le _ _
  omega
theorem Num.rb1 (h : Num q s D) {i k : Nat} (hi : i < q.m) (hk : k ≤ q.N) (c : Int) (hc : c.natAbs ≤ 1) : RBp ((c : Rat) * s.T i k):=by
 obtain ⟨p,h1,h2,_⟩:=h.num i hi k hk
 refine rb_of (p:=c * p) h.ne ?_ ?_ h.d60
 ·rw [Rat.intCast_mul,← h1]; grind
 ·rw [Int.natAbs_mul]
  have:=Nat.mul_le_mul hc h2
  omega
end
inductive Run (m N cnt : Nat) (cost : Nat → Rat) : Tab → Tab → Bool → Prop
 | opt {s : Tab} (h : ∀ k,k < cnt → gain m cost s k ≤ 0) : Run m N cnt cost s s true
 | unb {s : Tab} {e : Nat} (he : Ent m cnt cost s e) (h : ∀ i,i < m → s.T i e ≤ 0) : Run m N cnt cost s s false
 | step {s s' : Tab} {e r : Nat} {b : Bool} (he : Ent m cnt cost s e) (hl : Lea m N s e r) (h : Run m N cnt cost (piv s r e) s' b) : Run m N cnt cost s s' b
theorem Run.keeps {m N cnt : Nat} {cost : Nat → Rat} {P : Tab → Prop} (hP : ∀ s e r,P s → Ent m cnt cost s e → Lea m N s e r → P (piv s r e)) {s s' : Tab} {b : Bool} (h : Run m N cnt cost s s' b) : P s → P s':=by
 induction h with
 | opt _ => exact id
 | unb _ _ => exact id
 | step he hl _ ih => exact fun hs => ih (hP _ _ _ hs he hl)
theorem Run.end_t {m N cnt : Nat} {cost : Nat → Rat} {s s' : Tab} {b : Bool} (h : Run m N cnt cost s s' b) : b = true → ∀ k,k < cnt → gain m cost s' k ≤ 0:=by
 induction h with
 | opt h => exact fun _ => h
 | unb _ _ => exact fun h => nomatch h
 | step _ _ _ ih => exact ih
theorem Run.end_f {m N cnt : Nat} {cost : Nat → Rat} {s s' : Tab} {b : Bool} (h : Run m N cnt cost s s' b) : b = false → ∃ e,Ent m cnt cost s' e ∧ ∀ i,i < m → s'.T i e ≤ 0:=by
 induction h with
 | opt _ => exact fun h => nomatch h
 | unb he h => exact fun _ => ⟨_,he,h⟩
 | step _ _ _ ih => exact ih
def Gone (m N cnt : Nat) (cost : Nat → Rat) (s0 s : Tab) (k : Nat) : Prop:=∃ (f : Nat → Tab) (E L : Nat → Nat),Way m N cnt cost k f E L ∧ f 0 = s0 ∧ f k = s
theorem Gone.zero {m N cnt : Nat} {cost : Nat → Rat} (s : Tab) : Gone m N cnt cost s s 0:=⟨fun _ => s,fun _ => 0,fun _ => 0,⟨fun _ hj => absurd hj (Nat.not_lt_zero _),fun _ hj => absurd hj (Nat.not_lt_zero _),fun _ hj => absurd hj (Nat.not_lt_zero _)⟩,rfl,rfl⟩
theorem Gone.lt {m N cnt k : Nat} {cost : Nat → Rat} {s0 s : Tab} (h : Gone m N cnt cost s0 s k) (hc : cnt ≤ N) (h0 : Ok m N s0) : k < N ^ m:=by
 obtain ⟨f,E,L,hw,rfl,_⟩:=h
 exact way_len hw hc h0
theorem Gone.next {m N cnt k e r : Nat} {cost : Nat → Rat} {s0 s : Tab} (h : Gone m N cnt cost s0 s k) (he : Ent m cnt cost s e) (hl : Lea m N s e r) : Gone m N cnt cost s0 (piv s r e) (k + 1):=by
 obtain ⟨f,E,L,hw,h0,rfl⟩:=h
 refine ⟨fun j => if j ≤ k then f j else piv (f k) r e,fun j => if j < k then E j else e,fun j => if j < k then L j else r,⟨fun j hj => ?_,fun j hj => ?_,fun j hj => ?_⟩,?_,?_⟩
 ·rw [if_pos (by omega)]
  by_cases hjk : j < k
  ·rw [if_pos hjk]; exact hw.ent j hjk
  ·obtain rfl : j = k:=by omega
   rw [if_neg hjk]; exact he
 ·rw [if_pos (show j ≤ k by omega)]
  by_cases hjk : j < k
  ·rw [if_pos hjk,if_pos hjk]; exact hw.lea j hjk
  ·obtain rfl : j = k:=by omega
   rw [if_neg hjk,if_neg hjk]; exact hl
 ·rw [if_pos (show j ≤ k by omega)]
  by_cases hjk : j < k
  ·rw [if_pos (by omega),if_pos hjk,if_pos hjk]; exact hw.next j hjk
  ·obtain rfl : j = k:=by omega
   rw [if_neg (by omega),if_neg hjk,if_neg hjk]
 ·dsimp only
  rw [if_pos (nZl _)]; exact h0
 ·dsimp only
  rw [if_neg (by omega)]
theorem Gone.run {m N cnt : Nat} {cost : Nat → Rat} {s0 s s' : Tab} {b : Bool} {k : Nat} (h : Gone m N cnt cost s0 s k) (hr : Run m N cnt cost s s' b) : Run m N cnt cost s0 s' b:=by
 obtain ⟨f,E,L,hw,rfl,rfl⟩:=h
 have key : ∀ d,d ≤ k → Run m N cnt cost (f (k - d)) s' b:=fun d => by
  induction d with
  | zero => exact fun _ => hr
  | succ d ih =>
   intro hd
   have h1:=ih (by omega)
   have e1 : k - d = (k - (d + 1)) + 1:=by omega
   rw [e1,hw.next (k - (d + 1)) (by omega)] at h1
   exact .step (hw.ent _ (by omega)) (hw.lea _ (by omega)) h1
 have:=key k (nLr _)
 rwa [Nat.sub_self] at this
structure Feas (q : Eqs) (x : Nat → Rat) : Prop where
 pos : ∀ k,k < q.cnt → 0 ≤ x k
 eqn : ∀ i,i < q.m → (sm q.cnt fun k => if q.cell i k then x k else 0) = (q.val i : Rat)
theorem sm_split (n m : Nat) (f : Nat → Rat) : sm (n + m) f = sm n f + sm m fun j => f (n + j):=by
 induction m with
 | zero => rw [Nat.add_zero,sm]; grind
 | succ m ih => rw [← Nat.add_assoc,sm,ih,sm]; grind
theorem sm_cells {q : Eqs} {i : Nat} (x : Nat → Rat) : (sm q.cnt fun k => (q.orig i k : Rat) * x k) = sm q.cnt fun k => if q.cell i k then x k else 0:=sm_congr fun k hk => by
 rw [orig_cell hk,cast_if]
 split <;> grind
def ext (q : Eqs) (x : Nat → Rat) (k : Nat) : Rat:=if k < q.cnt then x k else 0
theorem sat_s0 {q : Eqs} {x : Nat → Rat} (h : Feas q x) : Sat q.m q.N q.s0 (ext q x):=fun i hi => by
 show sm (q.cnt + q.m) (fun k => (q.orig i k : Rat) * ext q x k) = (q.orig i (q.cnt + q.m) : Rat)
 rw [sm_split,orig_val,sm_congr (n:=q.cnt) (g:=fun k => (q.orig i k : Rat) * x k) fun k hk => by unfold ext; rw [if_pos hk],sm_cells,h.eqn i hi,sm_congr (n:=q.m) (g:=fun _ => 0) fun j _ => by unfold ext; rw [if_neg (by omega)]; grind,sm_zero]
 grind
structure Inv2 (q : Eqs) (s : Tab) : Prop where
 inv : Inv q s
 sat : ∀ x,Feas q x → Sat q.m q.N s (ext q x)
theorem s0_inv2 {q : Eqs} (hq : q.Small) : Inv2 q q.s0:=⟨s0_inv hq,fun _ hx => sat_s0 hx⟩
theorem Inv2.step {q : Eqs} {s : Tab} {cost : Nat → Rat} (h : Inv2 q s) {r e : Nat} (he : Ent q.m q.cnt cost s e) (hl : Lea q.m q.N s e r) : Inv2 q (piv s r e):=⟨h.inv.step he hl,fun x hx => sat_piv (h.sat x hx) hl.lt⟩
theorem Inv2.out {q : Eqs} {s : Tab} (h : Inv2 q s) {r e : Nat} (hr : r < q.m) (he : e < q.cnt) (hp : s.T r e ≠ 0) (h0 : s.T r q.N = 0) : Inv2 q (piv s r e):=⟨h.inv.out hr he hp h0,fun x hx => sat_piv (h.sat x hx) hr⟩
theorem Run.inv2 {q : Eqs} {cost : Nat → Rat} {s s' : Tab} {b : Bool} (h : Run q.m q.N q.cnt cost s s' b) (hs : Inv2 q s) : Inv2 q s':=h.keeps (P:=Inv2 q) (fun _ _ _ hs he hl => hs.step he hl) hs
def Art0 (q : Eqs) (s : Tab) : Prop:=∀ i,i < q.m → q.cnt ≤ s.B i → s.T i q.N = 0
theorem pt_art {q : Eqs} {s : Tab} (h0 : Art0 q s) {k : Nat} (hk : q.cnt ≤ k) : pt q.m q.N s k = 0:=by
 unfold pt
 rw [sm_congr (g:=fun _ => 0) fun i hi => by
  by_cases h : s.B i = k
  ·rw [if_pos h]; exact h0 i hi (by omega)
  ·rw [if_neg h],sm_zero]
theorem pt_feas {q : Eqs} {s : Tab} (h : Inv q s) (h0 : Art0 q s) : Feas q (pt q.m q.N s):=by
 refine ⟨fun k _ => pt_pos h.ok k,fun i hi => ?_⟩
 have h1:=pt_rs h.ok (h.rs i hi)
 have h2 : sm (q.cnt + q.m) (fun k => (q.orig i k : Rat) * pt q.m q.N s k) = (q.orig i (q.cnt + q.m) : Rat):=h1
 rw [sm_split,orig_val,sm_cells,sm_congr (n:=q.m) (g:=fun _ => 0) fun j _ => by rw [pt_art h0 (by omega)]; grind,sm_zero] at h2
 grind
def cost1 (q : Eqs) (k : Nat) : Int:=if k < q.cnt then 0 else -1
abbrev cst (c : Nat → Int) (k : Nat) : Rat:=(c k : Rat)
theorem cost1_bd (q : Eqs) (k : Nat) : (cost1 q k).natAbs ≤ 1:=by unfold cost1; split <;> decide
theorem cost1_np (q : Eqs) (k : Nat) : cst (cost1 q) k ≤ 0:=by
 unfold cst cost1
 split <;> decide
theorem phase1_true {q : Eqs} {s s' : Tab} {b : Bool} (h : Run q.m q.N q.cnt (cst (cost1 q)) s s' b) : b = true:=by
 cases b with
 | true => rfl
 | false =>
  obtain ⟨e,he,hl⟩:=h.end_f rfl
  have h1:=no_leave hl (fun i _ => cost1_np q (s'.B i)) (cost1_np q e)
  have h2:=he.pos
  grind
theorem phase1 {q : Eqs} {s' : Tab} {b : Bool} (h : Run q.m q.N q.cnt (cst (cost1 q)) q.s0 s' b) (hq : q.Small) : Art0 q s' ↔ ∃ x,Feas q x:=by
 have hi:=h.inv2 (s0_inv2 hq)
 constructor
 ·exact fun h0 => ⟨_,pt_feas hi.inv h0⟩
 ·rintro ⟨x,hx⟩
  have h1:=optimum (h.end_t (phase1_true h)) (x:=ext q x) (fun k _ => by unfold ext; split; exact hx.pos k (by assumption); exact Rat.le_refl) (fun k hk _ => by unfold ext; rw [if_neg (by omega)]) (hi.sat x hx)
  have h2 : sm q.N (fun k => cst (cost1 q) k * ext q x k) = 0:=by
   rw [sm_congr (g:=fun _ => 0) fun k _ => ?_,sm_zero]
   unfold ext cst cost1
   by_cases hk : k < q.cnt
   ·rw [if_pos hk]; grind
   ·rw [if_neg hk,if_neg hk]; grind
  rw [h2] at h1
  have h3 : ∀ i,i < q.m → 0 ≤ - (cst (cost1 q) (s'.B i) * s'.T i q.N):=fun i hii => by
   have:=Rat.mul_nonneg (show 0 ≤ - cst (cost1 q) (s'.B i) by have:=cost1_np q (s'.B i); grind) (hi.inv.ok.pos i hii)
   grind
  have h4 : sm q.m (fun i => - (cst (cost1 q) (s'.B i) * s'.T i q.N)) = 0:=by
   have h5:=sm_nonneg h3
   have h6 : sm q.m (fun i => - (cst (cost1 q) (s'.B i) * s'.T i q.N)) = - y q.m (cst (cost1 q)) s' q.N:=by
    unfold y
    rw [sm_congr (g:=fun i => cst (cost1 q) (s'.B i) * s'.T i q.N * (-1)) fun i _ => by grind,sm_mul]
    grind
   grind
  intro i hii hb
  have h7:=sm_all0 h3 h4 i hii
  have h8 : cst (cost1 q) (s'.B i) = -1:=by unfold cst cost1; rw [if_neg (by omega)]; rfl
  rw [h8] at h7
  grind
def Zer (q : Eqs) (s : Tab) (n : Nat) : Prop:=∀ i,i < n → q.cnt ≤ s.B i → ∀ k,k < q.cnt → s.T i k = 0
theorem art0_piv {q : Eqs} {s : Tab} (h : Art0 q s) {r e : Nat} (h0 : s.T r q.N = 0) : Art0 q (piv s r e):=fun i hi hb => by
 rw [piv_T,h0]
 by_cases hir : i = r
 ·rw [if_pos hir]; grind
 ·rw [if_neg hir]
  have : (piv s r e).B i = s.B i:=if_neg hir
  rw [this] at hb
  rw [h i hi hb]; grind
theorem zer_piv {q : Eqs} {s : Tab} {n r e : Nat} (h : Zer q s n) (he : e < q.cnt) : Zer q (piv s r e) n:=fun i hi hb k hk => by
 by_cases hir : i = r
 ·exfalso
  have : (piv s r e).B i = e:=if_pos hir
  omega
 ·have hB : (piv s r e).B i = s.B i:=if_neg hir
  rw [hB] at hb
  rw [piv_T,if_neg hir,h i hi hb k hk,h i hi hb e he]; grind
structure Rdy (q : Eqs) (s : Tab) : Prop where
 inv : Inv2 q s
 art : Art0 q s
 zer : Zer q s q.m
theorem Rdy.step {q : Eqs} {s : Tab} {cost : Nat → Rat} (h : Rdy q s) {r e : Nat} (he : Ent q.m q.cnt cost s e) (hl : Lea q.m q.N s e r) : Rdy q (piv s r e):=by
 refine ⟨h.inv.step he hl,fun i hi hb => ?_,zer_piv h.zer he.lt⟩
 by_cases hir : i = r
 ·exfalso
  have : (piv s r e).B i = e:=if_pos hir
  have:=he.lt
  omega
 ·have hB : (piv s r e).B i = s.B i:=if_neg hir
  rw [hB] at hb
  rw [piv_T,if_neg hir,h.art i hi hb,h.zer i hi hb e he.lt]; grind
theorem Run.rdy {q : Eqs} {cost : Nat → Rat} {s s' : Tab} {b : Bool} (h : Run q.m q.N q.cnt cost s s' b) (hs : Rdy q s) : Rdy q s':=h.keeps (P:=Rdy q) (fun _ _ _ hs he hl => hs.step he hl) hs
def sgn (up : Bool) : Int:=if up then 1 else -1
def cost2 (cell : Nat) (up : Bool) (k : Nat) : Int:=if k = cell then sgn up else 0
theorem cost2_bd (cell : Nat) (up : Bool) (k : Nat) : (cost2 cell up k).natAbs ≤ 1:=by unfold cost2 sgn; split <;> (try split) <;> decide
structure IsOpt (q : Eqs) (cell : Nat) (up : Bool) (v : Rat) : Prop where
 at_ : ∃ x,Feas q x ∧ x cell = v
 bound : ∀ x,Feas q x → if up then x cell ≤ v else v ≤ x cell
theorem IsOpt.uniq {q : Eqs} {cell : Nat} {up : Bool} {v v' : Rat} (h : IsOpt q cell up v) (h' : IsOpt q cell up v') : v = v':=by
 obtain ⟨x,hx,rfl⟩:=h.at_
 obtain ⟨x',hx',rfl⟩:=h'.at_
 have h1:=h.bound x' hx'
 have h2:=h'.bound x hx
 cases up
 ·exact Rat.le_antisymm h1 h2
 ·exact Rat.le_antisymm h2 h1
theorem sm_cost2 {n cell : Nat} (up : Bool) (f : Nat → Rat) (hc : cell < n) : (sm n fun k => cst (cost2 cell up) k * f k) = (sgn up : Rat) * f cell:=by
 rw [sm_congr (g:=fun k => if k = cell then (sgn up : Rat) * f k else 0) fun k _ => ?_,sm_one (fun k => (sgn up : Rat) * f k) hc]
 unfold cst cost2
 split <;> simp
theorem sgn_f : ((sgn false : Int) : Rat) = -1:=rfl
theorem sgn_t : ((sgn true : Int) : Rat) = 1:=rfl
theorem sgn_sq (up : Bool) : (sgn up : Rat) * (sgn up : Rat) = 1:=by
 cases up
 ·rw [sgn_f]; grind
 ·rw [sgn_t]; grind
theorem y_end {q : Eqs} {s : Tab} {cell : Nat} {up : Bool} (h : Rdy q s) (hc : cell < q.cnt) : y q.m (cst (cost2 cell up)) s q.N = (sgn up : Rat) * pt q.m q.N s cell:=by
 have:=pt_sum h.inv.inv.ok (cst (cost2 cell up))
 rw [sm_cost2 up _ (show cell < q.N by show cell < q.cnt + q.m; omega)] at this
 exact this.symm
theorem phase2_true {q : Eqs} {s : Tab} {cell : Nat} {up : Bool} (h : Rdy q s) (hc : cell < q.cnt) (hg : ∀ k,k < q.cnt → gain q.m (cst (cost2 cell up)) s k ≤ 0) : IsOpt q cell up (pt q.m q.N s cell):=by
 refine ⟨⟨_,pt_feas h.inv.inv h.art,rfl⟩,fun x hx => ?_⟩
 have h1:=optimum hg (x:=ext q x) (fun k _ => by unfold ext; split; exact hx.pos k (by assumption); exact Rat.le_refl) (fun k hk _ => by unfold ext; rw [if_neg (by omega)]) (h.inv.sat x hx)
 rw [y_end h hc,sm_cost2 up _ (show cell < q.N by show cell < q.cnt + q.m; omega)] at h1
 have h2 : ext q x cell = x cell:=if_pos hc
 rw [h2] at h1
 cases up
 ·have e : ((sgn false : Int) : Rat) = -1:=rfl
  rw [e] at h1
  show pt q.m q.N s cell ≤ x cell
  grind
 ·have e : ((sgn true : Int) : Rat) = 1:=rfl
  rw [e] at h1
  show x cell ≤ pt q.m q.N s cell
  grind
theorem no_eqn {q : Eqs} {s : Tab} (h : Inv q s) {cell : Nat} (hc : cell < q.cnt) (hn : ∀ j,j < q.m → q.cell j cell = false) {i : Nat} (hi : i < q.m) : s.T i cell = 0:=by
 rw [h.rc i hi cell (by show cell ≤ q.cnt + q.m; omega),sm_congr (g:=fun _ => 0) fun j hj => ?_,sm_zero]
 rw [orig_cell hc,hn j hj]
 simp
theorem phase2_false {q : Eqs} {s s' : Tab} {cell : Nat} {up b : Bool} (hr : Run q.m q.N q.cnt (cst (cost2 cell up)) s s' b) (hs : Rdy q s) (hc : cell < q.cnt) : b = false ↔ up = true ∧ ∀ j,j < q.m → q.cell j cell = false:=by
 have h:=hr.rdy hs
 constructor
 ·intro hb
  obtain ⟨e,he,hl⟩:=hr.end_f hb
  have hup : up = true:=by
   cases up with
   | true => rfl
   | false =>
    have hneg : ∀ k,cst (cost2 cell false) k ≤ 0:=fun k => by
     unfold cst cost2 sgn
     split <;> decide
    have h1:=no_leave hl (fun i _ => hneg (s'.B i)) (hneg e)
    have h2:=he.pos
    grind
  subst hup
  refine ⟨rfl,fun j hj => ?_⟩
  cases hcell : q.cell j cell with
  | false => rfl
  | true =>
   exfalso
   have hN : e ≤ q.N:=by have:=he.lt; show e ≤ q.cnt + q.m; omega
   have h1 : (q.orig j e : Rat) = sm q.m fun i => (q.orig j (s'.B i) : Rat) * s'.T i e:=h.inv.inv.rs j hj e hN
   have h0 : ∀ k,k < q.N → 0 ≤ (q.orig j k : Rat):=fun k hk => by
    have:=(orig_bd (q:=q) (j:=j) hk).2
    exact_mod_cast this
   have h2 : ∀ i,i < q.m → 0 ≤ - ((q.orig j (s'.B i) : Rat) * s'.T i e):=fun i hi => by
    have:=Rat.mul_nonneg (h0 _ (h.inv.inv.ok.bas i hi)) (show 0 ≤ - s'.T i e by have:=hl i hi; grind)
    grind
   have h3 : sm q.m (fun i => - ((q.orig j (s'.B i) : Rat) * s'.T i e)) = - (q.orig j e : Rat):=by
    rw [h1,sm_congr (g:=fun i => (q.orig j (s'.B i) : Rat) * s'.T i e * (-1)) fun i _ => by grind,sm_mul]; grind
   have h4:=h0 e (by have:=he.lt; show e < q.cnt + q.m; omega)
   have h5 : (q.orig j e : Rat) = 0:=by
    have:=sm_nonneg h2
    rw [h3] at this
    grind
   have h6:=sm_all0 h2 (by rw [h3,h5]; rfl)
   have hcc : (q.orig j cell : Rat) = 1:=by rw [orig_cell hc,hcell]; rfl
   by_cases hec : e = cell
   ·rw [hec,hcc] at h5; exact absurd h5 (by decide)
   ·have h7:=he.pos
    unfold gain y at h7
    rw [show cst (cost2 cell true) e = 0 by unfold cst cost2; rw [if_neg hec]; rfl,sm_congr (g:=fun _ => 0) fun i hi => ?_,sm_zero] at h7
    ·grind
    ·by_cases hb : s'.B i = cell
     ·have:=h6 i hi
      rw [hb,hcc] at this
      have : s'.T i e = 0:=by grind
      rw [this]; grind
     ·rw [show cst (cost2 cell true) (s'.B i) = 0 by unfold cst cost2; rw [if_neg hb]; rfl]; grind
 ·rintro ⟨rfl,hn⟩
  cases b with
  | false => rfl
  | true =>
   exfalso
   have h1:=hr.end_t rfl cell hc
   unfold gain y at h1
   rw [show cst (cost2 cell true) cell = 1 by unfold cst cost2; rw [if_pos rfl]; rfl,sm_congr (g:=fun _ => 0) fun i hi => by rw [no_eqn h.inv.inv hc hn hi]; grind,sm_zero] at h1
   grind
structure PrOk (q : Eqs) (cell : Nat) (up : Bool) (x w : Nat → Rat) : Prop where
 feas : Feas q x
 bound : (sm q.m fun j => w j * (q.val j : Rat)) = x cell
 excl : ∀ k,k < q.cnt → if up then (if k = cell then 1 else 0) ≤ sm q.m (fun j => if q.cell j k then w j else 0) else sm q.m (fun j => if q.cell j k then w j else 0) ≤ (if k = cell then 1 else 0)
structure PrSz (q : Eqs) (x w : Nat → Rat) (D : Int) : Prop where
 ne : D ≠ 0
 le : D.natAbs ≤ 3628800
 pnt : ∀ k,k < q.cnt → ∃ p : Int,x k * (D : Rat) = (p : Rat) ∧ p.natAbs ≤ 36288000000
 wgt : ∀ j,j < q.m → ∃ p : Int,w j * (D : Rat) = (p : Rat) ∧ p.natAbs ≤ 36288000
def wt (q : Eqs) (cell : Nat) (up : Bool) (s : Tab) (j : Nat) : Rat:=(sgn up : Rat) * y q.m (cst (cost2 cell up)) s (q.cnt + j)
theorem y_rows {q : Eqs} {s : Tab} (h : Inv q s) (cost : Nat → Rat) {k : Nat} (hk : k ≤ q.N) : y q.m cost s k = sm q.m fun j => y q.m cost s (q.cnt + j) * (q.orig j k : Rat):=by
 unfold y
 rw [sm_congr (g:=fun i => sm q.m fun j => cost (s.B i) * s.T i (q.cnt + j) * (q.orig j k : Rat)) fun i hi => ?_,sm_comm]
 ·exact sm_congr fun j _ => by rw [sm_mul]
 ·rw [h.rc i hi k hk,show (cost (s.B i) * sm q.m fun j => s.T i (q.cnt + j) * (q.orig j k : Rat)) = (sm q.m fun j => s.T i (q.cnt + j) * (q.orig j k : Rat)) * cost (s.B i) by grind,← sm_mul]
  exact sm_congr fun j _ => by grind
theorem proof_ok {q : Eqs} {s : Tab} {cell : Nat} {up : Bool} (h : Rdy q s) (hc : cell < q.cnt) (hg : ∀ k,k < q.cnt → gain q.m (cst (cost2 cell up)) s k ≤ 0) : PrOk q cell up (pt q.m q.N s) (wt q cell up s):=by
 refine ⟨pt_feas h.inv.inv h.art,?_,fun k hk => ?_⟩
 ·have h1:=y_rows h.inv.inv (cst (cost2 cell up)) (k:=q.N) (nLr _)
  rw [y_end h hc] at h1
  have h2 : sm q.m (fun j => wt q cell up s j * (q.val j : Rat)) = (sgn up : Rat) * sm q.m (fun j => y q.m (cst (cost2 cell up)) s (q.cnt + j) * (q.orig j q.N : Rat)):=by
   rw [show ((sgn up : Rat) * sm q.m fun j => y q.m (cst (cost2 cell up)) s (q.cnt + j) * (q.orig j q.N : Rat)) = (sm q.m fun j => y q.m (cst (cost2 cell up)) s (q.cnt + j) * (q.orig j q.N : Rat)) * (sgn up : Rat) by grind,← sm_mul]
   refine sm_congr fun j _ => ?_
   unfold wt
   rw [show q.orig j q.N = q.val j from orig_val q j]; grind
  rw [h2,← h1]
  have:=sgn_sq up
  grind
 ·have h1:=y_rows h.inv.inv (cst (cost2 cell up)) (k:=k) (by show k ≤ q.cnt + q.m; omega)
  have h2 : sm q.m (fun j => if q.cell j k then wt q cell up s j else 0) = (sgn up : Rat) * y q.m (cst (cost2 cell up)) s k:=by
   rw [h1,show ((sgn up : Rat) * sm q.m fun j => y q.m (cst (cost2 cell up)) s (q.cnt + j) * (q.orig j k : Rat)) = (sm q.m fun j => y q.m (cst (cost2 cell up)) s (q.cnt + j) * (q.orig j k : Rat)) * (sgn up : Rat) by grind,← sm_mul]
   refine sm_congr fun j _ => ?_
   unfold wt
   rw [orig_cell hk,cast_if]
   split <;> grind
  rw [h2]
  have h3:=hg k hk
  unfold gain at h3
  have h4 : cst (cost2 cell up) k = (sgn up : Rat) * (if k = cell then 1 else 0):=by
   unfold cst cost2
   split <;> simp
  rw [h4] at h3
  cases up
  ·have e : ((sgn false : Int) : Rat) = -1:=rfl
   rw [e] at h3 ⊢
   show -1 * y q.m (cst (cost2 cell false)) s k ≤ _
   grind
  ·have e : ((sgn true : Int) : Rat) = 1:=rfl
   rw [e] at h3 ⊢
   show _ ≤ 1 * y q.m (cst (cost2 cell true)) s k
   grind
theorem proof_sz {q : Eqs} {s : Tab} {cell : Nat} {up : Bool} (hq : q.Small) (h : Rdy q s) : ∃ D,PrSz q (pt q.m q.N s) (wt q cell up s) D:=by
 obtain ⟨D,hD⟩:=h.inv.inv.num hq
 refine ⟨D,hD.ne,hD.le,fun k _ => ?_,fun j hj => ?_⟩
 ·have key : ∀ n,n ≤ q.m → ∃ p : Int,(sm n fun i => if s.B i = k then s.T i q.N else 0) * (D : Rat) = (p : Rat) ∧ p.natAbs ≤ n * 3628800000:=fun n => by
   induction n with
   | zero => exact fun _ => ⟨0,by rw [sm]; grind,nZl _⟩
   | succ n ih =>
    intro hn
    obtain ⟨p,h1,h2⟩:=ih (by omega)
    obtain ⟨p',h3,h4,_⟩:=hD.num n (by omega) q.N (nLr _)
    by_cases hb : s.B n = k
    ·refine ⟨p + p',by rw [sm,if_pos hb,Rat.intCast_add,← h1,← h3]; grind,?_⟩
     have : (p + p').natAbs ≤ p.natAbs + p'.natAbs:=Int.natAbs_add_le _ _
     omega
    ·exact ⟨p,by rw [sm,if_neg hb,Rat.add_zero]; exact h1,Nat.le_trans h2 (Nat.mul_le_mul_right _ (Nat.le_succ n))⟩
  obtain ⟨p,h1,h2⟩:=key q.m (nLr _)
  have:=hq.m
  exact ⟨p,h1,by omega⟩
 ·obtain ⟨P,h1,h2⟩:=hD.sum (k:=q.cnt + j) (by show q.cnt + j < q.cnt + q.m; omega) (fun i => cost2 cell up (s.B i)) (fun i => cost2_bd _ _ _) q.m (nLr _)
  have:=hq.m
  refine ⟨sgn up * P,?_,?_⟩
  ·unfold wt y
   rw [Rat.intCast_mul,← h1]
   show (sgn up : Rat) * (sm q.m fun i => (cost2 cell up (s.B i) : Rat) * s.T i (q.cnt + j)) * (D : Rat) = _
   grind
  ·rw [Int.natAbs_mul]
   have : (sgn up).natAbs = 1:=by cases up <;> rfl
   rw [this]
   omega
end Go.Bl
namespace Go.Eng
section
variable {C : Cx} {e : Env} {I : PH} {R R1 R2 : List Res} {K : Act → World → Prop} {Q : Exit → Act → World → Prop} {W : World} {n c : Nat} {P : Program} {t ty el : TypeId} {pos : String} {after : Array Edge} {g : Option (Nat × Bool)} {x y : Operand} {A : Option Addr} {v v1 v2 : Value}
theorem Wr.two {B : Addr} (h1 : Wr P W I R B [v1] R1) (h2 : Wr P W I R1 (B.add 1) [v2] R2) : Wr P W I R B [v1,v2] R2:=by
 intro w hw
 obtain ⟨w1,r1,s1⟩:=h1 w hw
 obtain ⟨w2,r2,s2⟩:=h2 w1 s1
 refine ⟨w2,?_,s2⟩
 unfold storeCells at r1 r2 ⊢
 rw [Sem.run_bind] at r1 r2 ⊢
 have e : (B.add 1).add 0 = B.add (0 + 1):=by rw [Addr.add_add]
 rw [e] at r2
 unfold storeCells at r1 r2 ⊢
 cases hs : (store (B.add 0) v1).run P w with
 | ok u w' =>
  rw [hs,Result.andThen_ok] at r1
  rw [Result.andThen_ok]
  have hw' : w' = w1:=by
   have : (Result.ok () w' : Result Unit) = .ok () w1:=r1
   injection this
  subst hw'
  rw [Sem.run_bind]
  exact r2
 | _ => rw [hs] at r1; cases r1
theorem run_addK {P : Program} {t : TypeId} {x y : Operand} {p q r : Int} (hr : I64 (p + q)) (h : p + q = r) : pureRun P (do eqGuard .add t x y (.int .i64 p) (.int .i64 q); binOp .add t (.int .i64 p) (.int .i64 q)) = some (.int .i64 r):=by rw [← h,← wrap_i64 hr]; rfl
theorem Wr.vec2 {i : Nat} {xs : List Value} (hi : i < n) (h1 : v1.oneCell' = true) (h2 : v2.oneCell' = true) : Wr P W I (Vec t 2 A n c xs :: R) ((ad A).add (i * 2)) [v1,v2] (Vec t 2 A n c ((xs.set (i * 2) v1).set (i * 2 + 1) v2) :: R):=by
 refine Wr.two (Wr.vecN (by omega) h1) ?_
 rw [Addr.add_add]
 exact Wr.vecN (by omega) h2
theorem flat_set2 {α : Type} [Inhabited α] {f : α → List Value} {a b : α → Value} (hf : ∀ x,f x = [a x,b x]) {l : List α} {i : Nat} {z : α} (hi : i < l.length) : ((l.flatMap f).set (i * 2) (a z)).set (i * 2 + 1) (b z) = (l.set i z).flatMap f:=by
 have e1 : ∀ l : List α,∀ i,i < l.length → ((l.flatMap f).set (i * 2) (a z)).set (i * 2 + 1) (b z) = (l.set i z).flatMap f:=fun l => by
  induction l with
  | nil => intro i hi; simp at hi
  | cons x l ih =>
   intro i hi
   cases i with
   | zero => rw [List.set_cons_zero,List.flatMap_cons,List.flatMap_cons,hf x,hf z]; rfl
   | succ i =>
    rw [List.set_cons_succ,List.flatMap_cons,List.flatMap_cons,hf x,← ih i (by simpa using hi),show (i + 1) * 2 = i * 2 + 1 + 1 by omega]
    rfl
 exact e1 l i hi
theorem Nx.store_el2 (k : Nat) {α : Type} [Inhabited α] {f : α → List Value} {a b : α → Value} {l : List α} {i : Nat} {z : α} (hx : evo e x = some (.pointer (some ((ad A).add (i * 2))))) (hy : evo e y = some v) (hc : cellsL v = [a z,b z]) (hf : ∀ x,f x = [a x,b x]) (h1 : (a z).oneCell' = true) (h2 : (b z).oneCell' = true) (hn : cellsIn C.P t = some 2)
  (hk : nthL R k = some (Vec el 2 A n c (l.flatMap f))) (hi : i < l.length) (hin : i < n) (h : Nx C e I (Vec el 2 A n c ((l.set i z).flatMap f) :: R.eraseIdx k) K) : Nx C e I R (opK C.P ⟨none,.store t x y,ty,pos,after,g⟩ K Q):=by
 refine Nx.ent (Ent.pull k R _ (nthL_eq.symm.trans hk)) (Nx.store hx hy ((cellsL_eq _).trans hc) hn rfl (Wr.vec2 hin h1 h2) ?_)
 rw [flat_set2 hf hi]
 exact h
theorem Nx.store_row2 (k : Nat) {β α : Type} [Inhabited β] [Inhabited α] {f : α → List Value} {a b : α → Value} {r : β → Res} {bs : List β} {j : Nat} {y' : β} {l : List α} {i : Nat} {z : α} (hx : evo e x = some (.pointer (some ((ad A).add (i * 2))))) (hy : evo e y = some v) (hc : cellsL v = [a z,b z]) (hf : ∀ x,f x = [a x,b x]) (h1 : (a z).oneCell' = true) (h2 : (b z).oneCell' = true) (hn : cellsIn C.P t = some 2)
  (hk : nthL R k = some (Stars (bs.map r))) (hj : j < bs.length) (hr : r (bs.getD j default) = Vec el 2 A n c (l.flatMap f)) (hr' : r y' = Vec el 2 A n c ((l.set i z).flatMap f)) (hi : i < l.length) (hin : i < n)
  (h : Nx C e I (Stars ((bs.set j y').map r) :: R.eraseIdx k) K) : Nx C e I R (opK C.P ⟨none,.store t x y,ty,pos,after,g⟩ K Q):=by
 have hg : (bs.map r)[j]? = some (Vec el 2 A n c (l.flatMap f)):=by
  rw [gMp,gEq hj,← hr,gEl,gEq hj]; rfl
 refine Nx.ent ((Ent.pull k R _ (nthL_eq.symm.trans hk)).trans (Ent.takeOut j hg)) ?_
 refine Nx.store_el2 0 hx hy hc hf h1 h2 hn rfl hi hin ?_
 refine Nx.ent ?_ h
 rw [List.map_set,hr']
 exact Ent.putIn j (by rw [lMp]; exact hj)
theorem Rds.rowN {W : World} (k : Nat) {β α : Type} [Inhabited β] [Inhabited α] {f : α → List Value} {r : β → Res} {bs : List β} {j sz : Nat} {l : List α} {i : Nat} (hf : ∀ x,(f x).length = sz) (hk : nthL R k = some (Stars (bs.map r))) (hj : j < bs.length) (hr : r (bs.getD j default) = Vec el sz A n c (l.flatMap f)) (hi : i < l.length) : Rds W I R ((ad A).add (i * sz)) (f (l.getD i default)):=fun q u hq =>
 Rd.ent ((Ent.pull k R _ (nthL_eq.symm.trans hk)).trans (Ent.takeOut j (r:=Vec el sz A n c (l.flatMap f)) (by rw [gMp,gEq hj,← hr,gEl,gEq hj]; rfl))) (Rds.vecN 0 hf rfl hi q u hq)
end
end Go.Eng
namespace Go.Proofs.YtpcnapidlhpbkaaGreatDoor
open Go.Eng
attribute [local irreducible] opK wpList Code.wp Exit.then Exit.inBlock fnPost bodyPost Nx Calls Oper.wp Rd Rds Wr Ent Stars Blk Again Vec FnSpec wpMix QRun Stop Upto wpAt
theorem rLess_rat (p q : Rat) (hp : RB p) (hq : RB q) (I : PH) : FnSpec Tryz.prog 19 [ratV p,ratV q] I [] (fun v R' => v = .bool (decide (p < q)) ∧ R' = []):=by
 have:=rLess_spec p.num p.den q.num q.den (rat_i64 hp).1 (rat_i64 hp).2 (rat_i64 hq).1 (rat_i64 hq).2 I
 rw [show decide (FOk p.num p.den ∧ FOk q.num q.den ∧ p.num * q.den < q.num * p.den) = decide (p < q) from decide_eq_decide.2 ⟨fun h => (Rat.lt_iff p q).2 h.2.2,fun h => ⟨hp.fok,hq.fok,(Rat.lt_iff p q).1 h⟩⟩] at this
 exact this
theorem RB_int {z : Int} (h : z.natAbs ≤ 1152921504606846976) : RB (z : Rat):=⟨h,by show (1 : Nat) ≤ _; omega⟩
theorem rat_ne {q : Rat} (h : q ≠ 0) : q.num ≠ 0:=fun h0 => h (Rat.num_eq_zero.1 h0)
theorem bwhole_spec (z : Int) (I : PH) : FnSpec Tryz.prog 56 [.int .i64 z] I [] (fun v R' => v = ratV (z : Rat) ∧ R' = []):=by
 refine FnSpec.enterP Tryz.func56 rfl Tryz.ntmps56 rfl fun w F => ?_
 repeat' first | refine kS ?_ | refine kB fun bx => ?_ | refine kA fun A2 c2 => ?_ | refine kX (fun hc => ?_) fun hc => ?_ | fail
 first | exact kT | exact Nx.ret_cell 0 rfl rfl rfl rfl rfl rfl [] ⟨rfl,rfl⟩ (by exact zE)
theorem btimes_spec (p q : Rat) (hp : RB p) (hq : RB q) (h : RB (p * q)) (I : PH) (hT : TabI I) : FnSpec Tryz.prog 115 [ratV p,ratV q] I [] (fun v R' => v = ratV (p * q) ∧ R' = []):=by
 have hM:=Mul_rat p q hp hq I hT
 rw [redV_pos h] at hM
 refine FnSpec.enterP Tryz.func115 rfl Tryz.ntmps115 rfl fun w F => ?_
 repeat' first | refine kW ?_ | (refine Nx.zo ?_; first | refine kP ?_ | refine kV hM ?_) | refine kS ?_ | refine kB fun bx => ?_ | refine kA fun A2 c2 => ?_ | refine kX (fun hc => ?_) fun hc => ?_ | fail
 first | exact kT | exact Nx.ret_cell 0 rfl rfl rfl rfl rfl rfl [] ⟨rfl,rfl⟩ (by exact zE)
theorem bminus_spec (p q : Rat) (hp : RB p) (hq : RB q) (h : RB (p - q)) (I : PH) (hT : TabI I) : FnSpec Tryz.prog 176 [ratV p,ratV q] I [] (fun v R' => v = ratV (p - q) ∧ R' = []):=by
 have hM:=Sub_rat p q hp hq I hT
 rw [redV_pos h] at hM
 refine FnSpec.enterP Tryz.func176 rfl Tryz.ntmps176 rfl fun w F => ?_
 repeat' first | refine kW ?_ | (refine Nx.zo ?_; first | refine kP ?_ | refine kV hM ?_) | refine kS ?_ | refine kB fun bx => ?_ | refine kA fun A2 c2 => ?_ | refine kX (fun hc => ?_) fun hc => ?_ | fail
 first | exact kT | exact Nx.ret_cell 0 rfl rfl rfl rfl rfl rfl [] ⟨rfl,rfl⟩ (by exact zE)
theorem bover_spec (p q : Rat) (hp : RB p) (hq : RB q) (h0 : q ≠ 0) (h : RB (p / q)) (I : PH) (hT : TabI I) : FnSpec Tryz.prog 175 [ratV p,ratV q] I [] (fun v R' => v = ratV (p / q) ∧ R' = []):=by
 have hM:=Div_rat p q hp hq (rat_ne h0) I hT
 rw [redV_pos h] at hM
 refine FnSpec.enterP Tryz.func175 rfl Tryz.ntmps175 rfl fun w F => ?_
 repeat' first | refine kW ?_ | (refine Nx.zo ?_; first | refine kP ?_ | refine kV hM ?_) | refine kS ?_ | refine kB fun bx => ?_ | refine kA fun A2 c2 => ?_ | refine kX (fun hc => ?_) fun hc => ?_ | fail
 first | exact kT | exact Nx.ret_cell 0 rfl rfl rfl rfl rfl rfl [] ⟨rfl,rfl⟩ (by exact zE)
def ratC (q : Rat) : List Value:=[.int .i64 q.num,.int .i64 q.den]
theorem ratC_len (q : Rat) : (ratC q).length = 2:=rfl
abbrev Rats:=SliceN ratC 2
abbrev ratsR (A : Option Addr) (n c : Nat) (l : List Rat) : Res:=Vec 24 2 A n c (l.flatMap ratC)
def rl (n : Nat) (f : Nat → Rat) : List Rat:=(List.range n).map f
theorem rl_len (n : Nat) (f : Nat → Rat) : (rl n f).length = n:=by unfold rl; rw [lMp,List.length_range]
theorem rl_at {n k : Nat} (f : Nat → Rat) (h : k < n) : (rl n f).getD k default = f k:=by
 unfold rl
 rw [gEl,gMp,List.getElem?_range h]; rfl
theorem rl_congr {n : Nat} {f g : Nat → Rat} (h : ∀ k,k < n → f k = g k) : rl n f = rl n g:=List.map_congr_left fun k hk => h k (List.mem_range.1 hk)
theorem rl_succ (n : Nat) (f : Nat → Rat) : rl (n + 1) f = rl n f ++ [f n]:=by unfold rl; rw [List.range_succ,mAp]; rfl
def updF (f : Nat → Rat) (k : Nat) (v : Rat) : Nat → Rat:=fun j => if j = k then v else f j
theorem rl_set {n k : Nat} {f : Nat → Rat} {v : Rat} : (rl n f).set k v = rl n (updF f k v):=by
 refine List.ext_getElem? fun j => ?_
 unfold rl updF
 rw [List.getElem?_set,gMp,lMp,List.length_range]
 by_cases hj : j < n
 ·rw [gMp,List.getElem?_range hj]
  by_cases h : k = j
  ·subst h; rw [if_pos rfl,if_pos hj]; show some v = some (if k = k then v else f k); rw [if_pos rfl]
  ·rw [if_neg h]; show some (f j) = some (if j = k then v else f j); rw [if_neg (Ne.symm h)]
 ·have e : ∀ g : Nat → Rat,Option.map g (List.range n)[j]? = none:=fun g => by rw [List.getElem?_eq_none (by rw [List.length_range]; omega)]; rfl
  rw [gMp,e,e]
  split
  ·rw [if_neg (by omega)]
  ·rfl
structure TA where
 Ar : Option Addr
 cr : Nat
 Ab : Option Addr
 cb : Nat
 ra : Nat → Option Addr × Nat
abbrev tabC (q : Bl.Eqs) (vr vb vc : Value) : List Value:=[.int .i64 (q.cnt : Int),.int .i64 (q.m : Int),vr,vb,vc]
abbrev tabV (q : Bl.Eqs) (ta : TA) (vc : Value) : List Value:=tabC q (.slice ta.Ar q.m ta.cr) (.slice ta.Ab q.m ta.cb) vc
structure TabQ (I : PH) (q : Bl.Eqs) (ta : TA) (s : Bl.Tab) : Prop where
 outer : SliceOf (fun i : Nat => Value.slice (ta.ra i).1 (q.N + 1) (ta.ra i).2) I ta.Ar ta.cr (List.range q.m)
 rows : ∀ i,i < q.m → Rats I (ta.ra i).1 (ta.ra i).2 (rl (q.N + 1) (s.T i))
 basis : SliceOf (fun i : Nat => Value.int .i64 (s.B i : Int)) I ta.Ab ta.cb (List.range q.m)
theorem range_getD {k m : Nat} (h : k < m) : (List.range m).getD k default = k:=by rw [gEl,List.getElem?_range h]; rfl
section
variable {I : PH} {q : Bl.Eqs} {ta : TA} {s : Bl.Tab} {W : World} {R : List Res}
theorem TabQ.row (h : TabQ I q ta s) {i : Nat} (hi : i < q.m) : Rd W I R ((ad ta.Ar).add (i * 1)) (.slice (ta.ra i).1 (q.N + 1) (ta.ra i).2):=by
 have:=h.outer.rd (W:=W) (R:=R) (k:=i) (by rw [List.length_range]; exact hi)
 rwa [range_getD hi] at this
theorem TabQ.bas (h : TabQ I q ta s) {i : Nat} (hi : i < q.m) : Rd W I R ((ad ta.Ab).add (i * 1)) (.int .i64 (s.B i : Int)):=by
 have:=h.basis.rd (W:=W) (R:=R) (k:=i) (by rw [List.length_range]; exact hi)
 rwa [range_getD hi] at this
theorem TabQ.num (h : TabQ I q ta s) {i k : Nat} (hi : i < q.m) (hk : k < q.N + 1) : Rds W I R ((ad (ta.ra i).1).add (k * 2)) (ratC (s.T i k)):=by
 have:=(h.rows i hi).rds (W:=W) (R:=R) (k:=k) (by rw [rl_len]; exact hk)
 rwa [rl_at _ hk] at this
theorem TabQ.as (h : TabQ I q ta s) (hm : 0 < q.m) : ta.Ar.isSome = true:=h.outer.isSome (by rw [List.length_range]; exact hm)
theorem TabQ.bs (h : TabQ I q ta s) (hm : 0 < q.m) : ta.Ab.isSome = true:=h.basis.isSome (by rw [List.length_range]; exact hm)
theorem TabQ.rs (h : TabQ I q ta s) {i : Nat} (hi : i < q.m) : (ta.ra i).1.isSome = true:=(h.rows i hi).isSome (by rw [rl_len]; omega) (by omega)
theorem cost_rd {Ac : Option Addr} {cc : Nat} {c : Nat → Int} {n : Nat} (h : Rats I Ac cc (rl n (Bl.cst c))) {k : Nat} (hk : k < n) : Rds W I R ((ad Ac).add (k * 2)) (ratC (Bl.cst c k)):=by
 have:=h.rds (W:=W) (R:=R) (k:=k) (by rw [rl_len]; exact hk)
 rwa [rl_at _ hk] at this
end
theorem value_spec' (b : Nat) (q : Bl.Eqs) (hq : q.Small) (vr vb vc : Value) (I : PH) :
  FnSpec Tryz.prog 153 [.pointer (some ⟨b,0,none⟩)] I [Blk b 193 (tabC q vr vb vc)] (fun v R' => v = .int .i64 ((q.cnt : Int) + (q.m : Int)) ∧ R' = [Blk b 193 (tabC q vr vb vc)]):=by
 have h1:=hq.cnt
 have h2:=hq.m
 refine FnSpec.enterP Tryz.func153 rfl Tryz.ntmps153 rfl fun w F => ?_
 repeat' first | ((with_reducible refine Nx.is_wp ?_); first | refine Nx.wo ?_ | refine kD 1 [0,1,2,3,4,5,6,7,8,9] [] ?_) | refine kS ?_ | refine kB fun bx => ?_ | refine kA fun A2 c2 => ?_ | refine kX (fun hc => ?_) fun hc => ?_ | fail
 exact Nx.ret_fn rfl [_] ⟨rfl,rfl⟩ (by exact zE)
def gn (c : Nat → Int) (s : Bl.Tab) (col j : Nat) : Rat:=Bl.cst c col - Bl.sm j fun i => Bl.cst c (s.B i) * s.T i col
theorem gn_succ (c : Nat → Int) (s : Bl.Tab) (col j : Nat) : gn c s col (j + 1) = gn c s col j - Bl.cst c (s.B j) * s.T j col:=by
 unfold gn
 rw [Bl.sm]
 grind
theorem gn_end (c : Nat → Int) (s : Bl.Tab) (col m : Nat) : gn c s col m = Bl.gain m (Bl.cst c) s col:=rfl
theorem gain_spec (b : Nat) (q : Bl.Eqs) (hq : q.Small) (ta : TA) (s : Bl.Tab) (hs : Bl.Inv q s) (c : Nat → Int) (hc : ∀ k,(c k).natAbs ≤ 1) (Ac : Option Addr) (cc : Nat) (I : PH) (hT : TabI I) (h : TabQ I q ta s) (hcost : Rats I Ac cc (rl q.N (Bl.cst c))) (col : Nat) (hcol : col < q.N) :
  FnSpec Tryz.prog 116 [.pointer (some ⟨b,0,none⟩),.int .i64 (col : Int)] I [Blk b 193 (tabV q ta (.slice Ac q.N cc))] (fun v R' => v = ratV (Bl.gain q.m (Bl.cst c) s col) ∧ R' = [Blk b 193 (tabV q ta (.slice Ac q.N cc))]):=by
 have h1:=hq.cnt
 have h2:=hq.m
 have hN : (q.cnt : Int) + (q.m : Int) = (q.N : Int):=by show _ = ((q.cnt + q.m : Nat) : Int); omega
 have hNb : q.N ≤ 20:=by show q.cnt + q.m ≤ 20; omega
 obtain ⟨D,hD⟩:=hs.num hq
 have hAc:=hcost.isSome (by rw [rl_len]; omega) (by omega)
 have hV:=value_spec' b q hq (.slice ta.Ar q.m ta.cr) (.slice ta.Ab q.m ta.cb) (.slice Ac q.N cc) I
 rw [hN] at hV
 have hcol1 : ∀ (W : World) (Q : List Res),Rds W I Q ((ad Ac).add (col * 2)) (ratC (Bl.cst c col)):=fun W Q => cost_rd hcost hcol
 refine FnSpec.enterP Tryz.func116 rfl Tryz.ntmps116 rfl fun w F => ?_
 repeat' first | refine kW ?_ | (refine Nx.zo ?_; first | refine kP ?_ | refine Nx.callv rfl rfl rfl (by kernel_rfl) rfl (bwhole_spec _ _) ?_ | (refine Nx.call rfl rfl rfl (by kernel_rfl) rfl hV (by exact zE) ?_; rintro _ _ ⟨rfl,rfl⟩) | refine Nx.indexAddr_nat (A:=Ac) (i:=col) (sz:=2) rfl rfl rfl rfl rfl hcol hAc ?_ | refine Nx.loads rfl rfl rfl rfl (hcol1 _ _) rfl ?_) | refine kS ?_ | refine kB fun bx => ?_ | refine kA fun A2 c2 => ?_ | refine kX (fun hc => ?_) fun hc => ?_ | fail
 rename_i b4
 revert bx; intro b5
 refine Nx.p_loop (σ:=Nat) (fun j => [(0,.pointer (some ⟨b,0,none⟩)),(1,.int .i64 (col : Int)),(4,.pointer (some ⟨b4,0,none⟩)),(5,.pointer (some ⟨b5,0,none⟩)),(23,.slice ta.Ab q.m ta.cb),(24,.int .i64 (q.m : Int)),(25,.int .i64 (j : Int))])
  (fun j => [Blk b5 24 (ratC (gn c s col j)),Blk b4 24 [.int .i64 0,.int .i64 0],Blk b 193 (tabV q ta (.slice Ac q.N cc)),F]) (fun j => j ≤ q.m) (fun j => q.m - j) 0 rfl (nZl _) zR (by rw [show gn c s col 0 = Bl.cst c col by unfold gn; rw [Bl.sm]; grind]; (exact zE)) ?_
 intro j hj
 have hj : j ≤ q.m:=hj
 have hrb : ∀ i,i ≤ q.m → RB (gn c s col i):=fun i hi => hD.rbs hq hcol (fun i => c (s.B i)) (fun i => hc _) (c col) (hc col) hi
 by_cases hjm : j < q.m
 case neg =>
  obtain rfl : j = q.m:=by omega
  rw [gn_end]
  repeat' first | refine kS ?_ | refine kB fun bx => ?_ | refine kA fun A2 c2 => ?_ | refine kX (fun hc => ?_) fun hc => ?_ | fail
  exact Nx.ret_cell 0 rfl rfl rfl rfl rfl rfl [_] ⟨rfl,rfl⟩ (by exact zE)
 have hB:=hs.ok.bas j hjm
 have r1:=fun (W : World) (Q : List Res) => h.bas (W:=W) (R:=Q) hjm
 have r2:=fun (W : World) (Q : List Res) => cost_rd (I:=I) (W:=W) (R:=Q) hcost hB
 have r3:=fun (W : World) (Q : List Res) => h.row (W:=W) (R:=Q) hjm
 have r4:=fun (W : World) (Q : List Res) => h.num (W:=W) (R:=Q) hjm (show col < q.N + 1 by omega)
 have hAr:=h.as (by omega)
 have hAb:=h.bs (by omega)
 have hra:=h.rs hjm
 have hM1:=btimes_spec (Bl.cst c (s.B j)) (s.T j col) (RB_int (by have:=hc (s.B j); omega)) (hD.rb hjm (Nat.le_of_lt hcol)) (hD.rb1 hjm (Nat.le_of_lt hcol) _ (hc _)) I hT
 have hM2:=bminus_spec (gn c s col j) (Bl.cst c (s.B j) * s.T j col) (hrb j hj) (hD.rb1 hjm (Nat.le_of_lt hcol) _ (hc _)) (by rw [← gn_succ]; exact hrb (j + 1) hjm) I hT
 rw [← gn_succ] at hM2
 generalize s.B j = k at hB r1 r2 hM1 hM2
 have hm64 : (q.m : Int) ≤ 10:=by omega
 repeat' first | ((with_reducible refine Nx.is_wp ?_); first | refine Nx.wo ?_ | refine kF 7 [0,1,2,3,4,5,6,7,8,9,10,11,12,13,14,15,16,17,18] [18] [19,20] ?_) | (refine Nx.zo ?_; first | refine kP ?_ | refine Nx.indexAddr_nat (A:=ta.Ab) (i:=j) (sz:=1) rfl rfl rfl rfl rfl hjm hAb ?_ | refine Nx.load rfl rfl rfl (r1 _ _) ?_ | refine kV hM1 ?_ | refine kV hM2 ?_) | refine kS ?_ | refine kB fun bx => ?_ | refine kA fun A2 c2 => ?_ | ((with_reducible refine Nx.is_mix ?_); refine kQ rfl rfl rfl rfl (by first | exact .inl rfl | exact .inr ⟨_,_,_,rfl,rfl,rfl⟩) (by first | exact QRun.opr rfl | exact QRun.idx (A:=Ac) (i:=k) (sz:=2) rfl rfl rfl rfl hB hAc | exact QRun.loads rfl rfl rfl (r2 _ _) rfl | exact QRun.idx (A:=ta.Ar) (i:=j) (sz:=1) rfl rfl rfl rfl hjm hAr | exact QRun.load rfl rfl (r3 _ _) | exact QRun.idx (A:=(ta.ra j).1) (i:=col) (sz:=2) rfl rfl rfl rfl (by omega) hra | exact QRun.loads rfl rfl rfl (r4 _ _) rfl | exact QRun.loads rfl rfl rfl (Rds.cut 0 2 rfl rfl) rfl) ?_) | refine kX (fun hc => ?_) fun hc => ?_ | fail
 exact Nx.again (j + 1) hjm (by omega) zR (by exact zE)
end Go.Proofs.YtpcnapidlhpbkaaGreatDoor
