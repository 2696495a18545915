/- Contracts of functions of the given program, and lemmas about plain lists and numbers: what the laws of this seat lean on. -/
import Derived.Test.YtaoeapmdhpkidaaS6
import Derived.Test.YtaoeapmdhpkidaaS0
import Derived.Test.YtaoeapmdhpkidaaEngL
namespace Go.Proofs.Ytaoeapmdhpkidaa
open Go.Eng
attribute [local irreducible] opK wpList Code.wp Exit.then Exit.inBlock fnPost bodyPost Nx Calls Oper.wp Rd Rds Wr Ent Stars Blk Again Vec FnSpec wpMix QRun Stop Upto wpAt
/-! Codes, made names -/
abbrev Bytes := SliceOf (fun x : Int => Value.int .u8 x)
structure CodesOk (I : PH) (A : Option Addr) (c : Nat) (L : List Int) : Prop where
  sl : Bytes I A c L
  each : ∀ x ∈ L, 0 ≤ x ∧ x < 256
theorem CodesOk.mono {I I' : PH} {A : Option Addr} {c : Nat} {L : List Int} (hle : PH.le I I') (h : CodesOk I A c L) : CodesOk I' A c L := ⟨h.sl.mono hle, h.each⟩
def CodesR (b : Nat) (A : Option Addr) (c : Nat) (L : List Int) (k : Nat) : Res := Blk b 79 [.slice A L.length c, .int .i64 (k : Int)]
theorem Next_any (b : Nat) (A : Option Addr) (c : Nat) (L : List Int) (k : Nat) (n : Int) (I : PH) (hL : CodesOk I A c L) (hk : k ≤ L.length) (hn : 1 ≤ n ∧ n ≤ 1000000) :
    FnSpec Try.prog 19 [.pointer (some ⟨b, 0, none⟩), .int .i64 n] I [CodesR b A c L k]
      (fun v R' => ∃ (r : Int) (k' : Nat), v = .int .i64 r ∧ (0 ≤ r ∧ r < n) ∧ k' ≤ L.length ∧ R' = [CodesR b A c L k']) := Next_spec b A c L k n I hL.sl hL.each hk hn
theorem bytes_take {I : PH} {A : Option Addr} {c : Nat} {l : List Int} (hl : Bytes I A c l) (hx : ∀ x ∈ l, 0 ≤ x ∧ x < 256) : CodesOk I A c (l.take 400) := ⟨hl.take 400, fun x h => hx x (List.mem_of_mem_take h)⟩
theorem New_codes (A : Option Addr) (c : Nat) (l : List Int) (I : PH) (hl : Bytes I A c l) :
    FnSpec Try.prog 11 [.slice A l.length c] I [] (fun v R' => ∃ b, v = .pointer (some ⟨b, 0, none⟩) ∧ R' = [CodesR b A c (l.take 400) 0]) := New_spec A c l I hl
set_option maxRecDepth 10000 in
theorem Range_any (b : Nat) (A : Option Addr) (c : Nat) (L : List Int) (k : Nat) (lo hi : Int) (I : PH) (hL : CodesOk I A c L) (hk : k ≤ L.length) (hlo : -1000000 ≤ lo ∧ lo ≤ 1000000) (hh : lo ≤ hi ∧ hi ≤ lo + 999999) :
    FnSpec Try.prog 21 [.pointer (some ⟨b, 0, none⟩), .int .i64 lo, .int .i64 hi] I [CodesR b A c L k]
      (fun v R' => ∃ (r : Int) (k' : Nat), v = .int .i64 r ∧ (lo ≤ r ∧ r ≤ hi) ∧ k' ≤ L.length ∧ R' = [CodesR b A c L k']) := by
  refine FnSpec.enterP Try.func21 rfl Try.ntmps21 rfl fun w F => ?_
  repeat' first
    | ((with_reducible refine Nx.is_wp ?_); first | refine Nx.wo ?_ | refine Nx.p_dec rfl rfl (fun hc => ?_) (fun hc => ?_) | refine Nx.p_bool rfl rfl (fun hc => ?_) (fun hc => ?_))
    | ((first | refine Nx.at_op rfl rfl ?_ | refine Nx.m_loud rfl rfl rfl ?_ | refine Nx.at_do rfl rfl rfl rfl ?_ | refine Nx.m_loud_do rfl rfl rfl rfl rfl ?_); first | refine Nx.opr rfl rfl ?_ | (refine Nx.call rfl rfl rfl (by kernel_rfl) rfl (Next_any b A c L k _ I hL hk (by omega)) (Ent.refl _) ?_; rintro _ _ ⟨r, k1, rfl, hr, hk1, rfl⟩) | refine Nx.so ?_ | refine Nx.sb (fun bx => ?_) | refine Nx.sa (fun A2 c2 => ?_))
    | ((with_reducible refine Nx.is_at ?_); first | refine Nx.a ?_ | ((fail_if_success refine Nx.at_do rfl rfl rfl rfl ?_); first | refine Nx.at_dec_t rfl rfl rfl rfl (by first | assumption | omega) ?_ | refine Nx.at_dec_f rfl rfl rfl rfl (by first | assumption | omega) ?_ | refine Nx.at_split rfl rfl rfl rfl (fun hc => ?_) (fun hc => ?_) | refine Nx.at_splitb rfl rfl rfl rfl (fun hc => ?_) (fun hc => ?_)))
    | ((with_reducible refine Nx.is_mix ?_); first | refine Nx.m ?_ | ((fail_if_success refine Nx.m_quiet_do rfl rfl rfl rfl rfl rfl rfl ?_ ?_); (fail_if_success refine Nx.m_loud_do rfl rfl rfl rfl rfl ?_); first | refine Nx.m_dec_t rfl rfl rfl rfl (by first | assumption | omega) ?_ | refine Nx.m_dec_f rfl rfl rfl rfl (by first | assumption | omega) ?_ | refine Nx.m_split rfl rfl rfl rfl (fun hc => ?_) (fun hc => ?_) | refine Nx.m_splitb rfl rfl rfl rfl (fun hc => ?_) (fun hc => ?_)))
    | ((fail_if_success (with_reducible refine Nx.is_at ?_)); (fail_if_success (with_reducible refine Nx.is_wp ?_)); (fail_if_success (with_reducible refine Nx.is_mix ?_)); first | refine Nx.ex ?_)
  exact Nx.ret_fn rfl [_] ⟨_, k1, rfl, ⟨by omega, by omega⟩, hk1, rfl⟩ (by (first | done | (repeat first | exact Ent.refl _ | exact Ent.nil _ | refine Ent.pick 0 rfl ?_ | refine Ent.pick 1 rfl ?_ | refine Ent.pick 2 rfl ?_ | refine Ent.pick 3 rfl ?_ | refine Ent.pick 4 rfl ?_ | refine Ent.pick 5 rfl ?_ | refine Ent.pick 6 rfl ?_ | refine Ent.pick 7 rfl ?_ | refine Ent.pick 8 rfl ?_ | refine Ent.pick 9 rfl ?_ | refine Ent.pick 10 rfl ?_ | refine Ent.pick 11 rfl ?_ | refine Ent.pick 12 rfl ?_ | refine Ent.pick 13 rfl ?_ | refine Ent.pick 14 rfl ?_)))
def nms : List (List UInt8) := [[97, 110, 110], [98, 111, 98], [99, 121, 100], [100, 97, 110], [101, 118, 101]]
theorem nms_ok : ∀ s ∈ nms, nameB s = true ∧ s.length = 3 := by decide
set_option maxRecDepth 10000 in
theorem Name_made (b : Nat) (A : Option Addr) (c : Nat) (L : List Int) (k : Nat) (I : PH) (hL : CodesOk I A c L) (hk : k ≤ L.length) :
    FnSpec Try.prog 13 [.pointer (some ⟨b, 0, none⟩)] I [CodesR b A c L k]
      (fun v R' => ∃ (s : List UInt8) (k' : Nat), v = strV s ∧ s ∈ nms ∧ k' ≤ L.length ∧ R' = [CodesR b A c L k']) := by
  refine FnSpec.enterP Try.func13 rfl Try.ntmps13 rfl fun w F => ?_
  repeat' first
    | ((with_reducible refine Nx.is_wp ?_); first | refine Nx.wo ?_ | refine Nx.p_dec rfl rfl (fun hc => ?_) (fun hc => ?_) | refine Nx.p_bool rfl rfl (fun hc => ?_) (fun hc => ?_))
    | ((first | refine Nx.at_op rfl rfl ?_ | refine Nx.m_loud rfl rfl rfl ?_ | refine Nx.at_do rfl rfl rfl rfl ?_ | refine Nx.m_loud_do rfl rfl rfl rfl rfl ?_); first | refine Nx.opr rfl rfl ?_ | refine Nx.so ?_ | refine Nx.sb (fun bx => ?_) | refine Nx.sa (fun A2 c2 => ?_))
    | ((with_reducible refine Nx.is_at ?_); first | refine Nx.a ?_ | ((fail_if_success refine Nx.at_do rfl rfl rfl rfl ?_); first | refine Nx.at_dec_t rfl rfl rfl rfl (by first | assumption | omega) ?_ | refine Nx.at_dec_f rfl rfl rfl rfl (by first | assumption | omega) ?_ | refine Nx.at_split rfl rfl rfl rfl (fun hc => ?_) (fun hc => ?_) | refine Nx.at_splitb rfl rfl rfl rfl (fun hc => ?_) (fun hc => ?_)))
    | ((with_reducible refine Nx.is_mix ?_); first | refine Nx.m ?_ | ((fail_if_success refine Nx.m_quiet_do rfl rfl rfl rfl rfl rfl rfl ?_ ?_); (fail_if_success refine Nx.m_loud_do rfl rfl rfl rfl rfl ?_); first | refine Nx.m_dec_t rfl rfl rfl rfl (by first | assumption | omega) ?_ | refine Nx.m_dec_f rfl rfl rfl rfl (by first | assumption | omega) ?_ | refine Nx.m_split rfl rfl rfl rfl (fun hc => ?_) (fun hc => ?_) | refine Nx.m_splitb rfl rfl rfl rfl (fun hc => ?_) (fun hc => ?_)))
    | ((fail_if_success (with_reducible refine Nx.is_at ?_)); (fail_if_success (with_reducible refine Nx.is_wp ?_)); (fail_if_success (with_reducible refine Nx.is_mix ?_)); first | refine Nx.ex ?_)
  refine Nx.freezeAt 0 rfl fun I1 m1 hI1 hm1 h1 => ?_
  have hS : SliceOf strV I1 (some ⟨bx, 0, none⟩) 5 nms := Blk.sliceOf (l := nms) hm1 h1 (by decide)
  repeat' first
    | ((with_reducible refine Nx.is_wp ?_); first | refine Nx.wo ?_ | refine Nx.p_dec rfl rfl (fun hc => ?_) (fun hc => ?_) | refine Nx.p_bool rfl rfl (fun hc => ?_) (fun hc => ?_))
    | ((first | refine Nx.at_op rfl rfl ?_ | refine Nx.m_loud rfl rfl rfl ?_ | refine Nx.at_do rfl rfl rfl rfl ?_ | refine Nx.m_loud_do rfl rfl rfl rfl rfl ?_); first | refine Nx.opr rfl rfl ?_ | (refine Nx.call rfl rfl rfl (by kernel_rfl) rfl (Next_any b A c L k 5 I1 (hL.mono hI1) hk (by omega)) (by (first | done | (repeat first | exact Ent.refl _ | exact Ent.nil _ | refine Ent.pick 0 rfl ?_ | refine Ent.pick 1 rfl ?_ | refine Ent.pick 2 rfl ?_ | refine Ent.pick 3 rfl ?_ | refine Ent.pick 4 rfl ?_ | refine Ent.pick 5 rfl ?_ | refine Ent.pick 6 rfl ?_ | refine Ent.pick 7 rfl ?_ | refine Ent.pick 8 rfl ?_ | refine Ent.pick 9 rfl ?_ | refine Ent.pick 10 rfl ?_ | refine Ent.pick 11 rfl ?_ | refine Ent.pick 12 rfl ?_ | refine Ent.pick 13 rfl ?_ | refine Ent.pick 14 rfl ?_))) ?_; rintro _ _ ⟨r, k1, rfl, hr, hk1, rfl⟩) | refine Nx.indexAddr rfl rfl rfl rfl rfl (by omega) (by omega) rfl ?_ | refine Nx.load rfl rfl rfl (hS.rd (k := r.toNat) (by show _ < 5; omega)) ?_ | refine Nx.so ?_ | refine Nx.sb (fun bx => ?_) | refine Nx.sa (fun A2 c2 => ?_))
    | ((with_reducible refine Nx.is_at ?_); first | refine Nx.a ?_ | ((fail_if_success refine Nx.at_do rfl rfl rfl rfl ?_); first | refine Nx.at_dec_t rfl rfl rfl rfl (by first | assumption | omega) ?_ | refine Nx.at_dec_f rfl rfl rfl rfl (by first | assumption | omega) ?_ | refine Nx.at_split rfl rfl rfl rfl (fun hc => ?_) (fun hc => ?_) | refine Nx.at_splitb rfl rfl rfl rfl (fun hc => ?_) (fun hc => ?_)))
    | ((with_reducible refine Nx.is_mix ?_); first | refine Nx.m ?_ | ((fail_if_success refine Nx.m_quiet_do rfl rfl rfl rfl rfl rfl rfl ?_ ?_); (fail_if_success refine Nx.m_loud_do rfl rfl rfl rfl rfl ?_); first | refine Nx.m_dec_t rfl rfl rfl rfl (by first | assumption | omega) ?_ | refine Nx.m_dec_f rfl rfl rfl rfl (by first | assumption | omega) ?_ | refine Nx.m_split rfl rfl rfl rfl (fun hc => ?_) (fun hc => ?_) | refine Nx.m_splitb rfl rfl rfl rfl (fun hc => ?_) (fun hc => ?_)))
    | ((fail_if_success (with_reducible refine Nx.is_at ?_)); (fail_if_success (with_reducible refine Nx.is_wp ?_)); (fail_if_success (with_reducible refine Nx.is_mix ?_)); first | refine Nx.ex ?_)
  refine Nx.imm_le hI1 (Nx.ret_fn rfl [_] ⟨nms.getD r.toNat default, k1, rfl, ?_, hk1, rfl⟩ (by (first | done | (repeat first | exact Ent.refl _ | exact Ent.nil _ | refine Ent.pick 0 rfl ?_ | refine Ent.pick 1 rfl ?_ | refine Ent.pick 2 rfl ?_ | refine Ent.pick 3 rfl ?_ | refine Ent.pick 4 rfl ?_ | refine Ent.pick 5 rfl ?_ | refine Ent.pick 6 rfl ?_ | refine Ent.pick 7 rfl ?_ | refine Ent.pick 8 rfl ?_ | refine Ent.pick 9 rfl ?_ | refine Ent.pick 10 rfl ?_ | refine Ent.pick 11 rfl ?_ | refine Ent.pick 12 rfl ?_ | refine Ent.pick 13 rfl ?_ | refine Ent.pick 14 rfl ?_))))
  rw [List.getD_eq_getElem?_getD, List.getElem?_eq_getElem (by show _ < 5; omega)]; exact List.getElem_mem _
/-! Putting a shift into its place -/
def insAt (l : List Shift) (x : Shift) : Nat := l.findIdx fun y => !(beforeB y x)
def insL (l : List Shift) (x : Shift) : List Shift := l.take (insAt l x) ++ [x] ++ l.drop (insAt l x)
def addE (l : List Shift) (x : Shift) : Int :=
  if checkE l ≠ 0 then checkE l else if nameB x.1 = false then 3 else if properB x = false then 43 else if meetsB l x = true then 46 else if l.length = 60 then 1 else 0
def addL (l : List Shift) (x : Shift) : List Shift := if addE l x = 0 then insL l x else l
theorem insAt_le (l : List Shift) (x : Shift) : insAt l x ≤ l.length := List.findIdx_le_length
theorem insL_len (l : List Shift) (x : Shift) : (insL l x).length = l.length + 1 := by
  have := insAt_le l x
  unfold insL
  simp only [List.length_append, List.length_take, List.length_drop, List.length_singleton]
  omega
theorem shC_len (x : Shift) : (shC x).length = 3 := rfl
theorem sh_flat_len (l : List Shift) : (l.flatMap shC).length = l.length * 3 := by
  induction l with
  | nil => rfl
  | cons x l ih => simp only [List.flatMap_cons, List.length_append, ih, shC_len, List.length_cons]; omega
theorem sh_one (l : List Shift) : ∀ u ∈ l.flatMap shC, u.oneCell' = true := fun u hu => by
  obtain ⟨x, _, hu⟩ := List.mem_flatMap.1 hu
  simp only [shC, List.mem_cons, List.not_mem_nil, or_false] at hu
  rcases hu with rfl | rfl | rfl <;> rfl
theorem shifts_drop {I : PH} {A : Option Addr} {c : Nat} {l : List Shift} (h : Shifts I A c l) {k : Nat} (hk : k ≤ l.length) : Shifts I (offA A c k 3) (c - k) (l.drop k) := by
  refine ⟨fun j u hj => ?_, by have := h.cap; rw [List.length_drop]; omega, by have := h.max; omega, fun x hx => h.cells x (List.mem_of_mem_drop hx)⟩
  have e : l.flatMap shC = (l.take k).flatMap shC ++ (l.drop k).flatMap shC := by rw [← List.flatMap_append, List.take_append_drop]
  have hl : ((l.take k).flatMap shC).length = k * 3 := by rw [sh_flat_len, List.length_take]; omega
  have h1 := h.arr (k * 3 + j) u (by rw [e, List.getElem?_append_right (by omega), hl]; simpa using hj)
  have hlt := (List.getElem?_eq_some_iff.1 hj).1
  rw [sh_flat_len, List.length_drop] at hlt
  have hc := h.cap
  unfold offA
  rw [if_neg (by omega)]
  cases A with
  | none => cases h1.1
  | some a => exact ⟨rfl, by rw [Option.map_some, ad_some, Addr.add_add]; exact h1.2⟩
abbrev shiftsR (A : Option Addr) (c : Nat) (l : List Shift) : Res := Vec 40 3 A l.length c (l.flatMap shC)
end Go.Proofs.Ytaoeapmdhpkidaa
