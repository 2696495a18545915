/- Contracts of functions of the given program, and lemmas about plain lists and numbers: what the laws of this seat lean on. -/
import Derived.Test.YtpmlehplbobjmaaDoorC20
namespace Go.Proofs.YtpmlehplbobjmaaDoor
open Go.Eng
attribute [local irreducible] opK wpList Code.wp Exit.then Exit.inBlock fnPost bodyPost Nx Calls Oper.wp Rd Rds Wr Ent Stars Blk Again Vec FnSpec wpMix QRun Stop Upto wpAt
theorem bytes_take {I : PH} {A : Option Addr} {c : Nat} {l : List Int} (hl : Bytes I A c l) (hx : ∀ x ∈ l, 0 ≤ x ∧ x < 256) : CodesOk I A c (l.take 400) := ⟨hl.take 400, fun x h => hx x (List.mem_of_mem_take h)⟩
theorem New_codes (A : Option Addr) (c : Nat) (l : List Int) (I : PH) (hl : Bytes I A c l) :
    FnSpec Tryd.prog 6 [.slice A l.length c] I [] (fun v R' => ∃ b, v = .pointer (some ⟨b, 0, none⟩) ∧ R' = [CodesR b A c (l.take 400) 0]) := New_spec A c l I hl
theorem Space_made (b : Nat) (A : Option Addr) (c : Nat) (L : List Int) (k : Nat) (I : PH) (hL : CodesOk I A c L) (hk : k ≤ L.length) :
    FnSpec Tryd.prog 7 [.pointer (some ⟨b, 0, none⟩)] I [CodesR b A c L k]
      (fun v R' => ∃ (B : Option Addr) (c' : Nat) (s : List Int) (k' : Nat), v = .agg #[.slice B s.length c'] ∧ Sizes s ∧ k' ≤ L.length ∧ R' = [Vec 3 1 B s.length c' (s.map (Value.int .i64)), CodesR b A c L k']) := Space_spec b A c L k I hL.sl hL.each hk
end Go.Proofs.YtpmlehplbobjmaaDoor
