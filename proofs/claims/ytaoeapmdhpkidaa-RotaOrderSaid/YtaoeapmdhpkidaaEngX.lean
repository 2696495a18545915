/-
  The proof engine, part X: strings: their bytes, their parts, their order; bytes made into strings and back; a string appended to bytes.
-/
import Derived.Test.YtaoeapmdhpkidaaEngT
import Derived.Test.YtaoeapmdhpkidaaEngF
import Derived.Test.YtaoeapmdhpkidaaEngM
import Derived.Lib.AppendStr
import Derived.Laws.IdiomStrings
import Derived.Laws.Strings2
import Derived.Laws.Cover1
namespace Go.Eng
open Go.Lib (strCells)
open Go.Instr
variable {C : Cx} {e e' : Env} {I : PH} {R R' : List Res} {K K' : Act → World → Prop} {Q : Exit → Act → World → Prop}
variable {d : Nat} {ty t u el : TypeId} {pos : String} {after : Array Edge} {g : Option (Nat × Bool)} {x y z : Operand} {v vx vy vz : Value} {A : Option Addr} {n c : Nat}
/-- A byte's value. -/
def byteV (b : UInt8) : Value := .int .u8 b.toNat
theorem strCells_mk (l : List UInt8) : strCells ⟨l.toArray⟩ = l.map byteV := by simp [strCells, byteV]
theorem append_str_run {P : Program} {w : World} {xs : List Value} {s : ByteArray} {i : TypeInfo} (ht : P.underlying t = some (.slice el)) (hu : P.underlying u = some .string) (hi : P.info? el = some i) (hz : i.zero = some (.int .u8 0))
    (hsize : i.size = 1) (hby : i.bytes = 1) (hown : w.ownsRow 0 el 1 (.slice A n c) n xs) (h63 : n + s.size ≤ maxLen) (hbytes : n + s.size ≤ 140737488355328) :
    ∃ v' w', (Builtin.append_ #[t, u] ty #[.slice A n c, .string s]).run P w = .ok v' w' ∧ w'.ownsRow 0 el 1 v' (n + s.size) (xs ++ strCells s) ∧ w.grownBy w' (Value.slice A n c).ownBlock ∧
      (v'.ownBlock = (Value.slice A n c).ownBlock ∨ v'.ownBlock = some w.heap.size) := by
  have hsmall : n + s.size ≤ 9223372036854775807 := by simp only [maxLen] at h63; omega
  have hxl : xs.length = n := by simpa using hown.1
  have hlen : (xs ++ strCells s).length = (n + s.size) * 1 := by rw [List.length_append, hxl, Lib.strCells_length, Nat.mul_one]
  have grown : ∀ (old : Nat), old < n + s.size → ∀ (row : Option Nat),
      (w.drew.alloc (.cells (xs.toArray ++ (strCells s).toArray ++ Builtin.zeroCells (Value.int .u8 0).cells (grownCap w (n + s.size) old el - (n + s.size))) el)).ownsRow 0 el 1
        (.slice (some ⟨w.heap.size, 0, none⟩) (n + s.size) (grownCap w (n + s.size) old el)) (n + s.size) (xs ++ strCells s) ∧
      w.grownBy (w.drew.alloc (.cells (xs.toArray ++ (strCells s).toArray ++ Builtin.zeroCells (Value.int .u8 0).cells (grownCap w (n + s.size) old el - (n + s.size))) el)) row := by
    intro old ho row
    have hge := grownCap_ge w (n + s.size) old el
    have hcm : grownCap w (n + s.size) old el ≤ maxLen := grownCap_le_maxLen w (n + s.size) old el h63
    refine ⟨⟨hlen, .inr ⟨w.heap.size, _, _, rfl, Nat.zero_le _, heap_alloc_new w.drew _, hge, hcm, ?_, ?_⟩⟩, ⟨rfl, rfl, rfl, by simp, fun k hk _ => heap_alloc_old w.drew _ k hk⟩⟩
    · have hz1 : (Value.int IntKind.u8 0).cells.size = 1 := rfl
      simp only [Array.size_append, List.size_toArray, size_zeroCells, hz1, hxl, Lib.strCells_length]
      omega
    · simp only [Array.toList_append, List.append_assoc]
      rw [← List.append_assoc, ← hlen]
      exact List.take_left
  rcases hown.2 with ⟨hv, rfl⟩ | ⟨g, cap, cur, hv, hbg, hg, hnc, hcm, hcs, htake⟩
  · have hx : xs = [] := List.eq_nil_of_length_eq_zero hxl
    subst hx
    cases hv
    by_cases hm : s.size = 0
    · have hn : strCells s = [] := List.eq_nil_of_length_eq_zero (by rw [Lib.strCells_length]; exact hm)
      refine ⟨.slice none 0 0, w, ?_, by rw [hm, hn]; exact World.ownsRow_nil w 0 el 1, ⟨rfl, rfl, rfl, Nat.le_refl _, fun _ _ _ => rfl⟩, .inl rfl⟩
      have hf := Lib.run_firstCells_string (P := P) w 1 s
      rw [hm] at hf
      simp [Builtin.append_, run_underlying ht, run_underlying hu, sizeOf, typeInfo, hi, hsize, Builtin.lenOf, hm, hf]
    · have hr := run_append_nil_string (P := P) w t u ty el i (.int .u8 0) ht hu hi hz s (by omega) (by omega) (by rw [hby]; omega)
      have hgr := grown 0 (by omega) (Value.ownBlock (.slice none 0 0))
      simp only [Nat.zero_add, List.nil_append, Array.empty_append] at hgr ⊢
      have e1 : (s.data.map fun b => Value.int .u8 b.toNat) = (strCells s).toArray := by
        apply Array.ext'
        simp [strCells]
      rw [e1] at hr
      exact ⟨_, _, hr, hgr.1, hgr.2, .inr rfl⟩
  · cases hv
    by_cases hroom : n + s.size ≤ c
    · have hcs' : cur.size = c := by simpa using hcs
      have hr := Lib.run_append_room_string (P := P) w t u ty el i ht hu hi hsize g n c cur hg s hroom (by omega)
      refine ⟨_, _, hr, ⟨hlen, .inr ⟨g, c, _, rfl, hbg, setRow_heap w g cur _ el _ hg, hroom, hcm, ?_, ?_⟩⟩, ⟨rfl, rfl, rfl, by simp, fun k _ hk => setRow_other w g k _ (fun e => hk (by simp [Value.ownBlock, e]))⟩, .inl rfl⟩
      · simp only [List.size_toArray, List.length_append, List.length_take, List.length_drop, Array.length_toList, Lib.strCells_length]
        omega
      · have ht' : cur.toList.take n = xs := by simpa using htake
        rw [ht', ← hlen]
        exact List.take_left
    · have holds : ∀ j u, xs[j]? = some u → w.cell? ((⟨g, 0, none⟩ : Addr).add j) = some u := hown.cells (g := g) rfl
      have hr := Lib.run_append_grow_string (P := P) w t u ty el i (.int .u8 0) ht hu hi hz ⟨g, 0, none⟩ n c xs (by rw [hsize]; simpa using hxl) holds s (by omega) (by omega) (by rw [hby]; exact growslice_fits (by omega) (by omega))
      have hgr := grown c (by omega) (Value.ownBlock (.slice (some ⟨g, 0, none⟩) n c))
      exact ⟨_, _, hr, hgr.1, hgr.2, .inr rfl⟩
def byteTy (P : Program) (el : TypeId) : Bool := match P.info? el with
  | some i => (match i.zero with | some (.int .u8 z) => decide (z = 0) | _ => false) && Nat.beq i.size 1 && Nat.beq i.bytes 1
  | none => false
theorem byteTy_ok {P : Program} (h : byteTy P el = true) : ∃ i, P.info? el = some i ∧ i.zero = some (.int .u8 0) ∧ i.size = 1 ∧ i.bytes = 1 := by
  unfold byteTy at h
  split at h
  · rename_i i hi
    simp only [Bool.and_eq_true] at h
    obtain ⟨⟨h1, h2⟩, h3⟩ := h
    refine ⟨i, hi, ?_, Nat.eq_of_beq_eq_true h2, Nat.eq_of_beq_eq_true h3⟩
    split at h1
    · rename_i z hz
      rw [hz, of_decide_eq_true h1]
    · cases h1
  · cases h
/-- append(b, s...), b owned (the first resource). -/
theorem Nx.append_str {tys : Array TypeId} {l : List UInt8} {xs : List Value} (hx : evo e x = some (.slice A n c)) (hy : evo e y = some (strV l)) (hty : tys = #[t, u]) (ht : C.P.underlying t = some (.slice el)) (hu : C.P.underlying u = some .string) (hel : byteTy C.P el = true)
    (hlt : Nat.blt d C.n = true) (h63 : n + l.length ≤ 34359738368)
    (h : ∀ A' c', Nx C ((d, .slice A' (n + l.length) c') :: e) I (Vec el 1 A' (n + l.length) c' (xs ++ l.map byteV) :: R) K) : Nx C e I (Vec el 1 A n c xs :: R) (opK C.P ⟨some d, .call { callee := .builtin .append, args := #[x, y], argTypes := tys }, ty, pos, after, g⟩ K Q) := by
  subst hty
  intro a w ha hw
  obtain ⟨⟨m, ⟨m1, m2, hd, rfl, hv, h2⟩, hs⟩, hst⟩ := id hw
  obtain ⟨i, hi, hz, hsize, hby⟩ := byteTy_ok hel
  have hsz : (ByteArray.mk l.toArray).size = l.length := by simp [ByteArray.size]
  have h63m : n + l.length ≤ maxLen := by unfold maxLen; omega
  obtain ⟨v', w', hr, hown', hg, hat⟩ := append_str_run (ty := ty) (s := ⟨l.toArray⟩) ht hu hi hz hsize hby (hv.owns hs.own) (by rw [hsz]; exact h63m) (by rw [hsz]; omega)
  rw [hsz, strCells_mk] at hown'
  obtain ⟨A', c', rfl, hst'⟩ := St.append hw hown' hg hat (run_drawn _ _ hr)
  unfold opK Oper.wp
  have hrun : (execOp a.eval ⟨some d, .call { callee := .builtin .append, args := #[x, y], argTypes := #[t, u] }, ty, pos, after, g⟩).run C.P w = .ok (.value (.slice A' (n + l.length) c')) w' := by
    obtain ⟨cs, hcs⟩ := run_builtin (P := C.P) (w := w) (ρ := a.eval) (b := .append) (args := #[x, y]) (dst := some d) (ty := ty) (pos := pos) (after := after) (g := g) (tys := #[t, u]) (show [x, y].map a.eval = [Value.slice A n c, strV l] from by simp only [List.map_cons, List.map_nil, ha.eval hx, ha.eval hy])
    rw [hcs]
    exact run_v hr
  rw [hrun]
  exact h A' c' _ w' (ha.put hlt _) hst'
/-- The same, resource number k, bytes told as bytes. -/
theorem Nx.append_strB (k : Nat) {tys : Array TypeId} {l l2 : List UInt8} (hx : evo e x = some (.slice A l.length c)) (hy : evo e y = some (strV l2)) (hty : tys = #[t, u]) (ht : C.P.underlying t = some (.slice el)) (hu : C.P.underlying u = some .string) (hel : byteTy C.P el = true)
    (hlt : Nat.blt d C.n = true) (hk : nthL R k = some (Vec el 1 A l.length c (l.map byteV))) (h63 : l.length + l2.length ≤ 34359738368)
    (h : ∀ A' c', Nx C ((d, .slice A' (l ++ l2).length c') :: e) I (Vec el 1 A' (l ++ l2).length c' ((l ++ l2).map byteV) :: R.eraseIdx k) K) : Nx C e I R (opK C.P ⟨some d, .call { callee := .builtin .append, args := #[x, y], argTypes := tys }, ty, pos, after, g⟩ K Q) := by
  refine Nx.pull k (nthL_eq.symm.trans hk) (Nx.append_str hx hy hty ht hu hel hlt h63 fun A' c' => ?_)
  have := h A' c'
  rw [List.length_append, List.map_append] at this
  exact this
/-- append(b, lit...): a literal of bytes that has just been laid. -/
theorem Nx.append_bytes (k : Nat) {tys : Array TypeId} {l l2 : List UInt8} {m c2 b : Nat} {cs : List Value} (hx : evo e x = some (.slice A l.length c)) (hy : evo e y = some (.slice (some ⟨b, 0, none⟩) m c2)) (hty : tys = #[t, t]) (ht : C.P.underlying t = some (.slice el)) (hel : elemIs C.P el 1 = true)
    (hlt : Nat.blt d C.n = true) (hk : nthL R k = some (Vec el 1 A l.length c (l.map byteV))) (hcs : cs = l2.map byteV) (hl : Nat.beq cs.length (m * 1) = true) (h1 : cs.all Value.oneCell' = true) (h63 : l.length + m ≤ 34359738368)
    (h : ∀ A' c', Nx C ((d, .slice A' (l ++ l2).length c') :: e) I (Vec el 1 A' (l ++ l2).length c' ((l ++ l2).map byteV) :: R.eraseIdx k) K) : Nx C e I (Blk b el cs :: R) (opK C.P ⟨some d, .call { callee := .builtin .append, args := #[x, y], argTypes := tys }, ty, pos, after, g⟩ K Q) := by
  have hm : m = l2.length := by
    have := Nat.eq_of_beq_eq_true hl
    rw [hcs, List.length_map] at this; omega
  subst hm
  refine Nx.append_lit k hx hy hty ht hel hlt hk hl h1 h63 fun A' c' => ?_
  have := h A' c'
  rw [List.length_append, List.map_append, ← hcs] at this
  exact this
/-- len(s). -/
theorem Nx.len_strV {tys : Array TypeId} {l : List UInt8} (hx : evo e x = some (strV l)) (hty : tys = #[t]) (ht : C.P.underlying t = some .string) (hlt : Nat.blt d C.n = true)
    (h : Nx C ((d, .int .i64 l.length) :: e) I R K) : Nx C e I R (opK C.P ⟨some d, .call { callee := .builtin .len, args := #[x], argTypes := tys }, ty, pos, after, g⟩ K Q) := by
  refine Nx.len_str (s := ⟨l.toArray⟩) hx hty ht hlt ?_
  rw [show ((ByteArray.mk l.toArray).size : Int) = l.length by simp [ByteArray.size]]
  exact h
/-- s[lo:hi] of a string. -/
theorem Nx.slice_str {k k' : IntKind} {l : List UInt8} {i j : Nat} (hx : evo e x = some (strV l)) (hy : evo e y = some (.int k (i : Int))) (hz : evo e z = some (.int k' (j : Int))) (ht : C.P.underlying t = some .string)
    (hlt : Nat.blt d C.n = true) (h1 : i ≤ j) (h2 : j ≤ l.length) (hk : Nx C ((d, strV ((l.drop i).take (j - i))) :: e) I R K) : Nx C e I R (opK C.P ⟨some d, .slice t x (some y) (some z) none, ty, pos, after, g⟩ K Q) :=
  Nx.op_run rfl hlt (fun a w ha _ => by
    simp only [execOp, ha.eval hx, ha.eval hy, ha.eval hz, Option.map_some, Option.map_none]
    refine run_v ?_
    have h3 := run_slice_string (P := C.P) w t ⟨l.toArray⟩ k k' (i : Int) (j : Int) ht (by omega) (by omega) (by simp [ByteArray.size]; omega)
    rw [Int.toNat_natCast, Int.toNat_natCast, ByteArray.extract_mk] at h3
    rw [run_sliceAt_string w t (strV l) _ _ _ ht]
    exact h3) hk
theorem run_index_str {P : Program} {k : IntKind} {l : List UInt8} {i : Nat} (ht : P.underlying t = some .string) (hi : i < l.length) (w : World) : (Instr.index t (strV l) (.int k (i : Int))).run P w = .ok (byteV (l.getD i default)) w := by
  have h := run_index_string (P := P) w t ⟨l.toArray⟩ k (i : Int) ht
  have hs : (ByteArray.mk l.toArray).size = l.length := by simp [ByteArray.size]
  rw [dif_pos ⟨by omega, by rw [hs]; omega⟩] at h
  have he : (ByteArray.mk l.toArray)[(i : Int).toNat]'(by rw [hs]; omega) = l.getD i default := by
    rw [List.getD_eq_getElem?_getD, List.getElem?_eq_getElem hi]
    show (l.toArray)[(i : Int).toNat]'_ = _
    simp
  rw [he] at h
  exact h
/-- s[i] of a string. -/
theorem Nx.index_str {k : IntKind} {l : List UInt8} {i : Nat} (hx : evo e x = some (strV l)) (hy : evo e y = some (.int k (i : Int))) (ht : C.P.underlying t = some .string)
    (hlt : Nat.blt d C.n = true) (hi : i < l.length) (hk : Nx C ((d, byteV (l.getD i default)) :: e) I R K) : Nx C e I R (opK C.P ⟨some d, .index t x y, ty, pos, after, g⟩ K Q) :=
  Nx.op_run rfl hlt (fun a w ha _ => by
    simp only [execOp, ha.eval hx, ha.eval hy]
    exact run_v (run_index_str ht hi w)) hk
theorem QRun.index_str {S : World → Prop} {dst : Option Tmp} {k : IntKind} {l : List UInt8} {i : Nat} (hx : evo e x = some (strV l)) (hy : evo e y = some (.int k (i : Int))) (ht : C.P.underlying t = some .string) (hi : i < l.length) : QRun C e S ⟨dst, .index t x y, ty, pos, after, g⟩ (byteV (l.getD i default)) :=
  fun a w ha _ => by
    simp only [execOp, ha.eval hx, ha.eval hy]
    exact run_v (run_index_str ht hi w)
/-- string(b). -/
theorem run_bytes_str {P : Program} {W w : World} {I : PH} {R : List Res} {l : List UInt8} (hs : P.underlying t = some (.slice el)) (he : P.underlying el = some (.int .u8)) (hd : P.underlying u = some .string) (hst : St W I R w)
    (hA : l ≠ [] → A.isSome = true) (hr : ∀ j v, (l.map byteV)[j]? = some v → Rd W I R ((ad A).add j) v) : (convert t u (.slice A l.length c)).run P w = .ok (strV l) w := by
  by_cases hl : l = []
  · subst hl
    cases A with
    | none =>
      have h0 := run_convert_bytes_string (P := P) w t u el none 0 c hs he hd
      rw [show ([] : List UInt8).length = 0 from rfl, h0]
      simp [Conv.bytesToString]; rfl
    | some a => exact run_convert_bytes_back w t u el a c [] hs he hd (fun j hj => absurd hj (Nat.not_lt_zero _))
  · cases A with
    | none => exact absurd (hA hl) (by simp)
    | some a => exact run_convert_bytes_back w t u el a c l hs he hd (fun j hj => hr j _ (by simp [List.getElem?_eq_getElem hj]; rfl) w hst)
theorem Nx.bytes_str {l : List UInt8} (hx : evo e x = some (.slice A l.length c)) (hs : C.P.underlying t = some (.slice el)) (he : C.P.underlying el = some (.int .u8)) (hd : C.P.underlying u = some .string) (hlt : Nat.blt d C.n = true)
    (hA : l ≠ [] → A.isSome = true) (hr : ∀ j v, (l.map byteV)[j]? = some v → Rd C.W I R ((ad A).add j) v) (hk : Nx C ((d, strV l) :: e) I R K) : Nx C e I R (opK C.P ⟨some d, .convert t u x, ty, pos, after, g⟩ K Q) :=
  Nx.op_run rfl hlt (fun a w ha hw => by
    simp only [execOp, ha.eval hx]
    exact run_v (run_bytes_str hs he hd hw hA hr)) hk
/-- string(b), b owned: resource number k. -/
theorem Nx.vec_str (k : Nat) {l : List UInt8} (hx : evo e x = some (.slice A n c)) (hn : n = l.length) (hs : C.P.underlying t = some (.slice el)) (he : C.P.underlying el = some (.int .u8)) (hd : C.P.underlying u = some .string) (hlt : Nat.blt d C.n = true)
    (hk : nthL R k = some (Vec el 1 A n c (l.map byteV))) (h : Nx C ((d, strV l) :: e) I R K) : Nx C e I R (opK C.P ⟨some d, .convert t u x, ty, pos, after, g⟩ K Q) := by
  intro a w ha hw
  have hA : l ≠ [] → A.isSome = true := fun hl => by
    obtain ⟨⟨m, hm, hs⟩, hst⟩ := id hw
    obtain ⟨m', hle, hv⟩ := Stars.get k hm hk
    rcases hv.2 with ⟨_, h0, _⟩ | ⟨b, cur, rfl, _⟩
    · exact absurd (List.eq_nil_of_length_eq_zero (hn.symm.trans h0)) hl
    · rfl
  subst hn
  exact Nx.bytes_str hx hs he hd hlt hA (fun j v hj => Rd.ent (Ent.pull k R _ (nthL_eq.symm.trans hk)) (Rd.vec hj)) h a w ha hw
theorem Sat.drew {w : World} {I m : PH} (h : Sat w I m) : Sat w.drew I m := ⟨h.imm, h.own, h.dis⟩
/-- A row that bears the run-time's mark: it is only read. -/
def BlkZ (b : Nat) (t : TypeId) (cs : List Value) : Res := fun m => ∃ fz rest, m b = some (.cells (cs ++ rest).toArray t fz)
theorem BlkZ.sliceOf {α : Type} {f : α → Value} {b : Nat} {m I' : PH} {l : List α} {cap : Nat} (hm : PH.le m I') (h : BlkZ b t (l.map f) m) (hc : l.length ≤ cap) (hl : cap ≤ maxLen) : SliceOf f I' (some ⟨b, 0, none⟩) cap l := by
  obtain ⟨fz, rest, hb⟩ := h
  refine ⟨fun j u hj => ⟨rfl, ?_⟩, hc, hl⟩
  have hlt := (List.getElem?_eq_some_iff.1 hj).1
  rw [ad_some, Addr.add_lit, Nat.zero_add]
  simp only [cellH, hm _ _ hb, Option.isSome_none, Bool.false_eq_true, if_false]
  rw [List.getElem?_toArray, List.getElem?_append_left hlt]
  exact hj
/-- []byte(s). -/
theorem Nx.str_bytes {l : List UInt8} (hx : evo e x = some (strV l)) (hs : C.P.underlying t = some .string) (hd : C.P.underlying u = some (.slice el)) (he : C.P.underlying el = some (.int .u8)) (hlt : Nat.blt d C.n = true) (hl : l.length ≤ 34359738368)
    (h : ∀ b cap, l.length ≤ cap → cap ≤ maxLen → Nx C ((d, .slice (some ⟨b, 0, none⟩) l.length cap) :: e) I (BlkZ b el (l.map byteV) :: R) K) : Nx C e I R (opK C.P ⟨some d, .convert t u x, ty, pos, after, g⟩ K Q) := by
  intro a w ha hw
  have hsz : (ByteArray.mk l.toArray).size = l.length := by simp [ByteArray.size]
  have hr := run_bytes_of_string (P := C.P) w t u el ⟨l.toArray⟩ hs hd he
  rw [hsz] at hr
  unfold opK Oper.wp
  have hrun : (execOp a.eval ⟨some d, .convert t u x, ty, pos, after, g⟩).run C.P w = .ok (.value (.slice (some ⟨w.heap.size, 0, none⟩) l.length (grownCap w l.length 0 el))) (w.drew.alloc (.cells (bytesRow ⟨l.toArray⟩ (grownCap w l.length 0 el)) el ((bytesRow ⟨l.toArray⟩ (grownCap w l.length 0 el)).size, (bytesRow ⟨l.toArray⟩ (grownCap w l.length 0 el)).size + 1))) := by
    simp only [execOp, ha.eval hx]
    exact run_v hr
  rw [hrun]
  refine h w.heap.size (grownCap w l.length 0 el) (grownCap_ge w _ _ _) (grownCap_le_maxLen w _ _ _ (by unfold maxLen; omega)) _ _ (ha.put hlt _) ?_
  have h1 := (St.drew hw).alloc (.cells (bytesRow ⟨l.toArray⟩ (grownCap w l.length 0 el)) el ((bytesRow ⟨l.toArray⟩ (grownCap w l.length 0 el)).size, (bytesRow ⟨l.toArray⟩ (grownCap w l.length 0 el)).size + 1))
  have : bytesRow ⟨l.toArray⟩ (grownCap w l.length 0 el) = (l.map byteV ++ List.replicate (grownCap w l.length 0 el - l.length) (Value.int .u8 0)).toArray := by
    unfold bytesRow
    rw [hsz]
    apply Array.ext'
    simp [byteV]
  refine h1.ent (Ent.head fun m hm => ⟨((bytesRow ⟨l.toArray⟩ (grownCap w l.length 0 el)).size, (bytesRow ⟨l.toArray⟩ (grownCap w l.length 0 el)).size + 1), List.replicate (grownCap w l.length 0 el - l.length) (.int .u8 0), ?_⟩)
  rw [← this]
  exact hm
/-! ### Tests whose outcome is known -/
section
variable {cd : Code}
theorem Nx.p_bool_t {b : Bool} (hk : ck cd = 4) (hc : evo e (ccnd cd) = some (.bool b)) (hp : b = true) (h : Nx C e I R ((cl cd).wp C.P Q)) : Nx C e I R (cd.wp C.P Q) := Nx.p_bool hk hc (fun _ => h) (fun hn => by rw [hp] at hn; cases hn)
theorem Nx.p_bool_f {b : Bool} (hk : ck cd = 4) (hc : evo e (ccnd cd) = some (.bool b)) (hp : b = false) (h : Nx C e I R ((cr cd).wp C.P Q)) : Nx C e I R (cd.wp C.P Q) := Nx.p_bool hk hc (fun hn => by rw [hp] at hn; cases hn) (fun _ => h)
end
/-! ### Strings as keys -/
theorem strV_eq {a b : List UInt8} : (ByteArray.mk a.toArray == ByteArray.mk b.toArray) = decide (a = b) := by
  rw [Bool.eq_iff_iff, MapKept.bytes_beq, decide_eq_true_eq]
  exact ⟨fun he => by have := congrArg (fun x : ByteArray => x.data.toList) he; simpa using this, fun h => by rw [h]⟩
theorem KeyEnc.str {P : Program} {kt : TypeId} (h : P.underlying kt = some .string) : KeyEnc P kt strV := by
  refine ⟨⟨_, h, fun a b => ?_⟩, fun em a w => ?_, fun a => by show (ByteArray.mk a.toArray == ByteArray.mk a.toArray) = true; rw [strV_eq]; simp⟩
  · show some (ByteArray.mk a.toArray == ByteArray.mk b.toArray) = _
    rw [strV_eq]
  · unfold Instr.checkKey
    rw [Sem.run_bind, run_underlying h, Result.andThen_ok]
    rfl
/-! ### The order of strings -/
def strLt (a b : List UInt8) : Bool := Op.bytesLess a b
section
variable {P : Program} {a b : List UInt8}
theorem run_strlt (w : World) : (do eqGuard .lss t x y (.string ⟨a.toArray⟩) (.string ⟨b.toArray⟩); binOp .lss t (.string ⟨a.toArray⟩) (.string ⟨b.toArray⟩)).run P w = .ok (.bool (strLt a b)) w := by
  rw [show eqGuard .lss t x y (Value.string ⟨a.toArray⟩) (.string ⟨b.toArray⟩) = pure () from rfl, binOp_string_lss, ByteArray.toList_mk, ByteArray.toList_mk]
  rfl
theorem run_strgt (w : World) : (do eqGuard .gtr t x y (.string ⟨a.toArray⟩) (.string ⟨b.toArray⟩); binOp .gtr t (.string ⟨a.toArray⟩) (.string ⟨b.toArray⟩)).run P w = .ok (.bool (!(strLt a b || a == b))) w := by
  rw [show eqGuard .gtr t x y (Value.string ⟨a.toArray⟩) (.string ⟨b.toArray⟩) = pure () from rfl, binOp_string_gtr, ByteArray.toList_mk, ByteArray.toList_mk]
  rfl
theorem run_strle (w : World) : (do eqGuard .leq t x y (.string ⟨a.toArray⟩) (.string ⟨b.toArray⟩); binOp .leq t (.string ⟨a.toArray⟩) (.string ⟨b.toArray⟩)).run P w = .ok (.bool (strLt a b || a == b)) w := by
  rw [show eqGuard .leq t x y (Value.string ⟨a.toArray⟩) (.string ⟨b.toArray⟩) = pure () from rfl, binOp_string_leq, ByteArray.toList_mk, ByteArray.toList_mk]
  rfl
theorem run_strge (w : World) : (do eqGuard .geq t x y (.string ⟨a.toArray⟩) (.string ⟨b.toArray⟩); binOp .geq t (.string ⟨a.toArray⟩) (.string ⟨b.toArray⟩)).run P w = .ok (.bool (!(strLt a b))) w := by
  rw [show eqGuard .geq t x y (Value.string ⟨a.toArray⟩) (.string ⟨b.toArray⟩) = pure () from rfl, binOp_string_geq, ByteArray.toList_mk, ByteArray.toList_mk]
  rfl
theorem run_eql_c (w : World) : (do eqGuard .eql t x y (strV a) (.string ⟨b.toArray⟩); binOp .eql t (strV a) (.string ⟨b.toArray⟩)).run P w = .ok (.bool (a == b)) w := run_streq w
theorem run_eql_s (w : World) : (do eqGuard .eql t x y (strV a) (strV b); binOp .eql t (strV a) (strV b)).run P w = .ok (.bool (a == b)) w := run_streq w
theorem run_neq_s (w : World) : (do eqGuard .neq t x y (strV a) (strV b); binOp .neq t (strV a) (strV b)).run P w = .ok (.bool (!(a == b))) w := run_strne w
theorem run_lss_s (w : World) : (do eqGuard .lss t x y (strV a) (strV b); binOp .lss t (strV a) (strV b)).run P w = .ok (.bool (strLt a b)) w := run_strlt w
theorem run_gtr_s (w : World) : (do eqGuard .gtr t x y (strV a) (strV b); binOp .gtr t (strV a) (strV b)).run P w = .ok (.bool (!(strLt a b || a == b))) w := run_strgt w
end
end Go.Eng
