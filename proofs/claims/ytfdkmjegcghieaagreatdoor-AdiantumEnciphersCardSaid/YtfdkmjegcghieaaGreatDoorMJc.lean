/- prime by definition (plain): rows of numbers as bytes; products and sums of rests -/
import Derived.Test.YtfdkmjegcghieaaGreatDoorMJa
import Derived.Test.YtfdkmjegcghieaaGreatDoorMGf
import Derived.Test.YtfdkmjegcghieaaGreatDoorMIj
namespace Go.Proofs.YtfdkmjegcghieaaGreatDoor
open Lib (hid)
set_option linter.unusedSimpArgs false
set_option maxRecDepth 100000
set_option maxHeartbeats 1600000
def numI : List Nat → Nat
 | [] => 0
 | a :: l => a + 256 * numI l
theorem numI_drop (l : List Nat) (i : Nat) : numI (l.drop i) = l.getD i 0 + 256 * numI (l.drop (i + 1)) := by
 by_cases h : i < l.length
 ·rw [List.drop_eq_getElem_cons h]
  show _ + _ = _
  congr 1
  simp [List.getD_eq_getElem?_getD, h]
 ·rw [List.drop_of_length_le (by omega), List.drop_of_length_le (by omega)]
  simp [numI, List.getD_eq_getElem?_getD, h]
theorem bytes_step (out : List (BitVec 8)) (c : Nat) (l : List Nat) :
  numL (out ++ [BitVec.ofNat 8 ((c + l.getD out.length 0) % 256)]) + 256 ^ (out.length + 1) * ((c + l.getD out.length 0) / 256 + numI (l.drop (out.length + 1)))
   = numL out + 256 ^ out.length * (c + numI (l.drop out.length)) := by
 rw [numL_append, numI_drop l out.length]
 generalize l.getD out.length 0 = a
 generalize numI (l.drop (out.length + 1)) = r
 have e : numL [BitVec.ofNat 8 ((c + a) % 256)] = (c + a) % 256 := by
  show (BitVec.ofNat 8 ((c + a) % 256)).toNat + 256 * 0 = _
  rw [BitVec.toNat_ofNat]; omega
 rw [e, Nat.pow_succ, Nat.mul_assoc, Nat.add_assoc, ← Nat.mul_add]
 congr 2
 omega
theorem bytes_end (out : List (BitVec 8)) (l : List Nat) (h : l.length ≤ out.length) (N : Nat) (hN : numL out + 256 ^ out.length * (0 + numI (l.drop out.length)) = N) : numL out = N := by
 rw [List.drop_of_length_le h] at hN
 simpa [numI] using hN
theorem numI_set (l : List Nat) (i x : Nat) (h : i < l.length) : numI (l.set i (l.getD i 0 + x)) = numI l + 256 ^ i * x := by
 induction l generalizing i with
 | nil => simp at h
 | cons a l ih =>
  cases i with
  | zero => simp [numI]; omega
  | succ i =>
   have h2 := ih i (by simpa using h)
   show a + 256 * numI (l.set i ((a :: l).getD (i + 1) 0 + x)) = a + 256 * numI l + 256 ^ (i + 1) * x
   rw [show (a :: l).getD (i + 1) 0 = l.getD i 0 by simp [List.getD_eq_getElem?_getD], h2, Nat.mul_add, Nat.pow_succ, Nat.mul_comm (256 ^ i) 256, Nat.mul_assoc, Nat.add_assoc]
theorem numL_take_succ (l : List (BitVec 8)) (k : Nat) (h : k < l.length) : numL (l.take (k + 1)) = numL (l.take k) + 256 ^ k * (nth l k).toNat := by
 rw [List.take_add_one, numL_append, List.length_take, Nat.min_eq_left (by omega), nth_eq h]
 show _ + 256 ^ k * ((nth l k).toNat + 256 * 0) = _
 rw [Nat.mul_zero, Nat.add_zero]
theorem getD_set (l : List Nat) (i j x : Nat) (h : i < l.length) : (l.set i x).getD j 0 = if i = j then x else l.getD j 0 := by
 simp only [List.getD_eq_getElem?_getD, List.getElem?_set]
 by_cases e : i = j
 ·subst e; simp [h]
 ·simp [e]
theorem getD_zeros (n i : Nat) : (List.replicate n 0).getD i 0 = 0 := by
 simp only [List.getD_eq_getElem?_getD, List.getElem?_replicate]
 split <;> rfl
theorem numI_zeros (n : Nat) : numI (List.replicate n 0) = 0 := by
 induction n with
 | zero => rfl
 | succ n ih => rw [List.replicate_succ]; show 0 + 256 * _ = 0; rw [ih]
structure TmR (A B : List (BitVec 8)) (i k : Nat) (l : List Nat) : Prop where
 len : l.length = 33
 small : ∀ j, l.getD j 0 ≤ (17 * i + k) * 65025
 num : numI l = numL (A.take i) * numL B + 256 ^ i * (nth A i).toNat * numL (B.take k)
theorem TmR.zero (A B : List (BitVec 8)) : TmR A B 0 0 (List.replicate 33 0) :=
 ⟨by simp, fun j => by rw [getD_zeros]; exact Nat.zero_le _, by
  rw [numI_zeros, List.take_zero, List.take_zero]
  show 0 = 0 * _ + _ * 0
  rw [Nat.zero_mul, Nat.mul_zero]⟩
theorem TmR.step {A B : List (BitVec 8)} {i k : Nat} {l : List Nat} (h : TmR A B i k l) (hB : B.length = 17) (hi : i < 17) (hk : k < 17) :
  TmR A B i (k + 1) (l.set (i + k) (l.getD (i + k) 0 + (nth A i).toNat * (nth B k).toNat)) := by
 have h1 := (nth A i).isLt
 have h2 := (nth B k).isLt
 have h3 : (nth A i).toNat * (nth B k).toNat ≤ 255 * 255 := Nat.mul_le_mul (by omega) (by omega)
 refine ⟨by rw [List.length_set, h.len], fun j => ?_, ?_⟩
 ·have h4 := h.small j
  have h5 := h.small (i + k)
  rw [getD_set _ _ _ _ (by rw [h.len]; omega)]
  generalize (nth A i).toNat * (nth B k).toNat = g at h3 ⊢
  generalize l.getD j 0 = u at h4 ⊢
  generalize l.getD (i + k) 0 = v at h5 ⊢
  obtain ⟨q, hq⟩ : ∃ q, q = 17 * i + k := ⟨_, rfl⟩
  rw [← hq] at h4 h5
  rw [show 17 * i + (k + 1) = q + 1 by omega, Nat.succ_mul]
  have h6 : g ≤ 65025 := h3
  by_cases e : i + k = j
  ·rw [if_pos e]; exact Nat.add_le_add h5 h6
  ·rw [if_neg e]; exact Nat.le_trans h4 (Nat.le_add_right _ _)
 ·rw [numI_set _ _ _ (by rw [h.len]; omega), h.num, numL_take_succ B k (by omega), Nat.pow_add, Nat.mul_add, ← Nat.add_assoc]
  congr 1
  rw [Nat.mul_mul_mul_comm]
theorem TmR.next {A B : List (BitVec 8)} {i : Nat} {l : List Nat} (h : TmR A B i 17 l) (hA : A.length = 17) (hB : B.length = 17) (hi : i < 17) : TmR A B (i + 1) 0 l :=
 ⟨h.len, fun j => by have := h.small j; omega, by
  rw [h.num, numL_take_succ A i (by omega), List.take_of_length_le (Nat.le_of_eq hB), List.take_zero, Nat.add_mul]
  show _ = _ + _ * 0
  rw [Nat.mul_zero, Nat.add_zero]⟩
theorem TmR.last {A B : List (BitVec 8)} {l : List Nat} (h : TmR A B 17 0 l) (hA : A.length = 17) : numI l = numL A * numL B := by
 rw [h.num, List.take_of_length_le (Nat.le_of_eq hA), List.take_zero]
 show _ + _ * 0 = _
 rw [Nat.mul_zero, Nat.add_zero]
structure PlR (A B : List (BitVec 8)) (i : Nat) (l : List Nat) : Prop where
 len : l.length = 17
 small : ∀ j, l.getD j 0 ≤ 510
 next : ∀ j, i ≤ j → l.getD j 0 = 0
 num : numI l = numL (A.take i) + numL (B.take i)
theorem PlR.zero (A B : List (BitVec 8)) : PlR A B 0 (List.replicate 17 0) :=
 ⟨by simp, fun j => by rw [getD_zeros]; omega, fun j _ => getD_zeros _ _, by rw [numI_zeros]; rfl⟩
theorem PlR.step {A B : List (BitVec 8)} {i : Nat} {l : List Nat} (h : PlR A B i l) (hA : A.length = 17) (hB : B.length = 17) (hi : i < 17) :
  PlR A B (i + 1) (l.set i ((nth A i).toNat + (nth B i).toNat)) := by
 have h1 := (nth A i).isLt
 have h2 := (nth B i).isLt
 refine ⟨by rw [List.length_set, h.len], fun j => ?_, fun j hj => ?_, ?_⟩
 ·have := h.small j
  rw [getD_set _ _ _ _ (by rw [h.len]; exact hi)]
  split <;> omega
 ·rw [getD_set _ _ _ _ (by rw [h.len]; exact hi), if_neg (by omega), h.next j (by omega)]
 ·have e := numI_set l i ((nth A i).toNat + (nth B i).toNat) (by rw [h.len]; exact hi)
  rw [h.next i (Nat.le_refl _), Nat.zero_add] at e
  rw [e, h.num, numL_take_succ A i (by omega), numL_take_succ B i (by omega), Nat.mul_add]
  omega
theorem PlR.last {A B : List (BitVec 8)} {l : List Nat} (h : PlR A B 17 l) (hA : A.length = 17) (hB : B.length = 17) : numI l = numL A + numL B := by
 rw [h.num, List.take_of_length_le (Nat.le_of_eq hA), List.take_of_length_le (Nat.le_of_eq hB)]
structure ByR (l : List Nat) (c : Nat) (out : List (BitVec 8)) : Prop where
 lo : out.length ≤ l.length → c ≤ 1099511627776
 hi : l.length ≤ out.length → out.length + c ≤ l.length + 1099511627776
 num : numL out + 256 ^ out.length * (c + numI (l.drop out.length)) = numI l
theorem ByR.zero (l : List Nat) : ByR l 0 [] := ⟨fun _ => by omega, fun h => by simp at h ⊢, by
 show 0 + 1 * (0 + numI l) = _
 omega⟩
theorem ByR.step {l : List Nat} {c : Nat} {out : List (BitVec 8)} (h : ByR l c out) (hl : ∀ j, l.getD j 0 ≤ 1000000000) (hgo : out.length < l.length ∨ 0 < c) :
  ByR l ((c + l.getD out.length 0) / 256) (out ++ [BitVec.ofNat 8 ((c + l.getD out.length 0) % 256)]) := by
 have hx := hl out.length
 have hz : l.length ≤ out.length → l.getD out.length 0 = 0 := fun hh => by
  rw [List.getD_eq_getElem?_getD, List.getElem?_eq_none hh]; rfl
 have h1 := h.lo
 have h2 := h.hi
 have e : (out ++ [BitVec.ofNat 8 ((c + l.getD out.length 0) % 256)]).length = out.length + 1 := by simp
 refine ⟨fun hh => ?_, fun hh => ?_, ?_⟩
 ·rw [e] at hh
  have := h1 (by omega)
  omega
 ·rw [e] at hh ⊢
  by_cases hlt : out.length < l.length
  ·have := h1 (by omega)
   omega
  ·have := h2 (by omega)
   rw [hz (by omega)]
   omega
 ·rw [e, bytes_step, h.num]
theorem ByR.last {l : List Nat} {out : List (BitVec 8)} (h : ByR l 0 out) (hl : l.length ≤ out.length) : numL out = numI l := bytes_end out l hl _ h.num
theorem by_measure (n i c x : Nat) (hx : x ≤ 1000000000) (hc : c ≤ 1099511627776) (hgo : i < n ∨ 0 < c) (hz : n ≤ i → x = 0) :
  2000000000000 * (n - (i + 1)) + (c + x) / 256 < 2000000000000 * (n - i) + c := by
 by_cases h : i < n
 ·obtain ⟨d, hd⟩ : ∃ d, n - i = d + 1 := ⟨n - i - 1, by omega⟩
  rw [hd, show n - (i + 1) = d by omega, Nat.mul_add]
  omega
 ·rw [hz (by omega), show n - (i + 1) = 0 by omega, show n - i = 0 by omega]
  omega
open Go.RowKit
def Own32 (w : World) (B : Nat) (e : TypeId) (v : Value) (l : List (BitVec 32)) : Prop := w.ownsRow B e 1 v l.length (l.map v32)
theorem Own32.nil_ (w : World) (B : Nat) (e : TypeId) : Own32 w B e (.slice none 0 0) [] := World.ownsRow_nil w B e 1
theorem Own32.drew {w : World} {B : Nat} {e : TypeId} {v : Value} {l : List (BitVec 32)} (h : Own32 w B e v l) : Own32 w.drew B e v l := h
theorem Own32.base {w : World} {B B' : Nat} {e : TypeId} {v : Value} {l : List (BitVec 32)} (h : Own32 w B e v l) (hb : B' ≤ B) : Own32 w B' e v l :=
 ⟨h.1, h.2.imp id fun ⟨g, cap, cur, h1, h2, h3⟩ => ⟨g, cap, cur, h1, Nat.le_trans hb h2, h3⟩⟩
theorem Own32.below {w w' : World} {B : Nat} {e : TypeId} {v : Value} {l : List (BitVec 32)} (h : Own32 w B e v l) (hb : Below w.heap.size w w') : Own32 w' B e v l := by
 refine ⟨h.1, ?_⟩
 rcases h.2 with h0 | ⟨g, cap, cur, hv, hg, hh, hr⟩
 ·exact .inl h0
 ·exact .inr ⟨g, cap, cur, hv, hg, by rw [hb.block g (Array.getElem?_eq_some_iff.1 hh).1]; exact hh, hr⟩
theorem Own32.rd {w : World} {B : Nat} {e : TypeId} {v : Value} {l : List (BitVec 32)} (h : Own32 w B e v l) : ∃ a c, v = .slice a l.length c ∧ Rd32 w a l.length c l ∧ (∀ ad, a = some ad → B ≤ ad.block) := by
 rcases h.2 with ⟨rfl, h0⟩ | ⟨g, cap, cur, rfl, hg, hh, hnc, hcm, hcs, hx⟩
 ·refine ⟨_, _, by rw [h0], ⟨rfl, by omega, by unfold maxLen; omega, fun hn => by omega⟩, fun ad had => by cases had⟩
 ·refine ⟨_, _, rfl, ⟨rfl, hnc, hcm, fun hn => ⟨g, 0, rfl, (Array.getElem?_eq_some_iff.1 hh).1, fun i hi => ?_⟩⟩, fun ad had => by cases had; exact hg⟩
  rw [Nat.zero_add, cell_rowAt]
  unfold rowAt
  rw [hh]
  have h2 := congrArg (fun l : List Value => l[i]?) hx
  simp only [Nat.mul_one, List.getElem?_take, hi, if_true, List.getElem?_map, nth_eq hi] at h2
  simpa using h2
def vint (n : Nat) : Value := .int .i64 (n : Int)
def AI (l : List Nat) : Array Value := (l.map vint).toArray
def zerI (n : Nat) : List Nat := List.replicate n 0
theorem AI_get (l : List Nat) (i : Nat) (h : i < l.length) : (AI l)[i]? = some (vint (l.getD i 0)) := by
 simp [AI, List.getD_eq_getElem?_getD, h]
theorem AI_set (l : List Nat) (i x : Nat) : (AI l).setIfInBounds i (vint x) = AI (l.set i x) := by
 apply Array.ext'
 simp [AI, List.map_set]
theorem Blk.cellI {w : World} {g : Nat} {t : TypeId} {s : List Nat} {m : Nat} (h : Blk w g t (AI s)) (hs : s.length = m) (i : Nat) (hi : i < m) : w.cell? ⟨g, i, none⟩ = some (.int .i64 (s.getD i 0 : Nat)) := by
 rw [h.cell, AI_get s i (by omega)]; rfl
section
variable {P : Program}
theorem run_makeI (w : World) (t e : TypeId) (l : Int) (ht : P.underlying t = some (.slice e)) (hi : (P.info? e).map (fun i => (i.zero, i.size, i.bytes)) = some (some (.int .i64 0), 1, 8)) (h0 : 0 ≤ l) (hb : l ≤ 1000000) :
  (Instr.makeSlice t (.int .i64 l) (.int .i64 l)).run P w = .ok (.slice (some ⟨w.heap.size, 0, none⟩) l.toNat l.toNat) (w.alloc (.cells (AI (zerI l.toNat)) e)) := by
 obtain ⟨i, hi, hz, hs, hby⟩ := info_parts hi
 rw [run_make w t e i (.int .i64 0) ht hi hz .i64 .i64 l l h0 (Int.le_refl _) (by rw [hby]; omega) (by omega)]
 congr 3
 apply Array.ext'
 rw [hs, Nat.mul_one]
 show (madeCells #[Value.int .i64 0] l.toNat).toList = _
 rw [toList_madeCells_one]
 simp [AI, vint, zerI]
theorem run_append32 (w : World) (B : Nat) (t ty e : TypeId) (ht : P.underlying t = some (.slice e)) (hi : (P.info? e).map (fun i => (i.zero, i.size, i.bytes)) = some (some (.int .u32 0), 1, 4))
  (v : Value) (l : List (BitVec 32)) (hown : Own32 w B e v l) (a : Addr) (x : BitVec 32) (hc : w.cell? a = some (v32 x)) (hb : l.length ≤ 1000000) (hbase : B ≤ w.heap.size) :
  ∃ v' w', (Builtin.append_ #[t, t] ty #[v, .slice (some a) 1 1]).run P w = .ok v' w' ∧ Own32 w' B e v' (l ++ [x]) ∧ w.grownBy w' v.ownBlock ∧ Below B w w' := by
 obtain ⟨i, hi, hz, hs, hby⟩ := info_parts hi
 have hbel : ∀ w', w.grownBy w' v.ownBlock → Below B w w' := fun w' hg => (Below.refl B w).grown hg hbase (fun k hk => (World.ownsRow.lt hown k hk).1)
 obtain ⟨v', w', hrun, hown', hg, _⟩ := run_append_own (P := P) w B t ty e i (.int .u32 0) 1 4 ht hi hz hs hby rfl (by omega) v l.length (l.map v32) hown a 1 1 [v32 x] rfl
  (fun j u hu => by
   cases j with
   | zero =>
    cases hu
    rw [Addr.add_zero' a]
    exact hc
   | succ j => simp at hu)
  (fun u hu => by rw [List.mem_singleton.1 hu]; rfl) (by unfold maxLen; omega) (by omega) hbase
 refine ⟨v', w', hrun, ?_, hg, hbel _ hg⟩
 unfold Own32
 rw [List.map_append, List.length_append]
 exact hown'
theorem run_build1W (w : World) (t e : TypeId) (x : BitVec 32) (hu : P.underlying t = some (.slice e)) (hi : (P.info? e).map (fun i => (i.zero, i.size, i.bytes)) = some (some (.int .u32 0), 1, 4)) :
  (Instr.buildSlice t 1 #[(0, v32 x)]).run P w = .ok (.slice (some ⟨w.heap.size, 0, none⟩) 1 1) (w.alloc (.cells (A32 [x]) e)) := by
 obtain ⟨i, hi, hz, hs, _⟩ := info_parts hi
 have hc : (v32 x).cells = #[v32 x] := rfl
 simp [Instr.buildSlice, run_underlying hu, sizeOf, typeInfo, hi, hs, newRow, Instr.fill, zeroValue, hz, hc, A32]
 congr 2
 rw [show Array.range 1 = #[0] from rfl]
 simp
theorem z_build1W {ops : Array Oper} {K : Act → World → Prop} {ks : List Nat} {l : List Oper} {a : Act} {w : World} {d : Option Tmp} {y : Operand} {t ty e : TypeId} {pos : String} {after : Array Edge} {x : BitVec 32} (hy : a.eval y = v32 x) (ht : P.underlying t = some (.slice e)) (hi : (P.info? e).map (fun i => (i.zero, i.size, i.bytes)) = some (some (.int .u32 0), 1, 4))
  (h : ∀ w1 b, w1.cell? ⟨b, 0, none⟩ = some (v32 x) → Below w.heap.size w w1 → wpZ P ops K ks l (a.put d (.slice (some ⟨b, 0, none⟩) 1 1)) w1) :
  wpZ P ops K (2 :: ks) (⟨d, .buildSlice t 1 #[(0, y)], ty, pos, after, none⟩ :: l) a w := by
 unfold wpZ opT
 simp only [Region.wanted, if_true]
 have hr : (execOp a.eval ⟨d, .buildSlice t 1 #[(0, y)], ty, pos, after, none⟩).run P w = .ok (.value (.slice (some ⟨w.heap.size, 0, none⟩) 1 1)) (w.alloc (.cells (A32 [x]) e)) := by
  simp only [execOp, List.map_toArray, List.map_cons, List.map_nil, hy, Sem.run_bind, run_build1W w t e x ht hi, Result.andThen_ok, Sem.run_pure]
 unfold Oper.wp
 rw [hr]
 have hb := (Blk.new w e (A32 [x])).cell32 (m := 1) rfl 0 (by omega)
 exact h _ _ hb ((Below.refl _ _).alloc (Nat.le_refl _) _)
theorem z_append32 {ops : Array Oper} {K : Act → World → Prop} {ks : List Nat} {l : List Oper} {a : Act} {w : World} {d : Option Tmp} {x y : Operand} {t ty e : TypeId} {pos : String} {after : Array Edge} {B : Nat} {v : Value} {m : List (BitVec 32)} {ad : Addr} {z : BitVec 32} (hown : Own32 w B e v m) (hc : w.cell? ad = some (v32 z))
  (hx : a.eval x = v) (hy : a.eval y = .slice (some ad) 1 1) (ht : P.underlying t = some (.slice e)) (hi : (P.info? e).map (fun i => (i.zero, i.size, i.bytes)) = some (some (.int .u32 0), 1, 4)) (hb : m.length ≤ 1000000) (hB : B ≤ w.heap.size)
  (h : ∀ w1 v1, Own32 w1 B e v1 (m ++ [z]) → w.grownBy w1 v.ownBlock → Below B w w1 → wpZ P ops K ks l (a.put d v1) w1) :
  wpZ P ops K (2 :: ks) (⟨d, .call { callee := .builtin .append, args := #[x, y], argTypes := #[t, t] }, ty, pos, after, none⟩ :: l) a w := by
 unfold wpZ opT
 simp only [Region.wanted, if_true]
 obtain ⟨v1, w1, hcc, h1, h2, h3⟩ := run_append32 (P := P) w B t ty e ht hi v m hown ad z hc hb hB
 have hr : (execOp a.eval ⟨d, .call { callee := .builtin .append, args := #[x, y], argTypes := #[t, t] }, ty, pos, after, none⟩).run P w = .ok (.value v1) w1 := by
  rw [BigFrame.execOp_builtin]
  simp only [BigFrame.builtin_append, List.map_toArray, List.map_cons, List.map_nil, hx, hy, Sem.run_bind, hcc, Result.andThen_ok, Sem.run_pure]
 unfold Oper.wp
 rw [hr]
 exact h _ _ h1 h2 h3
theorem z_storeI {ops : Array Oper} {K : Act → World → Prop} {ks : List Nat} {l : List Oper} {a : Act} {w : World} {e : TypeId} {p x : Operand} {ty : TypeId} {pos : String} {after : Array Edge} {g i : Nat} {t : TypeId} {s : List Nat} {v : Nat} (hb : Blk w g t (AI s)) (hp : a.eval p = .pointer (some ⟨g, i, none⟩)) (hv : a.eval x = .int .i64 (v : Int)) (hi : i < s.length)
  (hsz : (sizeOf e).run P w = .ok 1 w) (h : ∀ w1, Blk w1 g t (AI (s.set i v)) → w.grownBy w1 (some g) → w1.heap.size = w.heap.size → wpZ P ops K ks l a w1) : wpZ P ops K (2 :: ks) (⟨none, .store e p x, ty, pos, after, none⟩ :: l) a w := by
 unfold wpZ opT
 simp only [Region.wanted, if_true]
 have hr : (execOp a.eval ⟨none, .store e p x, ty, pos, after, none⟩).run P w = .ok .skip (w.setCell ⟨g, i, none⟩ (.int .i64 (v : Int))) := by
  rw [execOp_store', hp, hv]
  have hs : (store ⟨g, i, none⟩ (.int .i64 (v : Int)) .plain).run P w = .ok () (w.setCell ⟨g, i, none⟩ (.int .i64 (v : Int))) := by
   rw [run_store P w ⟨g, i, none⟩ (.int .i64 (v : Int)) .plain rfl]
   simp [hb.cellI rfl i hi, hb.frozen i]
  simp [putAt, Instr.storeAt, Instr.sureAddr, storeVar, hsz, Value.cells, storeCells, Addr.add_lit, hs]
 unfold Oper.wp
 rw [hr]
 have hb' := hb.set_ i (vint v)
 rw [AI_set] at hb'
 exact h _ hb' (grown_setCell w g i _) (by simp)
end
open Go.RowKit
theorem infoI : (Tryz.prog.info? 3).map (fun i => (i.zero, i.size, i.bytes)) = some (some (.int .i64 0), 1, 8) := by kernel_rfl
theorem refBytes_any (L : List Nat) (g n : Nat) (w : World) (hb : Blk w g 3 (AI L)) (hn : L.length = n) (hn1 : n ≤ 1000) (hs : ∀ j, L.getD j 0 ≤ 1000000000) :
  Calls Tryz.prog 194 #[.slice (some ⟨g, 0, none⟩) n n] w fun e w' => ∃ v, e = .returned v ∧ ∃ out, Own8 w' w.heap.size 5 v out ∧ numL out = numI L ∧ Below w.heap.size w w' := by
 have L0 := hid hb
 have HS := hid hs
 have hgl := hb.lt
 clear hb hs
 go_enter Tryz.func194, Tryz.ntmps194
 go_wp2_with fail
 go_loopw [3, 4, 5] (fun v c i wr => ∃ (C : Nat) (out : List (BitVec 8)), i = .int .i64 (out.length : Nat) ∧ c = .int .i64 C ∧ Own8 wr w.heap.size 5 v out ∧ ByR L C out ∧ Below w.heap.size w wr) (fun _ c i _ => 2000000000000 * (n - (intOf i).toNat) + (intOf c).toNat)
 case atStart => exact ⟨0, [], rfl, rfl, Own8.nil_ _ _ _, ByR.zero L, Below.refl _ _⟩
 case round =>
  obtain ⟨C, out, rfl, rfl, hO, hR, hB⟩ := hrel
  obtain ⟨j, hj⟩ : ∃ j, j = out.length := ⟨_, rfl⟩
  have hhi := hR.hi
  have hlo := hR.lo
  rw [hn] at hhi hlo
  rw [← hj] at hhi hlo ⊢
  have hCb : C ≤ 1099511627776 := by
   by_cases h : j ≤ n
   ·exact hlo h
   ·have := hhi (by omega); omega
  have hjb : j ≤ 1099511629000 := by
   by_cases h : j ≤ n
   ·omega
   ·have := hhi (by omega); omega
  obtain ⟨X, hX⟩ : ∃ X, X = L.getD j 0 := ⟨_, rfl⟩
  have hXb : X ≤ 1000000000 := by rw [hX]; exact HS.out j
  have hXz : n ≤ j → X = 0 := fun hh => by rw [hX, List.getD_eq_getElem?_getD, List.getElem?_eq_none (by omega)]; rfl
  obtain ⟨S, hS⟩ : ∃ S, S = C + X := ⟨_, rfl⟩
  obtain ⟨M, hM⟩ : ∃ M, M = S % 256 := ⟨_, rfl⟩
  obtain ⟨D, hD⟩ : ∃ D, D = S / 256 := ⟨_, rfl⟩
  have hst : (j < n ∨ 0 < C) → ByR L D (out ++ [BitVec.ofNat 8 M]) := fun hgo => by
   have := hR.step HS.out (by rw [hn, ← hj]; exact hgo)
   rw [← hj, ← hX, ← hS, ← hM, ← hD] at this
   exact this
  have hms : (j < n ∨ 0 < C) → 2000000000000 * (n - (j + 1)) + D < 2000000000000 * (n - j) + C := fun hgo => by
   rw [hD, hS]
   exact by_measure n j C X hXb hCb hgo hXz
  have a1 : (C : Int) + (X : Int) = (S : Int) := by omega
  have a2 : IntKind.i64.wrap (S : Int) = (S : Int) := by rw [IntKind.wrap_i64]; omega
  have a3 : (S : Int) % 256 = (M : Int) := by omega
  have a4 : IntKind.i64.wrap (M : Int) = (M : Int) := by rw [IntKind.wrap_i64]; omega
  have a5 : (S : Int) / 256 = (D : Int) := by omega
  have a6 : IntKind.i64.wrap (D : Int) = (D : Int) := by rw [IntKind.wrap_i64]; omega
  have j0 : (0 : Int) ≤ (j : Int) := by omega
  obtain ⟨J, hJ⟩ : ∃ J, J = j + 1 := ⟨_, rfl⟩
  have a7 : (j : Int) + 1 = (J : Int) := by omega
  have a8 : IntKind.i64.wrap (J : Int) = (J : Int) := by rw [IntKind.wrap_i64]; omega
  have el : (out ++ [BitVec.ofNat 8 M]).length = J := by simp; omega
  have EL := hid el
  have HJ := hid hJ
  have HSt := hid hst
  have HMs := hid hms
  have OL := hid hj
  have O1 := hid hO
  have R1 := hid hR
  have B1 := hid hB
  have hob : out.length ≤ 1099511629000 := by omega
  have HOB := hid hob
  have c1 : j < n → wr.cell? ⟨g, j, none⟩ = some (.int .i64 (X : Nat)) := fun hh => by
   rw [hB.cell hgl, hX]; exact L0.out.cellI hn j hh
  have HXz := hid hXz
  have s0 : n ≤ j → S = C := fun hh => by rw [hS, hXz hh]; omega
  have S0 := hid s0
  clear hst hms hj hO hR hB hX hS hM hD el hJ hhi hlo hXz hob s0
  by_cases hjn : j < n
  ·have j1 : (j : Int) < (n : Int) := by omega
   have c2 := c1 hjn
   clear c1
   go_upto_region 8 with fail
   refine wp_region_plain [0,0,0,0,2,2,0] rfl (fun ops' K2 hK2 => ?_)
   repeat
    (first
     | (with_reducible refine z_move (a' := ?_) ?_ ?_); rotate_left
     | (with_reducible refine z_assign (a' := ?_) ?_ ?_); rotate_left
     | (with_reducible refine z_obl (v := ?_) (a' := ?_) rfl (fun _ => ?_) ?_ ?_); rotate_left 2; (focus (go_simp; (try go_bits); exact rfl))
     | (with_reducible refine z_read (v := ?_) (a' := ?_) rfl ?_ ?_ ?_); rotate_left 2; (focus (go_simp; (try go_bits); exact rfl)))
    focus (simp only [Act.put, zz1, zz2, zz3, Act.eval, zz4, zz5, zz6, zz7, zz8]; exact rfl)
   refine z_build1 (x := BitVec.ofNat 8 M) rfl Tryz.underlying23 info8 (fun w2 b2 hr2 hb2 => ?_)
   simp only [Act.put, zz1, zz2, zz3]
   refine z_append8 (O1.out.below hb2) hr2 rfl rfl Tryz.underlying23 info8 (by have := HOB.out; omega) (Nat.le_trans B1.out.size hb2.size) (fun w3 v3 o3 g3 b3 => ?_)
   simp only [Act.put, zz1, zz2, zz3]
   repeat
    (first
     | (with_reducible refine z_move (a' := ?_) ?_ ?_); rotate_left
     | (with_reducible refine z_assign (a' := ?_) ?_ ?_); rotate_left
     | (with_reducible refine z_obl (v := ?_) (a' := ?_) rfl (fun _ => ?_) ?_ ?_); rotate_left 2; (focus (go_simp; (try go_bits); exact rfl))
     | (with_reducible refine z_read (v := ?_) (a' := ?_) rfl ?_ ?_ ?_); rotate_left 2; (focus (go_simp; (try go_bits); exact rfl)))
    focus (simp only [Act.put, zz1, zz2, zz3, Act.eval, zz4, zz5, zz6, zz7, zz8]; exact rfl)
   refine z_nil (hK2 _ _ ?_)
   have O3 := hid o3
   have B3 := hid ((B1.out.trans (hb2.mono B1.out.size)).trans b3)
   clear o3 g3 b3 hb2 hr2 hK2
   go_wp2
   exact ⟨⟨D, _, by rw [EL.out], rfl, O3.out, HSt.out (.inl hjn), B3.out⟩, by simp only [intOf, Int.toNat_natCast]; rw [HJ.out]; exact HMs.out (.inl hjn)⟩
  ·have j1 : ¬ (j : Int) < (n : Int) := by omega
   clear c1
   by_cases hC : 0 < C
   ·have k1 : (0 : Int) < (C : Int) := by omega
    have e0 := S0.out (by omega)
    subst e0
    go_upto_region 8 with fail
    refine wp_region_plain [0,0,0,0,2,2,0] rfl (fun ops' K2 hK2 => ?_)
    repeat
     (first
      | (with_reducible refine z_move (a' := ?_) ?_ ?_); rotate_left
      | (with_reducible refine z_assign (a' := ?_) ?_ ?_); rotate_left
      | (with_reducible refine z_obl (v := ?_) (a' := ?_) rfl (fun _ => ?_) ?_ ?_); rotate_left 2; (focus (go_simp; (try go_bits); exact rfl))
      | (with_reducible refine z_read (v := ?_) (a' := ?_) rfl ?_ ?_ ?_); rotate_left 2; (focus (go_simp; (try go_bits); exact rfl)))
     focus (simp only [Act.put, zz1, zz2, zz3, Act.eval, zz4, zz5, zz6, zz7, zz8]; exact rfl)
    refine z_build1 (x := BitVec.ofNat 8 M) rfl Tryz.underlying23 info8 (fun w2 b2 hr2 hb2 => ?_)
    simp only [Act.put, zz1, zz2, zz3]
    refine z_append8 (O1.out.below hb2) hr2 rfl rfl Tryz.underlying23 info8 (by have := HOB.out; omega) (Nat.le_trans B1.out.size hb2.size) (fun w3 v3 o3 g3 b3 => ?_)
    simp only [Act.put, zz1, zz2, zz3]
    repeat
     (first
      | (with_reducible refine z_move (a' := ?_) ?_ ?_); rotate_left
      | (with_reducible refine z_assign (a' := ?_) ?_ ?_); rotate_left
      | (with_reducible refine z_obl (v := ?_) (a' := ?_) rfl (fun _ => ?_) ?_ ?_); rotate_left 2; (focus (go_simp; (try go_bits); exact rfl))
      | (with_reducible refine z_read (v := ?_) (a' := ?_) rfl ?_ ?_ ?_); rotate_left 2; (focus (go_simp; (try go_bits); exact rfl)))
     focus (simp only [Act.put, zz1, zz2, zz3, Act.eval, zz4, zz5, zz6, zz7, zz8]; exact rfl)
    refine z_nil (hK2 _ _ ?_)
    have O3 := hid o3
    have B3 := hid ((B1.out.trans (hb2.mono B1.out.size)).trans b3)
    clear o3 g3 b3 hb2 hr2 hK2
    go_wp2
    exact ⟨⟨D, _, by rw [EL.out], rfl, O3.out, HSt.out (.inr hC), B3.out⟩, by simp only [intOf, Int.toNat_natCast]; rw [HJ.out]; exact HMs.out (.inr hC)⟩
   ·obtain rfl : C = 0 := by omega
    have hlast := R1.out.last (by have := OL.out; omega)
    have HL := hid hlast
    clear hlast a1 a2 a3 a4 a5 a6 a7 a8
    go_wp2
    go_ret
    exact ⟨_, rfl, out, O1.out, HL.out, B1.out⟩
open Go.RowKit
theorem refTimes17_any (a b : Nat) (w : World) (ha : a < 256 ^ 17) (hb : b < 256 ^ 17) :
  Calls Tryz.prog 183 #[.agg (A8 (byN 17 a)), .agg (A8 (byN 17 b))] w fun e w' => e = .returned (.agg (A8 (byN 17 (a * b % prm)))) ∧ Below w.heap.size w w' := by
 have ea := numL_byN 17 a ha
 have eb := numL_byN 17 b hb
 obtain ⟨A, hA⟩ : ∃ A, A = byN 17 a := ⟨_, rfl⟩
 obtain ⟨B, hB⟩ : ∃ B, B = byN 17 b := ⟨_, rfl⟩
 have la : A.length = 17 := by rw [hA, byN_length]
 have lb : B.length = 17 := by rw [hB, byN_length]
 rw [← hA] at ea
 rw [← hB] at eb
 rw [← hA, ← hB]
 obtain ⟨LF, hLF⟩ : ∃ L, byN 17 (a * b % prm) = L := ⟨_, rfl⟩
 have lf : LF.length = 17 := by rw [← hLF, byN_length]
 rw [hLF]
 have EA := hid ea
 have EB := hid eb
 have HLF := hid hLF
 clear hA hB ea eb hLF ha hb
 obtain ⟨W, hW⟩ : ∃ W, (((w.alloc (.cells (A8 A) 214)).alloc (.cells (A8 B) 214)).alloc (.cells (A8 (zeros 8 17)) 214)).alloc (.cells (AI (zerI 33)) 3) = W := ⟨_, rfl⟩
 obtain ⟨b0, b1, b2, b3, hbl, hz⟩ := new4 _ _ _ _ _ _ _ _ _ _ hW
 have P0 := hid b0
 have Q0 := hid b1
 have Z0 := hid b2
 have N0 := hid b3
 have B0 := hid hbl
 clear b0 b1 b2 b3 hbl hz
 have hmk := fun w1 : World => run_makeI (P := Tryz.prog) w1 246 3 33 Tryz.underlying246 infoI (by omega) (by omega)
 go_enter Tryz.func183, Tryz.ntmps183
 go_wp2_with fail
 have e33 : (33 : Int).toNat = 33 := rfl
 try simp only [e33]
 clear hmk e33
 go_loopw [6] (fun i wr => ∃ (t : Nat) (l : List Nat), t ≤ 17 ∧ i = .int .i64 t ∧ TmR A B t 0 l ∧ Blk wr w.heap.size 214 (A8 A) ∧ Blk wr (w.heap.size + 1) 214 (A8 B) ∧ Blk wr (w.heap.size + 2) 214 (A8 (zeros 8 17)) ∧ Blk wr (w.heap.size + 3) 3 (AI l) ∧ Below w.heap.size w wr) (fun i _ => 17 - (intOf i).toNat)
 case atStart => exact ⟨0, _, by omega, rfl, TmR.zero A B, P0.out, Q0.out, Z0.out, N0.out, B0.out⟩
 case round =>
  obtain ⟨t, l, ht, rfl, hT, hP, hQ, hZ, hN, hB⟩ := hrel
  have T1 := hid hT
  have P1 := hid hP
  have Q1 := hid hQ
  have Z1 := hid hZ
  have N1 := hid hN
  have B1 := hid hB
  clear hT hP hQ hZ hN hB P0 Q0 Z0 N0 B0 hW
  by_cases ht17 : t < 17
  ·have t1 : (t : Int) < 17 := by omega
   have t0 : (0 : Int) ≤ (t : Int) := by omega
   go_wp2_with fail
   go_loopw [7] (fun i wr => ∃ (k : Nat) (l : List Nat), k ≤ 17 ∧ i = .int .i64 k ∧ TmR A B t k l ∧ Blk wr w.heap.size 214 (A8 A) ∧ Blk wr (w.heap.size + 1) 214 (A8 B) ∧ Blk wr (w.heap.size + 2) 214 (A8 (zeros 8 17)) ∧ Blk wr (w.heap.size + 3) 3 (AI l) ∧ Below w.heap.size w wr) (fun i _ => 17 - (intOf i).toNat)
   case atStart => exact ⟨0, l, by omega, rfl, T1.out, P1.out, Q1.out, Z1.out, N1.out, B1.out⟩
   case round =>
    obtain ⟨k, l, hk, rfl, hT, hP, hQ, hZ, hN, hB⟩ := hrel
    have T2 := hid hT
    have P2 := hid hP
    have Q2 := hid hQ
    have Z2 := hid hZ
    have N2 := hid hN
    have B2 := hid hB
    clear hT hP hQ hZ hN hB P1 Q1 Z1 N1 B1 T1
    by_cases hk17 : k < 17
    ·have k1 : (k : Int) < 17 := by omega
     have k0 : (0 : Int) ≤ (k : Int) := by omega
     have hst := T2.out.step lb ht17 hk17
     have c1 := P2.out.drew.cell8 la t ht17
     have c2 := Q2.out.drew.cell8 lb k hk17
     have c3 := N2.out.drew.cellI T2.out.len (t + k) (by omega)
     have hsm := T2.out.small (t + k)
     have hxl := (nth A t).isLt
     have hyl := (nth B k).isLt
     have hpl : (nth A t).toNat * (nth B k).toNat ≤ 255 * 255 := Nat.mul_le_mul (by omega) (by omega)
     obtain ⟨x, hx⟩ : ∃ x, x = nth A t := ⟨_, rfl⟩
     obtain ⟨y, hy⟩ : ∃ y, y = nth B k := ⟨_, rfl⟩
     rw [← hx] at c1 hst hpl hxl
     rw [← hy] at c2 hst hpl hyl
     obtain ⟨X, hX⟩ : ∃ X, x.toNat = X := ⟨_, rfl⟩
     obtain ⟨Y, hY⟩ : ∃ Y, y.toNat = Y := ⟨_, rfl⟩
     rw [hX] at hst hpl hxl
     rw [hY] at hst hpl hyl
     obtain ⟨G, hG⟩ : ∃ G, G = X * Y := ⟨_, rfl⟩
     rw [← hG] at hst hpl
     have g1 : (X : Int) * (Y : Int) = (G : Int) := by rw [hG]; exact (Int.natCast_mul X Y).symm
     have g2 : IntKind.i64.wrap (G : Int) = (G : Int) := by rw [IntKind.wrap_i64]; omega
     obtain ⟨U, hU⟩ : ∃ U, U = l.getD (t + k) 0 := ⟨_, rfl⟩
     rw [← hU] at hst c3 hsm
     obtain ⟨S, hS⟩ : ∃ S, S = U + G := ⟨_, rfl⟩
     rw [← hS] at hst
     have g3 : (U : Int) + (G : Int) = (S : Int) := by omega
     have g4 : IntKind.i64.wrap (S : Int) = (S : Int) := by rw [IntKind.wrap_i64]; omega
     obtain ⟨J, hJ⟩ : ∃ J, J = t + k := ⟨_, rfl⟩
     rw [← hJ] at hst c3
     have g5 : (t : Int) + (k : Int) = (J : Int) := by omega
     have g6 : IntKind.i64.wrap (J : Int) = (J : Int) := by rw [IntKind.wrap_i64]; omega
     have g7 : (J : Int) < 33 := by omega
     have g8 : (0 : Int) ≤ (J : Int) := by omega
     have hJl : J < l.length := by rw [T2.out.len]; omega
     have HST := hid hst
     have HJL := hid hJl
     clear hst hG hU hS hJ hx hy hpl hsm hJl
     go_upto_region 8 with fail
     refine wp_region_text3' [0,0,0,0,0,0,0,0,0,1,0,0,1,0,0,0,1,0,0,0,0,2] (by kernel_rfl) (by kernel_rfl) (fun ops' K2 hK2 => ?_)
     repeat
      (first
       | (with_reducible refine z_move (a' := ?_) ?_ ?_); rotate_left
       | (with_reducible refine z_assign (a' := ?_) ?_ ?_); rotate_left
       | (with_reducible refine z_obl (v := ?_) (a' := ?_) rfl (fun _ => ?_) ?_ ?_); rotate_left 2; (focus (go_simp; (try go_bits); exact rfl))
       | (with_reducible refine z_read (v := ?_) (a' := ?_) rfl ?_ ?_ ?_); rotate_left 2; (focus (go_simp; (try go_bits); exact rfl)))
      focus (simp only [Act.put, zz1, zz2, zz3, Act.eval, zz4, zz5, zz6, zz7, zz8]; exact rfl)
     refine z_storeI N2.out.drew rfl rfl HJL.out (Tryz.sizeOf3 _) (fun w2 k2 g2_ s2 => ?_)
     refine z_nil (hK2 _ _ ?_)
     have N3 := hid k2
     have P3 := hid (P2.out.drew.grown g2_ (by simp))
     have Q3 := hid (Q2.out.drew.grown g2_ (by simp))
     have Z3 := hid (Z2.out.drew.grown g2_ (by simp))
     have B3 := hid (B2.out.drew.trans (grown_below g2_ (by omega) B2.out.drew.size))
     clear k2 g2_ s2 c1 c2 c3 hK2 P2 Q2 Z2 N2 B2
     go_wp2
     exact ⟨⟨k + 1, _, by omega, by go_num, HST.out, P3.out, Q3.out, Z3.out, N3.out, B3.out⟩, by simp [intOf]; omega⟩
    ·obtain rfl : k = 17 := by omega
     have T3 := hid (T2.out.next la lb ht17)
     clear T2
     go_wp2
     exact ⟨⟨t + 1, l, by omega, by go_num, T3.out, P2.out, Q2.out, Z2.out, N2.out, B2.out⟩, by simp [intOf]; omega⟩
  ·obtain rfl : t = 17 := by omega
   have hnum := T1.out.last la
   rw [EA.out, EB.out] at hnum
   have hby := refBytes_any l (w.heap.size + 3) 33 wr N1.out T1.out.len (by omega) (fun j => by have := T1.out.small j; omega)
   have HBY := hid hby
   have HNU := hid hnum
   clear hby hnum
   go_wp2_with fail
   refine (HBY.out).mono ?_
   rintro e w2 ⟨v2, rfl, out, o2, h2, d2⟩
   obtain ⟨a5, c5, rfl, hr5, _⟩ := o2.rd
   have hdv := refDivide_any out a5 _ c5 w2 hr5
   rw [h2, HNU.out, HLF.out] at hdv
   have HDV := hid hdv
   generalize out.length = M at hr5 ⊢ HDV
   have Z2 := hid (Z1.out.belowAll d2)
   have B2 := hid (B1.out.trans (d2.mono B1.out.size))
   clear hdv h2 o2 hr5 d2
   go_wp2_with fail
   refine (HDV.out).mono ?_
   rintro e w6 ⟨rfl, d6⟩
   have Z6 := Z2.out.belowAll d6
   have r2 := Z6.row
   have r3 := Z6.whole
   have BF := hid (B2.out.trans (d6.mono B2.out.size))
   clear Z6 d6
   go_wp2
   refine bodyPost_row (A8 LF) rfl rfl rfl (Tryz.isAgg214 _) (Tryz.sizeOf214 _) (by rw [A8_size]; exact lf) (rowAt_setRow _ r3) ⟨rfl, below_setRow BF.out (by omega) _⟩
theorem refPlus17_any (a b : Nat) (w : World) (ha : a < 256 ^ 17) (hb : b < 256 ^ 17) :
  Calls Tryz.prog 184 #[.agg (A8 (byN 17 a)), .agg (A8 (byN 17 b))] w fun e w' => e = .returned (.agg (A8 (byN 17 ((a + b) % prm)))) ∧ Below w.heap.size w w' := by
 have ea := numL_byN 17 a ha
 have eb := numL_byN 17 b hb
 obtain ⟨A, hA⟩ : ∃ A, A = byN 17 a := ⟨_, rfl⟩
 obtain ⟨B, hB⟩ : ∃ B, B = byN 17 b := ⟨_, rfl⟩
 have la : A.length = 17 := by rw [hA, byN_length]
 have lb : B.length = 17 := by rw [hB, byN_length]
 rw [← hA] at ea
 rw [← hB] at eb
 rw [← hA, ← hB]
 obtain ⟨LF, hLF⟩ : ∃ L, byN 17 ((a + b) % prm) = L := ⟨_, rfl⟩
 have lf : LF.length = 17 := by rw [← hLF, byN_length]
 rw [hLF]
 have EA := hid ea
 have EB := hid eb
 have HLF := hid hLF
 clear hA hB ea eb hLF ha hb
 obtain ⟨W, hW⟩ : ∃ W, (((w.alloc (.cells (A8 A) 214)).alloc (.cells (A8 B) 214)).alloc (.cells (A8 (zeros 8 17)) 214)).alloc (.cells (AI (zerI 17)) 3) = W := ⟨_, rfl⟩
 obtain ⟨b0, b1, b2, b3, hbl, hz⟩ := new4 _ _ _ _ _ _ _ _ _ _ hW
 have P0 := hid b0
 have Q0 := hid b1
 have Z0 := hid b2
 have N0 := hid b3
 have B0 := hid hbl
 clear b0 b1 b2 b3 hbl hz
 have hmk := fun w1 : World => run_makeI (P := Tryz.prog) w1 246 3 17 Tryz.underlying246 infoI (by omega) (by omega)
 go_enter Tryz.func184, Tryz.ntmps184
 go_wp2_with fail
 have e17 : (17 : Int).toNat = 17 := rfl
 try simp only [e17]
 clear hmk e17
 go_loopw [6] (fun i wr => ∃ (t : Nat) (l : List Nat), t ≤ 17 ∧ i = .int .i64 t ∧ PlR A B t l ∧ Blk wr w.heap.size 214 (A8 A) ∧ Blk wr (w.heap.size + 1) 214 (A8 B) ∧ Blk wr (w.heap.size + 2) 214 (A8 (zeros 8 17)) ∧ Blk wr (w.heap.size + 3) 3 (AI l) ∧ Below w.heap.size w wr) (fun i _ => 17 - (intOf i).toNat)
 case atStart => exact ⟨0, _, by omega, rfl, PlR.zero A B, P0.out, Q0.out, Z0.out, N0.out, B0.out⟩
 case round =>
  obtain ⟨t, l, ht, rfl, hT, hP, hQ, hZ, hN, hB⟩ := hrel
  have T1 := hid hT
  have P1 := hid hP
  have Q1 := hid hQ
  have Z1 := hid hZ
  have N1 := hid hN
  have B1 := hid hB
  clear hT hP hQ hZ hN hB P0 Q0 Z0 N0 B0 hW
  by_cases ht17 : t < 17
  ·have t1 : (t : Int) < 17 := by omega
   have t0 : (0 : Int) ≤ (t : Int) := by omega
   have hst := T1.out.step la lb ht17
   have c1 := P1.out.drew.cell8 la t ht17
   have c2 := Q1.out.drew.cell8 lb t ht17
   have hxl := (nth A t).isLt
   have hyl := (nth B t).isLt
   obtain ⟨x, hx⟩ : ∃ x, x = nth A t := ⟨_, rfl⟩
   obtain ⟨y, hy⟩ : ∃ y, y = nth B t := ⟨_, rfl⟩
   rw [← hx] at c1 hst hxl
   rw [← hy] at c2 hst hyl
   obtain ⟨X, hX⟩ : ∃ X, x.toNat = X := ⟨_, rfl⟩
   obtain ⟨Y, hY⟩ : ∃ Y, y.toNat = Y := ⟨_, rfl⟩
   rw [hX] at hst hxl
   rw [hY] at hst hyl
   obtain ⟨S, hS⟩ : ∃ S, S = X + Y := ⟨_, rfl⟩
   rw [← hS] at hst
   have g3 : (X : Int) + (Y : Int) = (S : Int) := by omega
   have g4 : IntKind.i64.wrap (S : Int) = (S : Int) := by rw [IntKind.wrap_i64]; omega
   have hJl : t < l.length := by rw [T1.out.len]; omega
   have HST := hid hst
   have HJL := hid hJl
   clear hst hS hx hy hJl
   go_upto_region 5 with fail
   refine wp_region_text3' [0,0,0,0,1,0,0,0,1,0,0,0,2] (by kernel_rfl) (by kernel_rfl) (fun ops' K2 hK2 => ?_)
   repeat
    (first
     | (with_reducible refine z_move (a' := ?_) ?_ ?_); rotate_left
     | (with_reducible refine z_assign (a' := ?_) ?_ ?_); rotate_left
     | (with_reducible refine z_obl (v := ?_) (a' := ?_) rfl (fun _ => ?_) ?_ ?_); rotate_left 2; (focus (go_simp; (try go_bits); exact rfl))
     | (with_reducible refine z_read (v := ?_) (a' := ?_) rfl ?_ ?_ ?_); rotate_left 2; (focus (go_simp; (try go_bits); exact rfl)))
    focus (simp only [Act.put, zz1, zz2, zz3, Act.eval, zz4, zz5, zz6, zz7, zz8]; exact rfl)
   refine z_storeI N1.out.drew rfl rfl HJL.out (Tryz.sizeOf3 _) (fun w2 k2 g2_ s2 => ?_)
   refine z_nil (hK2 _ _ ?_)
   have N3 := hid k2
   have P3 := hid (P1.out.drew.grown g2_ (by simp))
   have Q3 := hid (Q1.out.drew.grown g2_ (by simp))
   have Z3 := hid (Z1.out.drew.grown g2_ (by simp))
   have B3 := hid (B1.out.drew.trans (grown_below g2_ (by omega) B1.out.drew.size))
   clear k2 g2_ s2 c1 c2 hK2 P1 Q1 Z1 N1 B1
   go_wp2
   exact ⟨⟨t + 1, _, by omega, by go_num, HST.out, P3.out, Q3.out, Z3.out, N3.out, B3.out⟩, by simp [intOf]; omega⟩
  ·obtain rfl : t = 17 := by omega
   have hnum := T1.out.last la lb
   rw [EA.out, EB.out] at hnum
   have hby := refBytes_any l (w.heap.size + 3) 17 wr N1.out T1.out.len (by omega) (fun j => by have := T1.out.small j; omega)
   have HBY := hid hby
   have HNU := hid hnum
   clear hby hnum
   go_wp2_with fail
   refine (HBY.out).mono ?_
   rintro e w2 ⟨v2, rfl, out, o2, h2, d2⟩
   obtain ⟨a5, c5, rfl, hr5, _⟩ := o2.rd
   have hdv := refDivide_any out a5 _ c5 w2 hr5
   rw [h2, HNU.out, HLF.out] at hdv
   have HDV := hid hdv
   generalize out.length = M at hr5 ⊢ HDV
   have Z2 := hid (Z1.out.belowAll d2)
   have B2 := hid (B1.out.trans (d2.mono B1.out.size))
   clear hdv h2 o2 hr5 d2
   go_wp2_with fail
   refine (HDV.out).mono ?_
   rintro e w6 ⟨rfl, d6⟩
   have Z6 := Z2.out.belowAll d6
   have r2 := Z6.row
   have r3 := Z6.whole
   have BF := hid (B2.out.trans (d6.mono B2.out.size))
   clear Z6 d6
   go_wp2
   refine bodyPost_row (A8 LF) rfl rfl rfl (Tryz.isAgg214 _) (Tryz.sizeOf214 _) (by rw [A8_size]; exact lf) (rowAt_setRow _ r3) ⟨rfl, below_setRow BF.out (by omega) _⟩
end Go.Proofs.YtfdkmjegcghieaaGreatDoor
