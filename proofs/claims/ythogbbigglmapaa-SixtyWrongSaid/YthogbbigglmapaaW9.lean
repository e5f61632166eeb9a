/- sixty: a text with a byte that is no sign is not right: the walk -/
import Derived.Test.YthogbbigglmapaaSixP
import Derived.Test.YthogbbigglmapaaSix4
import Derived.Test.YthogbbigglmapaaW7
import Derived.Laws.IdiomStrings
import Derived.Deep.Cut
namespace Go.Proofs.Ythogbbigglmapaa
open Go.RowKit
/-- bytes made of a string, read -/
theorem rd_bytes (w : World) (e : TypeId) (l : List (BitVec 8)) (cap : Nat) (f : Nat × Nat) (hc : l.length ≤ cap) (hm : cap ≤ maxLen) : Rd8 (w.alloc (.cells (bytesRow (str l) cap) e f)) (some ⟨w.heap.size, 0, none⟩) l.length cap l := by
  refine ⟨rfl, hc, hm, fun _ => ⟨w.heap.size, 0, rfl, by simp, fun i hi => ?_⟩⟩
  rw [Nat.zero_add, cell_rowAt]
  unfold rowAt
  rw [heap_alloc_new]
  unfold bytesRow
  have h1 : i < ((str l).data.map (fun b => Value.int .u8 b.toNat)).size := by
    rw [Array.size_map]
    have : (str l).data.size = l.length := str_size l
    omega
  rw [Array.getElem?_append_left h1, Array.getElem?_map, ← Array.getElem?_toList, str_data, List.getElem?_map, nth_eq hi]
  rfl
theorem Rd8.store {w : World} {b o n c : Nat} {l : List (BitVec 8)} (h : Rd8 w (some ⟨b, o, none⟩) n c l) (k : Nat) (hk : k < n) (x : BitVec 8) : Rd8 (w.setCell ⟨b, o + k, none⟩ (v8 x)) (some ⟨b, o, none⟩) n c (l.set k x) := by
  obtain ⟨b', o', he, hb, hc⟩ := h.2.2.2 (by omega)
  cases he
  refine ⟨by rw [List.length_set]; exact h.1, h.2.1, h.2.2.1, fun _ => ⟨b, o, rfl, by simpa using hb, fun i hi => ?_⟩⟩
  rw [nth_set _ _ _ _ (by rw [h.1]; exact hk)]
  by_cases hik : k = i
  · subst hik
    rw [if_pos rfl]
    exact World.cell?_setCell_same' _ _ _ (by rw [hc k hk]; rfl)
  · rw [if_neg hik]
    exact (World.cell?_setCell_other _ _ _ _ (by simp)).trans (hc i hi)
section
variable {P : Program} {ops : Array Oper} {K : Act → World → Prop} {ks : List Nat} {L : List Oper} {a : Act} {w : World}
/-- bytes are made of a string -/
theorem z_bytes {d : Option Tmp} {x : Operand} {src dst e ty : TypeId} {pos : String} {after : Array Edge} {l : List (BitVec 8)} (hx : a.eval x = .string (str l)) (hs : P.underlying src = some .string) (hd : P.underlying dst = some (.slice e)) (he : P.underlying e = some (.int .u8)) (hm : l.length ≤ maxLen)
    (h : ∀ w1 g cap, Rd8 w1 (some ⟨g, 0, none⟩) l.length cap l → w.heap.size ≤ g → (∀ i, i < l.length → w1.frozen? ⟨g, i, none⟩ = false) → Below w.heap.size w w1 → wpZ P ops K ks L (a.put d (.slice (some ⟨g, 0, none⟩) l.length cap)) w1) :
    wpZ P ops K (2 :: ks) (⟨d, .convert src dst x, ty, pos, after, none⟩ :: L) a w := by
  unfold wpZ opT
  simp only [Region.wanted, if_true]
  obtain ⟨cap, hcap⟩ : ∃ cap, cap = grownCap w (str l).size 0 e := ⟨_, rfl⟩
  have h1 := run_bytes_of_string (P := P) w src dst e (str l) hs hd he
  rw [← hcap, str_size] at h1
  have hr : (execOp a.eval ⟨d, .convert src dst x, ty, pos, after, none⟩).run P w = .ok (.value (.slice (some ⟨w.heap.size, 0, none⟩) l.length cap)) (w.drew.alloc (.cells (bytesRow (str l) cap) e ((bytesRow (str l) cap).size, (bytesRow (str l) cap).size + 1))) := by
    simp only [execOp, hx, Sem.run_bind, h1, Result.andThen_ok, Sem.run_pure]
  have c1 : l.length ≤ cap := by rw [hcap, ← str_size]; exact grownCap_ge w _ _ _
  have c2 : cap ≤ maxLen := by rw [hcap]; exact grownCap_le_maxLen w _ _ _ (by rw [str_size]; exact hm)
  have hsz : (bytesRow (str l) cap).size = cap := by
    unfold bytesRow
    have := str_size l
    unfold ByteArray.size at this
    simp [ByteArray.size, this]
    omega
  unfold Oper.wp
  rw [hr]
  refine h _ _ _ (rd_bytes w.drew e l cap _ c1 c2) (Nat.le_refl _) (fun i hi => ?_) (((Below.refl _ _).drew).alloc (Nat.le_refl _) _)
  unfold World.frozen?
  rw [show (w.drew.alloc (.cells (bytesRow (str l) cap) e ((bytesRow (str l) cap).size, (bytesRow (str l) cap).size + 1))).heap[w.heap.size]? = _ from heap_alloc_new w.drew _]
  simp
  omega
end
set_option linter.unusedSimpArgs false in
set_option maxRecDepth 100000 in
set_option maxHeartbeats 1600000 in
theorem SixtyWrong_walk (a : Option Addr) (n c : Nat) (l : List (BitVec 8)) (at_ : Int) (x : BitVec 8) (w : World) (h : Rd8 w a n c l) (hat : (Lit.int .u16 at_).wf = true) :
    Calls Try.prog 9 #[.slice a n c, .int .u16 at_, v8 x] w fun e w' => e = .returned (.bool true) ∧ Below w.heap.size w w' := by
  have L := Lib.hid h
  have N := Lib.hid h.1
  have AT := Lib.hid (bounds_u16 hat)
  obtain ⟨B, hB⟩ : ∃ B, B = (decide (300 < n) || (num x).isSome) := ⟨_, rfl⟩
  clear h hat
  go_enter Try.func9, Try.ntmps9
  go_upto_region 1 with fail
  go_cut [46] from 12 (fun s46 wx => s46 = .bool B ∧ wx = w)
  case first =>
    obtain ⟨r, hr⟩ : ∃ r, num x = r := ⟨_, rfl⟩
    rw [hr] at hB
    unfold num at hr
    by_cases hn : 300 < n
    · have n1 : (300 : Int) < (n : Int) := by omega
      go_wp2
      go_meet
      exact ⟨by rw [hB]; simp [hn], rfl⟩
    · have n1 : ¬ (300 : Int) < (n : Int) := by omega
      by_cases a1 : 65 ≤ x.toNat <;> by_cases a2 : x.toNat ≤ 90 <;> by_cases a3 : 97 ≤ x.toNat <;> by_cases a4 : x.toNat ≤ 122 <;> by_cases a5 : 48 ≤ x.toNat <;> by_cases a6 : x.toNat ≤ 57 <;> first | (exfalso; omega) | skip
      all_goals by_cases a7 : x = 45#8
      all_goals by_cases a8 : x = 95#8
      all_goals (first | (subst a7; simp at a1 a2 a3 a4 a5 a6; done) | (subst a8; simp at a1 a2 a3 a4 a5 a6; done) | (subst a8; simp at a7; done) | skip)
      all_goals (first | have b7 : (x == 45#8) = false := beq_eq_false_iff_ne.2 a7 | have b7 : (x == 45#8) = true := beq_iff_eq.2 a7)
      all_goals (first | have b8 : (x == 95#8) = false := beq_eq_false_iff_ne.2 a8 | have b8 : (x == 95#8) = true := beq_iff_eq.2 a8)
      all_goals (simp only [a1, a2, a3, a4, a5, a6, a7, a8, and_self, and_true, and_false, false_and, true_and, if_true, if_false] at hr; subst hr)
      all_goals (simp only [hn, Option.isSome_none, Option.isSome_some, Bool.or_true, Bool.or_false, decide_false] at hB; subst hB)
      all_goals clear a7 a8
      all_goals go_wp2
      all_goals go_meet
      all_goals exact ⟨rfl, rfl⟩
  case rest =>
    obtain ⟨rfl, rfl⟩ := hcut
    cases hBv : B with
    | true =>
      rw [hBv] at hB
      clear hBv
      go_wp2
      go_ret
      exact ⟨rfl, Below.refl _ _⟩
    | false =>
      rw [hBv] at hB
      have hB2 := hB.symm
      rw [Bool.or_eq_false_iff, decide_eq_false_iff_not] at hB2
      obtain ⟨hn, hx⟩ := hB2
      have hx0 : num x = none := by cases h : num x with | none => rfl | some _ => rw [h] at hx; cases hx
      have HX := Lib.hid hx0
      have hn300 : n ≤ 300 := by omega
      clear hBv hB hx hx0 hn
      go_upto_region 3 with fail
      refine wp_region_plain [0,2,2,0] rfl (fun ops' K2 hK2 => ?_)
      repeat
        first
          | ((with_reducible refine z_move (a' := ?_) ?_ ?_); rotate_left; · (simp only [Act.put, List.setIfInBounds_toArray, List.set_cons_succ, List.set_cons_zero, Act.eval, Array.getD_eq_getD_getElem?, List.getElem?_toArray, List.getElem?_cons_succ, List.getElem?_cons_zero, Option.getD_some]; exact rfl))
          | ((with_reducible refine z_assign (a' := ?_) ?_ ?_); rotate_left; · (simp only [Act.put, List.setIfInBounds_toArray, List.set_cons_succ, List.set_cons_zero, Act.eval, Array.getD_eq_getD_getElem?, List.getElem?_toArray, List.getElem?_cons_succ, List.getElem?_cons_zero, Option.getD_some]; exact rfl))
          | ((with_reducible refine z_obl (v := ?_) (a' := ?_) rfl (fun _ => ?_) ?_ ?_); rotate_left; rotate_left; (focus (go_simp; (try go_bits); exact rfl)); (focus (simp only [Act.put, List.setIfInBounds_toArray, List.set_cons_succ, List.set_cons_zero, Act.eval, Array.getD_eq_getD_getElem?, List.getElem?_toArray, List.getElem?_cons_succ, List.getElem?_cons_zero, Option.getD_some]; exact rfl)))
          | ((with_reducible refine z_read (v := ?_) (a' := ?_) rfl ?_ ?_ ?_); rotate_left; rotate_left; (focus (go_simp; (try go_bits); exact rfl)); (focus (simp only [Act.put, List.setIfInBounds_toArray, List.set_cons_succ, List.set_cons_zero, Act.eval, Array.getD_eq_getD_getElem?, List.getElem?_toArray, List.getElem?_cons_succ, List.getElem?_cons_zero, Option.getD_some]; exact rfl)))
      (with_reducible refine z_callw rfl ?_)
      go_simp
      refine entersW_of ?_
      refine (sixEncode_any l a n c wc L.out (by omega)).mono ?_
      rintro e w1 ⟨rfl, hb1⟩
      refine ⟨_, rfl, ?_⟩
      try simp only [Act.put, List.setIfInBounds_toArray, List.set_cons_succ, List.set_cons_zero]
      have hml : (enc l).length ≤ 1000 := by rw [enc_length, N.out]; split <;> omega
      generalize enc l = E at hml ⊢
      refine z_bytes (l := E) rfl Try.underlying9 Try.underlying22 Try.underlying5 (by unfold maxLen; omega) (fun w2 g cap hr2 hg2 hf2 hb2 => ?_)
      simp only [Act.put, List.setIfInBounds_toArray, List.set_cons_succ, List.set_cons_zero]
      repeat
        first
          | ((with_reducible refine z_move (a' := ?_) ?_ ?_); rotate_left; · (simp only [Act.put, List.setIfInBounds_toArray, List.set_cons_succ, List.set_cons_zero, Act.eval, Array.getD_eq_getD_getElem?, List.getElem?_toArray, List.getElem?_cons_succ, List.getElem?_cons_zero, Option.getD_some]; exact rfl))
          | ((with_reducible refine z_assign (a' := ?_) ?_ ?_); rotate_left; · (simp only [Act.put, List.setIfInBounds_toArray, List.set_cons_succ, List.set_cons_zero, Act.eval, Array.getD_eq_getD_getElem?, List.getElem?_toArray, List.getElem?_cons_succ, List.getElem?_cons_zero, Option.getD_some]; exact rfl))
          | ((with_reducible refine z_obl (v := ?_) (a' := ?_) rfl (fun _ => ?_) ?_ ?_); rotate_left; rotate_left; (focus (go_simp; (try go_bits); exact rfl)); (focus (simp only [Act.put, List.setIfInBounds_toArray, List.set_cons_succ, List.set_cons_zero, Act.eval, Array.getD_eq_getD_getElem?, List.getElem?_toArray, List.getElem?_cons_succ, List.getElem?_cons_zero, Option.getD_some]; exact rfl)))
          | ((with_reducible refine z_read (v := ?_) (a' := ?_) rfl ?_ ?_ ?_); rotate_left; rotate_left; (focus (go_simp; (try go_bits); exact rfl)); (focus (simp only [Act.put, List.setIfInBounds_toArray, List.set_cons_succ, List.set_cons_zero, Act.eval, Array.getD_eq_getD_getElem?, List.getElem?_toArray, List.getElem?_cons_succ, List.getElem?_cons_zero, Option.getD_some]; exact rfl)))
      refine z_nil (hK2 _ _ ?_)
      obtain ⟨m, hm⟩ : ∃ m, m = E.length := ⟨_, rfl⟩
      rw [← hm] at hr2 hf2 hml ⊢
      have B2 := Lib.hid (hb1.trans (hb2.mono hb1.size))
      have hgw : wc.heap.size ≤ g := Nat.le_trans hb1.size hg2
      have s1 := run_str (P := Try.prog) w2 22 9 5 _ _ _ E Try.underlying22 Try.underlying9 Try.underlying5 hr2
      have hcat : str E ++ ({ data := #[61] } : ByteArray) = str (E ++ [61#8]) := by rw [← str_append]; rfl
      have hsz : (str E).size = m := by rw [str_size, hm]
      have hno : ¬ (9223372036854775807 < m + 1) := by omega
      have R2 := Lib.hid hr2
      have F2 := Lib.hid hf2
      have HM := Lib.hid hm
      clear hb1 hb2 hg2 hr2 hf2 hm hK2
      go_wp2_with fail
      refine (sixDecode_any (E ++ [61#8]) w2 (by rw [List.length_append, ← HM.out]; simp; omega)).mono ?_
      rintro e w3 ⟨he, hb3⟩
      rw [dec_wrong (E ++ [61#8]) 61#8 (by simp) (by decide)] at he
      simp only [DecPost] at he
      subst he
      have B3 := Lib.hid (B2.out.trans (hb3.mono B2.out.size))
      have R3 := Lib.hid (R2.out.below hb3)
      clear s1 hcat
      by_cases hm0 : m = 0
      · have hm1 : (m : Int) = 0 := by omega
        clear hm0 hb3
        go_wp2_with fail
        refine (sixAwake_any _).mono ?_
        rintro e w4 ⟨rfl, hb4⟩
        go_wp2
        go_ret
        exact ⟨rfl, B3.out.trans (hb4.mono B3.out.size)⟩
      · obtain ⟨k, hk⟩ : ∃ k, k = at_.toNat % m := ⟨_, rfl⟩
        have hkm : k < m := by rw [hk]; exact Nat.mod_lt _ (by omega)
        have htm : (wrap64 at_).tmod (m : Int) = (k : Int) := by
          have nb := AT.out
          have e : wrap64 at_ = at_ := by unfold wrap64; omega
          rw [e, Int.tmod_eq_emod_of_nonneg nb.1, hk, Int.natCast_emod, Int.toNat_of_nonneg nb.1]
        obtain ⟨g', o', hgo, hlt, hcc⟩ := R2.out.2.2.2 (by omega)
        cases hgo
        have co := (R3.out.2.2.2 (by omega))
        obtain ⟨g', o', hgo, hlt3, hcc3⟩ := co
        cases hgo
        have co := hcc3 k hkm
        rw [Nat.zero_add] at co
        have fo : w3.frozen? ⟨g, k, none⟩ = false := (hb3.frozen hlt).trans (F2.out k hkm)
        have R4 := R3.out.store k hkm x
        rw [Nat.zero_add] at R4
        have R4 := Lib.hid R4
        have B4 := Lib.hid (B3.out.setCell (p := ⟨g, k, none⟩) hgw (v8 x))
        have m0 : (0 : Int) < (m : Int) := by omega
        have m1 : ¬ (m : Int) = 0 := by omega
        have k0 : (0 : Int) ≤ (k : Int) := by omega
        have k1 : (k : Int) < (m : Int) := by omega
        clear hk hcc hcc3 hb3 hlt hlt3 hm0
        go_upto_region 7 with fail
        generalize w3.setCell ⟨g, k, none⟩ (v8 x) = w4 at *
        clear co fo htm
        have s2 := run_str (P := Try.prog) w4 22 9 5 _ _ _ (E.set k x) Try.underlying22 Try.underlying9 Try.underlying5 R4.out
        go_wp2_with fail
        refine (sixDecode_any (E.set k x) w4 (by rw [List.length_set, ← HM.out]; omega)).mono ?_
        rintro e w5 ⟨he, hb5⟩
        rw [dec_wrong (E.set k x) x (List.mem_of_getElem? (i := k) (by rw [List.getElem?_set_self (by rw [← HM.out]; exact hkm)])) HX.out] at he
        simp only [DecPost] at he
        subst he
        go_wp2_with fail
        refine (sixAwake_any _).mono ?_
        rintro e w6 ⟨rfl, hb6⟩
        go_wp2
        go_ret
        exact ⟨rfl, (B4.out.trans (hb5.mono B4.out.size)).trans (hb6.mono (Nat.le_trans B4.out.size hb5.size))⟩
end Go.Proofs.Ythogbbigglmapaa
