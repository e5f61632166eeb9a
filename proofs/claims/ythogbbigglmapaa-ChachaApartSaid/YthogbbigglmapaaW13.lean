/- ChachaApart: the walk. -/
import Derived.Test.YthogbbigglmapaaCha7
import Derived.Test.YthogbbigglmapaaEq
import Derived.Test.YthogbbigglmapaaChP
import Derived.Test.YthogbbigglmapaaText2
namespace Go.Proofs.Ythogbbigglmapaa
open Go.RowKit
set_option linter.unusedSimpArgs false in
set_option maxRecDepth 100000 in
theorem ChachaApart_walk (s t : List (BitVec 32)) (r : Int) (w : World) (hs : s.length = 16) (ht : t.length = 16) (_hr : (Lit.int .i64 r).wf = true) :
    Calls Try.prog 13 #[.agg (A32 s), .agg (A32 t), .int .i64 r] w fun e w' => e = .returned (.bool true) ∧ Below w.heap.size w w' := by
  have HS := Lib.hid hs
  have HT := Lib.hid ht
  go_enter Try.func13, Try.ntmps13
  by_cases h : r = 8 ∨ r = 12 ∨ r = 20
  · go_wp2_with fail
    refine (right_any r _).mono ?_
    rintro e w0 ⟨rfl, hw⟩
    obtain ⟨k0, k1, hb, hz⟩ := new2 _ _ _ _ _ _ hw
    have hd : decide (r = 8 ∨ r = 12 ∨ r = 20) = true := decide_eq_true h
    rw [hd]
    have r0 := k0.row
    go_wp2_with fail
    refine (Mix_yes s r _ hs h).mono ?_
    rintro e w1 ⟨rfl, hb1⟩
    obtain ⟨p, hp⟩ : ∃ p, p = mixTo s (r.toNat / 2) := ⟨_, rfl⟩
    obtain ⟨q, hq⟩ : ∃ q, q = mixTo t (r.toNat / 2) := ⟨_, rfl⟩
    have hpl : p.length = 16 := by rw [hp, mixTo_length, hs]
    have hql : q.length = 16 := by rw [hq, mixTo_length, ht]
    have hpq : decide (p = q) = decide (s = t) := by
      rw [hp, hq]
      exact Bool.eq_iff_iff.2 (by simpa using ⟨fun h => mixTo_inj s t _ hs ht h, fun h => by rw [h]⟩)
    rw [← hp]
    have HP := Lib.hid hp
    have HQ := Lib.hid hq
    clear hp hq
    have j1 := (k1.belowAll hb1).alloc (.cells (A32 p) 39)
    have j0 := (k0.belowAll hb1).alloc (.cells (A32 p) 39)
    have jp := Blk.new w1 39 (A32 p)
    have hB := ((hb.trans (hb1.mono hb.size)).alloc (Nat.le_trans hb.size hb1.size) (.cells (A32 p) 39))
    have hz1 := hb1.size
    obtain ⟨w2, hw2⟩ : ∃ w2, w1.alloc (.cells (A32 p) 39) = w2 := ⟨_, rfl⟩
    rw [hw2] at j1 j0 jp hB
    have r1 := j1.row
    clear hw
    go_wp2_with fail
    refine (Mix_yes t r _ ht h).mono ?_
    rintro e w3 ⟨rfl, hb3⟩
    rw [← HQ.out]
    have hs3 := hb3.size
    have i1 := ((j1.belowAll hb3).alloc (.cells (A32 q) 39)).drew
    have i0 := ((j0.belowAll hb3).alloc (.cells (A32 q) 39)).drew
    have ip := ((jp.belowAll hb3).alloc (.cells (A32 q) 39)).drew
    have iq := (Blk.new w3 39 (A32 q)).drew
    have hB4 := ((hB.trans (hb3.mono hB.size)).alloc (Nat.le_trans hB.size hb3.size) (.cells (A32 q) 39)).drew
    have q0 := i0.row
    have q1 := i1.row
    have q2 := ip.row
    have q3 := iq.row
    clear r0 r1
    go_wp2_with fail
    refine wp_region_text2 [0,0,0,0,0,0,0,1,1,0,1,1,0,0,0,0,2,0,0] (by kernel_rfl) (by kernel_rfl) (fun K' hK' => ?_)
    repeat
      first
        | ((with_reducible refine z_move (a' := ?_) ?_ ?_); rotate_left; · (simp only [Act.put, List.setIfInBounds_toArray, List.set_cons_succ, List.set_cons_zero, Act.eval, Array.getD_eq_getD_getElem?, List.getElem?_toArray, List.getElem?_cons_succ, List.getElem?_cons_zero, Option.getD_some]; exact rfl))
        | ((with_reducible refine z_assign (a' := ?_) ?_ ?_); rotate_left; · (simp only [Act.put, List.setIfInBounds_toArray, List.set_cons_succ, List.set_cons_zero, Act.eval, Array.getD_eq_getD_getElem?, List.getElem?_toArray, List.getElem?_cons_succ, List.getElem?_cons_zero, Option.getD_some]; exact rfl))
        | ((with_reducible refine z_obl (v := ?_) (a' := ?_) rfl (fun _ => ?_) ?_ ?_); rotate_left; rotate_left; (focus (go_simp; (try go_bits); exact rfl)); (focus (simp only [Act.put, List.setIfInBounds_toArray, List.set_cons_succ, List.set_cons_zero, Act.eval, Array.getD_eq_getD_getElem?, List.getElem?_toArray, List.getElem?_cons_succ, List.getElem?_cons_zero, Option.getD_some]; exact rfl)))
        | ((with_reducible refine z_read (v := ?_) (a' := ?_) rfl ?_ ?_ ?_); rotate_left; rotate_left; (focus (go_simp; (try go_bits); exact rfl)); (focus (simp only [Act.put, List.setIfInBounds_toArray, List.set_cons_succ, List.set_cons_zero, Act.eval, Array.getD_eq_getD_getElem?, List.getElem?_toArray, List.getElem?_cons_succ, List.getElem?_cons_zero, Option.getD_some]; exact rfl)))
        | ((with_reducible refine z_oblG (v := ?_) (a' := ?_) ?_ (fun _ => ?_) ?_ ?_); rotate_left; rotate_left; (focus (exact rfl)); (focus (go_simp; (try go_bits); exact rfl)); (focus (simp only [Act.put, List.setIfInBounds_toArray, List.set_cons_succ, List.set_cons_zero, Act.eval, Array.getD_eq_getD_getElem?, List.getElem?_toArray, List.getElem?_cons_succ, List.getElem?_cons_zero, Option.getD_some]; exact rfl)))
        | ((with_reducible refine z_readG (v := ?_) (a' := ?_) ?_ ?_ ?_ ?_); rotate_left; rotate_left; (focus (exact rfl)); (focus (go_simp; (try go_bits); exact rfl)); (focus (simp only [Act.put, List.setIfInBounds_toArray, List.set_cons_succ, List.set_cons_zero, Act.eval, Array.getD_eq_getD_getElem?, List.getElem?_toArray, List.getElem?_cons_succ, List.getElem?_cons_zero, Option.getD_some]; exact rfl)))
    (with_reducible refine z_callwG ?_ ?_)
    · exact rfl
    go_simp
    refine entersW_of ?_
    refine (awake_any _).mono ?_
    rintro e w5 ⟨rfl, hb5⟩
    refine ⟨_, rfl, ?_⟩
    try simp only [Act.put, List.setIfInBounds_toArray, List.set_cons_succ, List.set_cons_zero]
    repeat
      first
        | ((with_reducible refine z_move (a' := ?_) ?_ ?_); rotate_left; · (simp only [Act.put, List.setIfInBounds_toArray, List.set_cons_succ, List.set_cons_zero, Act.eval, Array.getD_eq_getD_getElem?, List.getElem?_toArray, List.getElem?_cons_succ, List.getElem?_cons_zero, Option.getD_some]; exact rfl))
        | ((with_reducible refine z_assign (a' := ?_) ?_ ?_); rotate_left; · (simp only [Act.put, List.setIfInBounds_toArray, List.set_cons_succ, List.set_cons_zero, Act.eval, Array.getD_eq_getD_getElem?, List.getElem?_toArray, List.getElem?_cons_succ, List.getElem?_cons_zero, Option.getD_some]; exact rfl))
        | ((with_reducible refine z_obl (v := ?_) (a' := ?_) rfl (fun _ => ?_) ?_ ?_); rotate_left; rotate_left; (focus (go_simp; (try go_bits); exact rfl)); (focus (simp only [Act.put, List.setIfInBounds_toArray, List.set_cons_succ, List.set_cons_zero, Act.eval, Array.getD_eq_getD_getElem?, List.getElem?_toArray, List.getElem?_cons_succ, List.getElem?_cons_zero, Option.getD_some]; exact rfl)))
        | ((with_reducible refine z_read (v := ?_) (a' := ?_) rfl ?_ ?_ ?_); rotate_left; rotate_left; (focus (go_simp; (try go_bits); exact rfl)); (focus (simp only [Act.put, List.setIfInBounds_toArray, List.set_cons_succ, List.set_cons_zero, Act.eval, Array.getD_eq_getD_getElem?, List.getElem?_toArray, List.getElem?_cons_succ, List.getElem?_cons_zero, Option.getD_some]; exact rfl)))
        | ((with_reducible refine z_oblG (v := ?_) (a' := ?_) ?_ (fun _ => ?_) ?_ ?_); rotate_left; rotate_left; (focus (exact rfl)); (focus (go_simp; (try go_bits); exact rfl)); (focus (simp only [Act.put, List.setIfInBounds_toArray, List.set_cons_succ, List.set_cons_zero, Act.eval, Array.getD_eq_getD_getElem?, List.getElem?_toArray, List.getElem?_cons_succ, List.getElem?_cons_zero, Option.getD_some]; exact rfl)))
        | ((with_reducible refine z_readG (v := ?_) (a' := ?_) ?_ ?_ ?_ ?_); rotate_left; rotate_left; (focus (exact rfl)); (focus (go_simp; (try go_bits); exact rfl)); (focus (simp only [Act.put, List.setIfInBounds_toArray, List.set_cons_succ, List.set_cons_zero, Act.eval, Array.getD_eq_getD_getElem?, List.getElem?_toArray, List.getElem?_cons_succ, List.getElem?_cons_zero, Option.getD_some]; exact rfl)))
    refine z_nil (hK' _ _ ?_)
    go_wp2
    go_ret
    exact ⟨rfl, hB4.trans (hb5.mono hB4.size)⟩
  · have hd : decide (r = 8 ∨ r = 12 ∨ r = 20) = false := decide_eq_false h
    go_wp2_with fail
    refine (right_any r _).mono ?_
    rintro e w0 ⟨rfl, rfl⟩
    rw [hd]
    go_wp2
    go_ret
    exact ⟨rfl, by repeat (first | exact Below.refl _ _ | refine Below.alloc ?_ (by simp) _)⟩
end Go.Proofs.Ythogbbigglmapaa
