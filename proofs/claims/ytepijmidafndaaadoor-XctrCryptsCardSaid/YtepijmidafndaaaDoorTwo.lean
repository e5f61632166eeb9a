/-
  A region that draws its order and holds two operations, side by side in the text, that both make new memory and are not ordered among themselves: it is walked in both orders. No program in sight.
-/
import Derived.Test.YtepijmidafndaaaDoorTail
namespace Go.Proofs.YtepijmidafndaaaDoor
open Go.RowKit
section
variable {P : Program} {ops : Array Oper} {C : World → Prop}
theorem wpHT_append {kd : Nat → Nat} {K : Act → World → Prop} : ∀ (M N : List Nat) (a : Act) (w : World), wpHT P ops C kd K (M ++ N) a w ↔ wpHT P ops C kd (wpHT P ops C kd K N) M a w
  | [], N, a, w => by simp only [List.nil_append, wpHT]
  | i :: M, N, a, w => by
    rw [List.cons_append]
    unfold wpHT
    split
    · exact wpHT_append M N a w
    · exact ⟨fun h => opH_mono (fun a w h => (wpHT_append M N a w).1 h) h, fun h => opH_mono (fun a w h => (wpHT_append M N a w).2 h) h⟩
theorem bubbleH (hC : ∀ w w', C w → ext w w' → C w') {kd : Nat → Nat} (hs : Region.noSelect ops = true) {i : Nat} {o : Oper} (ho : ops[i]? = some o) {K : Act → World → Prop} :
    ∀ (M : List Nat), (∀ x ∈ M, x < ops.size ∧ pairH ops kd x i = true ∧ wildB (kd x) = false) → ∀ (a : Act) (w : World), C w → wpHT P ops C kd (opH P ops C (kd i) o K) M a w → opH P ops C (kd i) o (wpHT P ops C kd K M) a w
  | [], _, a, w, _, h => h
  | x :: M, hM, a, w, hw, h => by
    obtain ⟨hx, hp, hwx⟩ := hM x (by simp)
    have hox : ops[x]? = some ops[x] := Array.getElem?_eq_getElem hx
    unfold pairH at hp
    rw [hox, ho] at hp
    simp only [Bool.and_eq_true] at hp
    have h1 : opH P ops C (kd x) ops[x] (fun a w => opH P ops C (kd i) o (wpHT P ops C kd K M) a w) a w := by
      have h' : opH P ops C (kd x) ops[x] (wpHT P ops C kd (opH P ops C (kd i) o K) M) a w := by simpa only [wpHT, hox] using h
      exact opH_monoC hC (fun a' w' hcw h => bubbleH hC hs ho M (fun y hy => hM y (by simp [hy])) a' w' (hcw hw hwx) h) h'
    have h2 := swapH hp.2 hp.1 (fun cs b => Region.noSelect_spec hs x _ cs b hox) (fun cs b => Region.noSelect_spec hs i _ cs b ho) (.inl hw) h1
    refine opH_mono (fun a w h => ?_) h2
    simpa only [wpHT, hox] using h
theorem mem_next {n i : Nat} {L1 L2 : List Nat} {listed : Array Bool} (hnd : (L1 ++ i :: L2).Nodup) (hsz : listed.size = n) (hin : i < n) (hmem : ∀ j, j ∈ L1 ++ i :: L2 ↔ j < n ∧ listed.getD j true = false) (j : Nat) :
    j ∈ L1 ++ L2 ↔ j < n ∧ (listed.setIfInBounds i true).getD j true = false := by
  by_cases hji : i = j
  · subst hji
    constructor
    · intro hm
      exfalso
      rw [List.nodup_append] at hnd
      obtain ⟨_, h2, h3⟩ := hnd
      rcases List.mem_append.1 hm with hm | hm
      · exact h3 i hm i (by simp) rfl
      · exact (List.nodup_cons.1 h2).1 hm
    · rintro ⟨_, hf⟩
      have his : i < listed.size := by omega
      simp [his] at hf
  · rw [getD_set_ne true hji, ← hmem j]
    simp only [List.mem_append, List.mem_cons]
    constructor
    · rintro (h | h)
      · exact .inl h
      · exact .inr (.inr h)
    · rintro (h | h | h)
      · exact .inl h
      · exact absurd h.symm hji
      · exact .inr h
theorem closed_next {i : Nat} {o : Oper} {listed : Array Bool} (hcl : ∀ i o, ops[i]? = some o → listed.getD i false = true → ∀ e ∈ o.after.toList, Region.binds .any e = true → listed.getD e.on false = true) (ho : ops[i]? = some o)
    (hedges : ∀ e ∈ o.after, Region.binds .any e = true → listed.getD e.on false = true) :
    ∀ j oj, ops[j]? = some oj → (listed.setIfInBounds i true).getD j false = true → ∀ e ∈ oj.after.toList, Region.binds .any e = true → (listed.setIfInBounds i true).getD e.on false = true := by
  intro j oj hoj hl e he hb
  by_cases hji : i = j
  · subst hji
    have : oj = o := Option.some.inj (hoj.symm.trans ho)
    subst this
    exact getD_set_true (hedges e (by simpa using he) hb)
  · rw [getD_set_ne false hji] at hl
    exact getD_set_true (hcl j oj hoj hl e he hb)
/-- what is of one value in a class of worlds answers for both -/
theorem opH_both {k : Nat} {o : Oper} {K K' : Act → World → Prop} {a : Act} {w : World} (hw : C w) (hk : k = 0 ∨ k = 5) (h : opH P ops C k o K a w) (h' : opH P ops C k o K' a w) : opH P ops C k o (fun a w => K a w ∧ K' a w) a w := by
  have key : ∀ (C' : World → Prop), C' w → (∃ v, yldC P ops C' o v a ∧ K (a.put o.dst v) w) → (∃ v, yldC P ops C' o v a ∧ K' (a.put o.dst v) w) → ∃ v, yldC P ops C' o v a ∧ (K (a.put o.dst v) w ∧ K' (a.put o.dst v) w) := by
    rintro C' hc ⟨v, hv, hK⟩ ⟨v', hv', hK'⟩
    have e : v = v' := by
      rcases hv with ⟨h1, h2⟩ | ⟨h1, h2⟩
      · rcases hv' with ⟨_, h4⟩ | ⟨h3, _⟩
        · have := (h2 w hc).symm.trans (h4 w hc)
          simp only [Result.ok.injEq] at this
          have := this.1
          injection this
        · rw [h1] at h3; cases h3
      · rcases hv' with ⟨h3, _⟩ | ⟨_, h4⟩
        · rw [h1] at h3; cases h3
        · rw [h2, h4]
    subst e
    exact ⟨v, hv, hK, hK'⟩
  rcases hk with rfl | rfl
  · exact key (fun _ => True) trivial h h'
  · exact key C hw h h'
theorem wpAny_of_two (hC : ∀ w w', C w → ext w w' → C w') {kd : Nat → Nat} {K : Act → World → Prop} {Q : Exit → Act → World → Prop} (hs : Region.noSelect ops = true) (hQ : ∀ a w, K a w → Q .normal a w) (x f : Nat) (hkx : kd x = 2)
    (hback : ∀ i o, ops[i]? = some o → ∀ e ∈ o.after.toList, Region.binds .any e = true → e.on < i)
    (hwild : ∀ j, j < ops.size → wildB (kd j) = false)
    (hpair : ∀ i y, i < ops.size → y < i → ¬ (y = x ∧ i = f) → ((maskGo ops.toList []).getD i 0).testBit y = true ∨ pairH ops kd y i = true) :
    ∀ (m : Nat) (Pf R : List Nat) (listed : Array Bool) (a : Act) (w : World), (Pf ++ x :: f :: R).length = m → (Pf ++ x :: f :: R).Pairwise (· < ·) → listed.size = ops.size → (∀ i, i ∈ Pf ++ x :: f :: R ↔ i < ops.size ∧ listed.getD i true = false) →
      (∀ i o, ops[i]? = some o → listed.getD i false = true → ∀ e ∈ o.after.toList, Region.binds .any e = true → listed.getD e.on false = true) → C w →
      wpHT P ops C kd (fun a w => wpHT P ops C kd K (x :: f :: R) a w ∧ wpHT P ops C kd K (f :: x :: R) a w) Pf a w → wpAny P .any ops Q m listed a w := by
  intro m
  induction m with
  | zero => intro Pf R listed a w hL; simp at hL
  | succ m ih =>
    intro Pf R listed a w hL hsort hsz hmem hcl hw h
    have hnd : (Pf ++ x :: f :: R).Nodup := hsort.imp (fun h => Nat.ne_of_lt h)
    have hall : ∀ j ∈ Pf ++ x :: f :: R, j < ops.size := fun j hj => ((hmem j).1 hj).1
    refine ⟨fun hr => ?_, fun i hi => ?_⟩
    · exfalso
      obtain ⟨i0, L', hcons⟩ : ∃ i0 L', Pf ++ x :: f :: R = i0 :: L' := by cases Pf with
        | nil => exact ⟨_, _, rfl⟩
        | cons p Pf => exact ⟨_, _, rfl⟩
      rw [hcons] at hmem hsort
      obtain ⟨hlt, hun⟩ := (hmem i0).1 (by simp)
      have hrd : i0 ∈ Region.ready .any ops listed := by
        refine mem_ready.2 ⟨hun, ops[i0], Array.getElem?_eq_getElem hlt, fun e he hb => ?_⟩
        have hel := hback i0 _ (Array.getElem?_eq_getElem hlt) e (by simpa using he) hb
        have hnot : e.on ∉ i0 :: L' := by
          intro hm
          rcases List.mem_cons.1 hm with hm | hm
          · omega
          · have := (List.pairwise_cons.1 hsort).1 _ hm; omega
        have hlt' : e.on < listed.size := by omega
        cases hv : listed.getD e.on true with
        | false => exact absurd ((hmem e.on).2 ⟨by omega, hv⟩) hnot
        | true => simp [hlt'] at hv ⊢; exact hv
      rw [hr] at hrd
      cases hrd
    · obtain ⟨hun, o, ho, hedges⟩ := mem_ready.1 hi
      have hilt := (Array.getElem?_eq_some_iff.1 ho).1
      have hiL := (hmem i).2 ⟨hilt, hun⟩
      have free : ∀ y ∈ Pf ++ x :: f :: R, y < i → ¬ (y = x ∧ i = f) → y < ops.size ∧ pairH ops kd y i = true ∧ wildB (kd y) = false := by
        intro y hy hyi hne
        have hyun : listed.getD y true = false := ((hmem y).1 hy).2
        have hys := hall y hy
        have hnb : ((maskGo ops.toList []).getD i 0).testBit y ≠ true := by
          intro hb
          have hx := maskGo_listed (ops := ops) (listed := listed) hcl ops.toList [] (by simp) (fun i o hi => by simp at hi) i o (by rw [maskGo_length]; simpa using hilt) ho (fun e he hb => hedges e (by simpa using he) hb) y hb
          have hxs : y < listed.size := by omega
          simp [hxs] at hx hyun
          rw [hx] at hyun; cases hyun
        exact ⟨hys, (hpair i y hilt hyi hne).resolve_left hnb, hwild y hys⟩
      have hwi := hwild i hilt
      have hpw := List.pairwise_append.1 hsort
      have hpw2 := List.pairwise_cons.1 hpw.2.1
      have hpw3 := List.pairwise_cons.1 hpw2.2
      have go : ∀ {K' : Act → World → Prop}, opH P ops C (kd i) o K' a w → (∀ a' w', C w' → K' a' w' → wpAny P .any ops Q m (listed.setIfInBounds i true) a' w') → wpOp P ops Q i (fun a w => wpAny P .any ops Q m (listed.setIfInBounds i true) a w) a w := fun h hn =>
        wpOp_mono (fun a' w' ⟨hw', h'⟩ => hn a' w' (hw' hw hwi) h') (opH_wpOp hC (Q := Q) ho (fun _ => hw) h)
      rcases List.mem_append.1 hiL with hip | hip
      · obtain ⟨L1, L2, rfl⟩ := List.append_of_mem hip
        rw [List.append_assoc, List.cons_append] at hsort hnd hmem hL
        have h1 := (wpHT_append L1 (i :: L2) a w).1 h
        have hp1 := List.pairwise_append.1 hsort
        have h2 := bubbleH hC hs ho L1 (fun y hy => free y (by simp [hy]) (hp1.2.2 y hy i (by simp)) (fun hh => by have := hpw.2.2 y (by simp [hy]) x (by simp); omega)) a w hw (wpHT_mono (fun a w h => by simpa only [wpHT, ho] using h) L1 a w h1)
        refine go h2 fun a' w' hc' h' => ?_
        refine ih (L1 ++ L2) R _ a' w' (by simp at hL ⊢; omega) ?_ (by simpa using hsz) (fun j => ?_) (closed_next hcl ho hedges) hc' ((wpHT_append L1 L2 a' w').2 h')
        · rw [List.append_assoc]; exact List.Pairwise.sublist (List.Sublist.append (List.Sublist.refl _) (List.sublist_cons_self _ _)) hsort
        · rw [List.append_assoc]; exact mem_next hnd hsz hilt hmem j
      · rcases List.mem_cons.1 hip with hix | hip
        · subst hix
          have h1 := wpHT_mono (fun a w h => h.1) Pf a w h
          have h2 := bubbleH hC hs ho Pf (fun y hy => free y (by simp [hy]) (hpw.2.2 y hy i (by simp)) (fun hh => by have := hpw.2.2 y hy i (by simp); omega)) a w hw (wpHT_mono (fun a w h => by simpa only [wpHT, ho] using h) Pf a w h1)
          refine go h2 fun a' w' hc' h' => ?_
          have h3 := (wpHT_append Pf (f :: R) a' w').2 h'
          refine wpAny_of_tail hC (fun j => j ≠ i) hs hQ hback (fun j y hj hy hwy => by rw [hwild y (by omega)] at hwy; cases hwy) (fun j y hj hy1 hy2 hy => hpair j y hj hy (fun hh => hy1 hh.1)) m (Pf ++ f :: R) _ a' w' (by simp at hL ⊢; omega) (fun j hj hji => ?_) ?_ (by simpa using hsz) (mem_next hnd hsz hilt hmem) (closed_next hcl ho hedges) (.inl hc') h3
          · subst hji
            rw [List.nodup_append] at hnd
            rcases List.mem_append.1 hj with hj | hj
            · exact hnd.2.2 j hj j (by simp) rfl
            · exact (List.nodup_cons.1 hnd.2.1).1 hj
          · exact List.Pairwise.sublist (List.Sublist.append (List.Sublist.refl _) (List.sublist_cons_self _ _)) hsort
        · rcases List.mem_cons.1 hip with hif | hip
          · subst hif
            have h1 := wpHT_mono (fun a w h => h.2) Pf a w h
            have h2 := bubbleH hC hs ho Pf (fun y hy => free y (by simp [hy]) (hpw.2.2 y hy i (by simp)) (fun hh => by have := hpw.2.2 y hy x (by simp); omega)) a w hw (wpHT_mono (fun a w h => by simpa only [wpHT, ho] using h) Pf a w h1)
            refine go h2 fun a' w' hc' h' => ?_
            have h3 := (wpHT_append Pf (x :: R) a' w').2 h'
            have hnd' : ((Pf ++ [x]) ++ i :: R).Nodup := by simpa using hnd
            have hmem' : ∀ j, j ∈ (Pf ++ [x]) ++ i :: R ↔ j < ops.size ∧ listed.getD j true = false := by simpa using hmem
            have hm' := mem_next hnd' hsz hilt hmem'
            rw [List.append_assoc, List.singleton_append] at hm'
            refine wpAny_of_tail hC (fun j => j ≠ i) hs hQ hback (fun j y hj hy hwy => by rw [hwild y (by omega)] at hwy; cases hwy) (fun j y hj hy1 hy2 hy => hpair j y hj hy (fun hh => hy2 hh.2)) m (Pf ++ x :: R) _ a' w' (by simp at hL ⊢; omega) (fun j hj hji => ?_) ?_ (by simpa using hsz) hm' (closed_next hcl ho hedges) (.inl hc') h3
            · subst hji
              have hn := List.nodup_append.1 hnd'
              have hj' : j ∈ Pf ++ [x] ∨ j ∈ R := by simpa [or_assoc] using hj
              rcases hj' with hj' | hj'
              · exact hn.2.2 j hj' j (by simp) rfl
              · exact (List.nodup_cons.1 hn.2.1).1 hj'
            · exact List.Pairwise.sublist (List.Sublist.append (List.Sublist.refl _) (List.Sublist.cons_cons _ (List.sublist_cons_self _ _))) hsort
          · obtain ⟨R1, R2, rfl⟩ := List.append_of_mem hip
            have hixl : x < i := hpw2.1 i (by simp)
            have hifl : f < i := hpw3.1 i (by simp)
            have hfx := free x (by simp) hixl (fun hh => by omega)
            have hff := free f (by simp) hifl (fun hh => by omega)
            have hR1 : ∀ y ∈ R1, y < ops.size ∧ pairH ops kd y i = true ∧ wildB (kd y) = false := fun y hy => by
              have hyi := (List.pairwise_append.1 hpw3.2).2.2 y hy i (by simp)
              exact free y (by simp [hy]) hyi (fun hh => by have := hpw3.1 y (by simp [hy]); omega)
            have hk05 : kd i = 0 ∨ kd i = 5 := by
              have hp := hfx.2.1
              unfold pairH at hp
              rw [show ops[x]? = some (ops[x]'(hfx.1)) from Array.getElem?_eq_getElem hfx.1, ho] at hp
              simp only [Bool.and_eq_true] at hp
              have := hp.1
              rw [hkx] at this
              simpa [kindsH] using this
            -- in both orders it goes to the front; what it answers is one
            have key : wpHT P ops C kd (opH P ops C (kd i) o (fun a w => wpHT P ops C kd K (x :: f :: (R1 ++ R2)) a w ∧ wpHT P ops C kd K (f :: x :: (R1 ++ R2)) a w)) Pf a w := by
              have mono' : ∀ (M : List Nat) (a : Act) (w : World), (∀ y ∈ M, y < ops.size ∧ wildB (kd y) = false) → C w → ∀ {K1 K2 : Act → World → Prop}, (∀ a w, C w → K1 a w → K2 a w) → wpHT P ops C kd K1 M a w → wpHT P ops C kd K2 M a w := by
                intro M
                induction M with
                | nil => intro a w _ hc K1 K2 hk h; exact hk a w hc h
                | cons y M ihM =>
                  intro a w hM hc K1 K2 hk h
                  have hoy : ops[y]? = some (ops[y]'((hM y (by simp)).1)) := Array.getElem?_eq_getElem (hM y (by simp)).1
                  simp only [wpHT, hoy] at h ⊢
                  exact opH_monoC hC (fun a' w' hcw h => ihM a' w' (fun z hz => hM z (by simp [hz])) (hcw hc (hM y (by simp)).2) hk h) h
              refine mono' Pf a w (fun y hy => ⟨hall y (by simp [hy]), hwild y (hall y (by simp [hy]))⟩) hw (fun a w hc hh => ?_) h
              obtain ⟨hA, hB⟩ := hh
              have front : ∀ (u v : Nat), (u = x ∧ v = f ∨ u = f ∧ v = x) → wpHT P ops C kd K (u :: v :: (R1 ++ i :: R2)) a w → opH P ops C (kd i) o (wpHT P ops C kd K (u :: v :: (R1 ++ R2))) a w := by
                intro u v huv hh
                have h1 := (wpHT_append (u :: v :: R1) (i :: R2) a w).1 (by simpa using hh)
                have h2 := bubbleH hC hs ho (u :: v :: R1) (fun y hy => by
                  rcases List.mem_cons.1 hy with rfl | hy
                  · rcases huv with ⟨rfl, rfl⟩ | ⟨rfl, rfl⟩
                    · exact hfx
                    · exact hff
                  · rcases List.mem_cons.1 hy with rfl | hy
                    · rcases huv with ⟨rfl, rfl⟩ | ⟨rfl, rfl⟩
                      · exact hff
                      · exact hfx
                    · exact hR1 y hy) a w hc (wpHT_mono (fun a w h => by simpa only [wpHT, ho] using h) _ a w h1)
                exact opH_mono (fun a w h => by simpa using (wpHT_append (u :: v :: R1) R2 a w).2 h) h2
              exact opH_both hc hk05 (front x f (.inl ⟨rfl, rfl⟩) hA) (front f x (.inr ⟨rfl, rfl⟩) hB)
            have h2 := bubbleH hC hs ho Pf (fun y hy => free y (by simp [hy]) (hpw.2.2 y hy i (by simp)) (fun hh => by have := hpw.2.2 y hy x (by simp); omega)) a w hw key
            refine go h2 fun a' w' hc' h' => ?_
            have e1 : Pf ++ x :: f :: (R1 ++ i :: R2) = (Pf ++ x :: f :: R1) ++ i :: R2 := by simp
            have e2 : Pf ++ x :: f :: (R1 ++ R2) = (Pf ++ x :: f :: R1) ++ R2 := by simp
            rw [e1] at hnd hmem hsort
            refine ih Pf (R1 ++ R2) _ a' w' (by simp at hL ⊢; omega) ?_ (by simpa using hsz) (fun j => ?_) (closed_next hcl ho hedges) hc' h'
            · rw [e2]; exact List.Pairwise.sublist (List.Sublist.append (List.Sublist.refl _) (List.sublist_cons_self _ _)) hsort
            · rw [e2]; exact mem_next hnd hsz hilt hmem j
def twoOk (ops : Array Oper) (ks : List Nat) (x : Nat) : Bool :=
  Region.noSelect ops && decide (ks.length = ops.size) &&
  (List.range ops.size).all (fun i => match ops[i]? with | some o => o.after.toList.all fun e => !Region.binds .any e || decide (e.on < i) | none => true) &&
  (List.range ops.size).all (fun i => !wildB (ks.getD i 2)) && (ks.getD x 2 == 2) &&
  (List.range ops.size).all fun i => (List.range i).all fun y => (y == x && i == x + 1) || (((maskGo ops.toList []).getD i 0).testBit y || pairH ops (fun j => ks.getD j 2) y i)
def twoOkF (ops : Array Oper) (ks : List Nat) (x : Nat) : Bool :=
  Region.noSelect ops && decide (ks.length = ops.size) &&
  (List.range ops.size).all (fun i => match ops[i]? with | some o => o.after.toList.all fun e => !Region.binds .any e || decide (e.on < i) | none => true) &&
  (List.range ops.size).all (fun i => !wildB (ks.getD i 2)) && (ks.getD x 2 == 2) &&
  maskK ops.toList [] fun ms => (List.range ops.size).all fun i => force (ms.getD i 0) fun m => (List.range i).all fun y => (y == x && i == x + 1) || (m.testBit y || pairH ops (fun j => ks.getD j 2) y i)
theorem twoOkF_eq (ops : Array Oper) (ks : List Nat) (x : Nat) : twoOkF ops ks x = twoOk ops ks x := by
  unfold twoOkF twoOk
  rw [maskK_eq]
  simp only [force_eq]
theorem wpHT_of_list (kd : Nat → Nat) {K : Act → World → Prop} : ∀ (J ks : List Nat) (l : List Oper) (a : Act) (w : World), ks = J.map kd → l.map some = J.map (fun j => ops[j]?) → wpH P ops C K ks l a w → wpHT P ops C kd K J a w
  | [], ks, l, a, w, hk, hl, h => by
    subst hk
    have : l = [] := by simpa using hl
    subst this
    simpa [wpHT, wpH] using h
  | i :: J, ks, l, a, w, hk, hl, h => by
    subst hk
    cases l with
    | nil => simp at hl
    | cons o l =>
      simp only [List.map_cons, List.cons.injEq] at hl
      simp only [List.map_cons, wpH] at h
      simp only [wpHT, ← hl.1]
      exact opH_mono (fun a w h => wpHT_of_list kd J (J.map kd) l a w rfl hl.2 h) h
theorem map_pre {α β : Type} (A B : List α) (g : α → β) (u : Nat → β) (hu : ∀ j (h : j < (A ++ B).length), u j = g (A ++ B)[j]) : A.map g = (List.range' 0 A.length).map u := by
  apply List.ext_getElem
  · simp
  · intro j h1 h2
    have hj : j < A.length := by simpa using h1
    simp only [List.getElem_map, List.getElem_range', Nat.one_mul, Nat.zero_add]
    rw [hu j (by simp; omega), List.getElem_append_left hj]
theorem map_post {α β : Type} (A B : List α) (g : α → β) (u : Nat → β) (hu : ∀ j (h : j < (A ++ B).length), u j = g (A ++ B)[j]) : B.map g = (List.range' A.length B.length).map u := by
  apply List.ext_getElem
  · simp
  · intro j h1 h2
    have hj : j < B.length := by simpa using h1
    simp only [List.getElem_map, List.getElem_range', Nat.one_mul]
    rw [hu (A.length + j) (by simp; omega), List.getElem_append_right (by omega)]
    simp
/-- A REGION WITH TWO MAKERS SIDE BY SIDE, BEHIND SO MANY OPERATIONS: WALKED IN BOTH ORDERS. -/
theorem wp_region_two {id : Nat} {Q : Exit → Act → World → Prop} {a : Act} {w : World} {ox of : Oper} (l1 : List Oper) {l2 : List Oper} (ks1 : List Nat) (ks2 : List Nat) (hl1 : ks1.length = l1.length) (hm : P.follows .mixedOrders = true) (hok : twoOkF (l1 ++ ox :: of :: l2).toArray (ks1 ++ 2 :: 2 :: ks2) ks1.length = true)
    (h : ∀ C : World → Prop, C w.drew → (∀ w1, C w1 → Below w.drew.heap.size w.drew w1) → ∀ K : Act → World → Prop, (∀ a w, Q .normal a w → K a w) →
      wpH P (l1 ++ ox :: of :: l2).toArray C (fun a w => wpH P (l1 ++ ox :: of :: l2).toArray C K (2 :: 2 :: ks2) (ox :: of :: l2) a w ∧ wpH P (l1 ++ ox :: of :: l2).toArray C K (2 :: 2 :: ks2) (of :: ox :: l2) a w) ks1 l1 a w.drew) :
    (Code.region id (l1 ++ ox :: of :: l2).toArray true).wp P Q a w := by
  obtain ⟨l, hl⟩ : ∃ l, l = l1 ++ ox :: of :: l2 := ⟨_, rfl⟩
  obtain ⟨ks, hks⟩ : ∃ ks, ks = ks1 ++ 2 :: 2 :: ks2 := ⟨_, rfl⟩
  rw [twoOkF_eq] at hok
  rw [← hks, ← hl] at hok
  unfold twoOk at hok
  simp only [Bool.and_eq_true, decide_eq_true_eq, List.all_eq_true, List.mem_range] at hok
  obtain ⟨⟨⟨⟨⟨hs, hlen⟩, hback⟩, hwild⟩, hk2⟩, hpair⟩ := hok
  refine wp_region_any hm ?_
  have hw := h (ext w.drew) (ext_refl _) (fun _ h => h) _ (fun _ _ h => h)
  clear h
  rw [← hl] at hw ⊢
  obtain ⟨kd, hkd⟩ : ∃ kd : Nat → Nat, kd = fun j => ks.getD j 2 := ⟨_, rfl⟩
  obtain ⟨u, hu⟩ : ∃ u : Nat → Option Oper, u = fun j => l.toArray[j]? := ⟨_, rfl⟩
  have hk' : ∀ j (h : j < ks.length), kd j = ks[j] := fun j h => by rw [hkd]; simp [List.getD_eq_getElem?_getD, h]
  have hu' : ∀ j (h : j < l.length), u j = some l[j] := fun j h => by rw [hu]; simp [h]
  obtain ⟨n, hn⟩ : ∃ n, n = l1.length := ⟨_, rfl⟩
  have k1 : ks1 = (List.range' 0 n).map kd := by
    have := map_pre ks1 (2 :: 2 :: ks2) (fun k => k) kd (by rw [← hks]; exact hk')
    rw [List.map_id', hl1, ← hn] at this; exact this
  have u1 : l1.map some = (List.range' 0 n).map u := by
    have := map_pre l1 (ox :: of :: l2) some u (by rw [← hl]; exact hu')
    rw [← hn] at this; exact this
  have k2 : 2 :: 2 :: ks2 = (n :: (n + 1) :: List.range' (n + 2) l2.length).map kd := by
    have := map_post ks1 (2 :: 2 :: ks2) (fun k => k) kd (by rw [← hks]; exact hk')
    have e : ks2.length = l2.length := by
      rw [hks, hl] at hlen; simp at hlen; omega
    rw [List.map_id', hl1, ← hn, List.length_cons, List.length_cons, e, List.range'_succ, List.range'_succ] at this; exact this
  have u2 : (ox :: of :: l2).map some = (n :: (n + 1) :: List.range' (n + 2) l2.length).map u := by
    have := map_post l1 (ox :: of :: l2) some u (by rw [← hl]; exact hu')
    rw [← hn, List.length_cons, List.length_cons, List.range'_succ, List.range'_succ] at this; exact this
  simp only [List.map_cons, List.cons.injEq] at k2 u2
  rw [hu] at u1 u2
  have hs' : n + 2 + l2.length = l.length := by rw [hl, hn]; simp; omega
  have hall : List.range' 0 n ++ n :: (n + 1) :: List.range' (n + 2) l2.length = List.range' 0 l.length := by
    rw [← hs', show n + 2 + l2.length = n + (l2.length + 1 + 1) by omega, ← List.range'_append_1, List.range'_succ, List.range'_succ, Nat.zero_add]
  have hw' : wpHT P l.toArray (ext w.drew) kd (fun a w' => wpHT P l.toArray (ext w.drew) kd (Q .normal) (n :: (n + 1) :: List.range' (n + 2) l2.length) a w' ∧ wpHT P l.toArray (ext w.drew) kd (Q .normal) ((n + 1) :: n :: List.range' (n + 2) l2.length) a w') (List.range' 0 n) a w.drew := by
    refine wpHT_mono (fun a w' hh => ⟨?_, ?_⟩) _ a _ (wpHT_of_list kd _ ks1 l1 a _ k1 u1 hw)
    · exact wpHT_of_list kd _ _ _ a w' (by simp only [List.map_cons, List.cons.injEq]; exact k2) (by simp only [List.map_cons, List.cons.injEq]; exact u2) hh.1
    · exact wpHT_of_list kd _ _ _ a w' (by simp only [List.map_cons, List.cons.injEq]; exact ⟨k2.2.1, k2.1, k2.2.2⟩) (by simp only [List.map_cons, List.cons.injEq]; exact ⟨u2.2.1, u2.1, u2.2.2⟩) hh.2
  refine wpAny_of_two (C := ext w.drew) (fun _ _ h k => ext_trans h k) (kd := kd) hs (fun _ _ h => h) n (n + 1) (by rw [← k2.1]) (fun i o ho e he hb => ?_) (fun j hj => ?_) (fun i y hi hy hne => ?_) l.toArray.size (List.range' 0 n) (List.range' (n + 2) l2.length) _ a _ ?_ ?_ (by simp) (fun i => ?_) (fun i o _ hl => ?_) (ext_refl _) hw'
  · have h1 := hback i (Array.getElem?_eq_some_iff.1 ho).1
    rw [ho] at h1
    have h2 := List.all_eq_true.1 h1 e he
    simp only [Bool.or_eq_true, Bool.not_eq_true', decide_eq_true_eq] at h2
    rcases h2 with h2 | h2
    · rw [hb] at h2; cases h2
    · exact h2
  · have := hwild j hj
    rw [hkd]; simpa using this
  · have := hpair i hi y hy
    rw [Bool.or_eq_true, Bool.or_eq_true] at this
    rcases this with h | h
    · exfalso; apply hne
      rw [Bool.and_eq_true, beq_iff_eq, beq_iff_eq] at h
      rw [hn, ← hl1]; exact h
    · rw [hkd]; exact h
  · rw [hall]; simp
  · rw [hall]; exact List.pairwise_lt_range'
  · rw [hall]
    simp only [List.mem_range'_1, Nat.zero_le, true_and, Nat.zero_add, List.size_toArray]
    constructor
    · intro hi; exact ⟨hi, by simp [hi]⟩
    · exact fun h => h.1
  · exfalso
    have hf : (Array.replicate l.toArray.size false).getD i false = false := by
      by_cases hi : i < l.toArray.size
      · simp at hi; simp [hi]
      · simp at hi; simp [hi]
    rw [hf] at hl; cases hl
end
end Go.Proofs.YtepijmidafndaaaDoor
