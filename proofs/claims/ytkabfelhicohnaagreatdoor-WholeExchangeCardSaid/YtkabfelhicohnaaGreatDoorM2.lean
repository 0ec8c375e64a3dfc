/- Walks: equality, patches. No condition. -/
import Derived.Test.YtkabfelhicohnaaGreatDoorM1
set_option linter.unusedSimpArgs false
set_option linter.unusedVariables false
set_option maxRecDepth 4000
set_option maxHeartbeats 2000000
namespace Go.Proofs.YtkabfelhicohnaaGreatDoor.V
open Go.RowKit
section
theorem sub_ne {s s' : Sub} : (!(decide (s.code = s'.code) && (decide (s.value = s'.value) && true))) = !decide (s = s') := by
 cases s; cases s'; simp [Sub.mk.injEq]
theorem list_ext {α : Type} {l l' : List α} (hl : l.length = l'.length) (h : ∀ j, j < l.length → l[j]? = l'[j]?) : l = l' := by
 apply List.ext_getElem?
 intro i
 by_cases hi : i < l.length
 ·exact h i hi
 ·rw [List.getElem?_eq_none (by omega), List.getElem?_eq_none (by omega)]
theorem c85n {G G' : Nat → Prop} (A A' : Option Addr) (cap cap' : Nat) (l l' : List Sub) (w : World) (hA : SubsAt G w A l) (hB : SubsAt G' w A' l') (hl : ¬ l.length = l'.length) : Calls Tryz.prog 85 #[.slice A l.length cap, .slice A' l'.length cap'] w fun e w' => e = .returned (.bool (decide (l = l'))) ∧ New w w' := by
 refine enter (n := 26) Tryz.func85 rfl rfl (by simp) ?_
 refine wp_seq (c_reg (asB rfl rfl rfl (w_nil (then_n (wp_seq (wp_seq (c_reg (s_mv (v := .slice _ _ _) rfl rfl rfl (s_lenL Tryz.underlying51 rfl rfl rfl ?_)))))))))
 refine s_mv (v := .slice _ _ _) rfl rfl rfl (s_lenL Tryz.underlying51 rfl rfl rfl (s_ne rfl rfl rfl rfl rfl (ne_T (by omega)) (w_nil (then_n (c_T rfl rfl (wp_seq (c_reg (asB rfl rfl rfl (w_nil ?_)))))))))
 refine then_n (wp_ret (then_r ?_))
 refine ret1 (t := 4) (v := .bool _) rfl rfl rfl ⟨by have : ¬ l = l' := (fun e => hl (by rw [e])); simp [this], Kp.refl _ _⟩
theorem c85e {G G' : Nat → Prop} (A A' : Option Addr) (cap cap' : Nat) (l l' : List Sub) (w : World) (hA : SubsAt G w A l) (hB : SubsAt G' w A' l') (hl : l.length = l'.length) : Calls Tryz.prog 85 #[.slice A l.length cap, .slice A' l'.length cap'] w fun e w' => e = .returned (.bool (decide (l = l'))) ∧ New w w' := by
 obtain ⟨W, hW⟩ : ∃ W, W = w := ⟨_, rfl⟩
 subst hW
 have K : New W W := Kp.refl _ _
 have hlen : l.length ≤ 140737488355328 := hA.1
 refine enter (n := 26) Tryz.func85 rfl rfl (by simp) ?_
 refine wp_seq (c_reg (asB rfl rfl rfl (w_nil (then_n (wp_seq (wp_seq (c_reg (s_mv (v := .slice _ _ _) rfl rfl rfl (s_lenL Tryz.underlying51 rfl rfl rfl ?_)))))))))
 refine s_mv (v := .slice _ _ _) rfl rfl rfl (s_lenL Tryz.underlying51 rfl rfl rfl (s_ne rfl rfl rfl rfl rfl (ne_F (by omega)) (w_nil (then_n (c_F rfl rfl (wp_skip (then_n (wp_seq (wp_seq ?_)))))))))
 refine c_reg (s_mv (v := .slice _ _ _) rfl rfl rfl (s_lenL Tryz.underlying51 rfl rfl rfl (mvI rfl rfl rfl (w_nil (then_n (wp_block ?_))))))
 refine c_loop (fun m f w => ∃ g k, m = l.length - k ∧ k ≤ l.length ∧ (∀ j, j < k → l[j]? = l'[j]?) ∧ f = (upd (upd (upd (upd g 0 (.slice A l.length cap)) 1 (.slice A' l'.length cap')) 12 (.int .i64 (l.length : Nat))) 13 (.int .i64 (k : Nat))) ∧ New W w) (l.length) ⟨_, 0, by omega, by omega, fun j hj => by omega, (upd_keep' (upd_keep' (upd_keep' (upd_keep' rfl rfl) rfl) rfl) rfl), K⟩ ?_
 clear K
 rintro m _ w0 ⟨g, k, rfl, hk, hall, rfl, K⟩
 have hA0 := hA.kp K (fun _ _ _ e => e)
 have hB0 := hB.kp K (fun _ _ _ e => e)
 refine wp_seq (c_reg (s_lss rfl rfl rfl rfl rfl rfl (w_nil (then_n (wp_seq ?_)))))
 refine c_if rfl rfl ?_ ?_
 ·intro ht14
  (try simp only [Q1, Q2, Q3, Q4, Q5] at ht14)
  have hlt : k < l.length := by omega
  have hlt' : k < l'.length := by omega
  obtain ⟨p, hpA, _, hp⟩ := hA0.2 k _ (List.getElem?_eq_getElem hlt)
  obtain ⟨q, hqA, _, hq⟩ := hB0.2 k _ (List.getElem?_eq_getElem hlt')
  subst hpA hqA
  refine wp_skip (then_n (wp_seq (wp_block (wp_seq (c_reg (mvI rfl rfl rfl (asI rfl rfl rfl (w_nil (then_n ?_)))))))))
  refine wp_seq ?_
  refine c_draw' (fun S f w => New w0 w ∧ f 0 = .slice (some p) l.length cap ∧ f 1 = .slice (some q) l'.length cap' ∧ f 12 = .int .i64 (l.length : Nat) ∧ f 13 = .int .i64 (k : Nat) ∧ f 5 = .int .i64 (k : Nat) ∧ (S 0 = true → f 16 = .slice (some p) l.length cap) ∧ (S 1 = true → f 17 = .int .i64 (k : Nat)) ∧ (S 2 = true → f 18 = .pointer (some (p.add (k * 2)))) ∧ (S 3 = true → f 19 = .agg l[k].cells.toArray) ∧ (S 4 = true → f 20 = .slice (some q) l'.length cap') ∧ (S 5 = true → f 21 = .int .i64 (k : Nat)) ∧ (S 6 = true → f 22 = .pointer (some (q.add (k * 2)))) ∧ (S 7 = true → f 23 = .agg l'[k].cells.toArray) ∧ (S 8 = true → f 24 = .bool (!decide (l[k] = l'[k]))) ∧ True) (by kernel_rfl) ⟨(Kp.refl _ _).drew, rfl, rfl, rfl, rfl, rfl, (fun h => by cases h), (fun h => by cases h), (fun h => by cases h), (fun h => by cases h), (fun h => by cases h), (fun h => by cases h), (fun h => by cases h), (fun h => by cases h), (fun h => by cases h), trivial⟩ ?_ ?_
  ·intro i o ho S f w hd hI
   obtain ⟨kR, l0, l1, l12, l13, l5, r0, r1, r2, r3, r4, r5, r6, r7, r8, -⟩ := hI
   match i, ho with
   | 0, ho =>
    cases ho
    obtain ⟨g, rfl⟩ : ∃ g, f = upd (g) 0 (.slice (some p) l.length cap) := ⟨f, upd_keep' (rfl) l0⟩
    refine s_mv (v := .slice _ _ _) rfl rfl rfl (w_nil ?_)
    exact ⟨_, rfl, kR, l0, l1, l12, l13, l5, (fun _ => rfl), r1, r2, r3, r4, r5, r6, r7, r8, trivial⟩
   | 1, ho =>
    cases ho
    obtain ⟨g, rfl⟩ : ∃ g, f = upd (g) 5 (.int .i64 (k : Nat)) := ⟨f, upd_keep' (rfl) l5⟩
    refine mvI rfl rfl rfl (w_nil ?_)
    exact ⟨_, rfl, kR, l0, l1, l12, l13, l5, r0, (fun _ => rfl), r2, r3, r4, r5, r6, r7, r8, trivial⟩
   | 2, ho =>
    cases ho
    have e16 := r0 (hd ⟨0, .data⟩ (by simp) rfl)
    have e17 := r1 (hd ⟨1, .data⟩ (by simp) rfl)
    obtain ⟨g, rfl⟩ : ∃ g, f = upd (upd (g) 16 (.slice (some p) l.length cap)) 17 (.int .i64 (k : Nat)) := ⟨f, upd_keep' (upd_keep' (rfl) e16) e17⟩
    refine s_iaE el51 rfl rfl rfl rfl rfl rfl (by omega) (w_nil ?_)
    exact ⟨_, rfl, kR, l0, l1, l12, l13, l5, r0, r1, (fun _ => rfl), r3, r4, r5, r6, r7, r8, trivial⟩
   | 3, ho =>
    cases ho
    have e18 := r2 (hd ⟨2, .data⟩ (by simp) rfl)
    obtain ⟨g, rfl⟩ : ∃ g, f = upd (g) 18 (.pointer (some (p.add (k * 2)))) := ⟨f, upd_keep' (rfl) e18⟩
    refine s_ldA ag50 rfl rfl rfl (hp.kp kR (fun e => e)) rfl (w_nil ?_)
    exact ⟨_, rfl, kR, l0, l1, l12, l13, l5, r0, r1, r2, (fun _ => rfl), r4, r5, r6, r7, r8, trivial⟩
   | 4, ho =>
    cases ho
    obtain ⟨g, rfl⟩ : ∃ g, f = upd (g) 1 (.slice (some q) l'.length cap') := ⟨f, upd_keep' (rfl) l1⟩
    refine s_mv (v := .slice _ _ _) rfl rfl rfl (w_nil ?_)
    exact ⟨_, rfl, kR, l0, l1, l12, l13, l5, r0, r1, r2, r3, (fun _ => rfl), r5, r6, r7, r8, trivial⟩
   | 5, ho =>
    cases ho
    obtain ⟨g, rfl⟩ : ∃ g, f = upd (g) 5 (.int .i64 (k : Nat)) := ⟨f, upd_keep' (rfl) l5⟩
    refine mvI rfl rfl rfl (w_nil ?_)
    exact ⟨_, rfl, kR, l0, l1, l12, l13, l5, r0, r1, r2, r3, r4, (fun _ => rfl), r6, r7, r8, trivial⟩
   | 6, ho =>
    cases ho
    have e20 := r4 (hd ⟨4, .data⟩ (by simp) rfl)
    have e21 := r5 (hd ⟨5, .data⟩ (by simp) rfl)
    obtain ⟨g, rfl⟩ : ∃ g, f = upd (upd (g) 20 (.slice (some q) l'.length cap')) 21 (.int .i64 (k : Nat)) := ⟨f, upd_keep' (upd_keep' (rfl) e20) e21⟩
    refine s_iaE el51 rfl rfl rfl rfl rfl rfl (by omega) (w_nil ?_)
    exact ⟨_, rfl, kR, l0, l1, l12, l13, l5, r0, r1, r2, r3, r4, r5, (fun _ => rfl), r7, r8, trivial⟩
   | 7, ho =>
    cases ho
    have e22 := r6 (hd ⟨6, .data⟩ (by simp) rfl)
    obtain ⟨g, rfl⟩ : ∃ g, f = upd (g) 22 (.pointer (some (q.add (k * 2)))) := ⟨f, upd_keep' (rfl) e22⟩
    refine s_ldA ag50 rfl rfl rfl (hq.kp kR (fun e => e)) rfl (w_nil ?_)
    exact ⟨_, rfl, kR, l0, l1, l12, l13, l5, r0, r1, r2, r3, r4, r5, r6, (fun _ => rfl), r8, trivial⟩
   | 8, ho =>
    cases ho
    have e19 := r3 (hd ⟨3, .data⟩ (by simp) rfl)
    have e23 := r7 (hd ⟨7, .data⟩ (by simp) rfl)
    obtain ⟨g, rfl⟩ : ∃ g, f = upd (upd (g) 19 (.agg l[k].cells.toArray)) 23 (.agg l'[k].cells.toArray) := ⟨f, upd_keep' (upd_keep' (rfl) e19) e23⟩
    refine s_ne50 rfl rfl rfl rfl rfl sub_ne (w_nil ?_)
    exact ⟨_, rfl, kR, l0, l1, l12, l13, l5, r0, r1, r2, r3, r4, r5, r6, r7, (fun _ => rfl), trivial⟩
   | k + 9, ho => exact absurd ho (by simp)
  ·intro S f w1 hS hI
   obtain ⟨kR, l0, l1, l12, l13, l5, r0, r1, r2, r3, r4, r5, r6, r7, r8, -⟩ := hI
   obtain ⟨g, rfl⟩ : ∃ g, f = upd (upd (upd (upd (upd (upd (g) 0 (.slice (some p) l.length cap)) 1 (.slice (some q) l'.length cap')) 12 (.int .i64 (l.length : Nat))) 13 (.int .i64 (k : Nat))) 5 (.int .i64 (k : Nat))) 24 (.bool (!decide (l[k] = l'[k]))) := ⟨f, upd_keep' (upd_keep' (upd_keep' (upd_keep' (upd_keep' (upd_keep' (rfl) l0) l1) l12) l13) l5) (r8 (hS 8 (by decide)))⟩
   clear hS l0 l1 l12 l13 l5 r0 r1 r2 r3 r4 r5 r6 r7 r8
   replace K := K.trans kR
   refine then_n ?_
   refine c_if rfl rfl ?_ ?_
   ·intro ht24
    (try simp only [Q1, Q2, Q3, Q4, Q5] at ht24)
    refine wp_seq (c_reg (asB rfl rfl rfl (w_nil (then_n (wp_ret (inb_r (then_r (then_r (inb_r ?_)))))))))
    refine then_r ?_
    refine ret1 (t := 4) (v := .bool _) rfl rfl rfl ⟨by have : ¬ l = l' := (fun e => by subst e; simp at ht24); simp [this], K⟩
   ·intro ht24
    (try simp only [Q1, Q2, Q3, Q4, Q5] at ht24)
    refine wp_skip (inb_n (then_n (c_reg (s_add rfl rfl rfl rfl rfl (w64 (by omega)) (mvI rfl rfl rfl (w_nil (then_n ?_)))))))
    exact ⟨l.length - (k + 1), _, by omega, rfl, _, k + 1, rfl, by omega, fun j hj => by by_cases e : j = k; subst e; simpa [hlt, hlt'] using ht24; exact hall j (by omega), (upd_keep' (upd_keep' (upd_keep' (upd_keep' rfl rfl) rfl) rfl) rfl), K⟩
 ·intro ht14
  (try simp only [Q1, Q2, Q3, Q4, Q5] at ht14)
  refine wp_exit (then_x (then_x (inb_x (then_n (wp_seq (c_reg (asB rfl rfl rfl (w_nil (then_n ?_)))))))))
  refine wp_ret ?_
  refine ret1 (t := 4) (v := .bool _) rfl rfl rfl ⟨by have : l = l' := list_ext hl (fun j hj => hall j (by omega)); simp [this], K⟩
theorem c85 {G G' : Nat → Prop} (A A' : Option Addr) (cap cap' : Nat) (l l' : List Sub) (w : World) (hA : SubsAt G w A l) (hB : SubsAt G' w A' l') : Calls Tryz.prog 85 #[.slice A l.length cap, .slice A' l'.length cap'] w fun e w' => e = .returned (.bool (decide (l = l'))) ∧ New w w' := by
 by_cases hl : l.length = l'.length
 ·exact c85e A A' cap cap' l l' w hA hB hl
 ·exact c85n A A' cap cap' l l' w hA hB hl
theorem c53 {G G' : Nat → Prop} (a b : Fld) (va vb : Value) (w : World) (hA : RSubs G w va a.subs) (hB : RSubs G' w vb b.subs) : Calls Tryz.prog 53 #[.agg (a.cells va).toArray, .agg (b.cells vb).toArray] w fun e w' => e = .returned (.bool (decide (a = b))) ∧ New w w' := by
 obtain ⟨W, hW⟩ : ∃ W, W = w := ⟨_, rfl⟩
 subst hW
 have K : New W W := Kp.refl _ _
 obtain ⟨ta, a0, a1, la⟩ := a
 obtain ⟨tb, b0, b1, lb⟩ := b
 obtain ⟨A, capA, rfl, hA⟩ := hA
 obtain ⟨B, capB, rfl, hB⟩ := hB
 simp only [Fld.cells]
 refine enter (n := 24) Tryz.func53 rfl rfl (by simp) ?_
 refine wp_seq (c_reg (s_box rfl rfl rfl rfl ?_))
 intro b2 w1 eb2 o2 kb2 zb2
 have gb2 : W.heap.size ≤ b2 := by have := K.size; omega
 replace K := K.trans kb2
 refine s_box rfl rfl rfl rfl ?_
 intro b3 w2 eb3 o3 kb3 zb3
 have gb3 : W.heap.size ≤ b3 := by have := K.size; omega
 replace o2 := o2.kp kb3 (fun e => e)
 replace K := K.trans kb3
 refine asB rfl rfl rfl (w_nil (then_n (wp_seq (c_reg (s_fa fi53_0 rfl rfl rfl (s_ld1 (v := .string _) on9 rfl rfl rfl (o2.get 0 rfl) (s_fa fi53_0 rfl rfl rfl (s_ld1 (v := .string _) on9 rfl rfl rfl (o3.get 0 rfl) (s_seq rfl rfl rfl rfl rfl rfl ?_)))))))))
 refine mvB rfl rfl rfl ?_
 refine w_split (t := 10) rfl ?_ ?_
 ·intro hs10
  (try simp only [Q1, Q2, Q3, Q4, Q5] at hs10)
  refine s_fa fi53_1 rfl rfl rfl (s_ldA ag48 rfl rfl rfl (o2.cells.part 1 2 (cs' := [_, _]) rfl) rfl (s_fa fi53_1 rfl rfl rfl (s_ldA ag48 rfl rfl rfl (o3.cells.part 1 2 (cs' := [_, _]) rfl) rfl (s_eq48 rfl rfl rfl rfl rfl rfl (pTB rfl rfl rfl rfl rfl (mvB rfl rfl rfl ?_))))))
  refine w_split (t := 17) rfl ?_ ?_
  ·intro hs17
   (try simp only [Q1, Q2, Q3, Q4, Q5] at hs17)
   refine s_fa fi53_2 rfl rfl rfl (s_ld1 (v := .slice _ _ _) on51 rfl rfl rfl (o2.get 3 rfl) (s_fa fi53_2 rfl rfl rfl (s_ld1 (v := .slice _ _ _) on51 rfl rfl rfl (o3.get 3 rfl) (s_call2 go85 rfl (c85 A B capA capB la lb _ (hA.kp K (fun _ _ _ e => e)) (hB.kp K (fun _ _ _ e => e))) rfl rfl rfl rfl ?_))))
   rintro _ w3 ⟨rfl, kw3⟩
   replace o2 := o2.kp kw3 (fun e => e)
   replace o3 := o3.kp kw3 (fun e => e)
   replace K := K.trans kw3
   refine ⟨_, rfl, ?_⟩
   refine pTB rfl rfl rfl rfl rfl (asB rfl rfl rfl (w_nil (then_n (wp_ret ?_))))
   refine ret1 (t := 4) (v := .bool _) rfl rfl rfl ⟨by simp_all [Fld.mk.injEq], K⟩
  ·intro hs17
   (try simp only [Q1, Q2, Q3, Q4, Q5] at hs17)
   refine st_skip rfl (st_skip rfl (st_skip rfl (st_skip rfl (st_skip rfl (pFB rfl rfl rfl rfl rfl (asB rfl rfl rfl (w_nil (then_n (wp_ret ?_)))))))))
   refine ret1 (t := 4) (v := .bool _) rfl rfl rfl ⟨by simp_all [Fld.mk.injEq], K⟩
 ·intro hs10
  (try simp only [Q1, Q2, Q3, Q4, Q5] at hs10)
  refine st_skip rfl (st_skip rfl (st_skip rfl (st_skip rfl (st_skip rfl (pFB rfl rfl rfl rfl rfl (mvB rfl rfl rfl (st_skip rfl (st_skip rfl (st_skip rfl ?_)))))))))
  refine st_skip rfl (st_skip rfl (pFB rfl rfl rfl rfl rfl (asB rfl rfl rfl (w_nil (then_n (wp_ret ?_))))))
  refine ret1 (t := 4) (v := .bool _) rfl rfl rfl ⟨by simp_all [Fld.mk.injEq], K⟩
theorem c46 {G G' : Nat → Prop} (a b : Fld) (va vb : Value) (w : World) (hA : RSubs G w va a.subs) (hB : RSubs G' w vb b.subs) : Calls Tryz.prog 46 #[.agg (a.cells va).toArray, .agg (b.cells vb).toArray] w fun e w' => e = .returned (.bool (decide (a = b))) ∧ New w w' := by
 obtain ⟨W, hW⟩ : ∃ W, W = w := ⟨_, rfl⟩
 subst hW
 have K : New W W := Kp.refl _ _
 obtain ⟨ta, a0, a1, la⟩ := a
 obtain ⟨tb, b0, b1', lb⟩ := b
 obtain ⟨A, capA, rfl, hA⟩ := hA
 obtain ⟨B, capB, rfl, hB⟩ := hB
 have hla : la.length ≤ 140737488355328 := hA.1
 simp only [Fld.cells]
 refine enter (n := 45) Tryz.func46 rfl rfl (by simp) ?_
 refine wp_seq (c_reg (s_box rfl rfl rfl rfl ?_))
 intro b2 w1 eb2 o2 kb2 zb2
 have gb2 : W.heap.size ≤ b2 := by have := K.size; omega
 replace K := K.trans kb2
 refine s_box rfl rfl rfl rfl ?_
 intro b3 w2 eb3 o3 kb3 zb3
 have gb3 : W.heap.size ≤ b3 := by have := K.size; omega
 replace o2 := o2.kp kb3 (fun e => e)
 replace K := K.trans kb3
 refine asB rfl rfl rfl (w_nil (then_n (wp_seq (wp_seq (c_reg (s_fa fi53_0 rfl rfl rfl (s_ld1 (v := .string _) on9 rfl rfl rfl (o2.get 0 rfl) (s_fa fi53_0 rfl rfl rfl (s_ld1 (v := .string _) on9 rfl rfl rfl (o3.get 0 rfl) ?_)))))))))
 refine s_sne rfl rfl rfl rfl rfl rfl (mvB rfl rfl rfl ?_)
 refine w_split (t := 11) rfl ?_ ?_
 ·intro hs11
  (try simp only [Q1, Q2, Q3, Q4, Q5] at hs11)
  refine st_skip rfl (st_skip rfl (st_skip rfl (st_skip rfl (st_skip rfl (pTB rfl rfl rfl rfl rfl (mvB rfl rfl rfl (st_skip rfl (st_skip rfl (st_skip rfl ?_)))))))))
  refine st_skip rfl (st_skip rfl (st_skip rfl (st_skip rfl (pTB rfl rfl rfl rfl rfl (w_nil (then_n (c_T rfl rfl (wp_seq (c_reg ?_)))))))))
  refine asB rfl rfl rfl (w_nil (then_n (wp_ret (then_r ?_))))
  refine ret1 (t := 4) (v := .bool _) rfl rfl rfl ⟨by rw [decide_eq_false (by intro e; simp only [Fld.mk.injEq] at e; obtain ⟨e1, e2, e3, e4⟩ := e; subst e1; subst e2; subst e3; subst e4; simp_all)], K⟩
 ·intro hs11
  (try simp only [Q1, Q2, Q3, Q4, Q5] at hs11)
  refine s_fa fi53_1 rfl rfl rfl (s_ldA ag48 rfl rfl rfl (o2.cells.part 1 2 (cs' := [_, _]) rfl) rfl (s_fa fi53_1 rfl rfl rfl (s_ldA ag48 rfl rfl rfl (o3.cells.part 1 2 (cs' := [_, _]) rfl) rfl (s_ne48 rfl rfl rfl rfl rfl rfl (pFB rfl rfl rfl rfl rfl (mvB rfl rfl rfl ?_))))))
  refine w_split (t := 18) rfl ?_ ?_
  ·intro hs18
   (try simp only [Q1, Q2, Q3, Q4, Q5] at hs18)
   refine st_skip rfl (st_skip rfl (st_skip rfl (st_skip rfl (st_skip rfl (st_skip rfl (st_skip rfl (pTB rfl rfl rfl rfl rfl (w_nil (then_n ?_)))))))))
   refine c_T rfl rfl (wp_seq (c_reg (asB rfl rfl rfl (w_nil (then_n (wp_ret (then_r ?_)))))))
   refine ret1 (t := 4) (v := .bool _) rfl rfl rfl ⟨by rw [decide_eq_false (by intro e; simp only [Fld.mk.injEq] at e; obtain ⟨e1, e2, e3, e4⟩ := e; subst e1; subst e2; subst e3; subst e4; simp_all)], K⟩
  ·intro hs18
   (try simp only [Q1, Q2, Q3, Q4, Q5] at hs18)
   refine s_fa fi53_2 rfl rfl rfl (s_ld1 (v := .slice _ _ _) on51 rfl rfl rfl (o2.get 3 rfl) (s_lenL Tryz.underlying51 rfl rfl rfl (s_fa fi53_2 rfl rfl rfl (s_ld1 (v := .slice _ _ _) on51 rfl rfl rfl (o3.get 3 rfl) (s_lenL Tryz.underlying51 rfl rfl rfl (s_ne rfl rfl rfl rfl rfl rfl (pFB rfl rfl rfl rfl rfl (w_nil (then_n ?_)))))))))
   refine c_if rfl rfl ?_ ?_
   ·intro ht26
    (try simp only [Q1, Q2, Q3, Q4, Q5] at ht26)
    refine wp_seq (c_reg (asB rfl rfl rfl (w_nil (then_n (wp_ret (then_r ?_))))))
    refine ret1 (t := 4) (v := .bool _) rfl rfl rfl ⟨by rw [decide_eq_false (by intro e; simp only [Fld.mk.injEq] at e; obtain ⟨e1, e2, e3, e4⟩ := e; subst e1; subst e2; subst e3; subst e4; simp_all)], K⟩
   ·intro ht26
    (try simp only [Q1, Q2, Q3, Q4, Q5] at ht26)
    have hle : la.length = lb.length := by omega
    refine wp_skip (then_n (wp_seq (wp_seq (c_reg (asI rfl rfl rfl (w_nil (then_n (wp_block ?_))))))))
    refine c_loop (fun m f w => ∃ g k, m = la.length - k ∧ k ≤ la.length ∧ (∀ j, j < k → la[j]? = lb[j]?) ∧ f = (upd (upd (upd g 2 (.pointer (some ⟨b2, 0, none⟩))) 3 (.pointer (some ⟨b3, 0, none⟩))) 5 (.int .i64 (k : Nat))) ∧ Own w b2 53 [.string ta, .int .u8 a0, .int .u8 a1, .slice A la.length capA] ∧ Own w b3 53 [.string tb, .int .u8 b0, .int .u8 b1', .slice B lb.length capB] ∧ New W w) (la.length) ⟨_, 0, by omega, by omega, fun j hj => by omega, (upd_keep' (upd_keep' (upd_keep' rfl rfl) rfl) rfl), o2, o3, K⟩ ?_
    clear K o2 o3
    rintro m _ w0 ⟨g, k, rfl, hk, hall, rfl, o2, o3, K⟩
    have hA0 := hA.kp K (fun _ _ _ e => e)
    have hB0 := hB.kp K (fun _ _ _ e => e)
    refine wp_seq (wp_seq (c_reg (mvI rfl rfl rfl (s_fa fi53_2 rfl rfl rfl (s_ld1 (v := .slice _ _ _) on51 rfl rfl rfl (o2.get 3 rfl) (s_lenL Tryz.underlying51 rfl rfl rfl (s_lss rfl rfl rfl rfl rfl rfl (w_nil (then_n ?_)))))))))
    refine c_if rfl rfl ?_ ?_
    ·intro ht31
     (try simp only [Q1, Q2, Q3, Q4, Q5] at ht31)
     have hlt : k < la.length := by omega
     have hlt' : k < lb.length := by omega
     obtain ⟨p, hpA, _, hp⟩ := hA0.2 k _ (List.getElem?_eq_getElem hlt)
     obtain ⟨q, hqA, _, hq⟩ := hB0.2 k _ (List.getElem?_eq_getElem hlt')
     subst hpA hqA
     refine wp_skip (then_n (wp_seq (wp_block (wp_seq ?_))))
     refine c_draw' (fun S f w => New w0 w ∧ f 2 = .pointer (some ⟨b2, 0, none⟩) ∧ f 3 = .pointer (some ⟨b3, 0, none⟩) ∧ f 5 = .int .i64 (k : Nat) ∧ (S 0 = true → f 34 = .pointer (some (Addr.add ⟨b2, 0, none⟩ 3))) ∧ (S 1 = true → f 35 = .slice (some p) la.length capA) ∧ (S 2 = true → f 36 = .int .i64 (k : Nat)) ∧ (S 3 = true → f 37 = .pointer (some (p.add (k * 2)))) ∧ (S 4 = true → f 38 = .agg la[k].cells.toArray) ∧ (S 5 = true → f 39 = .pointer (some (Addr.add ⟨b3, 0, none⟩ 3))) ∧ (S 6 = true → f 40 = .slice (some q) lb.length capB) ∧ (S 7 = true → f 41 = .int .i64 (k : Nat)) ∧ (S 8 = true → f 42 = .pointer (some (q.add (k * 2)))) ∧ (S 9 = true → f 43 = .agg lb[k].cells.toArray) ∧ (S 10 = true → f 44 = .bool (!decide (la[k] = lb[k]))) ∧ True) (by kernel_rfl) ⟨(Kp.refl _ _).drew, rfl, rfl, rfl, (fun h => by cases h), (fun h => by cases h), (fun h => by cases h), (fun h => by cases h), (fun h => by cases h), (fun h => by cases h), (fun h => by cases h), (fun h => by cases h), (fun h => by cases h), (fun h => by cases h), (fun h => by cases h), trivial⟩ ?_ ?_
     ·intro i o ho S f w hd hI
      obtain ⟨kR, l2, l3, l5, r0, r1, r2, r3, r4, r5, r6, r7, r8, r9, r10, -⟩ := hI
      match i, ho with
      | 0, ho =>
       cases ho
       obtain ⟨g, rfl⟩ : ∃ g, f = upd (g) 2 (.pointer (some ⟨b2, 0, none⟩)) := ⟨f, upd_keep' (rfl) l2⟩
       have o2 := o2.kp kR (fun e => e)
       have o3 := o3.kp kR (fun e => e)
       refine s_fa fi53_2 rfl rfl rfl (w_nil ?_)
       exact ⟨_, rfl, kR, l2, l3, l5, (fun _ => rfl), r1, r2, r3, r4, r5, r6, r7, r8, r9, r10, trivial⟩
      | 1, ho =>
       cases ho
       have e34 := r0 (hd ⟨0, .data⟩ (by simp) rfl)
       obtain ⟨g, rfl⟩ : ∃ g, f = upd (g) 34 (.pointer (some (Addr.add ⟨b2, 0, none⟩ 3))) := ⟨f, upd_keep' (rfl) e34⟩
       have o2 := o2.kp kR (fun e => e)
       have o3 := o3.kp kR (fun e => e)
       refine s_ld1 (v := .slice _ _ _) on51 rfl rfl rfl (o2.get 3 rfl) (w_nil ?_)
       exact ⟨_, rfl, kR, l2, l3, l5, r0, (fun _ => rfl), r2, r3, r4, r5, r6, r7, r8, r9, r10, trivial⟩
      | 2, ho =>
       cases ho
       obtain ⟨g, rfl⟩ : ∃ g, f = upd (g) 5 (.int .i64 (k : Nat)) := ⟨f, upd_keep' (rfl) l5⟩
       have o2 := o2.kp kR (fun e => e)
       have o3 := o3.kp kR (fun e => e)
       refine mvI rfl rfl rfl (w_nil ?_)
       exact ⟨_, rfl, kR, l2, l3, l5, r0, r1, (fun _ => rfl), r3, r4, r5, r6, r7, r8, r9, r10, trivial⟩
      | 3, ho =>
       cases ho
       have e35 := r1 (hd ⟨1, .data⟩ (by simp) rfl)
       have e36 := r2 (hd ⟨2, .data⟩ (by simp) rfl)
       obtain ⟨g, rfl⟩ : ∃ g, f = upd (upd (g) 35 (.slice (some p) la.length capA)) 36 (.int .i64 (k : Nat)) := ⟨f, upd_keep' (upd_keep' (rfl) e35) e36⟩
       have o2 := o2.kp kR (fun e => e)
       have o3 := o3.kp kR (fun e => e)
       refine s_iaE el51 rfl rfl rfl rfl rfl rfl (by omega) (w_nil ?_)
       exact ⟨_, rfl, kR, l2, l3, l5, r0, r1, r2, (fun _ => rfl), r4, r5, r6, r7, r8, r9, r10, trivial⟩
      | 4, ho =>
       cases ho
       have e37 := r3 (hd ⟨3, .data⟩ (by simp) rfl)
       obtain ⟨g, rfl⟩ : ∃ g, f = upd (g) 37 (.pointer (some (p.add (k * 2)))) := ⟨f, upd_keep' (rfl) e37⟩
       have o2 := o2.kp kR (fun e => e)
       have o3 := o3.kp kR (fun e => e)
       refine s_ldA ag50 rfl rfl rfl (hp.kp kR (fun e => e)) rfl (w_nil ?_)
       exact ⟨_, rfl, kR, l2, l3, l5, r0, r1, r2, r3, (fun _ => rfl), r5, r6, r7, r8, r9, r10, trivial⟩
      | 5, ho =>
       cases ho
       obtain ⟨g, rfl⟩ : ∃ g, f = upd (g) 3 (.pointer (some ⟨b3, 0, none⟩)) := ⟨f, upd_keep' (rfl) l3⟩
       have o2 := o2.kp kR (fun e => e)
       have o3 := o3.kp kR (fun e => e)
       refine s_fa fi53_2 rfl rfl rfl (w_nil ?_)
       exact ⟨_, rfl, kR, l2, l3, l5, r0, r1, r2, r3, r4, (fun _ => rfl), r6, r7, r8, r9, r10, trivial⟩
      | 6, ho =>
       cases ho
       have e39 := r5 (hd ⟨5, .data⟩ (by simp) rfl)
       obtain ⟨g, rfl⟩ : ∃ g, f = upd (g) 39 (.pointer (some (Addr.add ⟨b3, 0, none⟩ 3))) := ⟨f, upd_keep' (rfl) e39⟩
       have o2 := o2.kp kR (fun e => e)
       have o3 := o3.kp kR (fun e => e)
       refine s_ld1 (v := .slice _ _ _) on51 rfl rfl rfl (o3.get 3 rfl) (w_nil ?_)
       exact ⟨_, rfl, kR, l2, l3, l5, r0, r1, r2, r3, r4, r5, (fun _ => rfl), r7, r8, r9, r10, trivial⟩
      | 7, ho =>
       cases ho
       obtain ⟨g, rfl⟩ : ∃ g, f = upd (g) 5 (.int .i64 (k : Nat)) := ⟨f, upd_keep' (rfl) l5⟩
       have o2 := o2.kp kR (fun e => e)
       have o3 := o3.kp kR (fun e => e)
       refine mvI rfl rfl rfl (w_nil ?_)
       exact ⟨_, rfl, kR, l2, l3, l5, r0, r1, r2, r3, r4, r5, r6, (fun _ => rfl), r8, r9, r10, trivial⟩
      | 8, ho =>
       cases ho
       have e40 := r6 (hd ⟨6, .data⟩ (by simp) rfl)
       have e41 := r7 (hd ⟨7, .data⟩ (by simp) rfl)
       obtain ⟨g, rfl⟩ : ∃ g, f = upd (upd (g) 40 (.slice (some q) lb.length capB)) 41 (.int .i64 (k : Nat)) := ⟨f, upd_keep' (upd_keep' (rfl) e40) e41⟩
       have o2 := o2.kp kR (fun e => e)
       have o3 := o3.kp kR (fun e => e)
       refine s_iaE el51 rfl rfl rfl rfl rfl rfl (by omega) (w_nil ?_)
       exact ⟨_, rfl, kR, l2, l3, l5, r0, r1, r2, r3, r4, r5, r6, r7, (fun _ => rfl), r9, r10, trivial⟩
      | 9, ho =>
       cases ho
       have e42 := r8 (hd ⟨8, .data⟩ (by simp) rfl)
       obtain ⟨g, rfl⟩ : ∃ g, f = upd (g) 42 (.pointer (some (q.add (k * 2)))) := ⟨f, upd_keep' (rfl) e42⟩
       have o2 := o2.kp kR (fun e => e)
       have o3 := o3.kp kR (fun e => e)
       refine s_ldA ag50 rfl rfl rfl (hq.kp kR (fun e => e)) rfl (w_nil ?_)
       exact ⟨_, rfl, kR, l2, l3, l5, r0, r1, r2, r3, r4, r5, r6, r7, r8, (fun _ => rfl), r10, trivial⟩
      | 10, ho =>
       cases ho
       have e38 := r4 (hd ⟨4, .data⟩ (by simp) rfl)
       have e43 := r9 (hd ⟨9, .data⟩ (by simp) rfl)
       obtain ⟨g, rfl⟩ : ∃ g, f = upd (upd (g) 38 (.agg la[k].cells.toArray)) 43 (.agg lb[k].cells.toArray) := ⟨f, upd_keep' (upd_keep' (rfl) e38) e43⟩
       have o2 := o2.kp kR (fun e => e)
       have o3 := o3.kp kR (fun e => e)
       refine s_ne50 rfl rfl rfl rfl rfl sub_ne (w_nil ?_)
       exact ⟨_, rfl, kR, l2, l3, l5, r0, r1, r2, r3, r4, r5, r6, r7, r8, r9, (fun _ => rfl), trivial⟩
      | k + 11, ho => exact absurd ho (by simp)
     ·intro S f w3 hS hI
      obtain ⟨kR, l2, l3, l5, r0, r1, r2, r3, r4, r5, r6, r7, r8, r9, r10, -⟩ := hI
      obtain ⟨g, rfl⟩ : ∃ g, f = upd (upd (upd (upd (g) 2 (.pointer (some ⟨b2, 0, none⟩))) 3 (.pointer (some ⟨b3, 0, none⟩))) 5 (.int .i64 (k : Nat))) 44 (.bool (!decide (la[k] = lb[k]))) := ⟨f, upd_keep' (upd_keep' (upd_keep' (upd_keep' (rfl) l2) l3) l5) (r10 (hS 10 (by decide)))⟩
      clear hS l2 l3 l5 r0 r1 r2 r3 r4 r5 r6 r7 r8 r9 r10
      replace o2 := o2.kp kR (fun e => e)
      replace o3 := o3.kp kR (fun e => e)
      replace K := K.trans kR
      refine then_n ?_
      refine c_if rfl rfl ?_ ?_
      ·intro ht44
       (try simp only [Q1, Q2, Q3, Q4, Q5] at ht44)
       refine wp_seq (c_reg (asB rfl rfl rfl (w_nil (then_n (wp_ret (inb_r (then_r (then_r (inb_r ?_)))))))))
       refine then_r ?_
       refine ret1 (t := 4) (v := .bool _) rfl rfl rfl ⟨by rw [decide_eq_false (by intro e; simp only [Fld.mk.injEq] at e; obtain ⟨_, _, _, e⟩ := e; subst e; simp at ht44)], K⟩
      ·intro ht44
       (try simp only [Q1, Q2, Q3, Q4, Q5] at ht44)
       refine wp_skip (inb_n (then_n (c_reg (mvI rfl rfl rfl (s_add rfl rfl rfl rfl rfl (w64 (by omega)) (asI rfl rfl rfl (w_nil (then_n ?_))))))))
       exact ⟨la.length - (k + 1), _, by omega, rfl, _, k + 1, rfl, by omega, fun j hj => by by_cases e : j = k; subst e; simpa [hlt, hlt'] using ht44; exact hall j (by omega), (upd_keep' (upd_keep' (upd_keep' rfl rfl) rfl) rfl), o2, o3, K⟩
    ·intro ht31
     (try simp only [Q1, Q2, Q3, Q4, Q5] at ht31)
     refine wp_exit (then_x (then_x (inb_x (then_n (wp_seq (c_reg (asB rfl rfl rfl (w_nil (then_n ?_)))))))))
     refine wp_ret ?_
     refine ret1 (t := 4) (v := .bool _) rfl rfl rfl ⟨by have : la = lb := list_ext (by omega) (fun j hj => hall j (by omega)); simp_all [Fld.mk.injEq], K⟩
theorem c18 {G G' : Nat → Prop} (A B : Option Addr) (capA capB : Nat) (la lb : List Fld) (w : World) (hA : FldsAt G w A la) (hB : FldsAt G' w B lb) : Calls Tryz.prog 18 #[.slice A la.length capA, .slice B lb.length capB] w fun e w' => e = .returned (.bool (decide (la = lb))) ∧ New w w' := by
 obtain ⟨W, hW⟩ : ∃ W, W = w := ⟨_, rfl⟩
 subst hW
 have K : New W W := Kp.refl _ _
 have hla : la.length ≤ 140737488355328 := hA.1
 refine enter (n := 27) Tryz.func18 rfl rfl (by simp) ?_
 refine wp_seq (c_reg (asB rfl rfl rfl (w_nil (then_n (wp_seq (wp_seq (c_reg (s_mv (v := .slice _ _ _) rfl rfl rfl (s_lenL Tryz.underlying22 rfl rfl rfl ?_)))))))))
 refine s_mv (v := .slice _ _ _) rfl rfl rfl (s_lenL Tryz.underlying22 rfl rfl rfl (s_ne rfl rfl rfl rfl rfl rfl (w_nil (then_n ?_))))
 refine c_if rfl rfl ?_ ?_
 ·intro ht10
  (try simp only [Q1, Q2, Q3, Q4, Q5] at ht10)
  refine wp_seq (c_reg (asB rfl rfl rfl (w_nil (then_n (wp_ret (then_r ?_))))))
  refine ret1 (t := 4) (v := .bool _) rfl rfl rfl ⟨by rw [decide_eq_false (by intro e; subst e; simp at ht10)], K⟩
 ·intro ht10
  (try simp only [Q1, Q2, Q3, Q4, Q5] at ht10)
  refine wp_skip (then_n (wp_seq (wp_seq (c_reg (asI rfl rfl rfl (w_nil (then_n (wp_block ?_))))))))
  refine c_loop (fun m f w => ∃ g k, m = la.length - k ∧ k ≤ la.length ∧ (∀ j, j < k → la[j]? = lb[j]?) ∧ f = (upd (upd (upd g 0 (.slice A la.length capA)) 1 (.slice B lb.length capB)) 5 (.int .i64 (k : Nat))) ∧ New W w) (la.length) ⟨_, 0, by omega, by omega, fun j hj => by omega, (upd_keep' (upd_keep' (upd_keep' rfl rfl) rfl) rfl), K⟩ ?_
  clear K
  rintro m _ w0 ⟨g, k, rfl, hk, hall, rfl, K⟩
  have hA0 := hA.kp K (fun _ _ _ e => e)
  have hB0 := hB.kp K (fun _ _ _ e => e)
  refine wp_seq (wp_seq (c_reg (mvI rfl rfl rfl (s_mv (v := .slice _ _ _) rfl rfl rfl (s_lenL Tryz.underlying22 rfl rfl rfl (s_lss rfl rfl rfl rfl rfl rfl (w_nil (then_n ?_))))))))
  refine c_if rfl rfl ?_ ?_
  ·intro ht14
   (try simp only [Q1, Q2, Q3, Q4, Q5] at ht14)
   have hlt : k < la.length := by omega
   have hlt' : k < lb.length := by omega
   obtain ⟨p, va, hpA, _, hp, hva⟩ := hA0.2 k _ (List.getElem?_eq_getElem hlt)
   obtain ⟨q, vb, hqA, _, hq, hvb⟩ := hB0.2 k _ (List.getElem?_eq_getElem hlt')
   subst hpA hqA
   refine wp_skip (then_n (wp_seq (wp_block (wp_seq ?_))))
   refine c_draw' (fun S f w => New w0 w ∧ f 0 = .slice (some p) la.length capA ∧ f 1 = .slice (some q) lb.length capB ∧ f 5 = .int .i64 (k : Nat) ∧ (S 0 = true → f 17 = .slice (some p) la.length capA) ∧ (S 1 = true → f 18 = .int .i64 (k : Nat)) ∧ (S 2 = true → f 19 = .pointer (some (p.add (k * 4)))) ∧ (S 3 = true → f 20 = .agg (la[k].cells va).toArray) ∧ (S 4 = true → f 21 = .slice (some q) lb.length capB) ∧ (S 5 = true → f 22 = .int .i64 (k : Nat)) ∧ (S 6 = true → f 23 = .pointer (some (q.add (k * 4)))) ∧ (S 7 = true → f 24 = .agg (lb[k].cells vb).toArray) ∧ (S 8 = true → f 25 = .bool (decide (la[k] = lb[k]))) ∧ (S 9 = true → f 26 = .bool (!decide (la[k] = lb[k]))) ∧ True) (by kernel_rfl) ⟨(Kp.refl _ _).drew, rfl, rfl, rfl, (fun h => by cases h), (fun h => by cases h), (fun h => by cases h), (fun h => by cases h), (fun h => by cases h), (fun h => by cases h), (fun h => by cases h), (fun h => by cases h), (fun h => by cases h), (fun h => by cases h), trivial⟩ ?_ ?_
   ·intro i o ho S f w hd hI
    obtain ⟨kR, l0, l1, l5, r0, r1, r2, r3, r4, r5, r6, r7, r8, r9, -⟩ := hI
    match i, ho with
    | 0, ho =>
     cases ho
     obtain ⟨g, rfl⟩ : ∃ g, f = upd (g) 0 (.slice (some p) la.length capA) := ⟨f, upd_keep' (rfl) l0⟩
     refine s_mv (v := .slice _ _ _) rfl rfl rfl (w_nil ?_)
     exact ⟨_, rfl, kR, l0, l1, l5, (fun _ => rfl), r1, r2, r3, r4, r5, r6, r7, r8, r9, trivial⟩
    | 1, ho =>
     cases ho
     obtain ⟨g, rfl⟩ : ∃ g, f = upd (g) 5 (.int .i64 (k : Nat)) := ⟨f, upd_keep' (rfl) l5⟩
     refine mvI rfl rfl rfl (w_nil ?_)
     exact ⟨_, rfl, kR, l0, l1, l5, r0, (fun _ => rfl), r2, r3, r4, r5, r6, r7, r8, r9, trivial⟩
    | 2, ho =>
     cases ho
     have e17 := r0 (hd ⟨0, .data⟩ (by simp) rfl)
     have e18 := r1 (hd ⟨1, .data⟩ (by simp) rfl)
     obtain ⟨g, rfl⟩ : ∃ g, f = upd (upd (g) 17 (.slice (some p) la.length capA)) 18 (.int .i64 (k : Nat)) := ⟨f, upd_keep' (upd_keep' (rfl) e17) e18⟩
     refine s_iaE el22 rfl rfl rfl rfl rfl rfl (by omega) (w_nil ?_)
     exact ⟨_, rfl, kR, l0, l1, l5, r0, r1, (fun _ => rfl), r3, r4, r5, r6, r7, r8, r9, trivial⟩
    | 3, ho =>
     cases ho
     have e19 := r2 (hd ⟨2, .data⟩ (by simp) rfl)
     obtain ⟨g, rfl⟩ : ∃ g, f = upd (g) 19 (.pointer (some (p.add (k * 4)))) := ⟨f, upd_keep' (rfl) e19⟩
     refine s_ldA ag53 rfl rfl rfl (hp.kp kR (fun e => e)) rfl (w_nil ?_)
     exact ⟨_, rfl, kR, l0, l1, l5, r0, r1, r2, (fun _ => rfl), r4, r5, r6, r7, r8, r9, trivial⟩
    | 4, ho =>
     cases ho
     obtain ⟨g, rfl⟩ : ∃ g, f = upd (g) 1 (.slice (some q) lb.length capB) := ⟨f, upd_keep' (rfl) l1⟩
     refine s_mv (v := .slice _ _ _) rfl rfl rfl (w_nil ?_)
     exact ⟨_, rfl, kR, l0, l1, l5, r0, r1, r2, r3, (fun _ => rfl), r5, r6, r7, r8, r9, trivial⟩
    | 5, ho =>
     cases ho
     obtain ⟨g, rfl⟩ : ∃ g, f = upd (g) 5 (.int .i64 (k : Nat)) := ⟨f, upd_keep' (rfl) l5⟩
     refine mvI rfl rfl rfl (w_nil ?_)
     exact ⟨_, rfl, kR, l0, l1, l5, r0, r1, r2, r3, r4, (fun _ => rfl), r6, r7, r8, r9, trivial⟩
    | 6, ho =>
     cases ho
     have e21 := r4 (hd ⟨4, .data⟩ (by simp) rfl)
     have e22 := r5 (hd ⟨5, .data⟩ (by simp) rfl)
     obtain ⟨g, rfl⟩ : ∃ g, f = upd (upd (g) 21 (.slice (some q) lb.length capB)) 22 (.int .i64 (k : Nat)) := ⟨f, upd_keep' (upd_keep' (rfl) e21) e22⟩
     refine s_iaE el22 rfl rfl rfl rfl rfl rfl (by omega) (w_nil ?_)
     exact ⟨_, rfl, kR, l0, l1, l5, r0, r1, r2, r3, r4, r5, (fun _ => rfl), r7, r8, r9, trivial⟩
    | 7, ho =>
     cases ho
     have e23 := r6 (hd ⟨6, .data⟩ (by simp) rfl)
     obtain ⟨g, rfl⟩ : ∃ g, f = upd (g) 23 (.pointer (some (q.add (k * 4)))) := ⟨f, upd_keep' (rfl) e23⟩
     refine s_ldA ag53 rfl rfl rfl (hq.kp kR (fun e => e)) rfl (w_nil ?_)
     exact ⟨_, rfl, kR, l0, l1, l5, r0, r1, r2, r3, r4, r5, r6, (fun _ => rfl), r8, r9, trivial⟩
    | 8, ho =>
     cases ho
     have e20 := r3 (hd ⟨3, .data⟩ (by simp) rfl)
     have e24 := r7 (hd ⟨7, .data⟩ (by simp) rfl)
     obtain ⟨g, rfl⟩ : ∃ g, f = upd (upd (g) 20 (.agg (la[k].cells va).toArray)) 24 (.agg (lb[k].cells vb).toArray) := ⟨f, upd_keep' (upd_keep' (rfl) e20) e24⟩
     refine s_call2 go46 rfl (c46 la[k] lb[k] va vb _ (hva.kp kR (fun _ _ _ e => e)) (hvb.kp kR (fun _ _ _ e => e))) rfl rfl rfl rfl ?_
     rintro _ w1 ⟨rfl, kw1⟩
     replace kR := kR.trans kw1
     refine ⟨_, rfl, ?_⟩
     refine w_nil ?_
     exact ⟨_, rfl, kR, l0, l1, l5, r0, r1, r2, r3, r4, r5, r6, r7, (fun _ => rfl), r9, trivial⟩
    | 9, ho =>
     cases ho
     have e25 := r8 (hd ⟨8, .data⟩ (by simp) rfl)
     obtain ⟨g, rfl⟩ : ∃ g, f = upd (g) 25 (.bool (decide (la[k] = lb[k]))) := ⟨f, upd_keep' (rfl) e25⟩
     refine s_not rfl rfl rfl (w_nil ?_)
     exact ⟨_, rfl, kR, l0, l1, l5, r0, r1, r2, r3, r4, r5, r6, r7, r8, (fun _ => rfl), trivial⟩
    | k + 10, ho => exact absurd ho (by simp)
   ·intro S f w1 hS hI
    obtain ⟨kR, l0, l1, l5, r0, r1, r2, r3, r4, r5, r6, r7, r8, r9, -⟩ := hI
    obtain ⟨g, rfl⟩ : ∃ g, f = upd (upd (upd (upd (g) 0 (.slice (some p) la.length capA)) 1 (.slice (some q) lb.length capB)) 5 (.int .i64 (k : Nat))) 26 (.bool (!decide (la[k] = lb[k]))) := ⟨f, upd_keep' (upd_keep' (upd_keep' (upd_keep' (rfl) l0) l1) l5) (r9 (hS 9 (by decide)))⟩
    clear hS l0 l1 l5 r0 r1 r2 r3 r4 r5 r6 r7 r8 r9
    replace K := K.trans kR
    refine then_n ?_
    refine c_if rfl rfl ?_ ?_
    ·intro ht26
     (try simp only [Q1, Q2, Q3, Q4, Q5] at ht26)
     refine wp_seq (c_reg (asB rfl rfl rfl (w_nil (then_n (wp_ret (inb_r (then_r (then_r (inb_r ?_)))))))))
     refine then_r ?_
     refine ret1 (t := 4) (v := .bool _) rfl rfl rfl ⟨by rw [decide_eq_false (by intro e; subst e; simp at ht26)], K⟩
    ·intro ht26
     (try simp only [Q1, Q2, Q3, Q4, Q5] at ht26)
     refine wp_skip (inb_n (then_n (c_reg (mvI rfl rfl rfl (s_add rfl rfl rfl rfl rfl (w64 (by omega)) (asI rfl rfl rfl (w_nil (then_n ?_))))))))
     exact ⟨la.length - (k + 1), _, by omega, rfl, _, k + 1, rfl, by omega, fun j hj => by by_cases e : j = k; subst e; simpa [hlt, hlt'] using ht26; exact hall j (by omega), (upd_keep' (upd_keep' (upd_keep' rfl rfl) rfl) rfl), K⟩
  ·intro ht14
   (try simp only [Q1, Q2, Q3, Q4, Q5] at ht14)
   refine wp_exit (then_x (then_x (inb_x (then_n (wp_seq (c_reg (asB rfl rfl rfl (w_nil (then_n ?_)))))))))
   refine wp_ret ?_
   refine ret1 (t := 4) (v := .bool _) rfl rfl rfl ⟨by have : la = lb := list_ext (by omega) (fun j hj => hall j (by omega)); simp [this], K⟩
theorem c6 {G G' : Nat → Prop} (x y : Int) (va vb : Value) (la lb : List Fld) (w : World) (hA : RFlds G w va la) (hB : RFlds G' w vb lb) : Calls Tryz.prog 6 #[.agg #[.int .i64 x, va], .agg #[.int .i64 y, vb]] w fun e w' => e = .returned (.bool (decide (x = y ∧ la = lb))) ∧ New w w' := by
 obtain ⟨W, hW⟩ : ∃ W, W = w := ⟨_, rfl⟩
 subst hW
 have K : New W W := Kp.refl _ _
 obtain ⟨A, capA, rfl, hA⟩ := hA
 obtain ⟨B, capB, rfl, hB⟩ := hB
 refine enter (n := 17) Tryz.func6 rfl rfl (by simp) ?_
 refine wp_seq (c_reg (s_box rfl rfl rfl rfl ?_))
 intro b2 w1 eb2 o2 kb2 zb2
 have gb2 : W.heap.size ≤ b2 := by have := K.size; omega
 replace K := K.trans kb2
 refine s_box rfl rfl rfl rfl ?_
 intro b3 w2 eb3 o3 kb3 zb3
 have gb3 : W.heap.size ≤ b3 := by have := K.size; omega
 replace o2 := o2.kp kb3 (fun e => e)
 replace K := K.trans kb3
 refine asB rfl rfl rfl (w_nil (then_n (wp_seq (c_reg (s_fa fi24_0 rfl rfl rfl (s_ld1 (v := .int .i64 _) on3 rfl rfl rfl (o2.get 0 rfl) (s_fa fi24_0 rfl rfl rfl (s_ld1 (v := .int .i64 _) on3 rfl rfl rfl (o3.get 0 rfl) (s_eq rfl rfl rfl rfl rfl rfl ?_)))))))))
 refine mvB rfl rfl rfl ?_
 refine w_split (t := 10) rfl ?_ ?_
 ·intro hs10
  (try simp only [Q1, Q2, Q3, Q4, Q5] at hs10)
  refine s_fa fi24_1 rfl rfl rfl (s_ld1 (v := .slice _ _ _) on22 rfl rfl rfl (o2.get 1 rfl) (s_fa fi24_1 rfl rfl rfl (s_ld1 (v := .slice _ _ _) on22 rfl rfl rfl (o3.get 1 rfl) (s_call2 go18 rfl (c18 A B capA capB la lb _ (hA.kp K (fun _ _ _ e => e)) (hB.kp K (fun _ _ _ e => e))) rfl rfl rfl rfl ?_))))
  rintro _ w3 ⟨rfl, kw3⟩
  replace o2 := o2.kp kw3 (fun e => e)
  replace o3 := o3.kp kw3 (fun e => e)
  replace K := K.trans kw3
  refine ⟨_, rfl, ?_⟩
  refine pTB rfl rfl rfl rfl rfl (asB rfl rfl rfl (w_nil (then_n (wp_ret ?_))))
  refine ret1 (t := 4) (v := .bool _) rfl rfl rfl ⟨by simp_all, K⟩
 ·intro hs10
  (try simp only [Q1, Q2, Q3, Q4, Q5] at hs10)
  refine st_skip rfl (st_skip rfl (st_skip rfl (st_skip rfl (st_skip rfl (pFB rfl rfl rfl rfl rfl (asB rfl rfl rfl (w_nil (then_n (wp_ret ?_)))))))))
  refine ret1 (t := 4) (v := .bool _) rfl rfl rfl ⟨by simp_all, K⟩
theorem c87 {G G' : Nat → Prop} (A B : Option Addr) (capA capB : Nat) (la lb : List Fld) (w : World) (hA : FldsAt G w A la) (hB : FldsAt G' w B lb) : Calls Tryz.prog 87 #[.slice A la.length capA, .slice B lb.length capB, .func (.func 53) #[] #[]] w fun e w' => e = .returned (.bool (decide (la = lb))) ∧ New w w' := by
 obtain ⟨W, hW⟩ : ∃ W, W = w := ⟨_, rfl⟩
 subst hW
 have K : New W W := Kp.refl _ _
 have hla : la.length ≤ 140737488355328 := hA.1
 refine enter (n := 32) Tryz.func87 rfl rfl (by simp) ?_
 refine wp_seq (c_reg (asB rfl rfl rfl (w_nil (then_n (wp_seq (wp_seq (c_reg (s_mv (v := .slice _ _ _) rfl rfl rfl (s_lenL Tryz.underlying22 rfl rfl rfl ?_)))))))))
 refine s_mv (v := .slice _ _ _) rfl rfl rfl (s_lenL Tryz.underlying22 rfl rfl rfl (s_ne rfl rfl rfl rfl rfl rfl (w_nil (then_n ?_))))
 refine c_if rfl rfl ?_ ?_
 ·intro ht14
  (try simp only [Q1, Q2, Q3, Q4, Q5] at ht14)
  refine wp_seq (c_reg (asB rfl rfl rfl (w_nil (then_n (wp_ret (then_r ?_))))))
  refine ret1 (t := 6) (v := .bool _) rfl rfl rfl ⟨by rw [decide_eq_false (by intro e; subst e; simp at ht14)], K⟩
 ·intro ht14
  (try simp only [Q1, Q2, Q3, Q4, Q5] at ht14)
  refine wp_skip (then_n (wp_seq (wp_seq (c_reg (s_mv (v := .slice _ _ _) rfl rfl rfl (s_lenL Tryz.underlying22 rfl rfl rfl (mvI rfl rfl rfl (w_nil (then_n ?_)))))))))
  refine wp_block ?_
  refine c_loop (fun m f w => ∃ g k, m = la.length - k ∧ k ≤ la.length ∧ (∀ j, j < k → la[j]? = lb[j]?) ∧ f = (upd (upd (upd (upd (upd (upd g 0 (.slice A la.length capA)) 1 (.slice B lb.length capB)) 2 (.func (.func 53) #[] #[])) 15 (.slice A la.length capA)) 16 (.int .i64 (la.length : Nat))) 17 (.int .i64 (k : Nat))) ∧ New W w) (la.length) ⟨_, 0, by omega, by omega, fun j hj => by omega, (upd_keep' (upd_keep' (upd_keep' (upd_keep' (upd_keep' (upd_keep' rfl rfl) rfl) rfl) rfl) rfl) rfl), K⟩ ?_
  clear K
  rintro m _ w0 ⟨g, k, rfl, hk, hall, rfl, K⟩
  refine wp_seq (c_reg (s_lss rfl rfl rfl rfl rfl rfl (w_nil (then_n (wp_seq ?_)))))
  refine c_if rfl rfl ?_ ?_
  ·intro ht18
   (try simp only [Q1, Q2, Q3, Q4, Q5] at ht18)
   have hlt : k < la.length := by omega
   have hlt' : k < lb.length := by omega
   obtain ⟨p, va, hpA, _, hp, Av, cv, rfl, hva⟩ := hA.2 k _ (List.getElem?_eq_getElem hlt)
   obtain ⟨q, vb, hqA, _, hq, Bv, dv, rfl, hvb⟩ := hB.2 k _ (List.getElem?_eq_getElem hlt')
   subst hpA hqA
   refine wp_skip (then_n (wp_seq (wp_block (wp_seq (c_reg (mvI rfl rfl rfl (s_iaE el22 rfl rfl rfl rfl rfl rfl (by omega) (s_ldA ag53 rfl rfl rfl (hp.kp K (fun e => e)) rfl (s_alloc z53 rfl rfl ?_)))))))))
   intro b8 w1 eb8 o8 kb8 zb8
   have gb8 : W.heap.size ≤ b8 := by have := K.size; omega
   replace K := K.trans kb8
   refine asI rfl rfl rfl (s_st 0 sz53 (v := .agg _) rfl rfl rfl rfl rfl rfl rfl o8 rfl rfl rfl ?_)
   clear o8; intro w2 o8 ksw2 zsw2
   replace K := K.trans' ksw2 (fun i hi (e : i = b8) => by omega)
   refine w_nil (then_n (wp_seq (c_reg (s_mv (v := .slice _ _ _) rfl rfl rfl (mvI rfl rfl rfl (s_iaE el22 rfl rfl rfl rfl rfl rfl (by omega) (s_ldA ag53 rfl rfl rfl (hq.kp K (fun e => e)) rfl (s_alloc z53 rfl rfl ?_))))))))
   intro b9 w3 eb9 o9 kb9 zb9
   have gb9 : W.heap.size ≤ b9 := by have := K.size; omega
   replace o8 := o8.kp kb9 (fun e => e)
   replace K := K.trans kb9
   refine s_st 0 sz53 (v := .agg _) rfl rfl rfl rfl rfl rfl rfl o9 rfl rfl rfl ?_
   clear o9; intro w4 o9 ksw4 zsw4
   replace o8 := o8.kp ksw4 (show ¬ (_ = _) by omega)
   replace K := K.trans' ksw4 (fun i hi (e : i = b9) => by omega)
   refine w_nil (then_n (wp_seq (c_reg (s_mv (v := _) rfl rfl rfl (s_ldA ag53 rfl rfl rfl o8.cells rfl (s_ldA ag53 rfl rfl rfl o9.cells rfl ?_))))))
   refine s_callv2 go53 rfl rfl rfl (c53 la[k] lb[k] _ _ _ ⟨Av, cv, rfl, hva.kp K (fun _ _ _ e => e)⟩ ⟨Bv, dv, rfl, hvb.kp K (fun _ _ _ e => e)⟩) rfl rfl rfl rfl ?_
   rintro _ w5 ⟨rfl, kw5⟩
   replace o8 := o8.kp kw5 (fun e => e)
   replace o9 := o9.kp kw5 (fun e => e)
   replace K := K.trans kw5
   refine ⟨_, rfl, ?_⟩
   refine s_not rfl rfl rfl (w_nil (then_n ?_))
   refine c_if rfl rfl ?_ ?_
   ·intro ht30
    (try simp only [Q1, Q2, Q3, Q4, Q5] at ht30)
    refine wp_seq (c_reg (asB rfl rfl rfl (w_nil (then_n (wp_ret (inb_r (then_r (then_r (inb_r ?_)))))))))
    refine then_r ?_
    refine ret1 (t := 6) (v := .bool _) rfl rfl rfl ⟨by rw [decide_eq_false (by intro e; subst e; simp at ht30)], K⟩
   ·intro ht30
    (try simp only [Q1, Q2, Q3, Q4, Q5] at ht30)
    refine wp_skip (inb_n (then_n (c_reg (s_add rfl rfl rfl rfl rfl (w64 (by omega)) (mvI rfl rfl rfl (w_nil (then_n ?_)))))))
    exact ⟨la.length - (k + 1), _, by omega, rfl, _, k + 1, rfl, by omega, fun j hj => by by_cases e : j = k; subst e; simpa [hlt, hlt'] using ht30; exact hall j (by omega), (upd_keep' (upd_keep' (upd_keep' (upd_keep' (upd_keep' (upd_keep' rfl rfl) rfl) rfl) rfl) rfl) rfl), K⟩
  ·intro ht18
   (try simp only [Q1, Q2, Q3, Q4, Q5] at ht18)
   refine wp_exit (then_x (then_x (inb_x (then_n (wp_seq (c_reg (asB rfl rfl rfl (w_nil (then_n ?_)))))))))
   refine wp_ret ?_
   refine ret1 (t := 6) (v := .bool _) rfl rfl rfl ⟨by have : la = lb := list_ext (by omega) (fun j hj => hall j (by omega)); simp [this], K⟩
theorem c56 {G G' : Nat → Prop} (A B : Option Addr) (capA capB : Nat) (la lb : List Fld) (w : World) (hA : FldsAt G w A la) (hB : FldsAt G' w B lb) : Calls Tryz.prog 56 #[.slice A la.length capA, .slice B lb.length capB] w fun e w' => e = .returned (.bool (decide (la = lb))) ∧ New w w' := by
 obtain ⟨W, hW⟩ : ∃ W, W = w := ⟨_, rfl⟩
 subst hW
 have K : New W W := Kp.refl _ _
 refine enter (n := 8) Tryz.func56 rfl rfl (by simp) ?_
 refine wp_seq (c_reg (asB rfl rfl rfl (w_nil (then_n (wp_seq (c_reg (s_mv (v := .slice _ _ _) rfl rfl rfl (s_mv (v := .slice _ _ _) rfl rfl rfl (s_call3 go87 rfl (c87 A B capA capB la lb _ (hA.kp K (fun _ _ _ e => e)) (hB.kp K (fun _ _ _ e => e))) rfl rfl rfl rfl rfl rfl ?_)))))))))
 rintro _ w1 ⟨rfl, kw1⟩
 replace K := K.trans kw1
 refine ⟨_, rfl, ?_⟩
 refine asB rfl rfl rfl (w_nil (then_n (wp_ret ?_)))
 refine ret1 (t := 4) (v := .bool _) rfl rfl rfl ⟨rfl, K⟩
end
section
theorem c64a {G : Nat → Prop} (a : Addr) (cap : Nat) (l : List Sub) (w : World) (hA : SubsAt G w (some a) l) (hlen : l.length ≤ 1000000) : Calls Tryz.prog 64 #[.slice (some a) l.length cap] w fun e w' => ∃ v, e = .returned v ∧ RSubs (fun i => w.heap.size ≤ i) w' v l ∧ New w w' := by
 obtain ⟨W, hW⟩ : ∃ W, W = w := ⟨_, rfl⟩
 subst hW
 have K : New W W := Kp.refl _ _
 refine enter (n := 8) Tryz.func64 rfl rfl (by simp) ?_
 refine wp_seq (c_reg (s_as (v := .slice _ _ _) rfl rfl rfl (w_nil (then_n (wp_seq (wp_seq (c_reg (s_mv (v := .slice _ _ _) rfl rfl rfl (s_eqnil (t := false) Tryz.underlying51 rfl rfl rfl rfl rfl rfl ?_)))))))))
 refine w_nil (then_n (c_F rfl rfl (wp_skip (then_n (wp_seq (c_reg (s_bs0 el51 rfl ?_)))))))
 intro b5 w1 eb5 rowb5 kb5 zb5
 replace K := K.trans kb5
 have hW5 : W.heap.size ≤ b5 := by omega
 refine s_mv (v := .slice _ _ _) rfl rfl rfl (s_appR el51 rfl rfl rfl rfl rfl rfl rowb5 (flat_of_subs (hA.kp K (fun _ _ _ e => e))) (by rw [flat_len _ 2 Sub.len]) (subs_all1 l) (by omega) ?_)
 intro v' w2 r' row2 k2 hr2
 replace K := K.trans' k2 (fun i hi (e : some i = some b5) => by have := Option.some.inj e; omega)
 refine s_as (v := v') rfl rfl rfl (w_nil (then_n (wp_ret ?_)))
 refine ret1 (t := 2) (v := v') rfl rfl rfl ⟨_, rfl, ?_, K⟩
 rw [Nat.zero_add, List.nil_append] at row2
 refine (rsubs_of_row row2 hlen).weak (fun i hi => ?_)
 rcases hr2 with rfl | rfl <;> (have := Option.some.inj hi; omega)
theorem c64n {G : Nat → Prop} (cap : Nat) (l : List Sub) (w : World) (hA : SubsAt G w none l) : Calls Tryz.prog 64 #[.slice none l.length cap] w fun e w' => ∃ v, e = .returned v ∧ RSubs (fun i => w.heap.size ≤ i) w' v l ∧ New w w' := by
 obtain ⟨W, hW⟩ : ∃ W, W = w := ⟨_, rfl⟩
 subst hW
 have K : New W W := Kp.refl _ _
 refine enter (n := 8) Tryz.func64 rfl rfl (by simp) ?_
 refine wp_seq (c_reg (s_as (v := .slice _ _ _) rfl rfl rfl (w_nil (then_n (wp_seq (wp_seq (c_reg (s_mv (v := .slice _ _ _) rfl rfl rfl (s_eqnil (t := true) Tryz.underlying51 rfl rfl rfl rfl rfl rfl ?_)))))))))
 refine w_nil (then_n (c_T rfl rfl (wp_seq (c_reg (s_as (v := .slice _ _ _) rfl rfl rfl (w_nil (then_n (wp_ret (then_r ?_)))))))))
 refine ret1 (t := 2) (v := .slice none 0 0) rfl rfl rfl ⟨_, rfl, ?_, K⟩
 have h0 : l = [] := by
  cases l with
  | nil => rfl
  | cons s l => obtain ⟨p, hp, _⟩ := hA.2 0 s rfl; cases hp
 subst h0; exact ⟨none, 0, rfl, by simp, fun i s h => by simp at h⟩
theorem c64 {G : Nat → Prop} (v : Value) (l : List Sub) (w : World) (hA : RSubs G w v l) (hlen : l.length ≤ 1000000) : Calls Tryz.prog 64 #[v] w fun e w' => ∃ v, e = .returned v ∧ RSubs (fun i => w.heap.size ≤ i) w' v l ∧ New w w' := by
 obtain ⟨A, cap, rfl, hA⟩ := hA
 cases A with
 | none => exact c64n cap l w hA
 | some a => exact c64a a cap l w hA hlen
theorem c29 {G : Nat → Prop} (A : Option Addr) (cap : Nat) (l : List Fld) (w : World) (hA : FldsAt G w A l) (hlen : l.length ≤ 1000) (hsub : ∀ f ∈ l, f.subs.length ≤ 1000000) : Calls Tryz.prog 29 #[.slice A l.length cap] w fun e w' => ∃ v r, e = .returned v ∧ FRow w.heap.size w' v l r ∧ New w w' := by
 obtain ⟨W, hW⟩ : ∃ W, W = w := ⟨_, rfl⟩
 subst hW
 have K : New W W := Kp.refl _ _
 refine enter (n := 22) Tryz.func29 rfl rfl (by simp) ?_
 refine wp_seq (c_reg (s_as (v := .slice _ _ _) rfl rfl rfl (w_nil (then_n (wp_seq (c_reg (s_as (v := .slice _ _ _) rfl rfl rfl (w_nil (then_n ?_)))))))))
 refine wp_seq (wp_seq (c_reg (s_mv (v := .slice _ _ _) rfl rfl rfl (s_lenL Tryz.underlying22 rfl rfl rfl (mvI rfl rfl rfl (w_nil (then_n (wp_block ?_))))))))
 refine c_loop (fun m f w => ∃ g k vo r, m = l.length - k ∧ k ≤ l.length ∧ f = (upd (upd (upd (upd g 3 (vo)) 6 (.slice A l.length cap)) 7 (.int .i64 (l.length : Nat))) 8 (.int .i64 (k : Nat))) ∧ FRow W.heap.size w vo (l.take k) r ∧ New W w) (l.length) ⟨_, 0, .slice none 0 0, none, by omega, by omega, (upd_keep' (upd_keep' (upd_keep' (upd_keep' rfl rfl) rfl) rfl) rfl), FRow.nil _ _, K⟩ ?_
 clear K
 rintro m _ w0 ⟨g, k, vo, r, rfl, hk, rfl, hrow, K⟩
 have K0 : New w0 w0 := Kp.refl _ _
 refine wp_seq (c_reg (s_lss rfl rfl rfl rfl rfl rfl (w_nil (then_n (wp_seq ?_)))))
 refine c_if rfl rfl ?_ ?_
 ·intro ht9
  (try simp only [Q1, Q2, Q3, Q4, Q5] at ht9)
  have hlt : k < l.length := by omega
  obtain ⟨p, vs, hpA, _, hp, As, cs, rfl, hs⟩ := hA.2 k _ (List.getElem?_eq_getElem hlt)
  subst hpA
  refine wp_skip (then_n (wp_seq (wp_block (wp_seq (c_reg (s_iaE el22 rfl rfl rfl rfl rfl rfl (by omega) (s_ldA ag53 rfl rfl rfl (hp.kp K (fun e => e)) rfl (s_alloc z53 rfl rfl ?_))))))))
  intro b5 w1 eb5 o5 kb5 zb5
  have gb5_K : W.heap.size ≤ b5 := by have := K.size; omega
  have gb5_K0 : w0.heap.size ≤ b5 := by have := K0.size; omega
  replace K := K.trans kb5
  replace K0 := K0.trans kb5
  refine s_st 0 sz53 (v := .agg _) rfl rfl rfl rfl rfl rfl rfl o5 rfl rfl rfl ?_
  clear o5; intro w2 o5 ksw2 zsw2
  replace K := K.trans' ksw2 (fun i hi (e : i = b5) => by omega)
  replace K0 := K0.trans' ksw2 (fun i hi (e : i = b5) => by omega)
  refine w_nil (then_n (wp_seq (c_reg (s_fa fi53_2 rfl rfl rfl (s_ld1 (v := .slice _ _ _) on51 rfl rfl rfl (o5.get 3 rfl) ?_)))))
  refine s_call1 go64 rfl (c64 (.slice As l[k].subs.length cs) l[k].subs _ ⟨As, cs, rfl, hs.kp K (fun _ _ _ e => e)⟩ (hsub _ (List.getElem_mem hlt))) rfl rfl ?_
  rintro _ w3 ⟨_, rfl, ⟨Ac, cc, rfl, hvc⟩, kc⟩
  replace o5 := o5.kp kc (fun e => e)
  replace K := K.trans kc
  replace K0 := K0.trans kc
  refine ⟨_, rfl, ?_⟩
  refine s_fa fi53_2 rfl rfl rfl (s_st 3 sz51 (v := .slice _ _ _) rfl rfl rfl rfl rfl rfl rfl o5 rfl rfl rfl ?_)
  clear o5; intro w4 o5 ksw4 zsw4
  replace hvc := hvc.kp ksw4 (fun i hi hg (e : i = b5) => by (try dsimp only at hg); omega)
  replace K := K.trans' ksw4 (fun i hi (e : i = b5) => by omega)
  replace K0 := K0.trans' ksw4 (fun i hi (e : i = b5) => by omega)
  refine w_nil (then_n (c_reg (s_mv (v := vo) rfl rfl rfl (s_ldA ag53 rfl rfl rfl o5.cells rfl (s_bs1E el22 rfl (by decide) rfl rfl rfl rfl ?_)))))
  intro b18 w5 eb18 o18 kb18 zb18
  have gb18_K : W.heap.size ≤ b18 := by have := K.size; omega
  have gb18_K0 : w0.heap.size ≤ b18 := by have := K0.size; omega
  replace o5 := o5.kp kb18 (fun e => e)
  replace hvc := hvc.kp kb18 (fun _ _ _ e => e)
  replace K := K.trans kb18
  replace K0 := K0.trans kb18
  have hrow1 := hrow.kp K0 (fun _ _ _ e => e)
  obtain ⟨xs, hxs, hnx⟩ := hrow1.parts (by have := K.size; omega)
  refine s_appR (news := flatF [(l[k], .slice Ac l[k].subs.length cc)]) el22 rfl rfl rfl rfl rfl rfl hxs o18.cells (by rw [flatF_len]; rfl) (flatF_all1 (w := w5) (G := fun _ => _) (by intro p hp; simp only [List.mem_singleton] at hp; subst hp; exact ⟨Ac, cc, rfl, hvc⟩)) (by rw [List.length_take]; omega) ?_
  intro v' wA r' rowA kA hrA
  have hF := hnx [(l[k], .slice Ac l[k].subs.length cc)] wA v' r' rowA kA hrA (by intro p hp; simp only [List.mem_singleton] at hp; subst hp; exact ⟨Ac, cc, rfl, hvc.weak (fun i hi => ⟨by (try dsimp only at hi); have := K.size; omega, fun e => by (try dsimp only at hi); have := hrow.rlt _ e.symm; omega⟩)⟩)
  replace K := K.trans' kA (fun i hi e => by have := hrow.rge _ e.symm; omega)
  refine s_as (v := v') rfl rfl rfl (w_nil (inb_n (then_n (c_reg (s_add rfl rfl rfl rfl rfl (w64 (by omega)) (mvI rfl rfl rfl (w_nil (then_n ?_))))))))
  have e1 : l.take (k + 1) = l.take k ++ [l[k]] := by rw [List.take_succ_eq_append_getElem hlt]
  exact ⟨l.length - (k + 1), _, by omega, rfl, _, k + 1, v', r', rfl, by omega, (upd_keep' (upd_keep' (upd_keep' (upd_keep' rfl rfl) rfl) rfl) rfl), by rw [e1]; exact hF, K⟩
 ·intro ht9
  (try simp only [Q1, Q2, Q3, Q4, Q5] at ht9)
  refine wp_exit (then_x (then_x (inb_x (then_n (wp_seq (c_reg (s_mv (v := vo) rfl rfl rfl (s_as (v := vo) rfl rfl rfl (w_nil ?_)))))))))
  refine then_n (wp_ret ?_)
  have hk2 : k = l.length := by omega
  subst hk2; rw [List.take_length] at hrow
  refine ret1 (t := 2) (v := vo) rfl rfl rfl ⟨_, _, rfl, hrow, K⟩
theorem c52 {G G' : Nat → Prop} (A B : Option Addr) (capA capB : Nat) (la lb : List Fld) (w : World) (hA : FldsAt G w A la) (hB : FldsAt G' w B lb) (hla : la.length ≤ 1000) (hlb : lb.length ≤ 1000) : Calls Tryz.prog 52 #[.slice A la.length capA, .slice B lb.length capB] w fun e w' => ∃ v, e = .returned v ∧ Tab w.heap.size w' v la.length lb.length ∧ New w w' := by
 obtain ⟨W, hW⟩ : ∃ W, W = w := ⟨_, rfl⟩
 subst hW
 have K : New W W := Kp.refl _ _
 refine enter (n := 87) Tryz.func52 rfl rfl (by simp) ?_
 refine wp_seq (c_reg (s_as (v := .slice _ _ _) rfl rfl rfl (w_nil (then_n (wp_seq (c_reg (s_mv (v := .slice _ _ _) rfl rfl rfl (s_lenL Tryz.underlying22 rfl rfl rfl (s_add rfl rfl rfl rfl rfl (w64 (by omega)) ?_)))))))))
 refine s_mk (l := la.length + 1) (c := la.length + 1) el92 z94 rfl rfl rfl rfl rfl rfl rfl (Nat.le_refl _) (by omega) ?_
 intro bo w1 ebo oo kbo zbo
 replace K := K.trans kbo
 have hbo : W.heap.size ≤ bo := by omega
 refine s_as (v := .slice _ _ _) rfl rfl rfl (w_nil (then_n (wp_seq (wp_seq (c_reg (s_mv (v := .slice _ _ _) rfl rfl rfl (s_lenL Tryz.underlying22 rfl rfl rfl (asI rfl rfl rfl (w_nil ?_)))))))))
 refine then_n (wp_block ?_)
 refine c_loop (fun m f w => ∃ g d os, d = m ∧ d ≤ la.length + 1 ∧ f = (upd (upd (upd (upd g 0 (.slice A la.length capA)) 1 (.slice B lb.length capB)) 5 (.slice (some ⟨bo, 0, none⟩) (la.length + 1) (la.length + 1))) 6 (.int .i64 ((d : Nat) - 1 : Int))) ∧ Own w bo 94 os ∧ os.length = la.length + 1 ∧ (∀ j, d ≤ j → j ≤ la.length → TRow W.heap.size (fun q => q ≠ bo) w (os) j lb.length ((la.length : Int) - j)) ∧ New W w) (la.length + 1) ⟨_, la.length + 1, List.replicate (la.length + 1) (.slice none 0 0), rfl, by omega, (upd_keep' (upd_keep' (upd_keep' (upd_keep' rfl rfl) rfl) rfl) (iv (by omega))), oo, by simp, fun j h1 h2 => by omega, K⟩ ?_
 clear K oo
 rintro m _ w0 ⟨g, d, os, rfl, hd, rfl, oo, hos, hrows, K⟩
 refine wp_seq (wp_seq (c_reg (mvI rfl rfl rfl (s_geq rfl rfl rfl rfl rfl rfl (w_nil (then_n ?_))))))
 refine c_if rfl rfl ?_ ?_
 ·intro ht15
  (try simp only [Q1, Q2, Q3, Q4, Q5] at ht15)
  obtain ⟨i, rfl⟩ : ∃ i, d = i + 1 := ⟨d - 1, by omega⟩
  refine wp_skip (then_n (wp_seq (wp_block (wp_seq (c_reg (s_mv (v := .slice _ _ _) rfl rfl rfl (mvI rfl rfl rfl (s_mv (v := .slice _ _ _) rfl rfl rfl (s_lenL Tryz.underlying22 rfl rfl rfl ?_)))))))))
  refine s_add rfl rfl rfl rfl rfl (w64 (by omega)) (s_mk (l := lb.length + 1) (c := lb.length + 1) el94 z3 rfl rfl rfl rfl rfl rfl rfl (Nat.le_refl _) (by omega) ?_)
  intro rb w2 erb orb krb zrb
  have hrb : W.heap.size ≤ rb := by have := K.size; omega
  have hne : rb ≠ bo := by have := oo.lt; omega
  replace oo := oo.kp krb (fun e => e)
  have hrows := fun j h1 h2 => ((hrows j h1 h2).weak (H' := fun q => q ≠ bo ∧ q < rb) (fun q hq hn => ⟨hn, by omega⟩)).kp krb (fun _ _ _ _ e => e)
  replace K := K.trans krb
  rw [ints_rep] at orb
  refine s_iaE (j := i) el92 rfl rfl rfl rfl rfl (by omega) (by omega) (s_set (off := i * 1) sz94 rfl rfl rfl rfl rfl rfl rfl oo (by omega) ?_)
  intro w3 oo' ks zs
  clear oo; rw [Nat.mul_one] at oo'
  replace hrows := fun j h1 h2 => ((hrows j h1 h2).kp ks (fun _ _ _ h e => h.1 e)).set (v := .slice (some ⟨rb, 0, none⟩) (lb.length + 1) (lb.length + 1)) (show i ≠ j by omega)
  replace orb := orb.kp ks (fun e => hne e)
  replace K := K.trans' ks (fun q hq (e : q = bo) => by omega)
  refine w_nil (then_n (wp_seq (c_reg (s_mv (v := .slice _ _ _) rfl rfl rfl (s_lenL Tryz.underlying22 rfl rfl rfl (s_sub rfl rfl rfl rfl rfl (w64 (by omega)) (asI rfl rfl rfl (w_nil (then_n ?_)))))))))
  refine wp_block ?_
  refine c_loop (fun m f w => ∃ g e xs, e = m ∧ e ≤ lb.length ∧ f = (upd (upd (upd (upd (upd g 0 (.slice A la.length capA)) 1 (.slice B lb.length capB)) 5 (.slice (some ⟨bo, 0, none⟩) (la.length + 1) (la.length + 1))) 6 (.int .i64 ((i + 1 : Nat) - 1 : Int))) 7 (.int .i64 ((e : Nat) - 1 : Int))) ∧ Own w bo 94 (os.set i (.slice (some ⟨rb, 0, none⟩) (lb.length + 1) (lb.length + 1))) ∧ Own w rb 3 (ints xs) ∧ xs.length = lb.length + 1 ∧ (∀ x ∈ xs, 0 ≤ x ∧ x ≤ (la.length : Int) - i) ∧ (∀ j, i + 1 ≤ j → j ≤ la.length → TRow W.heap.size (fun q => q ≠ bo ∧ q < rb) w (os.set i (.slice (some ⟨rb, 0, none⟩) (lb.length + 1) (lb.length + 1))) j lb.length ((la.length : Int) - j)) ∧ New W w) (lb.length) ⟨_, lb.length, List.replicate (lb.length + 1) 0, rfl, by omega, (upd_keep' (upd_keep' (upd_keep' (upd_keep' (upd_keep' rfl rfl) rfl) rfl) (iv (by omega))) (iv (by omega))), oo', orb, by simp, (fun x hx => by have := List.eq_of_mem_replicate hx; subst this; constructor <;> omega), hrows, K⟩ ?_
  clear K orb oo' hrows
  rintro m _ w0 ⟨g, e, xs, rfl, he, rfl, oo1, orb, hxl, hxb, hrows, K⟩
  refine wp_seq (wp_seq (c_reg (mvI rfl rfl rfl (s_geq rfl rfl rfl rfl rfl rfl (mvB rfl rfl rfl ?_)))))
  refine w_split (t := 30) rfl ?_ ?_
  ·intro hs30
   (try simp only [Q1, Q2, Q3, Q4, Q5] at hs30)
   obtain ⟨e, rfl⟩ : ∃ e', e = e' + 1 := ⟨e - 1, by omega⟩
   refine mvI rfl rfl rfl (s_mv (v := .slice _ _ _) rfl rfl rfl (s_lenL Tryz.underlying22 rfl rfl rfl (s_lss rfl rfl rfl rfl rfl rfl (pTB rfl rfl rfl rfl rfl (w_nil (then_n ?_))))))
   refine c_if rfl rfl ?_ ?_
   ·intro ht35
    (try simp only [Q1, Q2, Q3, Q4, Q5] at ht35)
    have hi1 : i < la.length := by omega
    obtain ⟨p, va, hpA, _, hp, hva⟩ := hA.2 i _ (List.getElem?_eq_getElem hi1)
    obtain ⟨q, vb, hqA, _, hq, hvb⟩ := hB.2 e _ (List.getElem?_eq_getElem (by omega))
    subst hpA hqA
    refine wp_skip (then_n (wp_seq (wp_block (wp_seq ?_))))
    refine c_drawS (fun S f w => (S 8 = false → w = w0.drew) ∧ (S 8 = true → New w0 w) ∧ f 0 = .slice (some p) la.length capA ∧ f 1 = .slice (some q) lb.length capB ∧ f 5 = .slice (some ⟨bo, 0, none⟩) (la.length + 1) (la.length + 1) ∧ f 6 = .int .i64 ((i + 1 : Nat) - 1 : Int) ∧ f 7 = .int .i64 ((e + 1 : Nat) - 1 : Int) ∧ (S 0 = true → f 38 = .slice (some p) la.length capA) ∧ (S 1 = true → f 39 = .int .i64 ((i + 1 : Nat) - 1 : Int)) ∧ (S 2 = true → f 40 = .pointer (some (p.add (i * 4)))) ∧ (S 3 = true → f 41 = .agg (la[i].cells va).toArray) ∧ (S 4 = true → f 42 = .slice (some q) lb.length capB) ∧ (S 5 = true → f 43 = .int .i64 ((e + 1 : Nat) - 1 : Int)) ∧ (S 6 = true → f 44 = .pointer (some (q.add (e * 4)))) ∧ (S 7 = true → f 45 = .agg (lb[e].cells vb).toArray) ∧ (S 8 = true → f 46 = .bool (decide (la[i] = lb[e]))) ∧ True) (fun i => i) (rank_back (by kernel_rfl)) ⟨(fun _ => rfl), (fun h => by cases h), rfl, rfl, rfl, rfl, rfl, (fun h => by cases h), (fun h => by cases h), (fun h => by cases h), (fun h => by cases h), (fun h => by cases h), (fun h => by cases h), (fun h => by cases h), (fun h => by cases h), (fun h => by cases h), trivial⟩ ?_ ?_
    ·intro io o ho S f w hS hC hd hI
     obtain ⟨st0, st1, l0, l1, l5, l6, l7, r0, r1, r2, r3, r4, r5, r6, r7, r8, -⟩ := hI
     match io, ho with
     | 0, ho =>
      cases ho
      obtain ⟨g, rfl⟩ : ∃ g, f = upd (g) 0 (.slice (some p) la.length capA) := ⟨f, upd_keep' (rfl) l0⟩
      refine s_mv (v := .slice _ _ _) rfl rfl rfl (w_nil ?_)
      exact ⟨_, rfl, st0, st1, l0, l1, l5, l6, l7, (fun _ => rfl), r1, r2, r3, r4, r5, r6, r7, r8, trivial⟩
     | 1, ho =>
      cases ho
      obtain ⟨g, rfl⟩ : ∃ g, f = upd (g) 6 (.int .i64 ((i + 1 : Nat) - 1 : Int)) := ⟨f, upd_keep' (rfl) l6⟩
      refine mvI rfl rfl rfl (w_nil ?_)
      exact ⟨_, rfl, st0, st1, l0, l1, l5, l6, l7, r0, (fun _ => rfl), r2, r3, r4, r5, r6, r7, r8, trivial⟩
     | 2, ho =>
      cases ho
      have e38 := r0 (hd ⟨0, .data⟩ (by simp) rfl)
      have e39 := r1 (hd ⟨1, .data⟩ (by simp) rfl)
      obtain ⟨g, rfl⟩ : ∃ g, f = upd (upd (g) 38 (.slice (some p) la.length capA)) 39 (.int .i64 ((i + 1 : Nat) - 1 : Int)) := ⟨f, upd_keep' (upd_keep' (rfl) e38) e39⟩
      refine s_iaE (j := i) el22 rfl rfl rfl rfl rfl (by omega) (by omega) (w_nil ?_)
      exact ⟨_, rfl, st0, st1, l0, l1, l5, l6, l7, r0, r1, (fun _ => rfl), r3, r4, r5, r6, r7, r8, trivial⟩
     | 3, ho =>
      cases ho
      have q8 : S 8 = false := Q9 hS fun h => (hC 8 _ rfl h ⟨3, .data⟩ (by simp) rfl)
      have e40 := r2 (hd ⟨2, .data⟩ (by simp) rfl)
      obtain rfl := st0 q8
      have kd : New w0 w0.drew := (Kp.refl _ _).drew
      replace K := K.trans kd
      obtain ⟨g, rfl⟩ : ∃ g, f = upd (g) 40 (.pointer (some (p.add (i * 4)))) := ⟨f, upd_keep' (rfl) e40⟩
      refine s_ldA ag53 rfl rfl rfl (hp.kp K (fun e => e)) rfl (w_nil ?_)
      exact ⟨_, rfl, (fun _ => rfl), st1, l0, l1, l5, l6, l7, r0, r1, r2, (fun _ => rfl), r4, r5, r6, r7, r8, trivial⟩
     | 4, ho =>
      cases ho
      obtain ⟨g, rfl⟩ : ∃ g, f = upd (g) 1 (.slice (some q) lb.length capB) := ⟨f, upd_keep' (rfl) l1⟩
      refine s_mv (v := .slice _ _ _) rfl rfl rfl (w_nil ?_)
      exact ⟨_, rfl, st0, st1, l0, l1, l5, l6, l7, r0, r1, r2, r3, (fun _ => rfl), r5, r6, r7, r8, trivial⟩
     | 5, ho =>
      cases ho
      obtain ⟨g, rfl⟩ : ∃ g, f = upd (g) 7 (.int .i64 ((e + 1 : Nat) - 1 : Int)) := ⟨f, upd_keep' (rfl) l7⟩
      refine mvI rfl rfl rfl (w_nil ?_)
      exact ⟨_, rfl, st0, st1, l0, l1, l5, l6, l7, r0, r1, r2, r3, r4, (fun _ => rfl), r6, r7, r8, trivial⟩
     | 6, ho =>
      cases ho
      have e42 := r4 (hd ⟨4, .data⟩ (by simp) rfl)
      have e43 := r5 (hd ⟨5, .data⟩ (by simp) rfl)
      obtain ⟨g, rfl⟩ : ∃ g, f = upd (upd (g) 42 (.slice (some q) lb.length capB)) 43 (.int .i64 ((e + 1 : Nat) - 1 : Int)) := ⟨f, upd_keep' (upd_keep' (rfl) e42) e43⟩
      refine s_iaE (j := e) el22 rfl rfl rfl rfl rfl (by omega) (by omega) (w_nil ?_)
      exact ⟨_, rfl, st0, st1, l0, l1, l5, l6, l7, r0, r1, r2, r3, r4, r5, (fun _ => rfl), r7, r8, trivial⟩
     | 7, ho =>
      cases ho
      have q8 : S 8 = false := Q9 hS fun h => (hC 8 _ rfl h ⟨7, .data⟩ (by simp) rfl)
      have e44 := r6 (hd ⟨6, .data⟩ (by simp) rfl)
      obtain rfl := st0 q8
      have kd : New w0 w0.drew := (Kp.refl _ _).drew
      replace K := K.trans kd
      obtain ⟨g, rfl⟩ : ∃ g, f = upd (g) 44 (.pointer (some (q.add (e * 4)))) := ⟨f, upd_keep' (rfl) e44⟩
      refine s_ldA ag53 rfl rfl rfl (hq.kp K (fun e => e)) rfl (w_nil ?_)
      exact ⟨_, rfl, (fun _ => rfl), st1, l0, l1, l5, l6, l7, r0, r1, r2, r3, r4, r5, r6, (fun _ => rfl), r8, trivial⟩
     | 8, ho =>
      cases ho
      have q8 : S 8 = false := hS
      have e41 := r3 (hd ⟨3, .data⟩ (by simp) rfl)
      have e45 := r7 (hd ⟨7, .data⟩ (by simp) rfl)
      obtain rfl := st0 q8
      have kd : New w0 w0.drew := (Kp.refl _ _).drew
      replace K := K.trans kd
      obtain ⟨g, rfl⟩ : ∃ g, f = upd (upd (g) 41 (.agg (la[i].cells va).toArray)) 45 (.agg (lb[e].cells vb).toArray) := ⟨f, upd_keep' (upd_keep' (rfl) e41) e45⟩
      refine s_call2 go53 rfl (c53 la[i] lb[e] va vb _ (hva.kp K (fun _ _ _ e => e)) (hvb.kp K (fun _ _ _ e => e))) rfl rfl rfl rfl ?_
      rintro _ w1 ⟨rfl, kx0⟩
      have kx := kd.trans kx0
      refine ⟨_, rfl, ?_⟩
      refine w_nil ?_
      exact ⟨_, rfl, (fun h => absurd h (by simp [ins])), (fun _ => kx), l0, l1, l5, l6, l7, r0, r1, r2, r3, r4, r5, r6, r7, (fun _ => rfl), trivial⟩
     | k + 9, ho => exact absurd ho (by simp)
    ·intro S f w1 hS hI
     obtain ⟨st0, st1, l0, l1, l5, l6, l7, r0, r1, r2, r3, r4, r5, r6, r7, r8, -⟩ := hI
     obtain kE := st1 (hS 8 (by decide))
     obtain ⟨g, rfl⟩ : ∃ g, f = upd (upd (upd (upd (upd (upd (g) 0 (.slice (some p) la.length capA)) 1 (.slice (some q) lb.length capB)) 5 (.slice (some ⟨bo, 0, none⟩) (la.length + 1) (la.length + 1))) 6 (.int .i64 ((i + 1 : Nat) - 1 : Int))) 7 (.int .i64 ((e + 1 : Nat) - 1 : Int))) 46 (.bool (decide (la[i] = lb[e]))) := ⟨f, upd_keep' (upd_keep' (upd_keep' (upd_keep' (upd_keep' (upd_keep' (rfl) l0) l1) l5) l6) l7) (r8 (hS 8 (by decide)))⟩
     clear hS st0 st1 l0 l1 l5 l6 l7 r0 r1 r2 r3 r4 r5 r6 r7 r8
     replace K := K.trans kE
     replace oo1 := oo1.kp kE (fun e => e)
     replace orb := orb.kp kE (fun e => e)
     replace hrows := fun j h1 h2 => (hrows j h1 h2).kp kE (fun _ _ _ _ e => e)
     refine then_n ?_
     refine c_if rfl rfl ?_ ?_
     ·intro ht46
      (try simp only [Q1, Q2, Q3, Q4, Q5] at ht46)
      obtain ⟨rb', ys, hy1, hy2, hy3, hy4, hy5, hy6⟩ := hrows (i + 1) (by omega) (by omega)
      have hyk := hy4 ys[e + 1] (List.getElem_mem (by omega))
      have kd : New w1 w1.drew := (Kp.refl _ _).drew
      refine c_drawS (fun S f w => (S 16 = false → w = w1.drew) ∧ (S 16 = true → (Own w rb 3 ((ints xs).set (e * 1) (.int .i64 (ys[e + 1] + 1))) ∧ Kp (fun k => k = rb) w1 w)) ∧ f 0 = .slice (some p) la.length capA ∧ f 1 = .slice (some q) lb.length capB ∧ f 5 = .slice (some ⟨bo, 0, none⟩) (la.length + 1) (la.length + 1) ∧ f 6 = .int .i64 ((i + 1 : Nat) - 1 : Int) ∧ f 7 = .int .i64 ((e + 1 : Nat) - 1 : Int) ∧ (S 0 = true → f 47 = .slice (some ⟨bo, 0, none⟩) (la.length + 1) (la.length + 1)) ∧ (S 1 = true → f 48 = .int .i64 ((i + 1 : Nat) - 1 : Int)) ∧ (S 2 = true → f 49 = .pointer (some (Addr.add ⟨bo, 0, none⟩ (i * 1)))) ∧ (S 3 = true → f 50 = .slice (some ⟨rb, 0, none⟩) (lb.length + 1) (lb.length + 1)) ∧ (S 4 = true → f 51 = .int .i64 ((e + 1 : Nat) - 1 : Int)) ∧ (S 5 = true → f 52 = .slice (some ⟨bo, 0, none⟩) (la.length + 1) (la.length + 1)) ∧ (S 6 = true → f 53 = .int .i64 ((i + 1 : Nat) - 1 : Int)) ∧ (S 7 = true → f 54 = .int .i64 (((i + 1 : Nat) - 1 : Int) + 1)) ∧ (S 8 = true → f 55 = .pointer (some (Addr.add ⟨bo, 0, none⟩ ((i + 1) * 1)))) ∧ (S 9 = true → f 56 = .slice (some ⟨rb', 0, none⟩) (lb.length + 1) (lb.length + 1)) ∧ (S 10 = true → f 57 = .int .i64 ((e + 1 : Nat) - 1 : Int)) ∧ (S 11 = true → f 58 = .int .i64 (((e + 1 : Nat) - 1 : Int) + 1)) ∧ (S 12 = true → f 59 = .pointer (some (Addr.add ⟨rb', 0, none⟩ ((e + 1) * 1)))) ∧ (S 13 = true → f 60 = .int .i64 ys[e + 1]) ∧ (S 14 = true → f 61 = .int .i64 (ys[e + 1] + 1)) ∧ (S 15 = true → f 62 = .pointer (some (Addr.add ⟨rb, 0, none⟩ (e * 1)))) ∧ True) (fun i => i) (rank_back (by kernel_rfl)) ⟨(fun _ => rfl), (fun h => by cases h), rfl, rfl, rfl, rfl, rfl, (fun h => by cases h), (fun h => by cases h), (fun h => by cases h), (fun h => by cases h), (fun h => by cases h), (fun h => by cases h), (fun h => by cases h), (fun h => by cases h), (fun h => by cases h), (fun h => by cases h), (fun h => by cases h), (fun h => by cases h), (fun h => by cases h), (fun h => by cases h), (fun h => by cases h), (fun h => by cases h), trivial⟩ ?_ ?_
      ·intro io o ho S f w hS hC hd hI
       obtain ⟨st0, st1, l0, l1, l5, l6, l7, r0, r1, r2, r3, r4, r5, r6, r7, r8, r9, r10, r11, r12, r13, r14, r15, -⟩ := hI
       match io, ho with
       | 0, ho =>
        cases ho
        obtain ⟨g, rfl⟩ : ∃ g, f = upd (g) 5 (.slice (some ⟨bo, 0, none⟩) (la.length + 1) (la.length + 1)) := ⟨f, upd_keep' (rfl) l5⟩
        refine s_mv (v := .slice _ _ _) rfl rfl rfl (w_nil ?_)
        exact ⟨_, rfl, st0, st1, l0, l1, l5, l6, l7, (fun _ => rfl), r1, r2, r3, r4, r5, r6, r7, r8, r9, r10, r11, r12, r13, r14, r15, trivial⟩
       | 1, ho =>
        cases ho
        obtain ⟨g, rfl⟩ : ∃ g, f = upd (g) 6 (.int .i64 ((i + 1 : Nat) - 1 : Int)) := ⟨f, upd_keep' (rfl) l6⟩
        refine mvI rfl rfl rfl (w_nil ?_)
        exact ⟨_, rfl, st0, st1, l0, l1, l5, l6, l7, r0, (fun _ => rfl), r2, r3, r4, r5, r6, r7, r8, r9, r10, r11, r12, r13, r14, r15, trivial⟩
       | 2, ho =>
        cases ho
        have e47 := r0 (hd ⟨0, .data⟩ (by simp) rfl)
        have e48 := r1 (hd ⟨1, .data⟩ (by simp) rfl)
        obtain ⟨g, rfl⟩ : ∃ g, f = upd (upd (g) 47 (.slice (some ⟨bo, 0, none⟩) (la.length + 1) (la.length + 1))) 48 (.int .i64 ((i + 1 : Nat) - 1 : Int)) := ⟨f, upd_keep' (upd_keep' (rfl) e47) e48⟩
        refine s_iaE (j := i) el92 rfl rfl rfl rfl rfl (by omega) (by omega) (w_nil ?_)
        exact ⟨_, rfl, st0, st1, l0, l1, l5, l6, l7, r0, r1, (fun _ => rfl), r3, r4, r5, r6, r7, r8, r9, r10, r11, r12, r13, r14, r15, trivial⟩
       | 3, ho =>
        cases ho
        have q16 : S 16 = false := Q9 hS fun h => (hC 16 _ rfl h ⟨3, .phase⟩ (by simp) rfl)
        have e49 := r2 (hd ⟨2, .data⟩ (by simp) rfl)
        obtain rfl := st0 q16
        have kd : New w1 w1.drew := (Kp.refl _ _).drew
        replace K := K.trans kd
        obtain ⟨g, rfl⟩ : ∃ g, f = upd (g) 49 (.pointer (some (Addr.add ⟨bo, 0, none⟩ (i * 1)))) := ⟨f, upd_keep' (rfl) e49⟩
        refine s_ld1 (v := .slice _ _ _) on94 rfl rfl rfl (oo1.get (i * 1) (by rw [Nat.mul_one, List.getElem?_set_self (by omega)])) ?_
        refine w_nil ?_
        exact ⟨_, rfl, (fun _ => rfl), st1, l0, l1, l5, l6, l7, r0, r1, r2, (fun _ => rfl), r4, r5, r6, r7, r8, r9, r10, r11, r12, r13, r14, r15, trivial⟩
       | 4, ho =>
        cases ho
        obtain ⟨g, rfl⟩ : ∃ g, f = upd (g) 7 (.int .i64 ((e + 1 : Nat) - 1 : Int)) := ⟨f, upd_keep' (rfl) l7⟩
        refine mvI rfl rfl rfl (w_nil ?_)
        exact ⟨_, rfl, st0, st1, l0, l1, l5, l6, l7, r0, r1, r2, r3, (fun _ => rfl), r5, r6, r7, r8, r9, r10, r11, r12, r13, r14, r15, trivial⟩
       | 5, ho =>
        cases ho
        obtain ⟨g, rfl⟩ : ∃ g, f = upd (g) 5 (.slice (some ⟨bo, 0, none⟩) (la.length + 1) (la.length + 1)) := ⟨f, upd_keep' (rfl) l5⟩
        refine s_mv (v := .slice _ _ _) rfl rfl rfl (w_nil ?_)
        exact ⟨_, rfl, st0, st1, l0, l1, l5, l6, l7, r0, r1, r2, r3, r4, (fun _ => rfl), r6, r7, r8, r9, r10, r11, r12, r13, r14, r15, trivial⟩
       | 6, ho =>
        cases ho
        obtain ⟨g, rfl⟩ : ∃ g, f = upd (g) 6 (.int .i64 ((i + 1 : Nat) - 1 : Int)) := ⟨f, upd_keep' (rfl) l6⟩
        refine mvI rfl rfl rfl (w_nil ?_)
        exact ⟨_, rfl, st0, st1, l0, l1, l5, l6, l7, r0, r1, r2, r3, r4, r5, (fun _ => rfl), r7, r8, r9, r10, r11, r12, r13, r14, r15, trivial⟩
       | 7, ho =>
        cases ho
        have e53 := r6 (hd ⟨6, .data⟩ (by simp) rfl)
        obtain ⟨g, rfl⟩ : ∃ g, f = upd (g) 53 (.int .i64 ((i + 1 : Nat) - 1 : Int)) := ⟨f, upd_keep' (rfl) e53⟩
        refine s_add rfl rfl rfl rfl rfl (w64 (by omega)) (w_nil ?_)
        exact ⟨_, rfl, st0, st1, l0, l1, l5, l6, l7, r0, r1, r2, r3, r4, r5, r6, (fun _ => rfl), r8, r9, r10, r11, r12, r13, r14, r15, trivial⟩
       | 8, ho =>
        cases ho
        have e52 := r5 (hd ⟨5, .data⟩ (by simp) rfl)
        have e54 := r7 (hd ⟨7, .data⟩ (by simp) rfl)
        obtain ⟨g, rfl⟩ : ∃ g, f = upd (upd (g) 52 (.slice (some ⟨bo, 0, none⟩) (la.length + 1) (la.length + 1))) 54 (.int .i64 (((i + 1 : Nat) - 1 : Int) + 1)) := ⟨f, upd_keep' (upd_keep' (rfl) e52) e54⟩
        refine s_iaE (j := i + 1) el92 rfl rfl rfl rfl rfl (by omega) (by omega) (w_nil ?_)
        exact ⟨_, rfl, st0, st1, l0, l1, l5, l6, l7, r0, r1, r2, r3, r4, r5, r6, r7, (fun _ => rfl), r9, r10, r11, r12, r13, r14, r15, trivial⟩
       | 9, ho =>
        cases ho
        have q16 : S 16 = false := Q9 hS fun h => (hC 16 _ rfl h ⟨9, .phase⟩ (by simp) rfl)
        have e55 := r8 (hd ⟨8, .data⟩ (by simp) rfl)
        obtain rfl := st0 q16
        have kd : New w1 w1.drew := (Kp.refl _ _).drew
        replace K := K.trans kd
        obtain ⟨g, rfl⟩ : ∃ g, f = upd (g) 55 (.pointer (some (Addr.add ⟨bo, 0, none⟩ ((i + 1) * 1)))) := ⟨f, upd_keep' (rfl) e55⟩
        refine s_ld1 (v := .slice _ _ _) on94 rfl rfl rfl (oo1.get ((i + 1) * 1) (by rw [Nat.mul_one, List.getElem?_set_ne (by omega)]; rw [List.getElem?_set_ne (by omega)] at hy1; exact hy1)) ?_
        refine w_nil ?_
        exact ⟨_, rfl, (fun _ => rfl), st1, l0, l1, l5, l6, l7, r0, r1, r2, r3, r4, r5, r6, r7, r8, (fun _ => rfl), r10, r11, r12, r13, r14, r15, trivial⟩
       | 10, ho =>
        cases ho
        obtain ⟨g, rfl⟩ : ∃ g, f = upd (g) 7 (.int .i64 ((e + 1 : Nat) - 1 : Int)) := ⟨f, upd_keep' (rfl) l7⟩
        refine mvI rfl rfl rfl (w_nil ?_)
        exact ⟨_, rfl, st0, st1, l0, l1, l5, l6, l7, r0, r1, r2, r3, r4, r5, r6, r7, r8, r9, (fun _ => rfl), r11, r12, r13, r14, r15, trivial⟩
       | 11, ho =>
        cases ho
        have e57 := r10 (hd ⟨10, .data⟩ (by simp) rfl)
        obtain ⟨g, rfl⟩ : ∃ g, f = upd (g) 57 (.int .i64 ((e + 1 : Nat) - 1 : Int)) := ⟨f, upd_keep' (rfl) e57⟩
        refine s_add rfl rfl rfl rfl rfl (w64 (by omega)) (w_nil ?_)
        exact ⟨_, rfl, st0, st1, l0, l1, l5, l6, l7, r0, r1, r2, r3, r4, r5, r6, r7, r8, r9, r10, (fun _ => rfl), r12, r13, r14, r15, trivial⟩
       | 12, ho =>
        cases ho
        have e56 := r9 (hd ⟨9, .data⟩ (by simp) rfl)
        have e58 := r11 (hd ⟨11, .data⟩ (by simp) rfl)
        obtain ⟨g, rfl⟩ : ∃ g, f = upd (upd (g) 56 (.slice (some ⟨rb', 0, none⟩) (lb.length + 1) (lb.length + 1))) 58 (.int .i64 (((e + 1 : Nat) - 1 : Int) + 1)) := ⟨f, upd_keep' (upd_keep' (rfl) e56) e58⟩
        refine s_iaE (j := e + 1) el94 rfl rfl rfl rfl rfl (by omega) (by omega) (w_nil ?_)
        exact ⟨_, rfl, st0, st1, l0, l1, l5, l6, l7, r0, r1, r2, r3, r4, r5, r6, r7, r8, r9, r10, r11, (fun _ => rfl), r13, r14, r15, trivial⟩
       | 13, ho =>
        cases ho
        have q16 : S 16 = false := Q9 hS fun h => (hC 16 _ rfl h ⟨13, .phase⟩ (by simp) rfl)
        have e59 := r12 (hd ⟨12, .data⟩ (by simp) rfl)
        obtain rfl := st0 q16
        have kd : New w1 w1.drew := (Kp.refl _ _).drew
        replace K := K.trans kd
        obtain ⟨g, rfl⟩ : ∃ g, f = upd (g) 59 (.pointer (some (Addr.add ⟨rb', 0, none⟩ ((e + 1) * 1)))) := ⟨f, upd_keep' (rfl) e59⟩
        refine s_ld1 (v := .int .i64 _) on3 rfl rfl rfl (hy2.get ((e + 1) * 1) (by rw [Nat.mul_one]; exact ints_get (by omega))) (w_nil ?_)
        exact ⟨_, rfl, (fun _ => rfl), st1, l0, l1, l5, l6, l7, r0, r1, r2, r3, r4, r5, r6, r7, r8, r9, r10, r11, r12, (fun _ => rfl), r14, r15, trivial⟩
       | 14, ho =>
        cases ho
        have e60 := r13 (hd ⟨13, .data⟩ (by simp) rfl)
        obtain ⟨g, rfl⟩ : ∃ g, f = upd (g) 60 (.int .i64 ys[e + 1]) := ⟨f, upd_keep' (rfl) e60⟩
        refine s_add rfl rfl rfl rfl rfl (w64 (by omega)) (w_nil ?_)
        exact ⟨_, rfl, st0, st1, l0, l1, l5, l6, l7, r0, r1, r2, r3, r4, r5, r6, r7, r8, r9, r10, r11, r12, r13, (fun _ => rfl), r15, trivial⟩
       | 15, ho =>
        cases ho
        have e50 := r3 (hd ⟨3, .data⟩ (by simp) rfl)
        have e51 := r4 (hd ⟨4, .data⟩ (by simp) rfl)
        obtain ⟨g, rfl⟩ : ∃ g, f = upd (upd (g) 50 (.slice (some ⟨rb, 0, none⟩) (lb.length + 1) (lb.length + 1))) 51 (.int .i64 ((e + 1 : Nat) - 1 : Int)) := ⟨f, upd_keep' (upd_keep' (rfl) e50) e51⟩
        refine s_iaE (j := e) el94 rfl rfl rfl rfl rfl (by omega) (by omega) (w_nil ?_)
        exact ⟨_, rfl, st0, st1, l0, l1, l5, l6, l7, r0, r1, r2, r3, r4, r5, r6, r7, r8, r9, r10, r11, r12, r13, r14, (fun _ => rfl), trivial⟩
       | 16, ho =>
        cases ho
        have q16 : S 16 = false := hS
        have e62 := r15 (hd ⟨15, .data⟩ (by simp) rfl)
        have e61 := r14 (hd ⟨14, .data⟩ (by simp) rfl)
        obtain rfl := st0 q16
        have kd : New w1 w1.drew := (Kp.refl _ _).drew
        replace K := K.trans kd
        obtain ⟨g, rfl⟩ : ∃ g, f = upd (upd (g) 62 (.pointer (some (Addr.add ⟨rb, 0, none⟩ (e * 1))))) 61 (.int .i64 (ys[e + 1] + 1)) := ⟨f, upd_keep' (upd_keep' (rfl) e62) e61⟩
        refine s_set (off := e * 1) sz3 rfl rfl rfl rfl rfl rfl rfl (orb.kp kd (fun e => e)) (by rw [ints_len]; omega) ?_
        intro w9 o3 kst zst
        refine w_nil ?_
        exact ⟨_, rfl, (fun h => absurd h (by simp [ins])), (fun _ => ⟨o3, kd.mono (fun _ _ e => e.elim) |>.trans kst⟩), l0, l1, l5, l6, l7, r0, r1, r2, r3, r4, r5, r6, r7, r8, r9, r10, r11, r12, r13, r14, r15, trivial⟩
       | k + 17, ho => exact absurd ho (by simp)
      ·intro S f w2 hS hI
       obtain ⟨st0, st1, l0, l1, l5, l6, l7, r0, r1, r2, r3, r4, r5, r6, r7, r8, r9, r10, r11, r12, r13, r14, r15, -⟩ := hI
       obtain ⟨orb2, kS⟩ := st1 (hS 16 (by decide))
       obtain ⟨g, rfl⟩ : ∃ g, f = upd (upd (upd (upd (upd (g) 0 (.slice (some p) la.length capA)) 1 (.slice (some q) lb.length capB)) 5 (.slice (some ⟨bo, 0, none⟩) (la.length + 1) (la.length + 1))) 6 (.int .i64 ((i + 1 : Nat) - 1 : Int))) 7 (.int .i64 ((e + 1 : Nat) - 1 : Int)) := ⟨f, upd_keep' (upd_keep' (upd_keep' (upd_keep' (upd_keep' (rfl) l0) l1) l5) l6) l7⟩
       clear hS st0 st1 l0 l1 l5 l6 l7 r0 r1 r2 r3 r4 r5 r6 r7 r8 r9 r10 r11 r12 r13 r14 r15
       rw [Nat.mul_one, ints_set] at orb2
       have hxl2 : (xs.set e (ys[e + 1] + 1)).length = lb.length + 1 := by rw [List.length_set]; exact hxl
       have hxb2 : ∀ x ∈ xs.set e (ys[e + 1] + 1), 0 ≤ x ∧ x ≤ (la.length : Int) - i := by intro x hx; rcases List.mem_or_eq_of_mem_set hx with h | h; exact hxb x h; (subst h; constructor <;> omega)
       obtain ⟨xs2, hxs2⟩ : ∃ xs2, xs2 = xs.set e (ys[e + 1] + 1) := ⟨_, rfl⟩
       rw [← hxs2] at orb2 hxl2 hxb2
       clear hxs2
       have oo2 := oo1.kp kS (fun e => hne e.symm)
       have hrows2 := fun j h1 h2 => (hrows j h1 h2).kp kS (fun q hq hB hh (e : q = rb) => by have := hh.2; omega)
       have K2 := K.trans' kS (fun q hq (e : q = rb) => by omega)
       refine inb_n (then_n (c_reg (mvI rfl rfl rfl (s_sub rfl rfl rfl rfl rfl (w64 (by omega)) (asI rfl rfl rfl (w_nil (then_n ?_)))))))
       exact ⟨e, _, by omega, rfl, _, e, xs2, rfl, by omega, (upd_keep' (upd_keep' (upd_keep' (upd_keep' (upd_keep' rfl rfl) rfl) rfl) (iv (by omega))) (iv (by omega))), oo2, orb2, hxl2, hxb2, hrows2, K2⟩
     ·intro ht46
      (try simp only [Q1, Q2, Q3, Q4, Q5] at ht46)
      obtain ⟨rb', ys, hy1, hy2, hy3, hy4, hy5, hy6⟩ := hrows (i + 1) (by omega) (by omega)
      have hyk := hy4 ys[e] (List.getElem_mem (by omega))
      have hxk := hxb xs[e + 1] (List.getElem_mem (by omega))
      have kd : New w1 w1.drew := (Kp.refl _ _).drew
      obtain ⟨mx, hmx⟩ : ∃ mx, mx = max ys[e] xs[e + 1] := ⟨_, rfl⟩
      refine c_drawS (fun S f w => (S 23 = false → w = w1.drew) ∧ (S 23 = true → (Own w rb 3 ((ints xs).set (e * 1) (.int .i64 mx)) ∧ Kp (fun k => k = rb) w1 w)) ∧ f 0 = .slice (some p) la.length capA ∧ f 1 = .slice (some q) lb.length capB ∧ f 5 = .slice (some ⟨bo, 0, none⟩) (la.length + 1) (la.length + 1) ∧ f 6 = .int .i64 ((i + 1 : Nat) - 1 : Int) ∧ f 7 = .int .i64 ((e + 1 : Nat) - 1 : Int) ∧ (S 0 = true → f 63 = .slice (some ⟨bo, 0, none⟩) (la.length + 1) (la.length + 1)) ∧ (S 1 = true → f 64 = .int .i64 ((i + 1 : Nat) - 1 : Int)) ∧ (S 2 = true → f 65 = .pointer (some (Addr.add ⟨bo, 0, none⟩ (i * 1)))) ∧ (S 3 = true → f 66 = .slice (some ⟨rb, 0, none⟩) (lb.length + 1) (lb.length + 1)) ∧ (S 4 = true → f 67 = .int .i64 ((e + 1 : Nat) - 1 : Int)) ∧ (S 5 = true → f 68 = .slice (some ⟨bo, 0, none⟩) (la.length + 1) (la.length + 1)) ∧ (S 6 = true → f 69 = .int .i64 ((i + 1 : Nat) - 1 : Int)) ∧ (S 7 = true → f 70 = .int .i64 (((i + 1 : Nat) - 1 : Int) + 1)) ∧ (S 8 = true → f 71 = .pointer (some (Addr.add ⟨bo, 0, none⟩ ((i + 1) * 1)))) ∧ (S 9 = true → f 72 = .slice (some ⟨rb', 0, none⟩) (lb.length + 1) (lb.length + 1)) ∧ (S 10 = true → f 73 = .int .i64 ((e + 1 : Nat) - 1 : Int)) ∧ (S 11 = true → f 74 = .pointer (some (Addr.add ⟨rb', 0, none⟩ (e * 1)))) ∧ (S 12 = true → f 75 = .int .i64 ys[e]) ∧ (S 13 = true → f 76 = .slice (some ⟨bo, 0, none⟩) (la.length + 1) (la.length + 1)) ∧ (S 14 = true → f 77 = .int .i64 ((i + 1 : Nat) - 1 : Int)) ∧ (S 15 = true → f 78 = .pointer (some (Addr.add ⟨bo, 0, none⟩ (i * 1)))) ∧ (S 16 = true → f 79 = .slice (some ⟨rb, 0, none⟩) (lb.length + 1) (lb.length + 1)) ∧ (S 17 = true → f 80 = .int .i64 ((e + 1 : Nat) - 1 : Int)) ∧ (S 18 = true → f 81 = .int .i64 (((e + 1 : Nat) - 1 : Int) + 1)) ∧ (S 19 = true → f 82 = .pointer (some (Addr.add ⟨rb, 0, none⟩ ((e + 1) * 1)))) ∧ (S 20 = true → f 83 = .int .i64 xs[e + 1]) ∧ (S 21 = true → f 84 = .int .i64 mx) ∧ (S 22 = true → f 85 = .pointer (some (Addr.add ⟨rb, 0, none⟩ (e * 1)))) ∧ True) (fun i => i) (rank_back (by kernel_rfl)) ⟨(fun _ => rfl), (fun h => by cases h), rfl, rfl, rfl, rfl, rfl, (fun h => by cases h), (fun h => by cases h), (fun h => by cases h), (fun h => by cases h), (fun h => by cases h), (fun h => by cases h), (fun h => by cases h), (fun h => by cases h), (fun h => by cases h), (fun h => by cases h), (fun h => by cases h), (fun h => by cases h), (fun h => by cases h), (fun h => by cases h), (fun h => by cases h), (fun h => by cases h), (fun h => by cases h), (fun h => by cases h), (fun h => by cases h), (fun h => by cases h), (fun h => by cases h), (fun h => by cases h), (fun h => by cases h), trivial⟩ ?_ ?_
      ·intro io o ho S f w hS hC hd hI
       obtain ⟨st0, st1, l0, l1, l5, l6, l7, r0, r1, r2, r3, r4, r5, r6, r7, r8, r9, r10, r11, r12, r13, r14, r15, r16, r17, r18, r19, r20, r21, r22, -⟩ := hI
       match io, ho with
       | 0, ho =>
        cases ho
        obtain ⟨g, rfl⟩ : ∃ g, f = upd (g) 5 (.slice (some ⟨bo, 0, none⟩) (la.length + 1) (la.length + 1)) := ⟨f, upd_keep' (rfl) l5⟩
        refine s_mv (v := .slice _ _ _) rfl rfl rfl (w_nil ?_)
        exact ⟨_, rfl, st0, st1, l0, l1, l5, l6, l7, (fun _ => rfl), r1, r2, r3, r4, r5, r6, r7, r8, r9, r10, r11, r12, r13, r14, r15, r16, r17, r18, r19, r20, r21, r22, trivial⟩
       | 1, ho =>
        cases ho
        obtain ⟨g, rfl⟩ : ∃ g, f = upd (g) 6 (.int .i64 ((i + 1 : Nat) - 1 : Int)) := ⟨f, upd_keep' (rfl) l6⟩
        refine mvI rfl rfl rfl (w_nil ?_)
        exact ⟨_, rfl, st0, st1, l0, l1, l5, l6, l7, r0, (fun _ => rfl), r2, r3, r4, r5, r6, r7, r8, r9, r10, r11, r12, r13, r14, r15, r16, r17, r18, r19, r20, r21, r22, trivial⟩
       | 2, ho =>
        cases ho
        have e63 := r0 (hd ⟨0, .data⟩ (by simp) rfl)
        have e64 := r1 (hd ⟨1, .data⟩ (by simp) rfl)
        obtain ⟨g, rfl⟩ : ∃ g, f = upd (upd (g) 63 (.slice (some ⟨bo, 0, none⟩) (la.length + 1) (la.length + 1))) 64 (.int .i64 ((i + 1 : Nat) - 1 : Int)) := ⟨f, upd_keep' (upd_keep' (rfl) e63) e64⟩
        refine s_iaE (j := i) el92 rfl rfl rfl rfl rfl (by omega) (by omega) (w_nil ?_)
        exact ⟨_, rfl, st0, st1, l0, l1, l5, l6, l7, r0, r1, (fun _ => rfl), r3, r4, r5, r6, r7, r8, r9, r10, r11, r12, r13, r14, r15, r16, r17, r18, r19, r20, r21, r22, trivial⟩
       | 3, ho =>
        cases ho
        have q23 : S 23 = false := Q9 hS fun h => (hC 23 _ rfl h ⟨3, .phase⟩ (by simp) rfl)
        have e65 := r2 (hd ⟨2, .data⟩ (by simp) rfl)
        obtain rfl := st0 q23
        have kd : New w1 w1.drew := (Kp.refl _ _).drew
        replace K := K.trans kd
        obtain ⟨g, rfl⟩ : ∃ g, f = upd (g) 65 (.pointer (some (Addr.add ⟨bo, 0, none⟩ (i * 1)))) := ⟨f, upd_keep' (rfl) e65⟩
        refine s_ld1 (v := .slice _ _ _) on94 rfl rfl rfl (oo1.get (i * 1) (by rw [Nat.mul_one, List.getElem?_set_self (by omega)])) ?_
        refine w_nil ?_
        exact ⟨_, rfl, (fun _ => rfl), st1, l0, l1, l5, l6, l7, r0, r1, r2, (fun _ => rfl), r4, r5, r6, r7, r8, r9, r10, r11, r12, r13, r14, r15, r16, r17, r18, r19, r20, r21, r22, trivial⟩
       | 4, ho =>
        cases ho
        obtain ⟨g, rfl⟩ : ∃ g, f = upd (g) 7 (.int .i64 ((e + 1 : Nat) - 1 : Int)) := ⟨f, upd_keep' (rfl) l7⟩
        refine mvI rfl rfl rfl (w_nil ?_)
        exact ⟨_, rfl, st0, st1, l0, l1, l5, l6, l7, r0, r1, r2, r3, (fun _ => rfl), r5, r6, r7, r8, r9, r10, r11, r12, r13, r14, r15, r16, r17, r18, r19, r20, r21, r22, trivial⟩
       | 5, ho =>
        cases ho
        obtain ⟨g, rfl⟩ : ∃ g, f = upd (g) 5 (.slice (some ⟨bo, 0, none⟩) (la.length + 1) (la.length + 1)) := ⟨f, upd_keep' (rfl) l5⟩
        refine s_mv (v := .slice _ _ _) rfl rfl rfl (w_nil ?_)
        exact ⟨_, rfl, st0, st1, l0, l1, l5, l6, l7, r0, r1, r2, r3, r4, (fun _ => rfl), r6, r7, r8, r9, r10, r11, r12, r13, r14, r15, r16, r17, r18, r19, r20, r21, r22, trivial⟩
       | 6, ho =>
        cases ho
        obtain ⟨g, rfl⟩ : ∃ g, f = upd (g) 6 (.int .i64 ((i + 1 : Nat) - 1 : Int)) := ⟨f, upd_keep' (rfl) l6⟩
        refine mvI rfl rfl rfl (w_nil ?_)
        exact ⟨_, rfl, st0, st1, l0, l1, l5, l6, l7, r0, r1, r2, r3, r4, r5, (fun _ => rfl), r7, r8, r9, r10, r11, r12, r13, r14, r15, r16, r17, r18, r19, r20, r21, r22, trivial⟩
       | 7, ho =>
        cases ho
        have e69 := r6 (hd ⟨6, .data⟩ (by simp) rfl)
        obtain ⟨g, rfl⟩ : ∃ g, f = upd (g) 69 (.int .i64 ((i + 1 : Nat) - 1 : Int)) := ⟨f, upd_keep' (rfl) e69⟩
        refine s_add rfl rfl rfl rfl rfl (w64 (by omega)) (w_nil ?_)
        exact ⟨_, rfl, st0, st1, l0, l1, l5, l6, l7, r0, r1, r2, r3, r4, r5, r6, (fun _ => rfl), r8, r9, r10, r11, r12, r13, r14, r15, r16, r17, r18, r19, r20, r21, r22, trivial⟩
       | 8, ho =>
        cases ho
        have e68 := r5 (hd ⟨5, .data⟩ (by simp) rfl)
        have e70 := r7 (hd ⟨7, .data⟩ (by simp) rfl)
        obtain ⟨g, rfl⟩ : ∃ g, f = upd (upd (g) 68 (.slice (some ⟨bo, 0, none⟩) (la.length + 1) (la.length + 1))) 70 (.int .i64 (((i + 1 : Nat) - 1 : Int) + 1)) := ⟨f, upd_keep' (upd_keep' (rfl) e68) e70⟩
        refine s_iaE (j := i + 1) el92 rfl rfl rfl rfl rfl (by omega) (by omega) (w_nil ?_)
        exact ⟨_, rfl, st0, st1, l0, l1, l5, l6, l7, r0, r1, r2, r3, r4, r5, r6, r7, (fun _ => rfl), r9, r10, r11, r12, r13, r14, r15, r16, r17, r18, r19, r20, r21, r22, trivial⟩
       | 9, ho =>
        cases ho
        have q23 : S 23 = false := Q9 hS fun h => (hC 23 _ rfl h ⟨9, .phase⟩ (by simp) rfl)
        have e71 := r8 (hd ⟨8, .data⟩ (by simp) rfl)
        obtain rfl := st0 q23
        have kd : New w1 w1.drew := (Kp.refl _ _).drew
        replace K := K.trans kd
        obtain ⟨g, rfl⟩ : ∃ g, f = upd (g) 71 (.pointer (some (Addr.add ⟨bo, 0, none⟩ ((i + 1) * 1)))) := ⟨f, upd_keep' (rfl) e71⟩
        refine s_ld1 (v := .slice _ _ _) on94 rfl rfl rfl (oo1.get ((i + 1) * 1) (by rw [Nat.mul_one, List.getElem?_set_ne (by omega)]; rw [List.getElem?_set_ne (by omega)] at hy1; exact hy1)) ?_
        refine w_nil ?_
        exact ⟨_, rfl, (fun _ => rfl), st1, l0, l1, l5, l6, l7, r0, r1, r2, r3, r4, r5, r6, r7, r8, (fun _ => rfl), r10, r11, r12, r13, r14, r15, r16, r17, r18, r19, r20, r21, r22, trivial⟩
       | 10, ho =>
        cases ho
        obtain ⟨g, rfl⟩ : ∃ g, f = upd (g) 7 (.int .i64 ((e + 1 : Nat) - 1 : Int)) := ⟨f, upd_keep' (rfl) l7⟩
        refine mvI rfl rfl rfl (w_nil ?_)
        exact ⟨_, rfl, st0, st1, l0, l1, l5, l6, l7, r0, r1, r2, r3, r4, r5, r6, r7, r8, r9, (fun _ => rfl), r11, r12, r13, r14, r15, r16, r17, r18, r19, r20, r21, r22, trivial⟩
       | 11, ho =>
        cases ho
        have e72 := r9 (hd ⟨9, .data⟩ (by simp) rfl)
        have e73 := r10 (hd ⟨10, .data⟩ (by simp) rfl)
        obtain ⟨g, rfl⟩ : ∃ g, f = upd (upd (g) 72 (.slice (some ⟨rb', 0, none⟩) (lb.length + 1) (lb.length + 1))) 73 (.int .i64 ((e + 1 : Nat) - 1 : Int)) := ⟨f, upd_keep' (upd_keep' (rfl) e72) e73⟩
        refine s_iaE (j := e) el94 rfl rfl rfl rfl rfl (by omega) (by omega) (w_nil ?_)
        exact ⟨_, rfl, st0, st1, l0, l1, l5, l6, l7, r0, r1, r2, r3, r4, r5, r6, r7, r8, r9, r10, (fun _ => rfl), r12, r13, r14, r15, r16, r17, r18, r19, r20, r21, r22, trivial⟩
       | 12, ho =>
        cases ho
        have q23 : S 23 = false := Q9 hS fun h => (hC 23 _ rfl h ⟨12, .phase⟩ (by simp) rfl)
        have e74 := r11 (hd ⟨11, .data⟩ (by simp) rfl)
        obtain rfl := st0 q23
        have kd : New w1 w1.drew := (Kp.refl _ _).drew
        replace K := K.trans kd
        obtain ⟨g, rfl⟩ : ∃ g, f = upd (g) 74 (.pointer (some (Addr.add ⟨rb', 0, none⟩ (e * 1)))) := ⟨f, upd_keep' (rfl) e74⟩
        refine s_ld1 (v := .int .i64 _) on3 rfl rfl rfl (hy2.get (e * 1) (by rw [Nat.mul_one]; exact ints_get (by omega))) (w_nil ?_)
        exact ⟨_, rfl, (fun _ => rfl), st1, l0, l1, l5, l6, l7, r0, r1, r2, r3, r4, r5, r6, r7, r8, r9, r10, r11, (fun _ => rfl), r13, r14, r15, r16, r17, r18, r19, r20, r21, r22, trivial⟩
       | 13, ho =>
        cases ho
        obtain ⟨g, rfl⟩ : ∃ g, f = upd (g) 5 (.slice (some ⟨bo, 0, none⟩) (la.length + 1) (la.length + 1)) := ⟨f, upd_keep' (rfl) l5⟩
        refine s_mv (v := .slice _ _ _) rfl rfl rfl (w_nil ?_)
        exact ⟨_, rfl, st0, st1, l0, l1, l5, l6, l7, r0, r1, r2, r3, r4, r5, r6, r7, r8, r9, r10, r11, r12, (fun _ => rfl), r14, r15, r16, r17, r18, r19, r20, r21, r22, trivial⟩
       | 14, ho =>
        cases ho
        obtain ⟨g, rfl⟩ : ∃ g, f = upd (g) 6 (.int .i64 ((i + 1 : Nat) - 1 : Int)) := ⟨f, upd_keep' (rfl) l6⟩
        refine mvI rfl rfl rfl (w_nil ?_)
        exact ⟨_, rfl, st0, st1, l0, l1, l5, l6, l7, r0, r1, r2, r3, r4, r5, r6, r7, r8, r9, r10, r11, r12, r13, (fun _ => rfl), r15, r16, r17, r18, r19, r20, r21, r22, trivial⟩
       | 15, ho =>
        cases ho
        have e76 := r13 (hd ⟨13, .data⟩ (by simp) rfl)
        have e77 := r14 (hd ⟨14, .data⟩ (by simp) rfl)
        obtain ⟨g, rfl⟩ : ∃ g, f = upd (upd (g) 76 (.slice (some ⟨bo, 0, none⟩) (la.length + 1) (la.length + 1))) 77 (.int .i64 ((i + 1 : Nat) - 1 : Int)) := ⟨f, upd_keep' (upd_keep' (rfl) e76) e77⟩
        refine s_iaE (j := i) el92 rfl rfl rfl rfl rfl (by omega) (by omega) (w_nil ?_)
        exact ⟨_, rfl, st0, st1, l0, l1, l5, l6, l7, r0, r1, r2, r3, r4, r5, r6, r7, r8, r9, r10, r11, r12, r13, r14, (fun _ => rfl), r16, r17, r18, r19, r20, r21, r22, trivial⟩
       | 16, ho =>
        cases ho
        have q23 : S 23 = false := Q9 hS fun h => (hC 23 _ rfl h ⟨16, .phase⟩ (by simp) rfl)
        have e78 := r15 (hd ⟨15, .data⟩ (by simp) rfl)
        obtain rfl := st0 q23
        have kd : New w1 w1.drew := (Kp.refl _ _).drew
        replace K := K.trans kd
        obtain ⟨g, rfl⟩ : ∃ g, f = upd (g) 78 (.pointer (some (Addr.add ⟨bo, 0, none⟩ (i * 1)))) := ⟨f, upd_keep' (rfl) e78⟩
        refine s_ld1 (v := .slice _ _ _) on94 rfl rfl rfl (oo1.get (i * 1) (by rw [Nat.mul_one, List.getElem?_set_self (by omega)])) ?_
        refine w_nil ?_
        exact ⟨_, rfl, (fun _ => rfl), st1, l0, l1, l5, l6, l7, r0, r1, r2, r3, r4, r5, r6, r7, r8, r9, r10, r11, r12, r13, r14, r15, (fun _ => rfl), r17, r18, r19, r20, r21, r22, trivial⟩
       | 17, ho =>
        cases ho
        obtain ⟨g, rfl⟩ : ∃ g, f = upd (g) 7 (.int .i64 ((e + 1 : Nat) - 1 : Int)) := ⟨f, upd_keep' (rfl) l7⟩
        refine mvI rfl rfl rfl (w_nil ?_)
        exact ⟨_, rfl, st0, st1, l0, l1, l5, l6, l7, r0, r1, r2, r3, r4, r5, r6, r7, r8, r9, r10, r11, r12, r13, r14, r15, r16, (fun _ => rfl), r18, r19, r20, r21, r22, trivial⟩
       | 18, ho =>
        cases ho
        have e80 := r17 (hd ⟨17, .data⟩ (by simp) rfl)
        obtain ⟨g, rfl⟩ : ∃ g, f = upd (g) 80 (.int .i64 ((e + 1 : Nat) - 1 : Int)) := ⟨f, upd_keep' (rfl) e80⟩
        refine s_add rfl rfl rfl rfl rfl (w64 (by omega)) (w_nil ?_)
        exact ⟨_, rfl, st0, st1, l0, l1, l5, l6, l7, r0, r1, r2, r3, r4, r5, r6, r7, r8, r9, r10, r11, r12, r13, r14, r15, r16, r17, (fun _ => rfl), r19, r20, r21, r22, trivial⟩
       | 19, ho =>
        cases ho
        have e79 := r16 (hd ⟨16, .data⟩ (by simp) rfl)
        have e81 := r18 (hd ⟨18, .data⟩ (by simp) rfl)
        obtain ⟨g, rfl⟩ : ∃ g, f = upd (upd (g) 79 (.slice (some ⟨rb, 0, none⟩) (lb.length + 1) (lb.length + 1))) 81 (.int .i64 (((e + 1 : Nat) - 1 : Int) + 1)) := ⟨f, upd_keep' (upd_keep' (rfl) e79) e81⟩
        refine s_iaE (j := e + 1) el94 rfl rfl rfl rfl rfl (by omega) (by omega) (w_nil ?_)
        exact ⟨_, rfl, st0, st1, l0, l1, l5, l6, l7, r0, r1, r2, r3, r4, r5, r6, r7, r8, r9, r10, r11, r12, r13, r14, r15, r16, r17, r18, (fun _ => rfl), r20, r21, r22, trivial⟩
       | 20, ho =>
        cases ho
        have q23 : S 23 = false := Q9 hS fun h => (hC 23 _ rfl h ⟨20, .phase⟩ (by simp) rfl)
        have e82 := r19 (hd ⟨19, .data⟩ (by simp) rfl)
        obtain rfl := st0 q23
        have kd : New w1 w1.drew := (Kp.refl _ _).drew
        replace K := K.trans kd
        obtain ⟨g, rfl⟩ : ∃ g, f = upd (g) 82 (.pointer (some (Addr.add ⟨rb, 0, none⟩ ((e + 1) * 1)))) := ⟨f, upd_keep' (rfl) e82⟩
        refine s_ld1 (v := .int .i64 _) on3 rfl rfl rfl (orb.get ((e + 1) * 1) (by rw [Nat.mul_one]; exact ints_get (by omega))) (w_nil ?_)
        exact ⟨_, rfl, (fun _ => rfl), st1, l0, l1, l5, l6, l7, r0, r1, r2, r3, r4, r5, r6, r7, r8, r9, r10, r11, r12, r13, r14, r15, r16, r17, r18, r19, (fun _ => rfl), r21, r22, trivial⟩
       | 21, ho =>
        cases ho
        have e75 := r12 (hd ⟨12, .data⟩ (by simp) rfl)
        have e83 := r20 (hd ⟨20, .data⟩ (by simp) rfl)
        obtain ⟨g, rfl⟩ : ∃ g, f = upd (upd (g) 75 (.int .i64 ys[e])) 83 (.int .i64 xs[e + 1]) := ⟨f, upd_keep' (upd_keep' (rfl) e75) e83⟩
        refine s_max rfl rfl rfl rfl rfl hmx.symm (w_nil ?_)
        exact ⟨_, rfl, st0, st1, l0, l1, l5, l6, l7, r0, r1, r2, r3, r4, r5, r6, r7, r8, r9, r10, r11, r12, r13, r14, r15, r16, r17, r18, r19, r20, (fun _ => rfl), r22, trivial⟩
       | 22, ho =>
        cases ho
        have e66 := r3 (hd ⟨3, .data⟩ (by simp) rfl)
        have e67 := r4 (hd ⟨4, .data⟩ (by simp) rfl)
        obtain ⟨g, rfl⟩ : ∃ g, f = upd (upd (g) 66 (.slice (some ⟨rb, 0, none⟩) (lb.length + 1) (lb.length + 1))) 67 (.int .i64 ((e + 1 : Nat) - 1 : Int)) := ⟨f, upd_keep' (upd_keep' (rfl) e66) e67⟩
        refine s_iaE (j := e) el94 rfl rfl rfl rfl rfl (by omega) (by omega) (w_nil ?_)
        exact ⟨_, rfl, st0, st1, l0, l1, l5, l6, l7, r0, r1, r2, r3, r4, r5, r6, r7, r8, r9, r10, r11, r12, r13, r14, r15, r16, r17, r18, r19, r20, r21, (fun _ => rfl), trivial⟩
       | 23, ho =>
        cases ho
        have q23 : S 23 = false := hS
        have e85 := r22 (hd ⟨22, .data⟩ (by simp) rfl)
        have e84 := r21 (hd ⟨21, .data⟩ (by simp) rfl)
        obtain rfl := st0 q23
        have kd : New w1 w1.drew := (Kp.refl _ _).drew
        replace K := K.trans kd
        obtain ⟨g, rfl⟩ : ∃ g, f = upd (upd (g) 85 (.pointer (some (Addr.add ⟨rb, 0, none⟩ (e * 1))))) 84 (.int .i64 mx) := ⟨f, upd_keep' (upd_keep' (rfl) e85) e84⟩
        refine s_set (off := e * 1) sz3 rfl rfl rfl rfl rfl rfl rfl (orb.kp kd (fun e => e)) (by rw [ints_len]; omega) ?_
        intro w9 o3 kst zst
        refine w_nil ?_
        exact ⟨_, rfl, (fun h => absurd h (by simp [ins])), (fun _ => ⟨o3, kd.mono (fun _ _ e => e.elim) |>.trans kst⟩), l0, l1, l5, l6, l7, r0, r1, r2, r3, r4, r5, r6, r7, r8, r9, r10, r11, r12, r13, r14, r15, r16, r17, r18, r19, r20, r21, r22, trivial⟩
       | k + 24, ho => exact absurd ho (by simp)
      ·intro S f w2 hS hI
       obtain ⟨st0, st1, l0, l1, l5, l6, l7, r0, r1, r2, r3, r4, r5, r6, r7, r8, r9, r10, r11, r12, r13, r14, r15, r16, r17, r18, r19, r20, r21, r22, -⟩ := hI
       obtain ⟨orb2, kS⟩ := st1 (hS 23 (by decide))
       obtain ⟨g, rfl⟩ : ∃ g, f = upd (upd (upd (upd (upd (g) 0 (.slice (some p) la.length capA)) 1 (.slice (some q) lb.length capB)) 5 (.slice (some ⟨bo, 0, none⟩) (la.length + 1) (la.length + 1))) 6 (.int .i64 ((i + 1 : Nat) - 1 : Int))) 7 (.int .i64 ((e + 1 : Nat) - 1 : Int)) := ⟨f, upd_keep' (upd_keep' (upd_keep' (upd_keep' (upd_keep' (rfl) l0) l1) l5) l6) l7⟩
       clear hS st0 st1 l0 l1 l5 l6 l7 r0 r1 r2 r3 r4 r5 r6 r7 r8 r9 r10 r11 r12 r13 r14 r15 r16 r17 r18 r19 r20 r21 r22
       rw [Nat.mul_one, ints_set] at orb2
       have hxl2 : (xs.set e (mx)).length = lb.length + 1 := by rw [List.length_set]; exact hxl
       have hxb2 : ∀ x ∈ xs.set e (mx), 0 ≤ x ∧ x ≤ (la.length : Int) - i := by intro x hx; rcases List.mem_or_eq_of_mem_set hx with h | h; exact hxb x h; (subst h; subst hmx; constructor <;> omega)
       obtain ⟨xs2, hxs2⟩ : ∃ xs2, xs2 = xs.set e (mx) := ⟨_, rfl⟩
       rw [← hxs2] at orb2 hxl2 hxb2
       clear hxs2
       have oo2 := oo1.kp kS (fun e => hne e.symm)
       have hrows2 := fun j h1 h2 => (hrows j h1 h2).kp kS (fun q hq hB hh (e : q = rb) => by have := hh.2; omega)
       have K2 := K.trans' kS (fun q hq (e : q = rb) => by omega)
       refine inb_n (then_n (c_reg (mvI rfl rfl rfl (s_sub rfl rfl rfl rfl rfl (w64 (by omega)) (asI rfl rfl rfl (w_nil (then_n ?_)))))))
       exact ⟨e, _, by omega, rfl, _, e, xs2, rfl, by omega, (upd_keep' (upd_keep' (upd_keep' (upd_keep' (upd_keep' rfl rfl) rfl) rfl) (iv (by omega))) (iv (by omega))), oo2, orb2, hxl2, hxb2, hrows2, K2⟩
   ·intro ht35
    (try simp only [Q1, Q2, Q3, Q4, Q5] at ht35)
    refine wp_exit (then_x (then_x (inb_x (inb_n (then_n (c_reg (mvI rfl rfl rfl (s_sub rfl rfl rfl rfl rfl (w64 (by omega)) (asI rfl rfl rfl ?_)))))))))
    refine w_nil (then_n ?_)
    refine ⟨i, _, by omega, rfl, _, i, _, rfl, by omega, (upd_keep' (upd_keep' (upd_keep' (upd_keep' rfl rfl) rfl) rfl) (iv (by omega))), oo1, by rw [List.length_set]; exact hos, fun j h1 h2 => ?_, K⟩
    by_cases hj : j = i
    ·subst hj; exact ⟨rb, xs, by rw [List.getElem?_set_self (by omega)], orb, hxl, hxb, hrb, hne⟩
    ·exact (hrows j (by omega) h2).weak (fun q _ h => h.1)
  ·intro hs30
   (try simp only [Q1, Q2, Q3, Q4, Q5] at hs30)
   refine st_skip rfl (st_skip rfl (st_skip rfl (st_skip rfl (pFB rfl rfl rfl rfl rfl (w_nil (then_n (c_F rfl rfl (wp_exit (then_x ?_)))))))))
   refine then_x (inb_x (inb_n (then_n (c_reg (mvI rfl rfl rfl (s_sub rfl rfl rfl rfl rfl (w64 (by omega)) (asI rfl rfl rfl (w_nil (then_n ?_)))))))))
   refine ⟨i, _, by omega, rfl, _, i, _, rfl, by omega, (upd_keep' (upd_keep' (upd_keep' (upd_keep' rfl rfl) rfl) rfl) (iv (by omega))), oo1, by rw [List.length_set]; exact hos, fun j h1 h2 => ?_, K⟩
   by_cases hj : j = i
   ·subst hj; exact ⟨rb, xs, by rw [List.getElem?_set_self (by omega)], orb, hxl, hxb, hrb, hne⟩
   ·exact (hrows j (by omega) h2).weak (fun q _ h => h.1)
 ·intro ht15
  (try simp only [Q1, Q2, Q3, Q4, Q5] at ht15)
  refine wp_exit (then_x (then_x (inb_x (then_n (wp_seq (c_reg (s_mv (v := .slice _ _ _) rfl rfl rfl (s_as (v := .slice _ _ _) rfl rfl rfl (w_nil ?_)))))))))
  refine then_n (wp_ret ?_)
  have hd : d = 0 := by omega
  subst hd
  refine ret1 (t := 4) (v := .slice (some ⟨bo, 0, none⟩) (la.length + 1) (la.length + 1)) rfl rfl rfl ⟨_, rfl, ⟨bo, os, rfl, oo, hos, hbo, fun j hj => hrows j (Nat.zero_le _) hj⟩, K⟩
end
section
theorem c28 {G : Nat → Prop} (A : Option Addr) (cap : Nat) (l : List Edt) (w : World) (hA : EdtsAt G w A l) (hv : VE l) : Calls Tryz.prog 28 #[.slice A l.length cap] w fun e w' => e = .returned (.bool true) ∧ New w w' := by
 obtain ⟨W, hW⟩ : ∃ W, W = w := ⟨_, rfl⟩
 subst hW
 have K : New W W := Kp.refl _ _
 have hlen := hv.1
 refine enter (n := 49) Tryz.func28 rfl rfl (by simp) ?_
 refine wp_seq (c_reg (asB rfl rfl rfl (w_nil (then_n (wp_seq (wp_seq (c_reg (s_mv (v := .slice _ _ _) rfl rfl rfl (s_lenL Tryz.underlying31 rfl rfl rfl ?_)))))))))
 refine mvI rfl rfl rfl (w_nil (then_n (wp_block ?_)))
 refine c_loop (fun m f w => ∃ g k, m = l.length - k ∧ k ≤ l.length ∧ f = (upd (upd (upd (upd g 0 (.slice A l.length cap)) 5 (.slice A l.length cap)) 6 (.int .i64 (l.length : Nat))) 7 (.int .i64 (k : Nat))) ∧ New W w) (l.length) ⟨_, 0, by omega, by omega, (upd_keep' (upd_keep' (upd_keep' (upd_keep' rfl rfl) rfl) rfl) rfl), K⟩ ?_
 clear K
 rintro m _ w0 ⟨g, k, rfl, hk, rfl, K⟩
 refine wp_seq (c_reg (s_lss rfl rfl rfl rfl rfl rfl (w_nil (then_n (wp_seq ?_)))))
 refine c_if rfl rfl ?_ ?_
 ·intro ht8
  (try simp only [Q1, Q2, Q3, Q4, Q5] at ht8)
  have hlt : k < l.length := by omega
  obtain ⟨p, vo, vn, hpA, _, hp, ⟨Ao, co, rfl, ho⟩, ⟨An, cn, rfl, hn⟩⟩ := hA.2 k _ (List.getElem?_eq_getElem hlt)
  subst hpA
  obtain ⟨v1, v2, v3, v4, v5, v6⟩ := hv.2 k _ (List.getElem?_eq_getElem hlt)
  refine wp_skip (then_n (wp_seq (wp_block (wp_seq (c_reg (mvI rfl rfl rfl (s_iaE el31 rfl rfl rfl rfl rfl rfl (by omega) (s_ldA ag60 rfl rfl rfl (hp.kp K (fun e => e)) rfl (s_alloc z60 rfl rfl ?_)))))))))
  intro b4 w1 eb4 o4 kb4 zb4
  have gb4_K : W.heap.size ≤ b4 := by have := K.size; omega
  replace K := K.trans kb4
  refine asI rfl rfl rfl (s_st 0 sz60 (v := .agg _) rfl rfl rfl rfl rfl rfl rfl o4 rfl rfl rfl ?_)
  clear o4; intro w2 o4 ksw2 zsw2
  replace K := K.trans' ksw2 (fun i hi (e : i = b4) => by omega)
  refine w_nil (then_n (wp_seq ?_))
  rcases Nat.eq_zero_or_pos k with hk0 | hk0
  ·have hk9 := hk0
   refine c_draw' (fun S f w => New w2 w ∧ f 0 = .slice (some p) l.length cap ∧ f 5 = .slice (some p) l.length cap ∧ f 6 = .int .i64 (l.length : Nat) ∧ f 7 = .int .i64 (k : Nat) ∧ f 3 = .int .i64 (k : Nat) ∧ f 4 = .pointer (some ⟨b4, 0, none⟩) ∧ (S 0 = true → f 12 = .pointer (some (Addr.add ⟨b4, 0, none⟩ 0))) ∧ (S 1 = true → f 13 = .int .i64 l[k].pos) ∧ (S 2 = true → f 14 = .bool false) ∧ (S 3 = true → f 15 = .bool false) ∧ (S 4 = true → f 16 = .pointer (some (Addr.add ⟨b4, 0, none⟩ 1))) ∧ (S 5 = true → f 17 = .slice Ao l[k].old.length co) ∧ (S 6 = true → f 18 = .int .i64 (l[k].old.length : Nat)) ∧ (S 7 = true → f 19 = .pointer (some (Addr.add ⟨b4, 0, none⟩ 2))) ∧ (S 8 = true → f 20 = .slice An l[k].new.length cn) ∧ (S 9 = true → f 21 = .int .i64 (l[k].new.length : Nat)) ∧ (S 10 = true → f 22 = .int .i64 ((l[k].old.length : Nat) + (l[k].new.length : Nat) : Int)) ∧ (S 11 = true → f 23 = .bool false) ∧ (S 12 = true → f 24 = .bool false) ∧ (S 13 = true → f 25 = .bool false) ∧ (S 14 = true → f 26 = .int .i64 (k : Nat)) ∧ (S 15 = true → f 27 = .bool false) ∧ (S 16 = true → f 28 = .bool false) ∧ (S 17 = true → f 29 = undef) ∧ (S 18 = true → f 30 = undef) ∧ (S 19 = true → f 31 = undef) ∧ (S 20 = true → f 32 = undef) ∧ (S 21 = true → f 33 = undef) ∧ (S 22 = true → f 34 = undef) ∧ (S 23 = true → f 35 = undef) ∧ (S 24 = true → f 36 = undef) ∧ (S 25 = true → f 37 = undef) ∧ (S 26 = true → f 38 = undef) ∧ (S 27 = true → f 39 = undef) ∧ (S 28 = true → f 40 = undef) ∧ (S 29 = true → f 41 = undef) ∧ (S 30 = true → f 42 = undef) ∧ (S 31 = true → f 43 = undef) ∧ (S 32 = true → f 44 = undef) ∧ (S 33 = true → f 45 = undef) ∧ (S 34 = true → f 46 = .bool false) ∧ (S 35 = true → f 47 = .bool false) ∧ True) (by kernel_rfl) ⟨(Kp.refl _ _).drew, rfl, rfl, rfl, rfl, rfl, rfl, (fun h => by cases h), (fun h => by cases h), (fun h => by cases h), (fun h => by cases h), (fun h => by cases h), (fun h => by cases h), (fun h => by cases h), (fun h => by cases h), (fun h => by cases h), (fun h => by cases h), (fun h => by cases h), (fun h => by cases h), (fun h => by cases h), (fun h => by cases h), (fun h => by cases h), (fun h => by cases h), (fun h => by cases h), (fun h => by cases h), (fun h => by cases h), (fun h => by cases h), (fun h => by cases h), (fun h => by cases h), (fun h => by cases h), (fun h => by cases h), (fun h => by cases h), (fun h => by cases h), (fun h => by cases h), (fun h => by cases h), (fun h => by cases h), (fun h => by cases h), (fun h => by cases h), (fun h => by cases h), (fun h => by cases h), (fun h => by cases h), (fun h => by cases h), (fun h => by cases h), trivial⟩ ?_ ?_
   ·intro io opx hio S f w hd hI
    obtain ⟨kR, l0, l5, l6, l7, l3, l4, r0, r1, r2, r3, r4, r5, r6, r7, r8, r9, r10, r11, r12, r13, r14, r15, r16, r17, r18, r19, r20, r21, r22, r23, r24, r25, r26, r27, r28, r29, r30, r31, r32, r33, r34, r35, -⟩ := hI
    match io, hio with
    | 0, hio =>
     cases hio
     obtain ⟨g, rfl⟩ : ∃ g, f = upd (g) 4 (.pointer (some ⟨b4, 0, none⟩)) := ⟨f, upd_keep' (rfl) l4⟩
     have o4 := o4.kp kR (fun e => e)
     refine s_fa fi60_0 rfl rfl rfl (w_nil ?_)
     exact ⟨_, rfl, kR, l0, l5, l6, l7, l3, l4, (fun _ => rfl), r1, r2, r3, r4, r5, r6, r7, r8, r9, r10, r11, r12, r13, r14, r15, r16, r17, r18, r19, r20, r21, r22, r23, r24, r25, r26, r27, r28, r29, r30, r31, r32, r33, r34, r35, trivial⟩
    | 1, hio =>
     cases hio
     have e12 := r0 (hd ⟨0, .data⟩ (by simp) rfl)
     obtain ⟨g, rfl⟩ : ∃ g, f = upd (g) 12 (.pointer (some (Addr.add ⟨b4, 0, none⟩ 0))) := ⟨f, upd_keep' (rfl) e12⟩
     have o4 := o4.kp kR (fun e => e)
     refine s_ld1 (v := .int .i64 _) on3 rfl rfl rfl (o4.get 0 rfl) (w_nil ?_)
     exact ⟨_, rfl, kR, l0, l5, l6, l7, l3, l4, r0, (fun _ => rfl), r2, r3, r4, r5, r6, r7, r8, r9, r10, r11, r12, r13, r14, r15, r16, r17, r18, r19, r20, r21, r22, r23, r24, r25, r26, r27, r28, r29, r30, r31, r32, r33, r34, r35, trivial⟩
    | 2, hio =>
     cases hio
     have e13 := r1 (hd ⟨1, .data⟩ (by simp) rfl)
     obtain ⟨g, rfl⟩ : ∃ g, f = upd (g) 13 (.int .i64 l[k].pos) := ⟨f, upd_keep' (rfl) e13⟩
     have o4 := o4.kp kR (fun e => e)
     refine s_lss rfl rfl rfl rfl rfl (decide_eq_false (by omega)) (w_nil ?_)
     exact ⟨_, rfl, kR, l0, l5, l6, l7, l3, l4, r0, r1, (fun _ => rfl), r3, r4, r5, r6, r7, r8, r9, r10, r11, r12, r13, r14, r15, r16, r17, r18, r19, r20, r21, r22, r23, r24, r25, r26, r27, r28, r29, r30, r31, r32, r33, r34, r35, trivial⟩
    | 3, hio =>
     cases hio
     have e14 := r2 (hd ⟨2, .data⟩ (by simp) rfl)
     obtain ⟨g, rfl⟩ : ∃ g, f = upd (g) 14 (.bool false) := ⟨f, upd_keep' (rfl) e14⟩
     have o4 := o4.kp kR (fun e => e)
     refine mvB rfl rfl rfl (w_nil ?_)
     exact ⟨_, rfl, kR, l0, l5, l6, l7, l3, l4, r0, r1, r2, (fun _ => rfl), r4, r5, r6, r7, r8, r9, r10, r11, r12, r13, r14, r15, r16, r17, r18, r19, r20, r21, r22, r23, r24, r25, r26, r27, r28, r29, r30, r31, r32, r33, r34, r35, trivial⟩
    | 4, hio =>
     cases hio
     have e15 := r3 (hd ⟨3, .guard⟩ (by simp) rfl)
     obtain ⟨g, rfl⟩ : ∃ g, f = upd (upd (g) 4 (.pointer (some ⟨b4, 0, none⟩))) 15 (.bool false) := ⟨f, upd_keep' (upd_keep' (rfl) l4) e15⟩
     have o4 := o4.kp kR (fun e => e)
     refine s_fa fi60_1 rfl rfl rfl (w_nil ?_)
     exact ⟨_, rfl, kR, l0, l5, l6, l7, l3, l4, r0, r1, r2, r3, (fun _ => rfl), r5, r6, r7, r8, r9, r10, r11, r12, r13, r14, r15, r16, r17, r18, r19, r20, r21, r22, r23, r24, r25, r26, r27, r28, r29, r30, r31, r32, r33, r34, r35, trivial⟩
    | 5, hio =>
     cases hio
     have e16 := r4 (hd ⟨4, .data⟩ (by simp) rfl)
     have e15 := r3 (hd ⟨3, .guard⟩ (by simp) rfl)
     obtain ⟨g, rfl⟩ : ∃ g, f = upd (upd (g) 16 (.pointer (some (Addr.add ⟨b4, 0, none⟩ 1)))) 15 (.bool false) := ⟨f, upd_keep' (upd_keep' (rfl) e16) e15⟩
     have o4 := o4.kp kR (fun e => e)
     refine s_ld1 (v := .slice _ _ _) on22 rfl rfl rfl (o4.get 1 rfl) (w_nil ?_)
     exact ⟨_, rfl, kR, l0, l5, l6, l7, l3, l4, r0, r1, r2, r3, r4, (fun _ => rfl), r6, r7, r8, r9, r10, r11, r12, r13, r14, r15, r16, r17, r18, r19, r20, r21, r22, r23, r24, r25, r26, r27, r28, r29, r30, r31, r32, r33, r34, r35, trivial⟩
    | 6, hio =>
     cases hio
     have e17 := r5 (hd ⟨5, .data⟩ (by simp) rfl)
     have e15 := r3 (hd ⟨3, .guard⟩ (by simp) rfl)
     obtain ⟨g, rfl⟩ : ∃ g, f = upd (upd (g) 17 (.slice Ao l[k].old.length co)) 15 (.bool false) := ⟨f, upd_keep' (upd_keep' (rfl) e17) e15⟩
     have o4 := o4.kp kR (fun e => e)
     refine s_lenL Tryz.underlying22 rfl rfl rfl (w_nil ?_)
     exact ⟨_, rfl, kR, l0, l5, l6, l7, l3, l4, r0, r1, r2, r3, r4, r5, (fun _ => rfl), r7, r8, r9, r10, r11, r12, r13, r14, r15, r16, r17, r18, r19, r20, r21, r22, r23, r24, r25, r26, r27, r28, r29, r30, r31, r32, r33, r34, r35, trivial⟩
    | 7, hio =>
     cases hio
     have e15 := r3 (hd ⟨3, .guard⟩ (by simp) rfl)
     obtain ⟨g, rfl⟩ : ∃ g, f = upd (upd (g) 4 (.pointer (some ⟨b4, 0, none⟩))) 15 (.bool false) := ⟨f, upd_keep' (upd_keep' (rfl) l4) e15⟩
     have o4 := o4.kp kR (fun e => e)
     refine s_fa fi60_2 rfl rfl rfl (w_nil ?_)
     exact ⟨_, rfl, kR, l0, l5, l6, l7, l3, l4, r0, r1, r2, r3, r4, r5, r6, (fun _ => rfl), r8, r9, r10, r11, r12, r13, r14, r15, r16, r17, r18, r19, r20, r21, r22, r23, r24, r25, r26, r27, r28, r29, r30, r31, r32, r33, r34, r35, trivial⟩
    | 8, hio =>
     cases hio
     have e19 := r7 (hd ⟨7, .data⟩ (by simp) rfl)
     have e15 := r3 (hd ⟨3, .guard⟩ (by simp) rfl)
     obtain ⟨g, rfl⟩ : ∃ g, f = upd (upd (g) 19 (.pointer (some (Addr.add ⟨b4, 0, none⟩ 2)))) 15 (.bool false) := ⟨f, upd_keep' (upd_keep' (rfl) e19) e15⟩
     have o4 := o4.kp kR (fun e => e)
     refine s_ld1 (v := .slice _ _ _) on22 rfl rfl rfl (o4.get 2 rfl) (w_nil ?_)
     exact ⟨_, rfl, kR, l0, l5, l6, l7, l3, l4, r0, r1, r2, r3, r4, r5, r6, r7, (fun _ => rfl), r9, r10, r11, r12, r13, r14, r15, r16, r17, r18, r19, r20, r21, r22, r23, r24, r25, r26, r27, r28, r29, r30, r31, r32, r33, r34, r35, trivial⟩
    | 9, hio =>
     cases hio
     have e20 := r8 (hd ⟨8, .data⟩ (by simp) rfl)
     have e15 := r3 (hd ⟨3, .guard⟩ (by simp) rfl)
     obtain ⟨g, rfl⟩ : ∃ g, f = upd (upd (g) 20 (.slice An l[k].new.length cn)) 15 (.bool false) := ⟨f, upd_keep' (upd_keep' (rfl) e20) e15⟩
     have o4 := o4.kp kR (fun e => e)
     refine s_lenL Tryz.underlying22 rfl rfl rfl (w_nil ?_)
     exact ⟨_, rfl, kR, l0, l5, l6, l7, l3, l4, r0, r1, r2, r3, r4, r5, r6, r7, r8, (fun _ => rfl), r10, r11, r12, r13, r14, r15, r16, r17, r18, r19, r20, r21, r22, r23, r24, r25, r26, r27, r28, r29, r30, r31, r32, r33, r34, r35, trivial⟩
    | 10, hio =>
     cases hio
     have e18 := r6 (hd ⟨6, .data⟩ (by simp) rfl)
     have e21 := r9 (hd ⟨9, .data⟩ (by simp) rfl)
     have e15 := r3 (hd ⟨3, .guard⟩ (by simp) rfl)
     obtain ⟨g, rfl⟩ : ∃ g, f = upd (upd (upd (g) 18 (.int .i64 (l[k].old.length : Nat))) 21 (.int .i64 (l[k].new.length : Nat))) 15 (.bool false) := ⟨f, upd_keep' (upd_keep' (upd_keep' (rfl) e18) e21) e15⟩
     have o4 := o4.kp kR (fun e => e)
     refine s_add rfl rfl rfl rfl rfl (w64 (by omega)) (w_nil ?_)
     exact ⟨_, rfl, kR, l0, l5, l6, l7, l3, l4, r0, r1, r2, r3, r4, r5, r6, r7, r8, r9, (fun _ => rfl), r11, r12, r13, r14, r15, r16, r17, r18, r19, r20, r21, r22, r23, r24, r25, r26, r27, r28, r29, r30, r31, r32, r33, r34, r35, trivial⟩
    | 11, hio =>
     cases hio
     have e22 := r10 (hd ⟨10, .data⟩ (by simp) rfl)
     have e15 := r3 (hd ⟨3, .guard⟩ (by simp) rfl)
     obtain ⟨g, rfl⟩ : ∃ g, f = upd (upd (g) 22 (.int .i64 ((l[k].old.length : Nat) + (l[k].new.length : Nat) : Int))) 15 (.bool false) := ⟨f, upd_keep' (upd_keep' (rfl) e22) e15⟩
     have o4 := o4.kp kR (fun e => e)
     refine s_eq rfl rfl rfl rfl rfl (decide_eq_false (by omega)) (w_nil ?_)
     exact ⟨_, rfl, kR, l0, l5, l6, l7, l3, l4, r0, r1, r2, r3, r4, r5, r6, r7, r8, r9, r10, (fun _ => rfl), r12, r13, r14, r15, r16, r17, r18, r19, r20, r21, r22, r23, r24, r25, r26, r27, r28, r29, r30, r31, r32, r33, r34, r35, trivial⟩
    | 12, hio =>
     cases hio
     have e15 := r3 (hd ⟨3, .data⟩ (by simp) rfl)
     have e23 := r11 (hd ⟨11, .data⟩ (by simp) rfl)
     obtain ⟨g, rfl⟩ : ∃ g, f = upd (upd (g) 15 (.bool false)) 23 (.bool false) := ⟨f, upd_keep' (upd_keep' (rfl) e15) e23⟩
     have o4 := o4.kp kR (fun e => e)
     refine pFB rfl rfl rfl rfl rfl (w_nil ?_)
     exact ⟨_, rfl, kR, l0, l5, l6, l7, l3, l4, r0, r1, r2, r3, r4, r5, r6, r7, r8, r9, r10, r11, (fun _ => rfl), r13, r14, r15, r16, r17, r18, r19, r20, r21, r22, r23, r24, r25, r26, r27, r28, r29, r30, r31, r32, r33, r34, r35, trivial⟩
    | 13, hio =>
     cases hio
     have e24 := r12 (hd ⟨12, .data⟩ (by simp) rfl)
     obtain ⟨g, rfl⟩ : ∃ g, f = upd (g) 24 (.bool false) := ⟨f, upd_keep' (rfl) e24⟩
     have o4 := o4.kp kR (fun e => e)
     refine mvB rfl rfl rfl (w_nil ?_)
     exact ⟨_, rfl, kR, l0, l5, l6, l7, l3, l4, r0, r1, r2, r3, r4, r5, r6, r7, r8, r9, r10, r11, r12, (fun _ => rfl), r14, r15, r16, r17, r18, r19, r20, r21, r22, r23, r24, r25, r26, r27, r28, r29, r30, r31, r32, r33, r34, r35, trivial⟩
    | 14, hio =>
     cases hio
     have e25 := r13 (hd ⟨13, .guard⟩ (by simp) rfl)
     obtain ⟨g, rfl⟩ : ∃ g, f = upd (upd (g) 3 (.int .i64 (k : Nat))) 25 (.bool false) := ⟨f, upd_keep' (upd_keep' (rfl) l3) e25⟩
     have o4 := o4.kp kR (fun e => e)
     refine mvI rfl rfl rfl (w_nil ?_)
     exact ⟨_, rfl, kR, l0, l5, l6, l7, l3, l4, r0, r1, r2, r3, r4, r5, r6, r7, r8, r9, r10, r11, r12, r13, (fun _ => rfl), r15, r16, r17, r18, r19, r20, r21, r22, r23, r24, r25, r26, r27, r28, r29, r30, r31, r32, r33, r34, r35, trivial⟩
    | 15, hio =>
     cases hio
     have e26 := r14 (hd ⟨14, .data⟩ (by simp) rfl)
     have e25 := r13 (hd ⟨13, .guard⟩ (by simp) rfl)
     obtain ⟨g, rfl⟩ : ∃ g, f = upd (upd (g) 26 (.int .i64 (k : Nat))) 25 (.bool false) := ⟨f, upd_keep' (upd_keep' (rfl) e26) e25⟩
     have o4 := o4.kp kR (fun e => e)
     refine s_gtr rfl rfl rfl rfl rfl (decide_eq_false (by omega)) (w_nil ?_)
     exact ⟨_, rfl, kR, l0, l5, l6, l7, l3, l4, r0, r1, r2, r3, r4, r5, r6, r7, r8, r9, r10, r11, r12, r13, r14, (fun _ => rfl), r16, r17, r18, r19, r20, r21, r22, r23, r24, r25, r26, r27, r28, r29, r30, r31, r32, r33, r34, r35, trivial⟩
    | 16, hio =>
     cases hio
     have e27 := r15 (hd ⟨15, .data⟩ (by simp) rfl)
     have e25 := r13 (hd ⟨13, .chain⟩ (by simp) rfl)
     obtain ⟨g, rfl⟩ : ∃ g, f = upd (upd (g) 27 (.bool false)) 25 (.bool false) := ⟨f, upd_keep' (upd_keep' (rfl) e27) e25⟩
     have o4 := o4.kp kR (fun e => e)
     refine mvB rfl rfl rfl (w_nil ?_)
     exact ⟨_, rfl, kR, l0, l5, l6, l7, l3, l4, r0, r1, r2, r3, r4, r5, r6, r7, r8, r9, r10, r11, r12, r13, r14, r15, (fun _ => rfl), r17, r18, r19, r20, r21, r22, r23, r24, r25, r26, r27, r28, r29, r30, r31, r32, r33, r34, r35, trivial⟩
    | 17, hio =>
     cases hio
     have e28 := r16 (hd ⟨16, .guard⟩ (by simp) rfl)
     obtain ⟨g, rfl⟩ : ∃ g, f = upd (upd (g) 4 (.pointer (some ⟨b4, 0, none⟩))) 28 (.bool false) := ⟨f, upd_keep' (upd_keep' (rfl) l4) e28⟩
     have o4 := o4.kp kR (fun e => e)
     refine st_skip rfl (w_nil ?_)
     exact ⟨_, rfl, kR, l0, l5, l6, l7, l3, l4, r0, r1, r2, r3, r4, r5, r6, r7, r8, r9, r10, r11, r12, r13, r14, r15, r16, (fun _ => rfl), r18, r19, r20, r21, r22, r23, r24, r25, r26, r27, r28, r29, r30, r31, r32, r33, r34, r35, trivial⟩
    | 18, hio =>
     cases hio
     have e29 := r17 (hd ⟨17, .data⟩ (by simp) rfl)
     have e28 := r16 (hd ⟨16, .guard⟩ (by simp) rfl)
     obtain ⟨g, rfl⟩ : ∃ g, f = upd (upd (g) 29 (undef)) 28 (.bool false) := ⟨f, upd_keep' (upd_keep' (rfl) e29) e28⟩
     have o4 := o4.kp kR (fun e => e)
     refine st_skip rfl (w_nil ?_)
     exact ⟨_, rfl, kR, l0, l5, l6, l7, l3, l4, r0, r1, r2, r3, r4, r5, r6, r7, r8, r9, r10, r11, r12, r13, r14, r15, r16, r17, (fun _ => rfl), r19, r20, r21, r22, r23, r24, r25, r26, r27, r28, r29, r30, r31, r32, r33, r34, r35, trivial⟩
    | 19, hio =>
     cases hio
     have e28 := r16 (hd ⟨16, .guard⟩ (by simp) rfl)
     obtain ⟨g, rfl⟩ : ∃ g, f = upd (upd (g) 0 (.slice (some p) l.length cap)) 28 (.bool false) := ⟨f, upd_keep' (upd_keep' (rfl) l0) e28⟩
     have o4 := o4.kp kR (fun e => e)
     refine st_skip rfl (w_nil ?_)
     exact ⟨_, rfl, kR, l0, l5, l6, l7, l3, l4, r0, r1, r2, r3, r4, r5, r6, r7, r8, r9, r10, r11, r12, r13, r14, r15, r16, r17, r18, (fun _ => rfl), r20, r21, r22, r23, r24, r25, r26, r27, r28, r29, r30, r31, r32, r33, r34, r35, trivial⟩
    | 20, hio =>
     cases hio
     have e28 := r16 (hd ⟨16, .guard⟩ (by simp) rfl)
     obtain ⟨g, rfl⟩ : ∃ g, f = upd (upd (g) 3 (.int .i64 (k : Nat))) 28 (.bool false) := ⟨f, upd_keep' (upd_keep' (rfl) l3) e28⟩
     have o4 := o4.kp kR (fun e => e)
     refine st_skip rfl (w_nil ?_)
     exact ⟨_, rfl, kR, l0, l5, l6, l7, l3, l4, r0, r1, r2, r3, r4, r5, r6, r7, r8, r9, r10, r11, r12, r13, r14, r15, r16, r17, r18, r19, (fun _ => rfl), r21, r22, r23, r24, r25, r26, r27, r28, r29, r30, r31, r32, r33, r34, r35, trivial⟩
    | 21, hio =>
     cases hio
     have e32 := r20 (hd ⟨20, .data⟩ (by simp) rfl)
     have e28 := r16 (hd ⟨16, .guard⟩ (by simp) rfl)
     obtain ⟨g, rfl⟩ : ∃ g, f = upd (upd (g) 32 (undef)) 28 (.bool false) := ⟨f, upd_keep' (upd_keep' (rfl) e32) e28⟩
     have o4 := o4.kp kR (fun e => e)
     refine st_skip rfl (w_nil ?_)
     exact ⟨_, rfl, kR, l0, l5, l6, l7, l3, l4, r0, r1, r2, r3, r4, r5, r6, r7, r8, r9, r10, r11, r12, r13, r14, r15, r16, r17, r18, r19, r20, (fun _ => rfl), r22, r23, r24, r25, r26, r27, r28, r29, r30, r31, r32, r33, r34, r35, trivial⟩
    | 22, hio =>
     cases hio
     have e31 := r19 (hd ⟨19, .data⟩ (by simp) rfl)
     have e33 := r21 (hd ⟨21, .data⟩ (by simp) rfl)
     have e28 := r16 (hd ⟨16, .guard⟩ (by simp) rfl)
     obtain ⟨g, rfl⟩ : ∃ g, f = upd (upd (upd (g) 31 (undef)) 33 (undef)) 28 (.bool false) := ⟨f, upd_keep' (upd_keep' (upd_keep' (rfl) e31) e33) e28⟩
     have o4 := o4.kp kR (fun e => e)
     refine st_skip rfl (w_nil ?_)
     exact ⟨_, rfl, kR, l0, l5, l6, l7, l3, l4, r0, r1, r2, r3, r4, r5, r6, r7, r8, r9, r10, r11, r12, r13, r14, r15, r16, r17, r18, r19, r20, r21, (fun _ => rfl), r23, r24, r25, r26, r27, r28, r29, r30, r31, r32, r33, r34, r35, trivial⟩
    | 23, hio =>
     cases hio
     have e34 := r22 (hd ⟨22, .data⟩ (by simp) rfl)
     have e28 := r16 (hd ⟨16, .guard⟩ (by simp) rfl)
     obtain ⟨g, rfl⟩ : ∃ g, f = upd (upd (g) 34 (undef)) 28 (.bool false) := ⟨f, upd_keep' (upd_keep' (rfl) e34) e28⟩
     have o4 := o4.kp kR (fun e => e)
     refine st_skip rfl (w_nil ?_)
     exact ⟨_, rfl, kR, l0, l5, l6, l7, l3, l4, r0, r1, r2, r3, r4, r5, r6, r7, r8, r9, r10, r11, r12, r13, r14, r15, r16, r17, r18, r19, r20, r21, r22, (fun _ => rfl), r24, r25, r26, r27, r28, r29, r30, r31, r32, r33, r34, r35, trivial⟩
    | 24, hio =>
     cases hio
     have e35 := r23 (hd ⟨23, .data⟩ (by simp) rfl)
     have e28 := r16 (hd ⟨16, .guard⟩ (by simp) rfl)
     obtain ⟨g, rfl⟩ : ∃ g, f = upd (upd (g) 35 (undef)) 28 (.bool false) := ⟨f, upd_keep' (upd_keep' (rfl) e35) e28⟩
     have o4 := o4.kp kR (fun e => e)
     refine st_skip rfl (w_nil ?_)
     exact ⟨_, rfl, kR, l0, l5, l6, l7, l3, l4, r0, r1, r2, r3, r4, r5, r6, r7, r8, r9, r10, r11, r12, r13, r14, r15, r16, r17, r18, r19, r20, r21, r22, r23, (fun _ => rfl), r25, r26, r27, r28, r29, r30, r31, r32, r33, r34, r35, trivial⟩
    | 25, hio =>
     cases hio
     have e36 := r24 (hd ⟨24, .data⟩ (by simp) rfl)
     have e28 := r16 (hd ⟨16, .guard⟩ (by simp) rfl)
     obtain ⟨g, rfl⟩ : ∃ g, f = upd (upd (g) 36 (undef)) 28 (.bool false) := ⟨f, upd_keep' (upd_keep' (rfl) e36) e28⟩
     have o4 := o4.kp kR (fun e => e)
     refine st_skip rfl (w_nil ?_)
     exact ⟨_, rfl, kR, l0, l5, l6, l7, l3, l4, r0, r1, r2, r3, r4, r5, r6, r7, r8, r9, r10, r11, r12, r13, r14, r15, r16, r17, r18, r19, r20, r21, r22, r23, r24, (fun _ => rfl), r26, r27, r28, r29, r30, r31, r32, r33, r34, r35, trivial⟩
    | 26, hio =>
     cases hio
     have e30 := r18 (hd ⟨18, .data⟩ (by simp) rfl)
     have e37 := r25 (hd ⟨25, .data⟩ (by simp) rfl)
     have e28 := r16 (hd ⟨16, .guard⟩ (by simp) rfl)
     obtain ⟨g, rfl⟩ : ∃ g, f = upd (upd (upd (g) 30 (undef)) 37 (undef)) 28 (.bool false) := ⟨f, upd_keep' (upd_keep' (upd_keep' (rfl) e30) e37) e28⟩
     have o4 := o4.kp kR (fun e => e)
     refine st_skip rfl (w_nil ?_)
     exact ⟨_, rfl, kR, l0, l5, l6, l7, l3, l4, r0, r1, r2, r3, r4, r5, r6, r7, r8, r9, r10, r11, r12, r13, r14, r15, r16, r17, r18, r19, r20, r21, r22, r23, r24, r25, (fun _ => rfl), r27, r28, r29, r30, r31, r32, r33, r34, r35, trivial⟩
    | 27, hio =>
     cases hio
     have e28 := r16 (hd ⟨16, .guard⟩ (by simp) rfl)
     obtain ⟨g, rfl⟩ : ∃ g, f = upd (upd (g) 0 (.slice (some p) l.length cap)) 28 (.bool false) := ⟨f, upd_keep' (upd_keep' (rfl) l0) e28⟩
     have o4 := o4.kp kR (fun e => e)
     refine st_skip rfl (w_nil ?_)
     exact ⟨_, rfl, kR, l0, l5, l6, l7, l3, l4, r0, r1, r2, r3, r4, r5, r6, r7, r8, r9, r10, r11, r12, r13, r14, r15, r16, r17, r18, r19, r20, r21, r22, r23, r24, r25, r26, (fun _ => rfl), r28, r29, r30, r31, r32, r33, r34, r35, trivial⟩
    | 28, hio =>
     cases hio
     have e28 := r16 (hd ⟨16, .guard⟩ (by simp) rfl)
     obtain ⟨g, rfl⟩ : ∃ g, f = upd (upd (g) 3 (.int .i64 (k : Nat))) 28 (.bool false) := ⟨f, upd_keep' (upd_keep' (rfl) l3) e28⟩
     have o4 := o4.kp kR (fun e => e)
     refine st_skip rfl (w_nil ?_)
     exact ⟨_, rfl, kR, l0, l5, l6, l7, l3, l4, r0, r1, r2, r3, r4, r5, r6, r7, r8, r9, r10, r11, r12, r13, r14, r15, r16, r17, r18, r19, r20, r21, r22, r23, r24, r25, r26, r27, (fun _ => rfl), r29, r30, r31, r32, r33, r34, r35, trivial⟩
    | 29, hio =>
     cases hio
     have e40 := r28 (hd ⟨28, .data⟩ (by simp) rfl)
     have e28 := r16 (hd ⟨16, .guard⟩ (by simp) rfl)
     obtain ⟨g, rfl⟩ : ∃ g, f = upd (upd (g) 40 (undef)) 28 (.bool false) := ⟨f, upd_keep' (upd_keep' (rfl) e40) e28⟩
     have o4 := o4.kp kR (fun e => e)
     refine st_skip rfl (w_nil ?_)
     exact ⟨_, rfl, kR, l0, l5, l6, l7, l3, l4, r0, r1, r2, r3, r4, r5, r6, r7, r8, r9, r10, r11, r12, r13, r14, r15, r16, r17, r18, r19, r20, r21, r22, r23, r24, r25, r26, r27, r28, (fun _ => rfl), r30, r31, r32, r33, r34, r35, trivial⟩
    | 30, hio =>
     cases hio
     have e39 := r27 (hd ⟨27, .data⟩ (by simp) rfl)
     have e41 := r29 (hd ⟨29, .data⟩ (by simp) rfl)
     have e28 := r16 (hd ⟨16, .guard⟩ (by simp) rfl)
     obtain ⟨g, rfl⟩ : ∃ g, f = upd (upd (upd (g) 39 (undef)) 41 (undef)) 28 (.bool false) := ⟨f, upd_keep' (upd_keep' (upd_keep' (rfl) e39) e41) e28⟩
     have o4 := o4.kp kR (fun e => e)
     refine st_skip rfl (w_nil ?_)
     exact ⟨_, rfl, kR, l0, l5, l6, l7, l3, l4, r0, r1, r2, r3, r4, r5, r6, r7, r8, r9, r10, r11, r12, r13, r14, r15, r16, r17, r18, r19, r20, r21, r22, r23, r24, r25, r26, r27, r28, r29, (fun _ => rfl), r31, r32, r33, r34, r35, trivial⟩
    | 31, hio =>
     cases hio
     have e42 := r30 (hd ⟨30, .data⟩ (by simp) rfl)
     have e28 := r16 (hd ⟨16, .guard⟩ (by simp) rfl)
     obtain ⟨g, rfl⟩ : ∃ g, f = upd (upd (g) 42 (undef)) 28 (.bool false) := ⟨f, upd_keep' (upd_keep' (rfl) e42) e28⟩
     have o4 := o4.kp kR (fun e => e)
     refine st_skip rfl (w_nil ?_)
     exact ⟨_, rfl, kR, l0, l5, l6, l7, l3, l4, r0, r1, r2, r3, r4, r5, r6, r7, r8, r9, r10, r11, r12, r13, r14, r15, r16, r17, r18, r19, r20, r21, r22, r23, r24, r25, r26, r27, r28, r29, r30, (fun _ => rfl), r32, r33, r34, r35, trivial⟩
    | 32, hio =>
     cases hio
     have e43 := r31 (hd ⟨31, .data⟩ (by simp) rfl)
     have e28 := r16 (hd ⟨16, .guard⟩ (by simp) rfl)
     obtain ⟨g, rfl⟩ : ∃ g, f = upd (upd (g) 43 (undef)) 28 (.bool false) := ⟨f, upd_keep' (upd_keep' (rfl) e43) e28⟩
     have o4 := o4.kp kR (fun e => e)
     refine st_skip rfl (w_nil ?_)
     exact ⟨_, rfl, kR, l0, l5, l6, l7, l3, l4, r0, r1, r2, r3, r4, r5, r6, r7, r8, r9, r10, r11, r12, r13, r14, r15, r16, r17, r18, r19, r20, r21, r22, r23, r24, r25, r26, r27, r28, r29, r30, r31, (fun _ => rfl), r33, r34, r35, trivial⟩
    | 33, hio =>
     cases hio
     have e38 := r26 (hd ⟨26, .data⟩ (by simp) rfl)
     have e44 := r32 (hd ⟨32, .data⟩ (by simp) rfl)
     have e28 := r16 (hd ⟨16, .guard⟩ (by simp) rfl)
     obtain ⟨g, rfl⟩ : ∃ g, f = upd (upd (upd (g) 38 (undef)) 44 (undef)) 28 (.bool false) := ⟨f, upd_keep' (upd_keep' (upd_keep' (rfl) e38) e44) e28⟩
     have o4 := o4.kp kR (fun e => e)
     refine st_skip rfl (w_nil ?_)
     exact ⟨_, rfl, kR, l0, l5, l6, l7, l3, l4, r0, r1, r2, r3, r4, r5, r6, r7, r8, r9, r10, r11, r12, r13, r14, r15, r16, r17, r18, r19, r20, r21, r22, r23, r24, r25, r26, r27, r28, r29, r30, r31, r32, (fun _ => rfl), r34, r35, trivial⟩
    | 34, hio =>
     cases hio
     have e28 := r16 (hd ⟨16, .data⟩ (by simp) rfl)
     have e45 := r33 (hd ⟨33, .data⟩ (by simp) rfl)
     have e25 := r13 (hd ⟨13, .guard⟩ (by simp) rfl)
     obtain ⟨g, rfl⟩ : ∃ g, f = upd (upd (upd (g) 28 (.bool false)) 45 (undef)) 25 (.bool false) := ⟨f, upd_keep' (upd_keep' (upd_keep' (rfl) e28) e45) e25⟩
     have o4 := o4.kp kR (fun e => e)
     refine pFB rfl rfl rfl rfl rfl (w_nil ?_)
     exact ⟨_, rfl, kR, l0, l5, l6, l7, l3, l4, r0, r1, r2, r3, r4, r5, r6, r7, r8, r9, r10, r11, r12, r13, r14, r15, r16, r17, r18, r19, r20, r21, r22, r23, r24, r25, r26, r27, r28, r29, r30, r31, r32, r33, (fun _ => rfl), r35, trivial⟩
    | 35, hio =>
     cases hio
     have e25 := r13 (hd ⟨13, .data⟩ (by simp) rfl)
     have e46 := r34 (hd ⟨34, .data⟩ (by simp) rfl)
     obtain ⟨g, rfl⟩ : ∃ g, f = upd (upd (g) 25 (.bool false)) 46 (.bool false) := ⟨f, upd_keep' (upd_keep' (rfl) e25) e46⟩
     have o4 := o4.kp kR (fun e => e)
     refine pFB rfl rfl rfl rfl rfl (w_nil ?_)
     exact ⟨_, rfl, kR, l0, l5, l6, l7, l3, l4, r0, r1, r2, r3, r4, r5, r6, r7, r8, r9, r10, r11, r12, r13, r14, r15, r16, r17, r18, r19, r20, r21, r22, r23, r24, r25, r26, r27, r28, r29, r30, r31, r32, r33, r34, (fun _ => rfl), trivial⟩
    | k + 36, hio => exact absurd hio (by simp)
   ·intro S f w3 hS hI
    obtain ⟨kR, l0, l5, l6, l7, l3, l4, r0, r1, r2, r3, r4, r5, r6, r7, r8, r9, r10, r11, r12, r13, r14, r15, r16, r17, r18, r19, r20, r21, r22, r23, r24, r25, r26, r27, r28, r29, r30, r31, r32, r33, r34, r35, -⟩ := hI
    obtain ⟨g, rfl⟩ : ∃ g, f = upd (upd (upd (upd (upd (upd (upd (g) 0 (.slice (some p) l.length cap)) 5 (.slice (some p) l.length cap)) 6 (.int .i64 (l.length : Nat))) 7 (.int .i64 (k : Nat))) 3 (.int .i64 (k : Nat))) 4 (.pointer (some ⟨b4, 0, none⟩))) 47 (.bool false) := ⟨f, upd_keep' (upd_keep' (upd_keep' (upd_keep' (upd_keep' (upd_keep' (upd_keep' (rfl) l0) l5) l6) l7) l3) l4) (r35 (hS 35 (by decide)))⟩
    clear hS l0 l5 l6 l7 l3 l4 r0 r1 r2 r3 r4 r5 r6 r7 r8 r9 r10 r11 r12 r13 r14 r15 r16 r17 r18 r19 r20 r21 r22 r23 r24 r25 r26 r27 r28 r29 r30 r31 r32 r33 r34 r35
    replace o4 := o4.kp kR (fun e => e)
    replace K := K.trans kR
    refine then_n (c_F rfl rfl (wp_skip (inb_n (then_n (c_reg (s_add rfl rfl rfl rfl rfl (w64 (by omega)) (mvI rfl rfl rfl (w_nil (then_n ?_)))))))))
    exact ⟨l.length - (k + 1), _, by omega, rfl, _, k + 1, rfl, by omega, (upd_keep' (upd_keep' (upd_keep' (upd_keep' rfl rfl) rfl) rfl) rfl), K⟩
  ·have hk9 := hk0
   obtain ⟨e1, hk1⟩ : ∃ e1, l[k - 1]? = some e1 := ⟨_, List.getElem?_eq_getElem (by omega)⟩
   obtain ⟨q, uo, un, hqA, _, hq, ⟨Bo, ko, rfl, hbo⟩, _⟩ := hA.2 (k - 1) _ hk1
   cases hqA
   have v7 := v6 _ hk0 hk1
   obtain ⟨y1, y2, y3, y4, y5, _⟩ := hv.2 (k - 1) _ hk1
   replace hq := hq.kp K (fun e => e)
   refine c_draw' (fun S f w => New w2 w ∧ f 0 = .slice (some p) l.length cap ∧ f 5 = .slice (some p) l.length cap ∧ f 6 = .int .i64 (l.length : Nat) ∧ f 7 = .int .i64 (k : Nat) ∧ f 3 = .int .i64 (k : Nat) ∧ f 4 = .pointer (some ⟨b4, 0, none⟩) ∧ (S 0 = true → f 12 = .pointer (some (Addr.add ⟨b4, 0, none⟩ 0))) ∧ (S 1 = true → f 13 = .int .i64 l[k].pos) ∧ (S 2 = true → f 14 = .bool false) ∧ (S 3 = true → f 15 = .bool false) ∧ (S 4 = true → f 16 = .pointer (some (Addr.add ⟨b4, 0, none⟩ 1))) ∧ (S 5 = true → f 17 = .slice Ao l[k].old.length co) ∧ (S 6 = true → f 18 = .int .i64 (l[k].old.length : Nat)) ∧ (S 7 = true → f 19 = .pointer (some (Addr.add ⟨b4, 0, none⟩ 2))) ∧ (S 8 = true → f 20 = .slice An l[k].new.length cn) ∧ (S 9 = true → f 21 = .int .i64 (l[k].new.length : Nat)) ∧ (S 10 = true → f 22 = .int .i64 ((l[k].old.length : Nat) + (l[k].new.length : Nat) : Int)) ∧ (S 11 = true → f 23 = .bool false) ∧ (S 12 = true → f 24 = .bool false) ∧ (S 13 = true → f 25 = .bool false) ∧ (S 14 = true → f 26 = .int .i64 (k : Nat)) ∧ (S 15 = true → f 27 = .bool true) ∧ (S 16 = true → f 28 = .bool true) ∧ (S 17 = true → f 29 = .pointer (some (Addr.add ⟨b4, 0, none⟩ 0))) ∧ (S 18 = true → f 30 = .int .i64 l[k].pos) ∧ (S 19 = true → f 31 = .slice (some p) l.length cap) ∧ (S 20 = true → f 32 = .int .i64 (k : Nat)) ∧ (S 21 = true → f 33 = .int .i64 ((k : Nat) - 1 : Int)) ∧ (S 22 = true → f 34 = .pointer (some (p.add ((k - 1) * 3)))) ∧ (S 23 = true → f 35 = .pointer (some (Addr.add (p.add ((k - 1) * 3)) 1))) ∧ (S 24 = true → f 36 = .slice Bo e1.old.length ko) ∧ (S 25 = true → f 37 = .int .i64 (e1.old.length : Nat)) ∧ (S 26 = true → f 38 = .int .i64 (l[k].pos - (e1.old.length : Nat))) ∧ (S 27 = true → f 39 = .slice (some p) l.length cap) ∧ (S 28 = true → f 40 = .int .i64 (k : Nat)) ∧ (S 29 = true → f 41 = .int .i64 ((k : Nat) - 1 : Int)) ∧ (S 30 = true → f 42 = .pointer (some (p.add ((k - 1) * 3)))) ∧ (S 31 = true → f 43 = .pointer (some (Addr.add (p.add ((k - 1) * 3)) 0))) ∧ (S 32 = true → f 44 = .int .i64 e1.pos) ∧ (S 33 = true → f 45 = .bool false) ∧ (S 34 = true → f 46 = .bool false) ∧ (S 35 = true → f 47 = .bool false) ∧ True) (by kernel_rfl) ⟨(Kp.refl _ _).drew, rfl, rfl, rfl, rfl, rfl, rfl, (fun h => by cases h), (fun h => by cases h), (fun h => by cases h), (fun h => by cases h), (fun h => by cases h), (fun h => by cases h), (fun h => by cases h), (fun h => by cases h), (fun h => by cases h), (fun h => by cases h), (fun h => by cases h), (fun h => by cases h), (fun h => by cases h), (fun h => by cases h), (fun h => by cases h), (fun h => by cases h), (fun h => by cases h), (fun h => by cases h), (fun h => by cases h), (fun h => by cases h), (fun h => by cases h), (fun h => by cases h), (fun h => by cases h), (fun h => by cases h), (fun h => by cases h), (fun h => by cases h), (fun h => by cases h), (fun h => by cases h), (fun h => by cases h), (fun h => by cases h), (fun h => by cases h), (fun h => by cases h), (fun h => by cases h), (fun h => by cases h), (fun h => by cases h), (fun h => by cases h), trivial⟩ ?_ ?_
   ·intro io opx hio S f w hd hI
    obtain ⟨kR, l0, l5, l6, l7, l3, l4, r0, r1, r2, r3, r4, r5, r6, r7, r8, r9, r10, r11, r12, r13, r14, r15, r16, r17, r18, r19, r20, r21, r22, r23, r24, r25, r26, r27, r28, r29, r30, r31, r32, r33, r34, r35, -⟩ := hI
    match io, hio with
    | 0, hio =>
     cases hio
     obtain ⟨g, rfl⟩ : ∃ g, f = upd (g) 4 (.pointer (some ⟨b4, 0, none⟩)) := ⟨f, upd_keep' (rfl) l4⟩
     have o4 := o4.kp kR (fun e => e)
     have hq := hq.kp kR (fun e => e)
     refine s_fa fi60_0 rfl rfl rfl (w_nil ?_)
     exact ⟨_, rfl, kR, l0, l5, l6, l7, l3, l4, (fun _ => rfl), r1, r2, r3, r4, r5, r6, r7, r8, r9, r10, r11, r12, r13, r14, r15, r16, r17, r18, r19, r20, r21, r22, r23, r24, r25, r26, r27, r28, r29, r30, r31, r32, r33, r34, r35, trivial⟩
    | 1, hio =>
     cases hio
     have e12 := r0 (hd ⟨0, .data⟩ (by simp) rfl)
     obtain ⟨g, rfl⟩ : ∃ g, f = upd (g) 12 (.pointer (some (Addr.add ⟨b4, 0, none⟩ 0))) := ⟨f, upd_keep' (rfl) e12⟩
     have o4 := o4.kp kR (fun e => e)
     have hq := hq.kp kR (fun e => e)
     refine s_ld1 (v := .int .i64 _) on3 rfl rfl rfl (o4.get 0 rfl) (w_nil ?_)
     exact ⟨_, rfl, kR, l0, l5, l6, l7, l3, l4, r0, (fun _ => rfl), r2, r3, r4, r5, r6, r7, r8, r9, r10, r11, r12, r13, r14, r15, r16, r17, r18, r19, r20, r21, r22, r23, r24, r25, r26, r27, r28, r29, r30, r31, r32, r33, r34, r35, trivial⟩
    | 2, hio =>
     cases hio
     have e13 := r1 (hd ⟨1, .data⟩ (by simp) rfl)
     obtain ⟨g, rfl⟩ : ∃ g, f = upd (g) 13 (.int .i64 l[k].pos) := ⟨f, upd_keep' (rfl) e13⟩
     have o4 := o4.kp kR (fun e => e)
     have hq := hq.kp kR (fun e => e)
     refine s_lss rfl rfl rfl rfl rfl (decide_eq_false (by omega)) (w_nil ?_)
     exact ⟨_, rfl, kR, l0, l5, l6, l7, l3, l4, r0, r1, (fun _ => rfl), r3, r4, r5, r6, r7, r8, r9, r10, r11, r12, r13, r14, r15, r16, r17, r18, r19, r20, r21, r22, r23, r24, r25, r26, r27, r28, r29, r30, r31, r32, r33, r34, r35, trivial⟩
    | 3, hio =>
     cases hio
     have e14 := r2 (hd ⟨2, .data⟩ (by simp) rfl)
     obtain ⟨g, rfl⟩ : ∃ g, f = upd (g) 14 (.bool false) := ⟨f, upd_keep' (rfl) e14⟩
     have o4 := o4.kp kR (fun e => e)
     have hq := hq.kp kR (fun e => e)
     refine mvB rfl rfl rfl (w_nil ?_)
     exact ⟨_, rfl, kR, l0, l5, l6, l7, l3, l4, r0, r1, r2, (fun _ => rfl), r4, r5, r6, r7, r8, r9, r10, r11, r12, r13, r14, r15, r16, r17, r18, r19, r20, r21, r22, r23, r24, r25, r26, r27, r28, r29, r30, r31, r32, r33, r34, r35, trivial⟩
    | 4, hio =>
     cases hio
     have e15 := r3 (hd ⟨3, .guard⟩ (by simp) rfl)
     obtain ⟨g, rfl⟩ : ∃ g, f = upd (upd (g) 4 (.pointer (some ⟨b4, 0, none⟩))) 15 (.bool false) := ⟨f, upd_keep' (upd_keep' (rfl) l4) e15⟩
     have o4 := o4.kp kR (fun e => e)
     have hq := hq.kp kR (fun e => e)
     refine s_fa fi60_1 rfl rfl rfl (w_nil ?_)
     exact ⟨_, rfl, kR, l0, l5, l6, l7, l3, l4, r0, r1, r2, r3, (fun _ => rfl), r5, r6, r7, r8, r9, r10, r11, r12, r13, r14, r15, r16, r17, r18, r19, r20, r21, r22, r23, r24, r25, r26, r27, r28, r29, r30, r31, r32, r33, r34, r35, trivial⟩
    | 5, hio =>
     cases hio
     have e16 := r4 (hd ⟨4, .data⟩ (by simp) rfl)
     have e15 := r3 (hd ⟨3, .guard⟩ (by simp) rfl)
     obtain ⟨g, rfl⟩ : ∃ g, f = upd (upd (g) 16 (.pointer (some (Addr.add ⟨b4, 0, none⟩ 1)))) 15 (.bool false) := ⟨f, upd_keep' (upd_keep' (rfl) e16) e15⟩
     have o4 := o4.kp kR (fun e => e)
     have hq := hq.kp kR (fun e => e)
     refine s_ld1 (v := .slice _ _ _) on22 rfl rfl rfl (o4.get 1 rfl) (w_nil ?_)
     exact ⟨_, rfl, kR, l0, l5, l6, l7, l3, l4, r0, r1, r2, r3, r4, (fun _ => rfl), r6, r7, r8, r9, r10, r11, r12, r13, r14, r15, r16, r17, r18, r19, r20, r21, r22, r23, r24, r25, r26, r27, r28, r29, r30, r31, r32, r33, r34, r35, trivial⟩
    | 6, hio =>
     cases hio
     have e17 := r5 (hd ⟨5, .data⟩ (by simp) rfl)
     have e15 := r3 (hd ⟨3, .guard⟩ (by simp) rfl)
     obtain ⟨g, rfl⟩ : ∃ g, f = upd (upd (g) 17 (.slice Ao l[k].old.length co)) 15 (.bool false) := ⟨f, upd_keep' (upd_keep' (rfl) e17) e15⟩
     have o4 := o4.kp kR (fun e => e)
     have hq := hq.kp kR (fun e => e)
     refine s_lenL Tryz.underlying22 rfl rfl rfl (w_nil ?_)
     exact ⟨_, rfl, kR, l0, l5, l6, l7, l3, l4, r0, r1, r2, r3, r4, r5, (fun _ => rfl), r7, r8, r9, r10, r11, r12, r13, r14, r15, r16, r17, r18, r19, r20, r21, r22, r23, r24, r25, r26, r27, r28, r29, r30, r31, r32, r33, r34, r35, trivial⟩
    | 7, hio =>
     cases hio
     have e15 := r3 (hd ⟨3, .guard⟩ (by simp) rfl)
     obtain ⟨g, rfl⟩ : ∃ g, f = upd (upd (g) 4 (.pointer (some ⟨b4, 0, none⟩))) 15 (.bool false) := ⟨f, upd_keep' (upd_keep' (rfl) l4) e15⟩
     have o4 := o4.kp kR (fun e => e)
     have hq := hq.kp kR (fun e => e)
     refine s_fa fi60_2 rfl rfl rfl (w_nil ?_)
     exact ⟨_, rfl, kR, l0, l5, l6, l7, l3, l4, r0, r1, r2, r3, r4, r5, r6, (fun _ => rfl), r8, r9, r10, r11, r12, r13, r14, r15, r16, r17, r18, r19, r20, r21, r22, r23, r24, r25, r26, r27, r28, r29, r30, r31, r32, r33, r34, r35, trivial⟩
    | 8, hio =>
     cases hio
     have e19 := r7 (hd ⟨7, .data⟩ (by simp) rfl)
     have e15 := r3 (hd ⟨3, .guard⟩ (by simp) rfl)
     obtain ⟨g, rfl⟩ : ∃ g, f = upd (upd (g) 19 (.pointer (some (Addr.add ⟨b4, 0, none⟩ 2)))) 15 (.bool false) := ⟨f, upd_keep' (upd_keep' (rfl) e19) e15⟩
     have o4 := o4.kp kR (fun e => e)
     have hq := hq.kp kR (fun e => e)
     refine s_ld1 (v := .slice _ _ _) on22 rfl rfl rfl (o4.get 2 rfl) (w_nil ?_)
     exact ⟨_, rfl, kR, l0, l5, l6, l7, l3, l4, r0, r1, r2, r3, r4, r5, r6, r7, (fun _ => rfl), r9, r10, r11, r12, r13, r14, r15, r16, r17, r18, r19, r20, r21, r22, r23, r24, r25, r26, r27, r28, r29, r30, r31, r32, r33, r34, r35, trivial⟩
    | 9, hio =>
     cases hio
     have e20 := r8 (hd ⟨8, .data⟩ (by simp) rfl)
     have e15 := r3 (hd ⟨3, .guard⟩ (by simp) rfl)
     obtain ⟨g, rfl⟩ : ∃ g, f = upd (upd (g) 20 (.slice An l[k].new.length cn)) 15 (.bool false) := ⟨f, upd_keep' (upd_keep' (rfl) e20) e15⟩
     have o4 := o4.kp kR (fun e => e)
     have hq := hq.kp kR (fun e => e)
     refine s_lenL Tryz.underlying22 rfl rfl rfl (w_nil ?_)
     exact ⟨_, rfl, kR, l0, l5, l6, l7, l3, l4, r0, r1, r2, r3, r4, r5, r6, r7, r8, (fun _ => rfl), r10, r11, r12, r13, r14, r15, r16, r17, r18, r19, r20, r21, r22, r23, r24, r25, r26, r27, r28, r29, r30, r31, r32, r33, r34, r35, trivial⟩
    | 10, hio =>
     cases hio
     have e18 := r6 (hd ⟨6, .data⟩ (by simp) rfl)
     have e21 := r9 (hd ⟨9, .data⟩ (by simp) rfl)
     have e15 := r3 (hd ⟨3, .guard⟩ (by simp) rfl)
     obtain ⟨g, rfl⟩ : ∃ g, f = upd (upd (upd (g) 18 (.int .i64 (l[k].old.length : Nat))) 21 (.int .i64 (l[k].new.length : Nat))) 15 (.bool false) := ⟨f, upd_keep' (upd_keep' (upd_keep' (rfl) e18) e21) e15⟩
     have o4 := o4.kp kR (fun e => e)
     have hq := hq.kp kR (fun e => e)
     refine s_add rfl rfl rfl rfl rfl (w64 (by omega)) (w_nil ?_)
     exact ⟨_, rfl, kR, l0, l5, l6, l7, l3, l4, r0, r1, r2, r3, r4, r5, r6, r7, r8, r9, (fun _ => rfl), r11, r12, r13, r14, r15, r16, r17, r18, r19, r20, r21, r22, r23, r24, r25, r26, r27, r28, r29, r30, r31, r32, r33, r34, r35, trivial⟩
    | 11, hio =>
     cases hio
     have e22 := r10 (hd ⟨10, .data⟩ (by simp) rfl)
     have e15 := r3 (hd ⟨3, .guard⟩ (by simp) rfl)
     obtain ⟨g, rfl⟩ : ∃ g, f = upd (upd (g) 22 (.int .i64 ((l[k].old.length : Nat) + (l[k].new.length : Nat) : Int))) 15 (.bool false) := ⟨f, upd_keep' (upd_keep' (rfl) e22) e15⟩
     have o4 := o4.kp kR (fun e => e)
     have hq := hq.kp kR (fun e => e)
     refine s_eq rfl rfl rfl rfl rfl (decide_eq_false (by omega)) (w_nil ?_)
     exact ⟨_, rfl, kR, l0, l5, l6, l7, l3, l4, r0, r1, r2, r3, r4, r5, r6, r7, r8, r9, r10, (fun _ => rfl), r12, r13, r14, r15, r16, r17, r18, r19, r20, r21, r22, r23, r24, r25, r26, r27, r28, r29, r30, r31, r32, r33, r34, r35, trivial⟩
    | 12, hio =>
     cases hio
     have e15 := r3 (hd ⟨3, .data⟩ (by simp) rfl)
     have e23 := r11 (hd ⟨11, .data⟩ (by simp) rfl)
     obtain ⟨g, rfl⟩ : ∃ g, f = upd (upd (g) 15 (.bool false)) 23 (.bool false) := ⟨f, upd_keep' (upd_keep' (rfl) e15) e23⟩
     have o4 := o4.kp kR (fun e => e)
     have hq := hq.kp kR (fun e => e)
     refine pFB rfl rfl rfl rfl rfl (w_nil ?_)
     exact ⟨_, rfl, kR, l0, l5, l6, l7, l3, l4, r0, r1, r2, r3, r4, r5, r6, r7, r8, r9, r10, r11, (fun _ => rfl), r13, r14, r15, r16, r17, r18, r19, r20, r21, r22, r23, r24, r25, r26, r27, r28, r29, r30, r31, r32, r33, r34, r35, trivial⟩
    | 13, hio =>
     cases hio
     have e24 := r12 (hd ⟨12, .data⟩ (by simp) rfl)
     obtain ⟨g, rfl⟩ : ∃ g, f = upd (g) 24 (.bool false) := ⟨f, upd_keep' (rfl) e24⟩
     have o4 := o4.kp kR (fun e => e)
     have hq := hq.kp kR (fun e => e)
     refine mvB rfl rfl rfl (w_nil ?_)
     exact ⟨_, rfl, kR, l0, l5, l6, l7, l3, l4, r0, r1, r2, r3, r4, r5, r6, r7, r8, r9, r10, r11, r12, (fun _ => rfl), r14, r15, r16, r17, r18, r19, r20, r21, r22, r23, r24, r25, r26, r27, r28, r29, r30, r31, r32, r33, r34, r35, trivial⟩
    | 14, hio =>
     cases hio
     have e25 := r13 (hd ⟨13, .guard⟩ (by simp) rfl)
     obtain ⟨g, rfl⟩ : ∃ g, f = upd (upd (g) 3 (.int .i64 (k : Nat))) 25 (.bool false) := ⟨f, upd_keep' (upd_keep' (rfl) l3) e25⟩
     have o4 := o4.kp kR (fun e => e)
     have hq := hq.kp kR (fun e => e)
     refine mvI rfl rfl rfl (w_nil ?_)
     exact ⟨_, rfl, kR, l0, l5, l6, l7, l3, l4, r0, r1, r2, r3, r4, r5, r6, r7, r8, r9, r10, r11, r12, r13, (fun _ => rfl), r15, r16, r17, r18, r19, r20, r21, r22, r23, r24, r25, r26, r27, r28, r29, r30, r31, r32, r33, r34, r35, trivial⟩
    | 15, hio =>
     cases hio
     have e26 := r14 (hd ⟨14, .data⟩ (by simp) rfl)
     have e25 := r13 (hd ⟨13, .guard⟩ (by simp) rfl)
     obtain ⟨g, rfl⟩ : ∃ g, f = upd (upd (g) 26 (.int .i64 (k : Nat))) 25 (.bool false) := ⟨f, upd_keep' (upd_keep' (rfl) e26) e25⟩
     have o4 := o4.kp kR (fun e => e)
     have hq := hq.kp kR (fun e => e)
     refine s_gtr rfl rfl rfl rfl rfl (decide_eq_true (by omega)) (w_nil ?_)
     exact ⟨_, rfl, kR, l0, l5, l6, l7, l3, l4, r0, r1, r2, r3, r4, r5, r6, r7, r8, r9, r10, r11, r12, r13, r14, (fun _ => rfl), r16, r17, r18, r19, r20, r21, r22, r23, r24, r25, r26, r27, r28, r29, r30, r31, r32, r33, r34, r35, trivial⟩
    | 16, hio =>
     cases hio
     have e27 := r15 (hd ⟨15, .data⟩ (by simp) rfl)
     have e25 := r13 (hd ⟨13, .chain⟩ (by simp) rfl)
     obtain ⟨g, rfl⟩ : ∃ g, f = upd (upd (g) 27 (.bool true)) 25 (.bool false) := ⟨f, upd_keep' (upd_keep' (rfl) e27) e25⟩
     have o4 := o4.kp kR (fun e => e)
     have hq := hq.kp kR (fun e => e)
     refine mvB rfl rfl rfl (w_nil ?_)
     exact ⟨_, rfl, kR, l0, l5, l6, l7, l3, l4, r0, r1, r2, r3, r4, r5, r6, r7, r8, r9, r10, r11, r12, r13, r14, r15, (fun _ => rfl), r17, r18, r19, r20, r21, r22, r23, r24, r25, r26, r27, r28, r29, r30, r31, r32, r33, r34, r35, trivial⟩
    | 17, hio =>
     cases hio
     have e28 := r16 (hd ⟨16, .guard⟩ (by simp) rfl)
     obtain ⟨g, rfl⟩ : ∃ g, f = upd (upd (g) 4 (.pointer (some ⟨b4, 0, none⟩))) 28 (.bool true) := ⟨f, upd_keep' (upd_keep' (rfl) l4) e28⟩
     have o4 := o4.kp kR (fun e => e)
     have hq := hq.kp kR (fun e => e)
     refine s_fa fi60_0 rfl rfl rfl (w_nil ?_)
     exact ⟨_, rfl, kR, l0, l5, l6, l7, l3, l4, r0, r1, r2, r3, r4, r5, r6, r7, r8, r9, r10, r11, r12, r13, r14, r15, r16, (fun _ => rfl), r18, r19, r20, r21, r22, r23, r24, r25, r26, r27, r28, r29, r30, r31, r32, r33, r34, r35, trivial⟩
    | 18, hio =>
     cases hio
     have e29 := r17 (hd ⟨17, .data⟩ (by simp) rfl)
     have e28 := r16 (hd ⟨16, .guard⟩ (by simp) rfl)
     obtain ⟨g, rfl⟩ : ∃ g, f = upd (upd (g) 29 (.pointer (some (Addr.add ⟨b4, 0, none⟩ 0)))) 28 (.bool true) := ⟨f, upd_keep' (upd_keep' (rfl) e29) e28⟩
     have o4 := o4.kp kR (fun e => e)
     have hq := hq.kp kR (fun e => e)
     refine s_ld1 (v := .int .i64 _) on3 rfl rfl rfl (o4.get 0 rfl) (w_nil ?_)
     exact ⟨_, rfl, kR, l0, l5, l6, l7, l3, l4, r0, r1, r2, r3, r4, r5, r6, r7, r8, r9, r10, r11, r12, r13, r14, r15, r16, r17, (fun _ => rfl), r19, r20, r21, r22, r23, r24, r25, r26, r27, r28, r29, r30, r31, r32, r33, r34, r35, trivial⟩
    | 19, hio =>
     cases hio
     have e28 := r16 (hd ⟨16, .guard⟩ (by simp) rfl)
     obtain ⟨g, rfl⟩ : ∃ g, f = upd (upd (g) 0 (.slice (some p) l.length cap)) 28 (.bool true) := ⟨f, upd_keep' (upd_keep' (rfl) l0) e28⟩
     have o4 := o4.kp kR (fun e => e)
     have hq := hq.kp kR (fun e => e)
     refine s_mv (v := .slice _ _ _) rfl rfl rfl (w_nil ?_)
     exact ⟨_, rfl, kR, l0, l5, l6, l7, l3, l4, r0, r1, r2, r3, r4, r5, r6, r7, r8, r9, r10, r11, r12, r13, r14, r15, r16, r17, r18, (fun _ => rfl), r20, r21, r22, r23, r24, r25, r26, r27, r28, r29, r30, r31, r32, r33, r34, r35, trivial⟩
    | 20, hio =>
     cases hio
     have e28 := r16 (hd ⟨16, .guard⟩ (by simp) rfl)
     obtain ⟨g, rfl⟩ : ∃ g, f = upd (upd (g) 3 (.int .i64 (k : Nat))) 28 (.bool true) := ⟨f, upd_keep' (upd_keep' (rfl) l3) e28⟩
     have o4 := o4.kp kR (fun e => e)
     have hq := hq.kp kR (fun e => e)
     refine mvI rfl rfl rfl (w_nil ?_)
     exact ⟨_, rfl, kR, l0, l5, l6, l7, l3, l4, r0, r1, r2, r3, r4, r5, r6, r7, r8, r9, r10, r11, r12, r13, r14, r15, r16, r17, r18, r19, (fun _ => rfl), r21, r22, r23, r24, r25, r26, r27, r28, r29, r30, r31, r32, r33, r34, r35, trivial⟩
    | 21, hio =>
     cases hio
     have e32 := r20 (hd ⟨20, .data⟩ (by simp) rfl)
     have e28 := r16 (hd ⟨16, .guard⟩ (by simp) rfl)
     obtain ⟨g, rfl⟩ : ∃ g, f = upd (upd (g) 32 (.int .i64 (k : Nat))) 28 (.bool true) := ⟨f, upd_keep' (upd_keep' (rfl) e32) e28⟩
     have o4 := o4.kp kR (fun e => e)
     have hq := hq.kp kR (fun e => e)
     refine s_sub rfl rfl rfl rfl rfl (w64 (by omega)) (w_nil ?_)
     exact ⟨_, rfl, kR, l0, l5, l6, l7, l3, l4, r0, r1, r2, r3, r4, r5, r6, r7, r8, r9, r10, r11, r12, r13, r14, r15, r16, r17, r18, r19, r20, (fun _ => rfl), r22, r23, r24, r25, r26, r27, r28, r29, r30, r31, r32, r33, r34, r35, trivial⟩
    | 22, hio =>
     cases hio
     have e31 := r19 (hd ⟨19, .data⟩ (by simp) rfl)
     have e33 := r21 (hd ⟨21, .data⟩ (by simp) rfl)
     have e28 := r16 (hd ⟨16, .guard⟩ (by simp) rfl)
     obtain ⟨g, rfl⟩ : ∃ g, f = upd (upd (upd (g) 31 (.slice (some p) l.length cap)) 33 (.int .i64 ((k : Nat) - 1 : Int))) 28 (.bool true) := ⟨f, upd_keep' (upd_keep' (upd_keep' (rfl) e31) e33) e28⟩
     have o4 := o4.kp kR (fun e => e)
     have hq := hq.kp kR (fun e => e)
     refine s_iaE (j := k - 1) el31 rfl rfl rfl rfl rfl (by omega) (by omega) (w_nil ?_)
     exact ⟨_, rfl, kR, l0, l5, l6, l7, l3, l4, r0, r1, r2, r3, r4, r5, r6, r7, r8, r9, r10, r11, r12, r13, r14, r15, r16, r17, r18, r19, r20, r21, (fun _ => rfl), r23, r24, r25, r26, r27, r28, r29, r30, r31, r32, r33, r34, r35, trivial⟩
    | 23, hio =>
     cases hio
     have e34 := r22 (hd ⟨22, .data⟩ (by simp) rfl)
     have e28 := r16 (hd ⟨16, .guard⟩ (by simp) rfl)
     obtain ⟨g, rfl⟩ : ∃ g, f = upd (upd (g) 34 (.pointer (some (p.add ((k - 1) * 3))))) 28 (.bool true) := ⟨f, upd_keep' (upd_keep' (rfl) e34) e28⟩
     have o4 := o4.kp kR (fun e => e)
     have hq := hq.kp kR (fun e => e)
     refine s_fa fi60_1 rfl rfl rfl (w_nil ?_)
     exact ⟨_, rfl, kR, l0, l5, l6, l7, l3, l4, r0, r1, r2, r3, r4, r5, r6, r7, r8, r9, r10, r11, r12, r13, r14, r15, r16, r17, r18, r19, r20, r21, r22, (fun _ => rfl), r24, r25, r26, r27, r28, r29, r30, r31, r32, r33, r34, r35, trivial⟩
    | 24, hio =>
     cases hio
     have e35 := r23 (hd ⟨23, .data⟩ (by simp) rfl)
     have e28 := r16 (hd ⟨16, .guard⟩ (by simp) rfl)
     obtain ⟨g, rfl⟩ : ∃ g, f = upd (upd (g) 35 (.pointer (some (Addr.add (p.add ((k - 1) * 3)) 1)))) 28 (.bool true) := ⟨f, upd_keep' (upd_keep' (rfl) e35) e28⟩
     have o4 := o4.kp kR (fun e => e)
     have hq := hq.kp kR (fun e => e)
     refine s_ld1 (v := .slice _ _ _) on22 rfl rfl rfl (hq 1 _ rfl) (w_nil ?_)
     exact ⟨_, rfl, kR, l0, l5, l6, l7, l3, l4, r0, r1, r2, r3, r4, r5, r6, r7, r8, r9, r10, r11, r12, r13, r14, r15, r16, r17, r18, r19, r20, r21, r22, r23, (fun _ => rfl), r25, r26, r27, r28, r29, r30, r31, r32, r33, r34, r35, trivial⟩
    | 25, hio =>
     cases hio
     have e36 := r24 (hd ⟨24, .data⟩ (by simp) rfl)
     have e28 := r16 (hd ⟨16, .guard⟩ (by simp) rfl)
     obtain ⟨g, rfl⟩ : ∃ g, f = upd (upd (g) 36 (.slice Bo e1.old.length ko)) 28 (.bool true) := ⟨f, upd_keep' (upd_keep' (rfl) e36) e28⟩
     have o4 := o4.kp kR (fun e => e)
     have hq := hq.kp kR (fun e => e)
     refine s_lenL Tryz.underlying22 rfl rfl rfl (w_nil ?_)
     exact ⟨_, rfl, kR, l0, l5, l6, l7, l3, l4, r0, r1, r2, r3, r4, r5, r6, r7, r8, r9, r10, r11, r12, r13, r14, r15, r16, r17, r18, r19, r20, r21, r22, r23, r24, (fun _ => rfl), r26, r27, r28, r29, r30, r31, r32, r33, r34, r35, trivial⟩
    | 26, hio =>
     cases hio
     have e30 := r18 (hd ⟨18, .data⟩ (by simp) rfl)
     have e37 := r25 (hd ⟨25, .data⟩ (by simp) rfl)
     have e28 := r16 (hd ⟨16, .guard⟩ (by simp) rfl)
     obtain ⟨g, rfl⟩ : ∃ g, f = upd (upd (upd (g) 30 (.int .i64 l[k].pos)) 37 (.int .i64 (e1.old.length : Nat))) 28 (.bool true) := ⟨f, upd_keep' (upd_keep' (upd_keep' (rfl) e30) e37) e28⟩
     have o4 := o4.kp kR (fun e => e)
     have hq := hq.kp kR (fun e => e)
     refine s_sub rfl rfl rfl rfl rfl (w64 (by omega)) (w_nil ?_)
     exact ⟨_, rfl, kR, l0, l5, l6, l7, l3, l4, r0, r1, r2, r3, r4, r5, r6, r7, r8, r9, r10, r11, r12, r13, r14, r15, r16, r17, r18, r19, r20, r21, r22, r23, r24, r25, (fun _ => rfl), r27, r28, r29, r30, r31, r32, r33, r34, r35, trivial⟩
    | 27, hio =>
     cases hio
     have e28 := r16 (hd ⟨16, .guard⟩ (by simp) rfl)
     obtain ⟨g, rfl⟩ : ∃ g, f = upd (upd (g) 0 (.slice (some p) l.length cap)) 28 (.bool true) := ⟨f, upd_keep' (upd_keep' (rfl) l0) e28⟩
     have o4 := o4.kp kR (fun e => e)
     have hq := hq.kp kR (fun e => e)
     refine s_mv (v := .slice _ _ _) rfl rfl rfl (w_nil ?_)
     exact ⟨_, rfl, kR, l0, l5, l6, l7, l3, l4, r0, r1, r2, r3, r4, r5, r6, r7, r8, r9, r10, r11, r12, r13, r14, r15, r16, r17, r18, r19, r20, r21, r22, r23, r24, r25, r26, (fun _ => rfl), r28, r29, r30, r31, r32, r33, r34, r35, trivial⟩
    | 28, hio =>
     cases hio
     have e28 := r16 (hd ⟨16, .guard⟩ (by simp) rfl)
     obtain ⟨g, rfl⟩ : ∃ g, f = upd (upd (g) 3 (.int .i64 (k : Nat))) 28 (.bool true) := ⟨f, upd_keep' (upd_keep' (rfl) l3) e28⟩
     have o4 := o4.kp kR (fun e => e)
     have hq := hq.kp kR (fun e => e)
     refine mvI rfl rfl rfl (w_nil ?_)
     exact ⟨_, rfl, kR, l0, l5, l6, l7, l3, l4, r0, r1, r2, r3, r4, r5, r6, r7, r8, r9, r10, r11, r12, r13, r14, r15, r16, r17, r18, r19, r20, r21, r22, r23, r24, r25, r26, r27, (fun _ => rfl), r29, r30, r31, r32, r33, r34, r35, trivial⟩
    | 29, hio =>
     cases hio
     have e40 := r28 (hd ⟨28, .data⟩ (by simp) rfl)
     have e28 := r16 (hd ⟨16, .guard⟩ (by simp) rfl)
     obtain ⟨g, rfl⟩ : ∃ g, f = upd (upd (g) 40 (.int .i64 (k : Nat))) 28 (.bool true) := ⟨f, upd_keep' (upd_keep' (rfl) e40) e28⟩
     have o4 := o4.kp kR (fun e => e)
     have hq := hq.kp kR (fun e => e)
     refine s_sub rfl rfl rfl rfl rfl (w64 (by omega)) (w_nil ?_)
     exact ⟨_, rfl, kR, l0, l5, l6, l7, l3, l4, r0, r1, r2, r3, r4, r5, r6, r7, r8, r9, r10, r11, r12, r13, r14, r15, r16, r17, r18, r19, r20, r21, r22, r23, r24, r25, r26, r27, r28, (fun _ => rfl), r30, r31, r32, r33, r34, r35, trivial⟩
    | 30, hio =>
     cases hio
     have e39 := r27 (hd ⟨27, .data⟩ (by simp) rfl)
     have e41 := r29 (hd ⟨29, .data⟩ (by simp) rfl)
     have e28 := r16 (hd ⟨16, .guard⟩ (by simp) rfl)
     obtain ⟨g, rfl⟩ : ∃ g, f = upd (upd (upd (g) 39 (.slice (some p) l.length cap)) 41 (.int .i64 ((k : Nat) - 1 : Int))) 28 (.bool true) := ⟨f, upd_keep' (upd_keep' (upd_keep' (rfl) e39) e41) e28⟩
     have o4 := o4.kp kR (fun e => e)
     have hq := hq.kp kR (fun e => e)
     refine s_iaE (j := k - 1) el31 rfl rfl rfl rfl rfl (by omega) (by omega) (w_nil ?_)
     exact ⟨_, rfl, kR, l0, l5, l6, l7, l3, l4, r0, r1, r2, r3, r4, r5, r6, r7, r8, r9, r10, r11, r12, r13, r14, r15, r16, r17, r18, r19, r20, r21, r22, r23, r24, r25, r26, r27, r28, r29, (fun _ => rfl), r31, r32, r33, r34, r35, trivial⟩
    | 31, hio =>
     cases hio
     have e42 := r30 (hd ⟨30, .data⟩ (by simp) rfl)
     have e28 := r16 (hd ⟨16, .guard⟩ (by simp) rfl)
     obtain ⟨g, rfl⟩ : ∃ g, f = upd (upd (g) 42 (.pointer (some (p.add ((k - 1) * 3))))) 28 (.bool true) := ⟨f, upd_keep' (upd_keep' (rfl) e42) e28⟩
     have o4 := o4.kp kR (fun e => e)
     have hq := hq.kp kR (fun e => e)
     refine s_fa fi60_0 rfl rfl rfl (w_nil ?_)
     exact ⟨_, rfl, kR, l0, l5, l6, l7, l3, l4, r0, r1, r2, r3, r4, r5, r6, r7, r8, r9, r10, r11, r12, r13, r14, r15, r16, r17, r18, r19, r20, r21, r22, r23, r24, r25, r26, r27, r28, r29, r30, (fun _ => rfl), r32, r33, r34, r35, trivial⟩
    | 32, hio =>
     cases hio
     have e43 := r31 (hd ⟨31, .data⟩ (by simp) rfl)
     have e28 := r16 (hd ⟨16, .guard⟩ (by simp) rfl)
     obtain ⟨g, rfl⟩ : ∃ g, f = upd (upd (g) 43 (.pointer (some (Addr.add (p.add ((k - 1) * 3)) 0)))) 28 (.bool true) := ⟨f, upd_keep' (upd_keep' (rfl) e43) e28⟩
     have o4 := o4.kp kR (fun e => e)
     have hq := hq.kp kR (fun e => e)
     refine s_ld1 (v := .int .i64 _) on3 rfl rfl rfl (hq 0 _ rfl) (w_nil ?_)
     exact ⟨_, rfl, kR, l0, l5, l6, l7, l3, l4, r0, r1, r2, r3, r4, r5, r6, r7, r8, r9, r10, r11, r12, r13, r14, r15, r16, r17, r18, r19, r20, r21, r22, r23, r24, r25, r26, r27, r28, r29, r30, r31, (fun _ => rfl), r33, r34, r35, trivial⟩
    | 33, hio =>
     cases hio
     have e38 := r26 (hd ⟨26, .data⟩ (by simp) rfl)
     have e44 := r32 (hd ⟨32, .data⟩ (by simp) rfl)
     have e28 := r16 (hd ⟨16, .guard⟩ (by simp) rfl)
     obtain ⟨g, rfl⟩ : ∃ g, f = upd (upd (upd (g) 38 (.int .i64 (l[k].pos - (e1.old.length : Nat)))) 44 (.int .i64 e1.pos)) 28 (.bool true) := ⟨f, upd_keep' (upd_keep' (upd_keep' (rfl) e38) e44) e28⟩
     have o4 := o4.kp kR (fun e => e)
     have hq := hq.kp kR (fun e => e)
     refine s_leq rfl rfl rfl rfl rfl (decide_eq_false (by omega)) (w_nil ?_)
     exact ⟨_, rfl, kR, l0, l5, l6, l7, l3, l4, r0, r1, r2, r3, r4, r5, r6, r7, r8, r9, r10, r11, r12, r13, r14, r15, r16, r17, r18, r19, r20, r21, r22, r23, r24, r25, r26, r27, r28, r29, r30, r31, r32, (fun _ => rfl), r34, r35, trivial⟩
    | 34, hio =>
     cases hio
     have e28 := r16 (hd ⟨16, .data⟩ (by simp) rfl)
     have e45 := r33 (hd ⟨33, .data⟩ (by simp) rfl)
     have e25 := r13 (hd ⟨13, .guard⟩ (by simp) rfl)
     obtain ⟨g, rfl⟩ : ∃ g, f = upd (upd (upd (g) 28 (.bool true)) 45 (.bool false)) 25 (.bool false) := ⟨f, upd_keep' (upd_keep' (upd_keep' (rfl) e28) e45) e25⟩
     have o4 := o4.kp kR (fun e => e)
     have hq := hq.kp kR (fun e => e)
     refine pTB rfl rfl rfl rfl rfl (w_nil ?_)
     exact ⟨_, rfl, kR, l0, l5, l6, l7, l3, l4, r0, r1, r2, r3, r4, r5, r6, r7, r8, r9, r10, r11, r12, r13, r14, r15, r16, r17, r18, r19, r20, r21, r22, r23, r24, r25, r26, r27, r28, r29, r30, r31, r32, r33, (fun _ => rfl), r35, trivial⟩
    | 35, hio =>
     cases hio
     have e25 := r13 (hd ⟨13, .data⟩ (by simp) rfl)
     have e46 := r34 (hd ⟨34, .data⟩ (by simp) rfl)
     obtain ⟨g, rfl⟩ : ∃ g, f = upd (upd (g) 25 (.bool false)) 46 (.bool false) := ⟨f, upd_keep' (upd_keep' (rfl) e25) e46⟩
     have o4 := o4.kp kR (fun e => e)
     have hq := hq.kp kR (fun e => e)
     refine pFB rfl rfl rfl rfl rfl (w_nil ?_)
     exact ⟨_, rfl, kR, l0, l5, l6, l7, l3, l4, r0, r1, r2, r3, r4, r5, r6, r7, r8, r9, r10, r11, r12, r13, r14, r15, r16, r17, r18, r19, r20, r21, r22, r23, r24, r25, r26, r27, r28, r29, r30, r31, r32, r33, r34, (fun _ => rfl), trivial⟩
    | k + 36, hio => exact absurd hio (by simp)
   ·intro S f w3 hS hI
    obtain ⟨kR, l0, l5, l6, l7, l3, l4, r0, r1, r2, r3, r4, r5, r6, r7, r8, r9, r10, r11, r12, r13, r14, r15, r16, r17, r18, r19, r20, r21, r22, r23, r24, r25, r26, r27, r28, r29, r30, r31, r32, r33, r34, r35, -⟩ := hI
    obtain ⟨g, rfl⟩ : ∃ g, f = upd (upd (upd (upd (upd (upd (upd (g) 0 (.slice (some p) l.length cap)) 5 (.slice (some p) l.length cap)) 6 (.int .i64 (l.length : Nat))) 7 (.int .i64 (k : Nat))) 3 (.int .i64 (k : Nat))) 4 (.pointer (some ⟨b4, 0, none⟩))) 47 (.bool false) := ⟨f, upd_keep' (upd_keep' (upd_keep' (upd_keep' (upd_keep' (upd_keep' (upd_keep' (rfl) l0) l5) l6) l7) l3) l4) (r35 (hS 35 (by decide)))⟩
    clear hS l0 l5 l6 l7 l3 l4 r0 r1 r2 r3 r4 r5 r6 r7 r8 r9 r10 r11 r12 r13 r14 r15 r16 r17 r18 r19 r20 r21 r22 r23 r24 r25 r26 r27 r28 r29 r30 r31 r32 r33 r34 r35
    replace o4 := o4.kp kR (fun e => e)
    replace hq := hq.kp kR (fun e => e)
    replace K := K.trans kR
    refine then_n (c_F rfl rfl (wp_skip (inb_n (then_n (c_reg (s_add rfl rfl rfl rfl rfl (w64 (by omega)) (mvI rfl rfl rfl (w_nil (then_n ?_)))))))))
    exact ⟨l.length - (k + 1), _, by omega, rfl, _, k + 1, rfl, by omega, (upd_keep' (upd_keep' (upd_keep' (upd_keep' rfl rfl) rfl) rfl) rfl), K⟩
 ·intro ht8
  (try simp only [Q1, Q2, Q3, Q4, Q5] at ht8)
  refine wp_exit (then_x (then_x (inb_x (then_n (wp_seq (c_reg (asB rfl rfl rfl (w_nil (then_n ?_)))))))))
  refine wp_ret ?_
  refine ret1 (t := 2) (v := .bool true) rfl rfl rfl ⟨rfl, K⟩
theorem c55 {G G1 G2 : Nat → Prop} (ba : Nat) (A : Option Addr) (cap : Nat) (la : List Fld) (e : Edt) (vo vn : Value) (w : World) (hb : Own w ba 22 [.slice A la.length cap]) (hcap : la.length ≤ cap) (hA : FldsAt G w A la) (hla : la.length ≤ 1000) (ho : RFlds G1 w vo e.old) (hn : RFlds G2 w vn e.new) (h0 : 0 ≤ e.pos) (h1 : e.pos + (e.old.length : Int) ≤ la.length) (h2 : (la.drop e.pos.toNat).take e.old.length = e.old) : Calls Tryz.prog 55 #[.agg #[.int .i64 e.pos, vo, vn], .pointer (some ⟨ba, 0, none⟩)] w fun e' w' => e' = .returned (.bool false) ∧ New w w' := by
 obtain ⟨W, hW⟩ : ∃ W, W = w := ⟨_, rfl⟩
 subst hW
 have K : New W W := Kp.refl _ _
 obtain ⟨Ao, co, rfl, ho⟩ := ho
 have hseg := hA.part (lo := e.pos.toNat) (hi := e.pos.toNat + e.old.length) (by omega) (by omega) hcap
 rw [Nat.add_sub_cancel_left, h2] at hseg
 refine enter (n := 36) Tryz.func55 rfl rfl (by simp) ?_
 refine wp_seq (c_reg (s_box rfl rfl rfl rfl ?_))
 intro b2 w1 eb2 o2 kb2 zb2
 have gb2_K : W.heap.size ≤ b2 := by have := K.size; omega
 replace hb := hb.kp kb2 (fun e => e)
 replace hseg := hseg.kp kb2 (fun _ _ _ e => e)
 replace ho := ho.kp kb2 (fun _ _ _ e => e)
 replace K := K.trans kb2
 refine asB rfl rfl rfl (w_nil (then_n (wp_seq ?_)))
 refine c_draw' (fun S f w => New w1 w ∧ f 1 = .pointer (some ⟨ba, 0, none⟩) ∧ f 2 = .pointer (some ⟨b2, 0, none⟩) ∧ (S 0 = true → f 4 = .pointer (some (Addr.add ⟨b2, 0, none⟩ 0))) ∧ (S 1 = true → f 5 = .int .i64 e.pos) ∧ (S 2 = true → f 6 = .slice A la.length cap) ∧ (S 3 = true → f 7 = .int .i64 (la.length : Nat)) ∧ (S 4 = true → f 8 = .bool false) ∧ (S 5 = true → f 9 = .bool false) ∧ (S 6 = true → f 10 = .pointer (some (Addr.add ⟨b2, 0, none⟩ 1))) ∧ (S 7 = true → f 11 = .slice Ao e.old.length co) ∧ (S 8 = true → f 12 = .int .i64 (e.old.length : Nat)) ∧ (S 9 = true → f 13 = .slice A la.length cap) ∧ (S 10 = true → f 14 = .int .i64 (la.length : Nat)) ∧ (S 11 = true → f 15 = .pointer (some (Addr.add ⟨b2, 0, none⟩ 0))) ∧ (S 12 = true → f 16 = .int .i64 e.pos) ∧ (S 13 = true → f 17 = .int .i64 ((la.length : Nat) - e.pos : Int)) ∧ (S 14 = true → f 18 = .bool false) ∧ (S 15 = true → f 19 = .bool false) ∧ (S 16 = true → f 20 = .bool false) ∧ (S 17 = true → f 21 = .slice A la.length cap) ∧ (S 18 = true → f 22 = .pointer (some (Addr.add ⟨b2, 0, none⟩ 0))) ∧ (S 19 = true → f 23 = .int .i64 e.pos) ∧ (S 20 = true → f 24 = .pointer (some (Addr.add ⟨b2, 0, none⟩ 0))) ∧ (S 21 = true → f 25 = .int .i64 e.pos) ∧ (S 22 = true → f 26 = .pointer (some (Addr.add ⟨b2, 0, none⟩ 1))) ∧ (S 23 = true → f 27 = .slice Ao e.old.length co) ∧ (S 24 = true → f 28 = .int .i64 (e.old.length : Nat)) ∧ (S 25 = true → f 29 = .int .i64 (e.pos + (e.old.length : Nat) : Int)) ∧ (S 26 = true → f 30 = .slice (part A e.pos.toNat cap 4) e.old.length (cap - e.pos.toNat)) ∧ (S 27 = true → f 31 = .pointer (some (Addr.add ⟨b2, 0, none⟩ 1))) ∧ (S 28 = true → f 32 = .slice Ao e.old.length co) ∧ (S 29 = true → f 33 = .bool (decide (e.old = e.old))) ∧ (S 30 = true → f 34 = .bool (!decide (e.old = e.old))) ∧ (S 31 = true → f 35 = .bool (!decide (e.old = e.old))) ∧ (S 32 = true → f 3 = .bool (!decide (e.old = e.old))) ∧ True) (by kernel_rfl) ⟨(Kp.refl _ _).drew, rfl, rfl, (fun h => by cases h), (fun h => by cases h), (fun h => by cases h), (fun h => by cases h), (fun h => by cases h), (fun h => by cases h), (fun h => by cases h), (fun h => by cases h), (fun h => by cases h), (fun h => by cases h), (fun h => by cases h), (fun h => by cases h), (fun h => by cases h), (fun h => by cases h), (fun h => by cases h), (fun h => by cases h), (fun h => by cases h), (fun h => by cases h), (fun h => by cases h), (fun h => by cases h), (fun h => by cases h), (fun h => by cases h), (fun h => by cases h), (fun h => by cases h), (fun h => by cases h), (fun h => by cases h), (fun h => by cases h), (fun h => by cases h), (fun h => by cases h), (fun h => by cases h), (fun h => by cases h), (fun h => by cases h), (fun h => by cases h), trivial⟩ ?_ ?_
 ·intro io opx hio S f w hd hI
  obtain ⟨kR, l1, l2, r0, r1, r2, r3, r4, r5, r6, r7, r8, r9, r10, r11, r12, r13, r14, r15, r16, r17, r18, r19, r20, r21, r22, r23, r24, r25, r26, r27, r28, r29, r30, r31, r32, -⟩ := hI
  match io, hio with
  | 0, hio =>
   cases hio
   obtain ⟨g, rfl⟩ : ∃ g, f = upd (g) 2 (.pointer (some ⟨b2, 0, none⟩)) := ⟨f, upd_keep' (rfl) l2⟩
   have hb := hb.kp kR (fun e => e)
   have o2 := o2.kp kR (fun e => e)
   have hseg := hseg.kp kR (fun _ _ _ e => e)
   have ho := ho.kp kR (fun _ _ _ e => e)
   refine s_fa fi60_0 rfl rfl rfl (w_nil ?_)
   exact ⟨_, rfl, kR, l1, l2, (fun _ => rfl), r1, r2, r3, r4, r5, r6, r7, r8, r9, r10, r11, r12, r13, r14, r15, r16, r17, r18, r19, r20, r21, r22, r23, r24, r25, r26, r27, r28, r29, r30, r31, r32, trivial⟩
  | 1, hio =>
   cases hio
   have e4 := r0 (hd ⟨0, .data⟩ (by simp) rfl)
   obtain ⟨g, rfl⟩ : ∃ g, f = upd (g) 4 (.pointer (some (Addr.add ⟨b2, 0, none⟩ 0))) := ⟨f, upd_keep' (rfl) e4⟩
   have hb := hb.kp kR (fun e => e)
   have o2 := o2.kp kR (fun e => e)
   have hseg := hseg.kp kR (fun _ _ _ e => e)
   have ho := ho.kp kR (fun _ _ _ e => e)
   refine s_ld1 (v := .int .i64 _) on3 rfl rfl rfl (o2.get 0 rfl) (w_nil ?_)
   exact ⟨_, rfl, kR, l1, l2, r0, (fun _ => rfl), r2, r3, r4, r5, r6, r7, r8, r9, r10, r11, r12, r13, r14, r15, r16, r17, r18, r19, r20, r21, r22, r23, r24, r25, r26, r27, r28, r29, r30, r31, r32, trivial⟩
  | 2, hio =>
   cases hio
   obtain ⟨g, rfl⟩ : ∃ g, f = upd (g) 1 (.pointer (some ⟨ba, 0, none⟩)) := ⟨f, upd_keep' (rfl) l1⟩
   have hb := hb.kp kR (fun e => e)
   have o2 := o2.kp kR (fun e => e)
   have hseg := hseg.kp kR (fun _ _ _ e => e)
   have ho := ho.kp kR (fun _ _ _ e => e)
   refine s_ld1 (v := .slice _ _ _) on22 rfl rfl rfl (hb.get 0 rfl) (w_nil ?_)
   exact ⟨_, rfl, kR, l1, l2, r0, r1, (fun _ => rfl), r3, r4, r5, r6, r7, r8, r9, r10, r11, r12, r13, r14, r15, r16, r17, r18, r19, r20, r21, r22, r23, r24, r25, r26, r27, r28, r29, r30, r31, r32, trivial⟩
  | 3, hio =>
   cases hio
   have e6 := r2 (hd ⟨2, .data⟩ (by simp) rfl)
   obtain ⟨g, rfl⟩ : ∃ g, f = upd (g) 6 (.slice A la.length cap) := ⟨f, upd_keep' (rfl) e6⟩
   have hb := hb.kp kR (fun e => e)
   have o2 := o2.kp kR (fun e => e)
   have hseg := hseg.kp kR (fun _ _ _ e => e)
   have ho := ho.kp kR (fun _ _ _ e => e)
   refine s_lenL Tryz.underlying22 rfl rfl rfl (w_nil ?_)
   exact ⟨_, rfl, kR, l1, l2, r0, r1, r2, (fun _ => rfl), r4, r5, r6, r7, r8, r9, r10, r11, r12, r13, r14, r15, r16, r17, r18, r19, r20, r21, r22, r23, r24, r25, r26, r27, r28, r29, r30, r31, r32, trivial⟩
  | 4, hio =>
   cases hio
   have e5 := r1 (hd ⟨1, .data⟩ (by simp) rfl)
   have e7 := r3 (hd ⟨3, .data⟩ (by simp) rfl)
   obtain ⟨g, rfl⟩ : ∃ g, f = upd (upd (g) 5 (.int .i64 e.pos)) 7 (.int .i64 (la.length : Nat)) := ⟨f, upd_keep' (upd_keep' (rfl) e5) e7⟩
   have hb := hb.kp kR (fun e => e)
   have o2 := o2.kp kR (fun e => e)
   have hseg := hseg.kp kR (fun _ _ _ e => e)
   have ho := ho.kp kR (fun _ _ _ e => e)
   refine s_gtr rfl rfl rfl rfl rfl (decide_eq_false (by omega)) (w_nil ?_)
   exact ⟨_, rfl, kR, l1, l2, r0, r1, r2, r3, (fun _ => rfl), r5, r6, r7, r8, r9, r10, r11, r12, r13, r14, r15, r16, r17, r18, r19, r20, r21, r22, r23, r24, r25, r26, r27, r28, r29, r30, r31, r32, trivial⟩
  | 5, hio =>
   cases hio
   have e8 := r4 (hd ⟨4, .data⟩ (by simp) rfl)
   obtain ⟨g, rfl⟩ : ∃ g, f = upd (g) 8 (.bool false) := ⟨f, upd_keep' (rfl) e8⟩
   have hb := hb.kp kR (fun e => e)
   have o2 := o2.kp kR (fun e => e)
   have hseg := hseg.kp kR (fun _ _ _ e => e)
   have ho := ho.kp kR (fun _ _ _ e => e)
   refine mvB rfl rfl rfl (w_nil ?_)
   exact ⟨_, rfl, kR, l1, l2, r0, r1, r2, r3, r4, (fun _ => rfl), r6, r7, r8, r9, r10, r11, r12, r13, r14, r15, r16, r17, r18, r19, r20, r21, r22, r23, r24, r25, r26, r27, r28, r29, r30, r31, r32, trivial⟩
  | 6, hio =>
   cases hio
   have e9 := r5 (hd ⟨5, .guard⟩ (by simp) rfl)
   obtain ⟨g, rfl⟩ : ∃ g, f = upd (upd (g) 2 (.pointer (some ⟨b2, 0, none⟩))) 9 (.bool false) := ⟨f, upd_keep' (upd_keep' (rfl) l2) e9⟩
   have hb := hb.kp kR (fun e => e)
   have o2 := o2.kp kR (fun e => e)
   have hseg := hseg.kp kR (fun _ _ _ e => e)
   have ho := ho.kp kR (fun _ _ _ e => e)
   refine s_fa fi60_1 rfl rfl rfl (w_nil ?_)
   exact ⟨_, rfl, kR, l1, l2, r0, r1, r2, r3, r4, r5, (fun _ => rfl), r7, r8, r9, r10, r11, r12, r13, r14, r15, r16, r17, r18, r19, r20, r21, r22, r23, r24, r25, r26, r27, r28, r29, r30, r31, r32, trivial⟩
  | 7, hio =>
   cases hio
   have e10 := r6 (hd ⟨6, .data⟩ (by simp) rfl)
   have e9 := r5 (hd ⟨5, .guard⟩ (by simp) rfl)
   obtain ⟨g, rfl⟩ : ∃ g, f = upd (upd (g) 10 (.pointer (some (Addr.add ⟨b2, 0, none⟩ 1)))) 9 (.bool false) := ⟨f, upd_keep' (upd_keep' (rfl) e10) e9⟩
   have hb := hb.kp kR (fun e => e)
   have o2 := o2.kp kR (fun e => e)
   have hseg := hseg.kp kR (fun _ _ _ e => e)
   have ho := ho.kp kR (fun _ _ _ e => e)
   refine s_ld1 (v := .slice _ _ _) on22 rfl rfl rfl (o2.get 1 rfl) (w_nil ?_)
   exact ⟨_, rfl, kR, l1, l2, r0, r1, r2, r3, r4, r5, r6, (fun _ => rfl), r8, r9, r10, r11, r12, r13, r14, r15, r16, r17, r18, r19, r20, r21, r22, r23, r24, r25, r26, r27, r28, r29, r30, r31, r32, trivial⟩
  | 8, hio =>
   cases hio
   have e11 := r7 (hd ⟨7, .data⟩ (by simp) rfl)
   have e9 := r5 (hd ⟨5, .guard⟩ (by simp) rfl)
   obtain ⟨g, rfl⟩ : ∃ g, f = upd (upd (g) 11 (.slice Ao e.old.length co)) 9 (.bool false) := ⟨f, upd_keep' (upd_keep' (rfl) e11) e9⟩
   have hb := hb.kp kR (fun e => e)
   have o2 := o2.kp kR (fun e => e)
   have hseg := hseg.kp kR (fun _ _ _ e => e)
   have ho := ho.kp kR (fun _ _ _ e => e)
   refine s_lenL Tryz.underlying22 rfl rfl rfl (w_nil ?_)
   exact ⟨_, rfl, kR, l1, l2, r0, r1, r2, r3, r4, r5, r6, r7, (fun _ => rfl), r9, r10, r11, r12, r13, r14, r15, r16, r17, r18, r19, r20, r21, r22, r23, r24, r25, r26, r27, r28, r29, r30, r31, r32, trivial⟩
  | 9, hio =>
   cases hio
   have e9 := r5 (hd ⟨5, .guard⟩ (by simp) rfl)
   obtain ⟨g, rfl⟩ : ∃ g, f = upd (upd (g) 1 (.pointer (some ⟨ba, 0, none⟩))) 9 (.bool false) := ⟨f, upd_keep' (upd_keep' (rfl) l1) e9⟩
   have hb := hb.kp kR (fun e => e)
   have o2 := o2.kp kR (fun e => e)
   have hseg := hseg.kp kR (fun _ _ _ e => e)
   have ho := ho.kp kR (fun _ _ _ e => e)
   refine s_ld1 (v := .slice _ _ _) on22 rfl rfl rfl (hb.get 0 rfl) (w_nil ?_)
   exact ⟨_, rfl, kR, l1, l2, r0, r1, r2, r3, r4, r5, r6, r7, r8, (fun _ => rfl), r10, r11, r12, r13, r14, r15, r16, r17, r18, r19, r20, r21, r22, r23, r24, r25, r26, r27, r28, r29, r30, r31, r32, trivial⟩
  | 10, hio =>
   cases hio
   have e13 := r9 (hd ⟨9, .data⟩ (by simp) rfl)
   have e9 := r5 (hd ⟨5, .guard⟩ (by simp) rfl)
   obtain ⟨g, rfl⟩ : ∃ g, f = upd (upd (g) 13 (.slice A la.length cap)) 9 (.bool false) := ⟨f, upd_keep' (upd_keep' (rfl) e13) e9⟩
   have hb := hb.kp kR (fun e => e)
   have o2 := o2.kp kR (fun e => e)
   have hseg := hseg.kp kR (fun _ _ _ e => e)
   have ho := ho.kp kR (fun _ _ _ e => e)
   refine s_lenL Tryz.underlying22 rfl rfl rfl (w_nil ?_)
   exact ⟨_, rfl, kR, l1, l2, r0, r1, r2, r3, r4, r5, r6, r7, r8, r9, (fun _ => rfl), r11, r12, r13, r14, r15, r16, r17, r18, r19, r20, r21, r22, r23, r24, r25, r26, r27, r28, r29, r30, r31, r32, trivial⟩
  | 11, hio =>
   cases hio
   have e9 := r5 (hd ⟨5, .guard⟩ (by simp) rfl)
   obtain ⟨g, rfl⟩ : ∃ g, f = upd (upd (g) 2 (.pointer (some ⟨b2, 0, none⟩))) 9 (.bool false) := ⟨f, upd_keep' (upd_keep' (rfl) l2) e9⟩
   have hb := hb.kp kR (fun e => e)
   have o2 := o2.kp kR (fun e => e)
   have hseg := hseg.kp kR (fun _ _ _ e => e)
   have ho := ho.kp kR (fun _ _ _ e => e)
   refine s_fa fi60_0 rfl rfl rfl (w_nil ?_)
   exact ⟨_, rfl, kR, l1, l2, r0, r1, r2, r3, r4, r5, r6, r7, r8, r9, r10, (fun _ => rfl), r12, r13, r14, r15, r16, r17, r18, r19, r20, r21, r22, r23, r24, r25, r26, r27, r28, r29, r30, r31, r32, trivial⟩
  | 12, hio =>
   cases hio
   have e15 := r11 (hd ⟨11, .data⟩ (by simp) rfl)
   have e9 := r5 (hd ⟨5, .guard⟩ (by simp) rfl)
   obtain ⟨g, rfl⟩ : ∃ g, f = upd (upd (g) 15 (.pointer (some (Addr.add ⟨b2, 0, none⟩ 0)))) 9 (.bool false) := ⟨f, upd_keep' (upd_keep' (rfl) e15) e9⟩
   have hb := hb.kp kR (fun e => e)
   have o2 := o2.kp kR (fun e => e)
   have hseg := hseg.kp kR (fun _ _ _ e => e)
   have ho := ho.kp kR (fun _ _ _ e => e)
   refine s_ld1 (v := .int .i64 _) on3 rfl rfl rfl (o2.get 0 rfl) (w_nil ?_)
   exact ⟨_, rfl, kR, l1, l2, r0, r1, r2, r3, r4, r5, r6, r7, r8, r9, r10, r11, (fun _ => rfl), r13, r14, r15, r16, r17, r18, r19, r20, r21, r22, r23, r24, r25, r26, r27, r28, r29, r30, r31, r32, trivial⟩
  | 13, hio =>
   cases hio
   have e14 := r10 (hd ⟨10, .data⟩ (by simp) rfl)
   have e16 := r12 (hd ⟨12, .data⟩ (by simp) rfl)
   have e9 := r5 (hd ⟨5, .guard⟩ (by simp) rfl)
   obtain ⟨g, rfl⟩ : ∃ g, f = upd (upd (upd (g) 14 (.int .i64 (la.length : Nat))) 16 (.int .i64 e.pos)) 9 (.bool false) := ⟨f, upd_keep' (upd_keep' (upd_keep' (rfl) e14) e16) e9⟩
   have hb := hb.kp kR (fun e => e)
   have o2 := o2.kp kR (fun e => e)
   have hseg := hseg.kp kR (fun _ _ _ e => e)
   have ho := ho.kp kR (fun _ _ _ e => e)
   refine s_sub rfl rfl rfl rfl rfl (w64 (by omega)) (w_nil ?_)
   exact ⟨_, rfl, kR, l1, l2, r0, r1, r2, r3, r4, r5, r6, r7, r8, r9, r10, r11, r12, (fun _ => rfl), r14, r15, r16, r17, r18, r19, r20, r21, r22, r23, r24, r25, r26, r27, r28, r29, r30, r31, r32, trivial⟩
  | 14, hio =>
   cases hio
   have e12 := r8 (hd ⟨8, .data⟩ (by simp) rfl)
   have e17 := r13 (hd ⟨13, .data⟩ (by simp) rfl)
   have e9 := r5 (hd ⟨5, .guard⟩ (by simp) rfl)
   obtain ⟨g, rfl⟩ : ∃ g, f = upd (upd (upd (g) 12 (.int .i64 (e.old.length : Nat))) 17 (.int .i64 ((la.length : Nat) - e.pos : Int))) 9 (.bool false) := ⟨f, upd_keep' (upd_keep' (upd_keep' (rfl) e12) e17) e9⟩
   have hb := hb.kp kR (fun e => e)
   have o2 := o2.kp kR (fun e => e)
   have hseg := hseg.kp kR (fun _ _ _ e => e)
   have ho := ho.kp kR (fun _ _ _ e => e)
   refine s_gtr rfl rfl rfl rfl rfl (decide_eq_false (by omega)) (w_nil ?_)
   exact ⟨_, rfl, kR, l1, l2, r0, r1, r2, r3, r4, r5, r6, r7, r8, r9, r10, r11, r12, r13, (fun _ => rfl), r15, r16, r17, r18, r19, r20, r21, r22, r23, r24, r25, r26, r27, r28, r29, r30, r31, r32, trivial⟩
  | 15, hio =>
   cases hio
   have e9 := r5 (hd ⟨5, .data⟩ (by simp) rfl)
   have e18 := r14 (hd ⟨14, .data⟩ (by simp) rfl)
   obtain ⟨g, rfl⟩ : ∃ g, f = upd (upd (g) 9 (.bool false)) 18 (.bool false) := ⟨f, upd_keep' (upd_keep' (rfl) e9) e18⟩
   have hb := hb.kp kR (fun e => e)
   have o2 := o2.kp kR (fun e => e)
   have hseg := hseg.kp kR (fun _ _ _ e => e)
   have ho := ho.kp kR (fun _ _ _ e => e)
   refine pFB rfl rfl rfl rfl rfl (w_nil ?_)
   exact ⟨_, rfl, kR, l1, l2, r0, r1, r2, r3, r4, r5, r6, r7, r8, r9, r10, r11, r12, r13, r14, (fun _ => rfl), r16, r17, r18, r19, r20, r21, r22, r23, r24, r25, r26, r27, r28, r29, r30, r31, r32, trivial⟩
  | 16, hio =>
   cases hio
   have e19 := r15 (hd ⟨15, .data⟩ (by simp) rfl)
   obtain ⟨g, rfl⟩ : ∃ g, f = upd (g) 19 (.bool false) := ⟨f, upd_keep' (rfl) e19⟩
   have hb := hb.kp kR (fun e => e)
   have o2 := o2.kp kR (fun e => e)
   have hseg := hseg.kp kR (fun _ _ _ e => e)
   have ho := ho.kp kR (fun _ _ _ e => e)
   refine mvB rfl rfl rfl (w_nil ?_)
   exact ⟨_, rfl, kR, l1, l2, r0, r1, r2, r3, r4, r5, r6, r7, r8, r9, r10, r11, r12, r13, r14, r15, (fun _ => rfl), r17, r18, r19, r20, r21, r22, r23, r24, r25, r26, r27, r28, r29, r30, r31, r32, trivial⟩
  | 17, hio =>
   cases hio
   have e20 := r16 (hd ⟨16, .guard⟩ (by simp) rfl)
   obtain ⟨g, rfl⟩ : ∃ g, f = upd (upd (g) 1 (.pointer (some ⟨ba, 0, none⟩))) 20 (.bool false) := ⟨f, upd_keep' (upd_keep' (rfl) l1) e20⟩
   have hb := hb.kp kR (fun e => e)
   have o2 := o2.kp kR (fun e => e)
   have hseg := hseg.kp kR (fun _ _ _ e => e)
   have ho := ho.kp kR (fun _ _ _ e => e)
   refine s_ld1 (v := .slice _ _ _) on22 rfl rfl rfl (hb.get 0 rfl) (w_nil ?_)
   exact ⟨_, rfl, kR, l1, l2, r0, r1, r2, r3, r4, r5, r6, r7, r8, r9, r10, r11, r12, r13, r14, r15, r16, (fun _ => rfl), r18, r19, r20, r21, r22, r23, r24, r25, r26, r27, r28, r29, r30, r31, r32, trivial⟩
  | 18, hio =>
   cases hio
   have e20 := r16 (hd ⟨16, .guard⟩ (by simp) rfl)
   obtain ⟨g, rfl⟩ : ∃ g, f = upd (upd (g) 2 (.pointer (some ⟨b2, 0, none⟩))) 20 (.bool false) := ⟨f, upd_keep' (upd_keep' (rfl) l2) e20⟩
   have hb := hb.kp kR (fun e => e)
   have o2 := o2.kp kR (fun e => e)
   have hseg := hseg.kp kR (fun _ _ _ e => e)
   have ho := ho.kp kR (fun _ _ _ e => e)
   refine s_fa fi60_0 rfl rfl rfl (w_nil ?_)
   exact ⟨_, rfl, kR, l1, l2, r0, r1, r2, r3, r4, r5, r6, r7, r8, r9, r10, r11, r12, r13, r14, r15, r16, r17, (fun _ => rfl), r19, r20, r21, r22, r23, r24, r25, r26, r27, r28, r29, r30, r31, r32, trivial⟩
  | 19, hio =>
   cases hio
   have e22 := r18 (hd ⟨18, .data⟩ (by simp) rfl)
   have e20 := r16 (hd ⟨16, .guard⟩ (by simp) rfl)
   obtain ⟨g, rfl⟩ : ∃ g, f = upd (upd (g) 22 (.pointer (some (Addr.add ⟨b2, 0, none⟩ 0)))) 20 (.bool false) := ⟨f, upd_keep' (upd_keep' (rfl) e22) e20⟩
   have hb := hb.kp kR (fun e => e)
   have o2 := o2.kp kR (fun e => e)
   have hseg := hseg.kp kR (fun _ _ _ e => e)
   have ho := ho.kp kR (fun _ _ _ e => e)
   refine s_ld1 (v := .int .i64 _) on3 rfl rfl rfl (o2.get 0 rfl) (w_nil ?_)
   exact ⟨_, rfl, kR, l1, l2, r0, r1, r2, r3, r4, r5, r6, r7, r8, r9, r10, r11, r12, r13, r14, r15, r16, r17, r18, (fun _ => rfl), r20, r21, r22, r23, r24, r25, r26, r27, r28, r29, r30, r31, r32, trivial⟩
  | 20, hio =>
   cases hio
   have e20 := r16 (hd ⟨16, .guard⟩ (by simp) rfl)
   obtain ⟨g, rfl⟩ : ∃ g, f = upd (upd (g) 2 (.pointer (some ⟨b2, 0, none⟩))) 20 (.bool false) := ⟨f, upd_keep' (upd_keep' (rfl) l2) e20⟩
   have hb := hb.kp kR (fun e => e)
   have o2 := o2.kp kR (fun e => e)
   have hseg := hseg.kp kR (fun _ _ _ e => e)
   have ho := ho.kp kR (fun _ _ _ e => e)
   refine s_fa fi60_0 rfl rfl rfl (w_nil ?_)
   exact ⟨_, rfl, kR, l1, l2, r0, r1, r2, r3, r4, r5, r6, r7, r8, r9, r10, r11, r12, r13, r14, r15, r16, r17, r18, r19, (fun _ => rfl), r21, r22, r23, r24, r25, r26, r27, r28, r29, r30, r31, r32, trivial⟩
  | 21, hio =>
   cases hio
   have e24 := r20 (hd ⟨20, .data⟩ (by simp) rfl)
   have e20 := r16 (hd ⟨16, .guard⟩ (by simp) rfl)
   obtain ⟨g, rfl⟩ : ∃ g, f = upd (upd (g) 24 (.pointer (some (Addr.add ⟨b2, 0, none⟩ 0)))) 20 (.bool false) := ⟨f, upd_keep' (upd_keep' (rfl) e24) e20⟩
   have hb := hb.kp kR (fun e => e)
   have o2 := o2.kp kR (fun e => e)
   have hseg := hseg.kp kR (fun _ _ _ e => e)
   have ho := ho.kp kR (fun _ _ _ e => e)
   refine s_ld1 (v := .int .i64 _) on3 rfl rfl rfl (o2.get 0 rfl) (w_nil ?_)
   exact ⟨_, rfl, kR, l1, l2, r0, r1, r2, r3, r4, r5, r6, r7, r8, r9, r10, r11, r12, r13, r14, r15, r16, r17, r18, r19, r20, (fun _ => rfl), r22, r23, r24, r25, r26, r27, r28, r29, r30, r31, r32, trivial⟩
  | 22, hio =>
   cases hio
   have e20 := r16 (hd ⟨16, .guard⟩ (by simp) rfl)
   obtain ⟨g, rfl⟩ : ∃ g, f = upd (upd (g) 2 (.pointer (some ⟨b2, 0, none⟩))) 20 (.bool false) := ⟨f, upd_keep' (upd_keep' (rfl) l2) e20⟩
   have hb := hb.kp kR (fun e => e)
   have o2 := o2.kp kR (fun e => e)
   have hseg := hseg.kp kR (fun _ _ _ e => e)
   have ho := ho.kp kR (fun _ _ _ e => e)
   refine s_fa fi60_1 rfl rfl rfl (w_nil ?_)
   exact ⟨_, rfl, kR, l1, l2, r0, r1, r2, r3, r4, r5, r6, r7, r8, r9, r10, r11, r12, r13, r14, r15, r16, r17, r18, r19, r20, r21, (fun _ => rfl), r23, r24, r25, r26, r27, r28, r29, r30, r31, r32, trivial⟩
  | 23, hio =>
   cases hio
   have e26 := r22 (hd ⟨22, .data⟩ (by simp) rfl)
   have e20 := r16 (hd ⟨16, .guard⟩ (by simp) rfl)
   obtain ⟨g, rfl⟩ : ∃ g, f = upd (upd (g) 26 (.pointer (some (Addr.add ⟨b2, 0, none⟩ 1)))) 20 (.bool false) := ⟨f, upd_keep' (upd_keep' (rfl) e26) e20⟩
   have hb := hb.kp kR (fun e => e)
   have o2 := o2.kp kR (fun e => e)
   have hseg := hseg.kp kR (fun _ _ _ e => e)
   have ho := ho.kp kR (fun _ _ _ e => e)
   refine s_ld1 (v := .slice _ _ _) on22 rfl rfl rfl (o2.get 1 rfl) (w_nil ?_)
   exact ⟨_, rfl, kR, l1, l2, r0, r1, r2, r3, r4, r5, r6, r7, r8, r9, r10, r11, r12, r13, r14, r15, r16, r17, r18, r19, r20, r21, r22, (fun _ => rfl), r24, r25, r26, r27, r28, r29, r30, r31, r32, trivial⟩
  | 24, hio =>
   cases hio
   have e27 := r23 (hd ⟨23, .data⟩ (by simp) rfl)
   have e20 := r16 (hd ⟨16, .guard⟩ (by simp) rfl)
   obtain ⟨g, rfl⟩ : ∃ g, f = upd (upd (g) 27 (.slice Ao e.old.length co)) 20 (.bool false) := ⟨f, upd_keep' (upd_keep' (rfl) e27) e20⟩
   have hb := hb.kp kR (fun e => e)
   have o2 := o2.kp kR (fun e => e)
   have hseg := hseg.kp kR (fun _ _ _ e => e)
   have ho := ho.kp kR (fun _ _ _ e => e)
   refine s_lenL Tryz.underlying22 rfl rfl rfl (w_nil ?_)
   exact ⟨_, rfl, kR, l1, l2, r0, r1, r2, r3, r4, r5, r6, r7, r8, r9, r10, r11, r12, r13, r14, r15, r16, r17, r18, r19, r20, r21, r22, r23, (fun _ => rfl), r25, r26, r27, r28, r29, r30, r31, r32, trivial⟩
  | 25, hio =>
   cases hio
   have e25 := r21 (hd ⟨21, .data⟩ (by simp) rfl)
   have e28 := r24 (hd ⟨24, .data⟩ (by simp) rfl)
   have e20 := r16 (hd ⟨16, .guard⟩ (by simp) rfl)
   obtain ⟨g, rfl⟩ : ∃ g, f = upd (upd (upd (g) 25 (.int .i64 e.pos)) 28 (.int .i64 (e.old.length : Nat))) 20 (.bool false) := ⟨f, upd_keep' (upd_keep' (upd_keep' (rfl) e25) e28) e20⟩
   have hb := hb.kp kR (fun e => e)
   have o2 := o2.kp kR (fun e => e)
   have hseg := hseg.kp kR (fun _ _ _ e => e)
   have ho := ho.kp kR (fun _ _ _ e => e)
   refine s_add rfl rfl rfl rfl rfl (w64 (by omega)) (w_nil ?_)
   exact ⟨_, rfl, kR, l1, l2, r0, r1, r2, r3, r4, r5, r6, r7, r8, r9, r10, r11, r12, r13, r14, r15, r16, r17, r18, r19, r20, r21, r22, r23, r24, (fun _ => rfl), r26, r27, r28, r29, r30, r31, r32, trivial⟩
  | 26, hio =>
   cases hio
   have e21 := r17 (hd ⟨17, .data⟩ (by simp) rfl)
   have e23 := r19 (hd ⟨19, .data⟩ (by simp) rfl)
   have e29 := r25 (hd ⟨25, .data⟩ (by simp) rfl)
   have e20 := r16 (hd ⟨16, .guard⟩ (by simp) rfl)
   obtain ⟨g, rfl⟩ : ∃ g, f = upd (upd (upd (upd (g) 21 (.slice A la.length cap)) 23 (.int .i64 e.pos)) 29 (.int .i64 (e.pos + (e.old.length : Nat) : Int))) 20 (.bool false) := ⟨f, upd_keep' (upd_keep' (upd_keep' (upd_keep' (rfl) e21) e23) e29) e20⟩
   have hb := hb.kp kR (fun e => e)
   have o2 := o2.kp kR (fun e => e)
   have hseg := hseg.kp kR (fun _ _ _ e => e)
   have ho := ho.kp kR (fun _ _ _ e => e)
   refine s_slLH (lo := e.pos.toNat) (hi := e.pos.toNat + e.old.length) (m := e.old.length) el22 rfl rfl rfl rfl rfl rfl rfl (by omega) (by omega) (by omega) (by omega) (by omega) (w_nil ?_)
   exact ⟨_, rfl, kR, l1, l2, r0, r1, r2, r3, r4, r5, r6, r7, r8, r9, r10, r11, r12, r13, r14, r15, r16, r17, r18, r19, r20, r21, r22, r23, r24, r25, (fun _ => rfl), r27, r28, r29, r30, r31, r32, trivial⟩
  | 27, hio =>
   cases hio
   have e20 := r16 (hd ⟨16, .guard⟩ (by simp) rfl)
   obtain ⟨g, rfl⟩ : ∃ g, f = upd (upd (g) 2 (.pointer (some ⟨b2, 0, none⟩))) 20 (.bool false) := ⟨f, upd_keep' (upd_keep' (rfl) l2) e20⟩
   have hb := hb.kp kR (fun e => e)
   have o2 := o2.kp kR (fun e => e)
   have hseg := hseg.kp kR (fun _ _ _ e => e)
   have ho := ho.kp kR (fun _ _ _ e => e)
   refine s_fa fi60_1 rfl rfl rfl (w_nil ?_)
   exact ⟨_, rfl, kR, l1, l2, r0, r1, r2, r3, r4, r5, r6, r7, r8, r9, r10, r11, r12, r13, r14, r15, r16, r17, r18, r19, r20, r21, r22, r23, r24, r25, r26, (fun _ => rfl), r28, r29, r30, r31, r32, trivial⟩
  | 28, hio =>
   cases hio
   have e31 := r27 (hd ⟨27, .data⟩ (by simp) rfl)
   have e20 := r16 (hd ⟨16, .guard⟩ (by simp) rfl)
   obtain ⟨g, rfl⟩ : ∃ g, f = upd (upd (g) 31 (.pointer (some (Addr.add ⟨b2, 0, none⟩ 1)))) 20 (.bool false) := ⟨f, upd_keep' (upd_keep' (rfl) e31) e20⟩
   have hb := hb.kp kR (fun e => e)
   have o2 := o2.kp kR (fun e => e)
   have hseg := hseg.kp kR (fun _ _ _ e => e)
   have ho := ho.kp kR (fun _ _ _ e => e)
   refine s_ld1 (v := .slice _ _ _) on22 rfl rfl rfl (o2.get 1 rfl) (w_nil ?_)
   exact ⟨_, rfl, kR, l1, l2, r0, r1, r2, r3, r4, r5, r6, r7, r8, r9, r10, r11, r12, r13, r14, r15, r16, r17, r18, r19, r20, r21, r22, r23, r24, r25, r26, r27, (fun _ => rfl), r29, r30, r31, r32, trivial⟩
  | 29, hio =>
   cases hio
   have e30 := r26 (hd ⟨26, .data⟩ (by simp) rfl)
   have e32 := r28 (hd ⟨28, .data⟩ (by simp) rfl)
   have e20 := r16 (hd ⟨16, .chain⟩ (by simp) rfl)
   obtain ⟨g, rfl⟩ : ∃ g, f = upd (upd (upd (g) 30 (.slice (part A e.pos.toNat cap 4) e.old.length (cap - e.pos.toNat))) 32 (.slice Ao e.old.length co)) 20 (.bool false) := ⟨f, upd_keep' (upd_keep' (upd_keep' (rfl) e30) e32) e20⟩
   have hb := hb.kp kR (fun e => e)
   have o2 := o2.kp kR (fun e => e)
   have hseg := hseg.kp kR (fun _ _ _ e => e)
   have ho := ho.kp kR (fun _ _ _ e => e)
   refine s_call2 go56 rfl (c56 (part A e.pos.toNat cap 4) Ao (cap - e.pos.toNat) co e.old e.old _ hseg ho) rfl rfl rfl rfl ?_
   rintro _ w2 ⟨rfl, kw2⟩
   replace hb := hb.kp kw2 (fun e => e)
   replace o2 := o2.kp kw2 (fun e => e)
   replace hseg := hseg.kp kw2 (fun _ _ _ e => e)
   replace ho := ho.kp kw2 (fun _ _ _ e => e)
   replace kR := kR.trans kw2
   refine ⟨_, rfl, ?_⟩
   refine w_nil ?_
   exact ⟨_, rfl, kR, l1, l2, r0, r1, r2, r3, r4, r5, r6, r7, r8, r9, r10, r11, r12, r13, r14, r15, r16, r17, r18, r19, r20, r21, r22, r23, r24, r25, r26, r27, r28, (fun _ => rfl), r30, r31, r32, trivial⟩
  | 30, hio =>
   cases hio
   have e33 := r29 (hd ⟨29, .data⟩ (by simp) rfl)
   have e20 := r16 (hd ⟨16, .guard⟩ (by simp) rfl)
   obtain ⟨g, rfl⟩ : ∃ g, f = upd (upd (g) 33 (.bool (decide (e.old = e.old)))) 20 (.bool false) := ⟨f, upd_keep' (upd_keep' (rfl) e33) e20⟩
   have hb := hb.kp kR (fun e => e)
   have o2 := o2.kp kR (fun e => e)
   have hseg := hseg.kp kR (fun _ _ _ e => e)
   have ho := ho.kp kR (fun _ _ _ e => e)
   refine s_not rfl rfl rfl (w_nil ?_)
   exact ⟨_, rfl, kR, l1, l2, r0, r1, r2, r3, r4, r5, r6, r7, r8, r9, r10, r11, r12, r13, r14, r15, r16, r17, r18, r19, r20, r21, r22, r23, r24, r25, r26, r27, r28, r29, (fun _ => rfl), r31, r32, trivial⟩
  | 31, hio =>
   cases hio
   have e20 := r16 (hd ⟨16, .data⟩ (by simp) rfl)
   have e34 := r30 (hd ⟨30, .data⟩ (by simp) rfl)
   obtain ⟨g, rfl⟩ : ∃ g, f = upd (upd (g) 20 (.bool false)) 34 (.bool (!decide (e.old = e.old))) := ⟨f, upd_keep' (upd_keep' (rfl) e20) e34⟩
   have hb := hb.kp kR (fun e => e)
   have o2 := o2.kp kR (fun e => e)
   have hseg := hseg.kp kR (fun _ _ _ e => e)
   have ho := ho.kp kR (fun _ _ _ e => e)
   refine pFB rfl rfl rfl rfl rfl (w_nil ?_)
   exact ⟨_, rfl, kR, l1, l2, r0, r1, r2, r3, r4, r5, r6, r7, r8, r9, r10, r11, r12, r13, r14, r15, r16, r17, r18, r19, r20, r21, r22, r23, r24, r25, r26, r27, r28, r29, r30, (fun _ => rfl), r32, trivial⟩
  | 32, hio =>
   cases hio
   have e35 := r31 (hd ⟨31, .data⟩ (by simp) rfl)
   obtain ⟨g, rfl⟩ : ∃ g, f = upd (g) 35 (.bool (!decide (e.old = e.old))) := ⟨f, upd_keep' (rfl) e35⟩
   have hb := hb.kp kR (fun e => e)
   have o2 := o2.kp kR (fun e => e)
   have hseg := hseg.kp kR (fun _ _ _ e => e)
   have ho := ho.kp kR (fun _ _ _ e => e)
   refine asB rfl rfl rfl (w_nil ?_)
   exact ⟨_, rfl, kR, l1, l2, r0, r1, r2, r3, r4, r5, r6, r7, r8, r9, r10, r11, r12, r13, r14, r15, r16, r17, r18, r19, r20, r21, r22, r23, r24, r25, r26, r27, r28, r29, r30, r31, (fun _ => rfl), trivial⟩
  | k + 33, hio => exact absurd hio (by simp)
 ·intro S f w2 hS hI
  obtain ⟨kR, l1, l2, r0, r1, r2, r3, r4, r5, r6, r7, r8, r9, r10, r11, r12, r13, r14, r15, r16, r17, r18, r19, r20, r21, r22, r23, r24, r25, r26, r27, r28, r29, r30, r31, r32, -⟩ := hI
  obtain ⟨g, rfl⟩ : ∃ g, f = upd (upd (upd (g) 1 (.pointer (some ⟨ba, 0, none⟩))) 2 (.pointer (some ⟨b2, 0, none⟩))) 3 (.bool (!decide (e.old = e.old))) := ⟨f, upd_keep' (upd_keep' (upd_keep' (rfl) l1) l2) (r32 (hS 32 (by decide)))⟩
  clear hS l1 l2 r0 r1 r2 r3 r4 r5 r6 r7 r8 r9 r10 r11 r12 r13 r14 r15 r16 r17 r18 r19 r20 r21 r22 r23 r24 r25 r26 r27 r28 r29 r30 r31 r32
  replace hb := hb.kp kR (fun e => e)
  replace o2 := o2.kp kR (fun e => e)
  replace hseg := hseg.kp kR (fun _ _ _ e => e)
  replace ho := ho.kp kR (fun _ _ _ e => e)
  replace K := K.trans kR
  refine then_n (wp_ret ?_)
  refine ret1 (t := 3) (v := .bool _) rfl rfl rfl ⟨by simp, K⟩
theorem c86 {G G1 : Nat → Prop} (ba : Nat) (A : Option Addr) (cap : Nat) (la : List Fld) (B : Option Addr) (capB : Nat) (l : List Edt) (w : World) (hb : Own w ba 22 [.slice A la.length cap]) (hcap : la.length ≤ cap) (hA : FldsAt G w A la) (hla : la.length ≤ 1000) (hl : EdtsAt G1 w B l) (hll : l.length ≤ 1000) (hf : Fits la l) : Calls Tryz.prog 86 #[.slice B l.length capB, .func (.func 55) #[] #[.pointer (some ⟨ba, 0, none⟩)]] w fun e w' => e = .returned (.int .i64 (-1)) ∧ New w w' := by
 obtain ⟨W, hW⟩ : ∃ W, W = w := ⟨_, rfl⟩
 subst hW
 have K : New W W := Kp.refl _ _
 refine enter (n := 19) Tryz.func86 rfl rfl (by simp) ?_
 refine wp_seq (c_reg (asI rfl rfl rfl (w_nil (then_n (wp_seq (wp_seq (c_reg (s_mv (v := .slice _ _ _) rfl rfl rfl (s_lenL Tryz.underlying31 rfl rfl rfl ?_)))))))))
 refine mvI rfl rfl rfl (w_nil (then_n (wp_block ?_)))
 refine c_loop (fun m f w => ∃ g k, m = l.length - k ∧ k ≤ l.length ∧ f = (upd (upd (upd (upd g 0 (.slice B l.length capB)) 1 (.func (.func 55) #[] #[.pointer (some ⟨ba, 0, none⟩)])) 7 (.int .i64 (l.length : Nat))) 8 (.int .i64 (k : Nat))) ∧ New W w) (l.length) ⟨_, 0, by omega, by omega, (upd_keep' (upd_keep' (upd_keep' (upd_keep' rfl rfl) rfl) rfl) rfl), K⟩ ?_
 clear K
 rintro m _ w0 ⟨g, k, rfl, hk, rfl, K⟩
 refine wp_seq (c_reg (s_lss rfl rfl rfl rfl rfl rfl (w_nil (then_n (wp_seq ?_)))))
 refine c_if rfl rfl ?_ ?_
 ·intro ht9
  (try simp only [Q1, Q2, Q3, Q4, Q5] at ht9)
  have hlt : k < l.length := by omega
  obtain ⟨p, vo, vn, hpA, _, hp, ho, hn⟩ := hl.2 k _ (List.getElem?_eq_getElem hlt)
  subst hpA
  obtain ⟨f1, f2, f3⟩ := hf _ (List.getElem_mem hlt)
  refine wp_skip (then_n (wp_seq (wp_block (wp_seq (c_reg (mvI rfl rfl rfl (asI rfl rfl rfl (w_nil (then_n ?_)))))))))
  refine wp_seq (c_reg (s_mv (v := _) rfl rfl rfl (s_mv (v := .slice _ _ _) rfl rfl rfl (mvI rfl rfl rfl (s_iaE el31 rfl rfl rfl rfl rfl rfl (by omega) (s_ldA ag60 rfl rfl rfl (hp.kp K (fun e => e)) rfl (s_callv1 go55 rfl rfl rfl (c55 ba A cap la l[k] vo vn _ (hb.kp K (fun e => e)) hcap (hA.kp K (fun _ _ _ e => e)) hla (ho.kp K (fun _ _ _ e => e)) (hn.kp K (fun _ _ _ e => e)) f1 f2 f3) rfl rfl ?_)))))))
  rintro _ w1 ⟨rfl, kw1⟩
  replace K := K.trans kw1
  refine ⟨_, rfl, ?_⟩
  refine w_nil (then_n (c_F rfl rfl (wp_skip (inb_n (then_n (c_reg (s_add rfl rfl rfl rfl rfl (w64 (by omega)) (mvI rfl rfl rfl (w_nil ?_)))))))))
  refine then_n ?_
  exact ⟨l.length - (k + 1), _, by omega, rfl, _, k + 1, rfl, by omega, (upd_keep' (upd_keep' (upd_keep' (upd_keep' rfl rfl) rfl) rfl) rfl), K⟩
 ·intro ht9
  (try simp only [Q1, Q2, Q3, Q4, Q5] at ht9)
  refine wp_exit (then_x (then_x (inb_x (then_n (wp_seq (c_reg (asI rfl rfl rfl (w_nil (then_n ?_)))))))))
  refine wp_ret ?_
  refine ret1 (t := 4) (v := .int .i64 _) rfl rfl rfl ⟨rfl, K⟩
theorem c54 {G G1 : Nat → Prop} (ba : Nat) (A : Option Addr) (cap : Nat) (la : List Fld) (B : Option Addr) (capB : Nat) (l : List Edt) (w : World) (hb : Own w ba 22 [.slice A la.length cap]) (hcap : la.length ≤ cap) (hA : FldsAt G w A la) (hla : la.length ≤ 1000) (hl : EdtsAt G1 w B l) (hll : l.length ≤ 1000) (hf : Fits la l) : Calls Tryz.prog 54 #[.slice B l.length capB, .func (.func 55) #[] #[.pointer (some ⟨ba, 0, none⟩)]] w fun e w' => e = .returned (.bool false) ∧ New w w' := by
 obtain ⟨W, hW⟩ : ∃ W, W = w := ⟨_, rfl⟩
 subst hW
 have K : New W W := Kp.refl _ _
 refine enter (n := 9) Tryz.func54 rfl rfl (by simp) ?_
 refine wp_seq (c_reg (asB rfl rfl rfl (w_nil (then_n (wp_seq (c_reg (s_mv (v := .slice _ _ _) rfl rfl rfl (s_mv (v := _) rfl rfl rfl (s_call2 go86 rfl (c86 ba A cap la B capB l _ hb hcap hA hla hl hll hf) rfl rfl rfl rfl ?_)))))))))
 rintro _ w1 ⟨rfl, kw1⟩
 replace K := K.trans kw1
 refine ⟨_, rfl, ?_⟩
 refine s_geq rfl rfl rfl rfl rfl (decide_eq_false (by omega)) (asB rfl rfl rfl (w_nil (then_n (wp_ret ?_))))
 refine ret1 (t := 4) (v := .bool _) rfl rfl rfl ⟨rfl, K⟩
theorem c22 {G G1 : Nat → Prop} (A : Option Addr) (cap : Nat) (la : List Fld) (B : Option Addr) (capB : Nat) (l : List Edt) (w : World) (hcap : la.length ≤ cap) (hA : FldsAt G w A la) (hla : la.length ≤ 1000) (hl : EdtsAt G1 w B l) (hv : VE l) (hf : Fits la l) : Calls Tryz.prog 22 #[.slice A la.length cap, .slice B l.length capB] w fun e w' => e = .returned (.bool true) ∧ New w w' := by
 obtain ⟨W, hW⟩ : ∃ W, W = w := ⟨_, rfl⟩
 subst hW
 have K : New W W := Kp.refl _ _
 refine enter (n := 13) Tryz.func22 rfl rfl (by simp) ?_
 refine wp_seq (c_reg (s_box rfl rfl rfl rfl ?_))
 intro b2 w1 eb2 o2 kb2 zb2
 have gb2_K : W.heap.size ≤ b2 := by have := K.size; omega
 replace K := K.trans kb2
 refine asB rfl rfl rfl (w_nil (then_n (wp_seq (c_reg (s_mv (v := .slice _ _ _) rfl rfl rfl (s_call1 go28 rfl (c28 B capB l _ (hl.kp K (fun _ _ _ e => e)) hv) rfl rfl ?_))))))
 rintro _ w2 ⟨rfl, kw2⟩
 replace o2 := o2.kp kw2 (fun e => e)
 replace K := K.trans kw2
 refine ⟨_, rfl, ?_⟩
 refine mvB rfl rfl rfl (s_mv (v := .slice _ _ _) rfl rfl rfl (s_mf1 rfl rfl rfl (s_call2 go54 rfl (c54 b2 A cap la B capB l _ o2 hcap (hA.kp K (fun _ _ _ e => e)) hla (hl.kp K (fun _ _ _ e => e)) hv.1 hf) rfl rfl rfl rfl ?_)))
 rintro _ w3 ⟨rfl, kw3⟩
 replace o2 := o2.kp kw3 (fun e => e)
 replace K := K.trans kw3
 refine ⟨_, rfl, ?_⟩
 refine s_not rfl rfl rfl (pTB rfl rfl rfl rfl rfl (asB rfl rfl rfl (w_nil (then_n (wp_ret ?_)))))
 refine ret1 (t := 4) (v := .bool _) rfl rfl rfl ⟨rfl, K⟩
end
end Go.Proofs.YtkabfelhicohnaaGreatDoor.V
