/- Walks: edits. No condition. -/
import Derived.Test.YtkabfelhicohnaaGreatDoorM2
set_option linter.unusedSimpArgs false
set_option linter.unusedVariables false
set_option maxRecDepth 4000
set_option maxHeartbeats 2000000
namespace Go.Proofs.YtkabfelhicohnaaGreatDoor.V
open Go.RowKit
section
theorem c27 {G G1 : Nat → Prop} (A : Option Addr) (cap : Nat) (la : List Fld) (B : Option Addr) (capB : Nat) (l : List Edt) (w : World) (hcap : la.length ≤ cap) (hA : FldsAt G w A la) (hla : la.length ≤ 1000) (hsa : ∀ f ∈ la, f.subs.length ≤ 1000000) (hl : EdtsAt G1 w B l) (hv : VE l) (hf : Fits la l) (hsn : ∀ e ∈ l, ∀ f ∈ e.new, f.subs.length ≤ 1000000) (hres : (app la 0 l).length ≤ 1000) : Calls Tryz.prog 27 #[.slice A la.length cap, .slice B l.length capB] w fun e w' => ∃ v r, e = .returned v ∧ FRow w.heap.size w' v (app la 0 l) r ∧ New w w' := by
 obtain ⟨W, hW⟩ : ∃ W, W = w := ⟨_, rfl⟩
 subst hW
 have K : New W W := Kp.refl _ _
 have hll := hv.1
 refine enter (n := 40) Tryz.func27 rfl rfl (by simp) ?_
 refine wp_seq (c_reg (s_as (v := .slice _ _ _) rfl rfl rfl (w_nil (then_n (wp_seq (c_reg (s_as (v := .slice _ _ _) rfl rfl rfl (w_nil (then_n ?_)))))))))
 refine wp_seq (c_reg (asI rfl rfl rfl (w_nil (then_n (wp_seq (wp_seq (c_reg (s_mv (v := .slice _ _ _) rfl rfl rfl (s_lenL Tryz.underlying31 rfl rfl rfl ?_)))))))))
 refine mvI rfl rfl rfl (w_nil (then_n (wp_block ?_)))
 refine c_loop (fun m f w => ∃ g k at' vo out rout, m = l.length - k ∧ k ≤ l.length ∧ f = (upd (upd (upd (upd (upd (upd g 0 (.slice A la.length cap)) 5 (vo)) 6 (.int .i64 (at' : Nat))) 9 (.slice B l.length capB)) 10 (.int .i64 (l.length : Nat))) 11 (.int .i64 (k : Nat))) ∧ FRow W.heap.size w vo out rout ∧ at' ≤ la.length ∧ (∀ e : Edt, l[k]? = some e → (at' : Int) ≤ e.pos) ∧ app la 0 l = out ++ app la at' (l.drop k) ∧ New W w) (l.length) ⟨_, 0, 0, _, [], none, by omega, by omega, (upd_keep' (upd_keep' (upd_keep' (upd_keep' (upd_keep' (upd_keep' rfl rfl) rfl) rfl) rfl) rfl) rfl), FRow.nil _ _, by omega, (fun e he => (hv.2 0 e he).1), by simp, K⟩ ?_
 clear K
 rintro m _ w0 ⟨g, k, at', vo, out, rout, rfl, hk, rfl, hrow, hat, hord, happ, K⟩
 have hrl0 := hrow.rlt
 have hol := congrArg List.length happ
 simp only [List.length_append] at hol
 have K0 : New w0 w0 := Kp.refl _ _
 refine wp_seq (c_reg (s_lss rfl rfl rfl rfl rfl rfl (w_nil (then_n (wp_seq ?_)))))
 refine c_if rfl rfl ?_ ?_
 ·intro ht12
  (try simp only [Q1, Q2, Q3, Q4, Q5] at ht12)
  have hlt : k < l.length := by omega
  obtain ⟨p, _, _, hpA, _, hp, ⟨Ao, co, rfl, ho⟩, ⟨An, cn, rfl, hn⟩⟩ := hl.2 k _ (List.getElem?_eq_getElem hlt)
  subst hpA
  obtain ⟨v1, v2, v3, v4, v5, v6⟩ := hv.2 k _ (List.getElem?_eq_getElem hlt)
  obtain ⟨f1, f2, f3⟩ := hf _ (List.getElem_mem hlt)
  have f0 := hord _ (List.getElem?_eq_getElem hlt)
  clear v6
  refine wp_skip (then_n (wp_seq (wp_block (wp_seq (c_reg (s_iaE el31 rfl rfl rfl rfl rfl rfl (by omega) (s_ldA ag60 rfl rfl rfl (hp.kp K (fun e => e)) rfl (s_alloc z60 rfl rfl ?_))))))))
  intro b8 w1 eb8 o8 kb8 zb8
  have gb8_K : W.heap.size ≤ b8 := by have := K.size; omega
  have gb8_K0 : w0.heap.size ≤ b8 := by have := K0.size; omega
  replace K := K.trans kb8
  replace K0 := K0.trans kb8
  refine s_st 0 sz60 (v := .agg _) rfl rfl rfl rfl rfl rfl rfl o8 rfl rfl rfl ?_
  clear o8; intro w2 o8 ksw2 zsw2
  replace K := K.trans' ksw2 (fun i hi (e : i = b8) => by omega)
  replace K0 := K0.trans' ksw2 (fun i hi (e : i = b8) => by omega)
  refine w_nil (then_n (wp_seq ?_))
  obtain ⟨seg, hseg⟩ : ∃ s, s = (la.drop at').take (l[k].pos.toNat - at') := ⟨_, rfl⟩
  have hsl : seg.length = l[k].pos.toNat - at' := by rw [hseg]; exact take_drop_len (by omega)
  have hfs := hA.part (lo := at') (hi := l[k].pos.toNat) (by omega) (by omega) hcap
  rw [← hseg] at hfs
  have hap : app la 0 l = out ++ (seg ++ l[k].new ++ app la (l[k].pos.toNat + l[k].old.length) (l.drop (k + 1))) := by rw [happ, List.drop_eq_getElem_cons hlt, hseg]; rfl
  have hln := congrArg List.length hap
  simp only [List.length_append] at hln
  replace hrow := hrow.kp K0 (fun _ _ _ e => e)
  have hrl := hrow.rlt
  have hW6 := K.size
  have hn8 : rout ≠ some b8 := fun e => by have := hrl0 _ e; omega
  refine c_drawS (fun S f w => (S 6 = false → w = w2.drew) ∧ (S 6 = true → S 7 = false → (∃ v1 r1, f 21 = v1 ∧ FRow w2.heap.size w v1 seg r1 ∧ FRow W.heap.size w vo (out) rout ∧ Own w b8 60 [.int .i64 l[k].pos, .slice Ao l[k].old.length co, .slice An l[k].new.length cn] ∧ New W w)) ∧ (S 7 = true → S 10 = false → (∃ v2 r2, f 22 = v2 ∧ FRow W.heap.size w v2 (out ++ seg) r2 ∧ r2 ≠ some b8 ∧ Own w b8 60 [.int .i64 l[k].pos, .slice Ao l[k].old.length co, .slice An l[k].new.length cn] ∧ New W w)) ∧ (S 10 = true → S 11 = false → (∃ v2 r2 v3 r3 C, f 22 = v2 ∧ f 25 = v3 ∧ FRow W.heap.size w v2 (out ++ seg) r2 ∧ FRow C w v3 l[k].new r3 ∧ W.heap.size ≤ C ∧ (∀ b, r2 = some b → b < C) ∧ r2 ≠ some b8 ∧ Own w b8 60 [.int .i64 l[k].pos, .slice Ao l[k].old.length co, .slice An l[k].new.length cn] ∧ New W w)) ∧ (S 11 = true → S 12 = false → (∃ v4 r4, f 26 = v4 ∧ FRow W.heap.size w v4 (out ++ seg ++ l[k].new) r4 ∧ Own w b8 60 [.int .i64 l[k].pos, .slice Ao l[k].old.length co, .slice An l[k].new.length cn] ∧ New W w)) ∧ (S 12 = true → (∃ v4 r4, f 5 = v4 ∧ FRow W.heap.size w v4 (out ++ seg ++ l[k].new) r4 ∧ Own w b8 60 [.int .i64 l[k].pos, .slice Ao l[k].old.length co, .slice An l[k].new.length cn] ∧ New W w)) ∧ f 0 = .slice A la.length cap ∧ f 6 = .int .i64 (at' : Nat) ∧ f 9 = .slice (some p) l.length capB ∧ f 10 = .int .i64 (l.length : Nat) ∧ f 11 = .int .i64 (k : Nat) ∧ f 8 = .pointer (some ⟨b8, 0, none⟩) ∧ (S 12 = false → f 5 = vo) ∧ (S 0 = true → f 15 = vo) ∧ (S 1 = true → f 16 = .slice A la.length cap) ∧ (S 2 = true → f 17 = .int .i64 (at' : Nat)) ∧ (S 3 = true → f 18 = .pointer (some (Addr.add ⟨b8, 0, none⟩ 0))) ∧ (S 4 = true → f 19 = .int .i64 l[k].pos) ∧ (S 5 = true → f 20 = .slice (part A at' cap 4) seg.length (cap - at')) ∧ (S 8 = true → f 23 = .pointer (some (Addr.add ⟨b8, 0, none⟩ 2))) ∧ (S 9 = true → f 24 = .slice An l[k].new.length cn) ∧ True) (fun i => i) (rank_back (by kernel_rfl)) ⟨(fun _ => rfl), (fun h => by cases h), (fun h => by cases h), (fun h => by cases h), (fun h => by cases h), (fun h => by cases h), rfl, rfl, rfl, rfl, rfl, rfl, (fun _ => rfl), (fun h => by cases h), (fun h => by cases h), (fun h => by cases h), (fun h => by cases h), (fun h => by cases h), (fun h => by cases h), (fun h => by cases h), (fun h => by cases h), trivial⟩ ?_ ?_
  ·intro io opx hio S f w hS hC hd hI
   obtain ⟨st0, st1, st2, st3, st4, st5, l0, l6, l9, l10, l11, l8, c5, rv0, rv1, rv2, rv3, rv4, rv5, rv8, rv9, -⟩ := hI
   match io, hio with
   | 0, hio =>
    cases hio
    have l5 := c5 (by cases h : S 12 with | false => rfl | true => exact absurd (hC 12 _ rfl h ⟨0, .phase⟩ (by simp) rfl) (by rw [hS]; simp))
    obtain ⟨g, rfl⟩ : ∃ g, f = upd (g) 5 (vo) := ⟨f, upd_keep' (rfl) l5⟩
    refine s_mv (v := vo) rfl rfl rfl (w_nil ?_)
    exact ⟨_, rfl, st0, st1, st2, st3, st4, st5, l0, l6, l9, l10, l11, l8, c5, (fun _ => rfl), rv1, rv2, rv3, rv4, rv5, rv8, rv9, trivial⟩
   | 1, hio =>
    cases hio
    obtain ⟨g, rfl⟩ : ∃ g, f = upd (g) 0 (.slice A la.length cap) := ⟨f, upd_keep' (rfl) l0⟩
    refine s_mv (v := .slice _ _ _) rfl rfl rfl (w_nil ?_)
    exact ⟨_, rfl, st0, st1, st2, st3, st4, st5, l0, l6, l9, l10, l11, l8, c5, rv0, (fun _ => rfl), rv2, rv3, rv4, rv5, rv8, rv9, trivial⟩
   | 2, hio =>
    cases hio
    obtain ⟨g, rfl⟩ : ∃ g, f = upd (g) 6 (.int .i64 (at' : Nat)) := ⟨f, upd_keep' (rfl) l6⟩
    refine mvI rfl rfl rfl (w_nil ?_)
    exact ⟨_, rfl, st0, st1, st2, st3, st4, st5, l0, l6, l9, l10, l11, l8, c5, rv0, rv1, (fun _ => rfl), rv3, rv4, rv5, rv8, rv9, trivial⟩
   | 3, hio =>
    cases hio
    obtain ⟨g, rfl⟩ : ∃ g, f = upd (g) 8 (.pointer (some ⟨b8, 0, none⟩)) := ⟨f, upd_keep' (rfl) l8⟩
    refine s_fa fi60_0 rfl rfl rfl (w_nil ?_)
    exact ⟨_, rfl, st0, st1, st2, st3, st4, st5, l0, l6, l9, l10, l11, l8, c5, rv0, rv1, rv2, (fun _ => rfl), rv4, rv5, rv8, rv9, trivial⟩
   | 4, hio =>
    cases hio
    have q6 : S 6 = false := Q9 hS fun h => (hC 5 _ rfl (hC 6 _ rfl h ⟨5, .data⟩ (by simp) rfl) ⟨4, .data⟩ (by simp) rfl)
    have q7 : S 7 = false := Q9 hS fun h => (hC 5 _ rfl (hC 6 _ rfl (hC 7 _ rfl h ⟨6, .data⟩ (by simp) rfl) ⟨5, .data⟩ (by simp) rfl) ⟨4, .data⟩ (by simp) rfl)
    have q10 : S 10 = false := Q9 hS fun h => (hC 5 _ rfl (hC 6 _ rfl (hC 7 _ rfl (hC 10 _ rfl h ⟨7, .chain⟩ (by simp) rfl) ⟨6, .data⟩ (by simp) rfl) ⟨5, .data⟩ (by simp) rfl) ⟨4, .data⟩ (by simp) rfl)
    have q11 : S 11 = false := Q9 hS fun h => (hC 5 _ rfl (hC 6 _ rfl (hC 7 _ rfl (hC 11 _ rfl h ⟨7, .data⟩ (by simp) rfl) ⟨6, .data⟩ (by simp) rfl) ⟨5, .data⟩ (by simp) rfl) ⟨4, .data⟩ (by simp) rfl)
    have q12 : S 12 = false := Q9 hS fun h => (hC 12 _ rfl h ⟨4, .phase⟩ (by simp) rfl)
    have e18 := rv3 (hd ⟨3, .data⟩ (by simp) rfl)
    obtain rfl := st0 q6
    have kd : New w2 w2.drew := (Kp.refl _ _).drew
    replace o8 := o8.kp kd (fun e => e)
    replace hrow := hrow.kp kd (fun _ _ _ e => e)
    replace K := K.trans kd
    replace K0 := K0.trans kd
    obtain ⟨g, rfl⟩ : ∃ g, f = upd (g) 18 (.pointer (some (Addr.add ⟨b8, 0, none⟩ 0))) := ⟨f, upd_keep' (rfl) e18⟩
    refine s_ld1 (v := .int .i64 _) on3 rfl rfl rfl (o8.get 0 rfl) (w_nil ?_)
    exact ⟨_, rfl, (fun _ => rfl), st1, st2, st3, st4, st5, l0, l6, l9, l10, l11, l8, c5, rv0, rv1, rv2, rv3, (fun _ => rfl), rv5, rv8, rv9, trivial⟩
   | 5, hio =>
    cases hio
    have e16 := rv1 (hd ⟨1, .data⟩ (by simp) rfl)
    have e17 := rv2 (hd ⟨2, .data⟩ (by simp) rfl)
    have e19 := rv4 (hd ⟨4, .data⟩ (by simp) rfl)
    obtain ⟨g, rfl⟩ : ∃ g, f = upd (upd (upd (g) 16 (.slice A la.length cap)) 17 (.int .i64 (at' : Nat))) 19 (.int .i64 l[k].pos) := ⟨f, upd_keep' (upd_keep' (upd_keep' (rfl) e16) e17) e19⟩
    refine s_slLH (lo := at') (hi := l[k].pos.toNat) (m := seg.length) el22 rfl rfl rfl rfl rfl rfl rfl (by omega) (by omega) (by omega) (by omega) (by omega) (w_nil ?_)
    exact ⟨_, rfl, st0, st1, st2, st3, st4, st5, l0, l6, l9, l10, l11, l8, c5, rv0, rv1, rv2, rv3, rv4, (fun _ => rfl), rv8, rv9, trivial⟩
   | 6, hio =>
    cases hio
    have q6 : S 6 = false := hS
    have q7 : S 7 = false := Q9 hS fun h => (hC 7 _ rfl h ⟨6, .data⟩ (by simp) rfl)
    have q10 : S 10 = false := Q9 hS fun h => (hC 7 _ rfl (hC 10 _ rfl h ⟨7, .chain⟩ (by simp) rfl) ⟨6, .data⟩ (by simp) rfl)
    have q11 : S 11 = false := Q9 hS fun h => (hC 7 _ rfl (hC 11 _ rfl h ⟨7, .data⟩ (by simp) rfl) ⟨6, .data⟩ (by simp) rfl)
    have q12 : S 12 = false := Q9 hS fun h => (hC 12 _ rfl h ⟨6, .phase⟩ (by simp) rfl)
    have e20 := rv5 (hd ⟨5, .data⟩ (by simp) rfl)
    obtain rfl := st0 q6
    have kd : New w2 w2.drew := (Kp.refl _ _).drew
    replace o8 := o8.kp kd (fun e => e)
    replace hrow := hrow.kp kd (fun _ _ _ e => e)
    replace K := K.trans kd
    replace K0 := K0.trans kd
    obtain ⟨g, rfl⟩ : ∃ g, f = upd (g) 20 (.slice (part A at' cap 4) seg.length (cap - at')) := ⟨f, upd_keep' (rfl) e20⟩
    refine s_call1 go29 rfl (c29 (part A at' cap 4) (cap - at') seg _ (hfs.kp K (fun _ _ _ e => e)) (by omega) (fun f h => hsa f (List.mem_of_mem_drop (List.mem_of_mem_take (hseg ▸ h))))) rfl rfl ?_
    rintro _ w3 ⟨v1, r1, rfl, hv1, kc⟩
    refine ⟨_, rfl, ?_⟩
    refine w_nil ?_
    exact ⟨_, rfl, (fun h => absurd h (by simp [ins, q7, q10, q11, q12])), (fun _ _ => ⟨v1, r1, rfl, hv1, hrow.kp kc (fun _ _ _ e => e), o8.kp kc (fun e => e), K.trans kc⟩), (fun h => absurd h (by simp [ins, q7, q10, q11, q12])), (fun h => absurd h (by simp [ins, q7, q10, q11, q12])), (fun h => absurd h (by simp [ins, q7, q10, q11, q12])), (fun h => absurd h (by simp [ins, q7, q10, q11, q12])), l0, l6, l9, l10, l11, l8, c5, rv0, rv1, rv2, rv3, rv4, rv5, rv8, rv9, trivial⟩
   | 7, hio =>
    cases hio
    have q6 : S 6 = true := (hd ⟨6, .data⟩ (by simp) rfl)
    have q7 : S 7 = false := hS
    have q10 : S 10 = false := Q9 hS fun h => (hC 10 _ rfl h ⟨7, .chain⟩ (by simp) rfl)
    have q11 : S 11 = false := Q9 hS fun h => (hC 11 _ rfl h ⟨7, .data⟩ (by simp) rfl)
    have q12 : S 12 = false := Q9 hS fun h => (hC 12 _ rfl h ⟨7, .phase⟩ (by simp) rfl)
    have e15 := rv0 (hd ⟨0, .data⟩ (by simp) rfl)
    obtain ⟨v1, r1, e21, hv1, hrow, o8, K⟩ := st1 q6 q7
    obtain ⟨g, rfl⟩ : ∃ g, f = upd (upd (g) 15 (vo)) 21 (v1) := ⟨f, upd_keep' (upd_keep' (rfl) e15) e21⟩
    refine s_appF (l1 := out) (l2 := seg) el22 rfl rfl rfl rfl rfl rfl hrow hv1 hW6 hrl K.size (by omega) ?_
    intro v2 wA r2 hv2 kA hr2
    refine w_nil ?_
    exact ⟨_, rfl, (fun h => absurd h (by simp [ins, q6, q10, q11, q12])), (fun _ h => absurd h (by simp [ins, q6, q10, q11, q12])), (fun _ _ => ⟨v2, r2, rfl, hv2, (fun e => by rcases hr2 with h | h; exact hn8 (h.symm.trans e); have h9 := Option.some.inj (h.symm.trans e); have := o8.lt; omega), o8.kp kA (fun e => hn8 e.symm), K.trans' kA (fun i hi e => by have := hrow.rge _ e.symm; omega)⟩), (fun h => absurd h (by simp [ins, q6, q10, q11, q12])), (fun h => absurd h (by simp [ins, q6, q10, q11, q12])), (fun h => absurd h (by simp [ins, q6, q10, q11, q12])), l0, l6, l9, l10, l11, l8, c5, rv0, rv1, rv2, rv3, rv4, rv5, rv8, rv9, trivial⟩
   | 8, hio =>
    cases hio
    obtain ⟨g, rfl⟩ : ∃ g, f = upd (g) 8 (.pointer (some ⟨b8, 0, none⟩)) := ⟨f, upd_keep' (rfl) l8⟩
    refine s_fa fi60_2 rfl rfl rfl (w_nil ?_)
    exact ⟨_, rfl, st0, st1, st2, st3, st4, st5, l0, l6, l9, l10, l11, l8, c5, rv0, rv1, rv2, rv3, rv4, rv5, (fun _ => rfl), rv9, trivial⟩
   | 9, hio =>
    cases hio
    have q10 : S 10 = false := Q9 hS fun h => (hC 10 _ rfl h ⟨9, .data⟩ (by simp) rfl)
    have q11 : S 11 = false := Q9 hS fun h => (hC 10 _ rfl (hC 11 _ rfl h ⟨10, .data⟩ (by simp) rfl) ⟨9, .data⟩ (by simp) rfl)
    have q12 : S 12 = false := Q9 hS fun h => (hC 12 _ rfl h ⟨9, .phase⟩ (by simp) rfl)
    have e23 := rv8 (hd ⟨8, .data⟩ (by simp) rfl)
    cases q6 : S 6 with
    | false =>
     obtain rfl := st0 q6
     have kd : New w2 w2.drew := (Kp.refl _ _).drew
     replace o8 := o8.kp kd (fun e => e)
     replace hrow := hrow.kp kd (fun _ _ _ e => e)
     replace K := K.trans kd
     replace K0 := K0.trans kd
     obtain ⟨g, rfl⟩ : ∃ g, f = upd (g) 23 (.pointer (some (Addr.add ⟨b8, 0, none⟩ 2))) := ⟨f, upd_keep' (rfl) e23⟩
     refine s_ld1 (v := .slice _ _ _) on22 rfl rfl rfl (o8.get 2 rfl) (w_nil ?_)
     exact ⟨_, rfl, (fun _ => rfl), st1, st2, st3, st4, st5, l0, l6, l9, l10, l11, l8, c5, rv0, rv1, rv2, rv3, rv4, rv5, rv8, (fun _ => rfl), trivial⟩
    | true =>
     cases q7 : S 7 with
     | false =>
      obtain ⟨v1, r1, e21, hv1, hrow, o8, K⟩ := st1 q6 q7
      obtain ⟨g, rfl⟩ : ∃ g, f = upd (g) 23 (.pointer (some (Addr.add ⟨b8, 0, none⟩ 2))) := ⟨f, upd_keep' (rfl) e23⟩
      refine s_ld1 (v := .slice _ _ _) on22 rfl rfl rfl (o8.get 2 rfl) (w_nil ?_)
      exact ⟨_, rfl, st0, (fun _ _ => ⟨v1, r1, e21, hv1, hrow, o8, K⟩), st2, st3, st4, st5, l0, l6, l9, l10, l11, l8, c5, rv0, rv1, rv2, rv3, rv4, rv5, rv8, (fun _ => rfl), trivial⟩
     | true =>
      obtain ⟨v2, r2, e22, hv2, n8, o8, K⟩ := st2 q7 q10
      obtain ⟨g, rfl⟩ : ∃ g, f = upd (g) 23 (.pointer (some (Addr.add ⟨b8, 0, none⟩ 2))) := ⟨f, upd_keep' (rfl) e23⟩
      refine s_ld1 (v := .slice _ _ _) on22 rfl rfl rfl (o8.get 2 rfl) (w_nil ?_)
      exact ⟨_, rfl, st0, st1, (fun _ _ => ⟨v2, r2, e22, hv2, n8, o8, K⟩), st3, st4, st5, l0, l6, l9, l10, l11, l8, c5, rv0, rv1, rv2, rv3, rv4, rv5, rv8, (fun _ => rfl), trivial⟩
   | 10, hio =>
    cases hio
    have q6 : S 6 = true := (hC 7 _ rfl (hd ⟨7, .chain⟩ (by simp) rfl) ⟨6, .data⟩ (by simp) rfl)
    have q7 : S 7 = true := (hd ⟨7, .chain⟩ (by simp) rfl)
    have q10 : S 10 = false := hS
    have q11 : S 11 = false := Q9 hS fun h => (hC 11 _ rfl h ⟨10, .data⟩ (by simp) rfl)
    have q12 : S 12 = false := Q9 hS fun h => (hC 12 _ rfl h ⟨10, .phase⟩ (by simp) rfl)
    have e24 := rv9 (hd ⟨9, .data⟩ (by simp) rfl)
    obtain ⟨v2, r2, e22, hv2, n8, o8, K⟩ := st2 q7 q10
    obtain ⟨g, rfl⟩ : ∃ g, f = upd (g) 24 (.slice An l[k].new.length cn) := ⟨f, upd_keep' (rfl) e24⟩
    refine s_call1 go29 rfl (c29 An cn l[k].new _ (hn.kp K (fun _ _ _ e => e)) (by omega) (hsn _ (List.getElem_mem hlt))) rfl rfl ?_
    rintro _ w3 ⟨v3, r3, rfl, hv3, kc⟩
    refine ⟨_, rfl, ?_⟩
    refine w_nil ?_
    exact ⟨_, rfl, (fun h => absurd h (by simp [ins, q6, q7, q11, q12])), (fun _ h => absurd h (by simp [ins, q6, q7, q11, q12])), (fun _ h => absurd h (by simp [ins, q6, q7, q11, q12])), (fun _ _ => ⟨v2, r2, v3, r3, _, e22, rfl, hv2.kp kc (fun _ _ _ e => e), hv3, K.size, hv2.rlt, n8, o8.kp kc (fun e => e), K.trans kc⟩), (fun h => absurd h (by simp [ins, q6, q7, q11, q12])), (fun h => absurd h (by simp [ins, q6, q7, q11, q12])), l0, l6, l9, l10, l11, l8, c5, rv0, rv1, rv2, rv3, rv4, rv5, rv8, rv9, trivial⟩
   | 11, hio =>
    cases hio
    have q6 : S 6 = true := (hC 7 _ rfl (hd ⟨7, .data⟩ (by simp) rfl) ⟨6, .data⟩ (by simp) rfl)
    have q7 : S 7 = true := (hd ⟨7, .data⟩ (by simp) rfl)
    have q10 : S 10 = true := (hd ⟨10, .data⟩ (by simp) rfl)
    have q11 : S 11 = false := hS
    have q12 : S 12 = false := Q9 hS fun h => (hC 12 _ rfl h ⟨11, .data⟩ (by simp) rfl)
    obtain ⟨v2, r2, v3, r3, C, e22, e25, hv2, hv3, hC1, hC2, n8, o8, K⟩ := st3 q10 q11
    obtain ⟨g, rfl⟩ : ∃ g, f = upd (upd (g) 22 (v2)) 25 (v3) := ⟨f, upd_keep' (upd_keep' (rfl) e22) e25⟩
    refine s_appF (l1 := out ++ seg) (l2 := l[k].new) el22 rfl rfl rfl rfl rfl rfl hv2 hv3 hC1 hC2 K.size (by rw [List.length_append]; omega) ?_
    intro v4 wA r4 hv4 kA hr4
    refine w_nil ?_
    exact ⟨_, rfl, (fun h => absurd h (by simp [ins, q6, q7, q10, q12])), (fun _ h => absurd h (by simp [ins, q6, q7, q10, q12])), (fun _ h => absurd h (by simp [ins, q6, q7, q10, q12])), (fun _ h => absurd h (by simp [ins, q6, q7, q10, q12])), (fun _ _ => ⟨v4, r4, rfl, hv4, o8.kp kA (fun e => n8 e.symm), K.trans' kA (fun i hi e => by have := hv2.rge _ e.symm; omega)⟩), (fun h => absurd h (by simp [ins, q6, q7, q10, q12])), l0, l6, l9, l10, l11, l8, c5, rv0, rv1, rv2, rv3, rv4, rv5, rv8, rv9, trivial⟩
   | 12, hio =>
    cases hio
    have q6 : S 6 = true := (hd ⟨6, .phase⟩ (by simp) rfl)
    have q7 : S 7 = true := (hd ⟨7, .phase⟩ (by simp) rfl)
    have q10 : S 10 = true := (hd ⟨10, .phase⟩ (by simp) rfl)
    have q11 : S 11 = true := (hd ⟨11, .data⟩ (by simp) rfl)
    have q12 : S 12 = false := hS
    obtain ⟨v4, r4, e26, hv4, o8, K⟩ := st4 q11 q12
    obtain ⟨g, rfl⟩ : ∃ g, f = upd (g) 26 (v4) := ⟨f, upd_keep' (rfl) e26⟩
    refine s_as (v := v4) rfl rfl rfl (w_nil ?_)
    exact ⟨_, rfl, (fun h => absurd h (by simp [ins, q6, q7, q10, q11])), (fun _ h => absurd h (by simp [ins, q6, q7, q10, q11])), (fun _ h => absurd h (by simp [ins, q6, q7, q10, q11])), (fun _ h => absurd h (by simp [ins, q6, q7, q10, q11])), (fun _ h => absurd h (by simp [ins, q6, q7, q10, q11])), (fun _ => ⟨v4, r4, rfl, hv4, o8, K⟩), l0, l6, l9, l10, l11, l8, (fun h => absurd h (by simp [ins])), rv0, rv1, rv2, rv3, rv4, rv5, rv8, rv9, trivial⟩
   | k + 13, hio => exact absurd hio (by simp)
  ·intro S f w3 hS hI
   obtain ⟨st0, st1, st2, st3, st4, st5, l0, l6, l9, l10, l11, l8, c5, rv0, rv1, rv2, rv3, rv4, rv5, rv8, rv9, -⟩ := hI
   obtain ⟨v4, r4, e5, hv4, o8, K⟩ := st5 (hS 12 (by decide))
   obtain ⟨g, rfl⟩ : ∃ g, f = upd (upd (upd (upd (upd (upd (upd (g) 0 (.slice A la.length cap)) 6 (.int .i64 (at' : Nat))) 9 (.slice (some p) l.length capB)) 10 (.int .i64 (l.length : Nat))) 11 (.int .i64 (k : Nat))) 8 (.pointer (some ⟨b8, 0, none⟩))) 5 (v4) := ⟨f, upd_keep' (upd_keep' (upd_keep' (upd_keep' (upd_keep' (upd_keep' (upd_keep' (rfl) l0) l6) l9) l10) l11) l8) e5⟩
   clear hS st0 st1 st2 st3 st4 st5 l0 l6 l9 l10 l11 l8 c5 rv0 rv1 rv2 rv3 rv4 rv5 rv8 rv9
   refine then_n (c_reg (s_fa fi60_0 rfl rfl rfl (s_ld1 (v := .int .i64 _) on3 rfl rfl rfl (o8.get 0 rfl) (s_fa fi60_1 rfl rfl rfl (s_ld1 (v := .slice _ _ _) on22 rfl rfl rfl (o8.get 1 rfl) (s_lenL Tryz.underlying22 rfl rfl rfl (s_add rfl rfl rfl rfl rfl (w64 (by omega)) (asI rfl rfl rfl (w_nil ?_)))))))))
   refine inb_n (then_n (c_reg (s_add rfl rfl rfl rfl rfl (w64 (by omega)) (mvI rfl rfl rfl (w_nil (then_n ?_))))))
   exact ⟨l.length - (k + 1), _, by omega, rfl, _, k + 1, l[k].pos.toNat + l[k].old.length, v4, _, r4, rfl, by omega, (upd_keep' (upd_keep' (upd_keep' (upd_keep' (upd_keep' (upd_keep' rfl rfl) rfl) (iv (by omega))) rfl) rfl) rfl), hv4, by omega, (fun e2 he2 => by have := (hv.2 (k + 1) e2 he2).2.2.2.2.2 l[k] (by omega) (by rw [Nat.add_sub_cancel]; exact List.getElem?_eq_getElem hlt); omega), by rw [hap]; simp only [List.append_assoc], K⟩
 ·intro ht12
  (try simp only [Q1, Q2, Q3, Q4, Q5] at ht12)
  have hkl : k = l.length := by omega
  subst hkl
  rw [List.drop_length] at happ
  have hfd := hA.part (lo := at') (hi := la.length) (by omega) (by omega) hcap
  rw [List.take_of_length_le (by simp)] at hfd
  replace happ : app la 0 l = out ++ la.drop at' := happ
  refine wp_exit (then_x (then_x (inb_x (then_n (wp_seq (c_reg (s_mv (v := vo) rfl rfl rfl (s_mv (v := .slice _ _ _) rfl rfl rfl (mvI rfl rfl rfl ?_)))))))))
  refine s_slL (lo := at') (m := (la.drop at').length) el22 rfl rfl rfl rfl rfl (by omega) (by omega) (by simp) (s_call1 go29 rfl (c29 (part A at' cap 4) (cap - at') (la.drop at') _ (hfd.kp K (fun _ _ _ e => e)) (by rw [List.length_drop]; omega) (fun f h => hsa f (List.mem_of_mem_drop h))) rfl rfl ?_)
  have hrl := hrow.rlt
  have hK9 := K.size
  rintro _ w1 ⟨v3, r3, rfl, hv3, kc⟩
  replace hrow := hrow.kp kc (fun _ _ _ e => e)
  replace K := K.trans kc
  refine ⟨_, rfl, ?_⟩
  refine s_appF (l1 := out) (l2 := la.drop at') el22 rfl rfl rfl rfl rfl rfl hrow hv3 hK9 hrl K.size (by rw [List.length_drop]; omega) ?_
  intro vE wE rE hvE kE hrE
  replace K := K.trans' kE (fun i hi e => by have := hrow.rge _ e.symm; omega)
  refine s_as (v := vE) rfl rfl rfl (w_nil (then_n (wp_ret ?_)))
  refine ret1 (t := 4) (v := vE) rfl rfl rfl ⟨_, rE, rfl, by rw [happ]; exact hvE, K⟩
theorem c26 (id : Int) (A : Option Addr) (cap ln : Nat) (w : World) (h1 : 1 ≤ ln) (h2 : ln ≤ 60) : Calls Tryz.prog 26 #[.int .i64 id, .slice A ln cap] w fun e w' => e = .returned (.tuple #[.agg #[.int .i64 id, .slice A ln cap], .int .i64 0]) ∧ New w w' := by
 obtain ⟨W, hW⟩ : ∃ W, W = w := ⟨_, rfl⟩
 subst hW
 have K : New W W := Kp.refl _ _
 refine enter (n := 18) Tryz.func26 rfl rfl (by simp) ?_
 refine wp_seq (c_reg (s_alloc z24 rfl rfl ?_))
 intro b4 w1 eb4 o4 kb4 zb4
 have gb4_K : W.heap.size ≤ b4 := by have := K.size; omega
 replace K := K.trans kb4
 refine asI rfl rfl rfl (w_nil (then_n (wp_seq (wp_seq (c_reg (s_mv (v := .slice _ _ _) rfl rfl rfl (s_lenL Tryz.underlying22 rfl rfl rfl (s_lss rfl rfl rfl rfl rfl (decide_eq_false (by omega)) (mvB rfl rfl rfl ?_)))))))))
 refine s_mv (v := .slice _ _ _) rfl rfl rfl (s_lenL Tryz.underlying22 rfl rfl rfl (s_gtr rfl rfl rfl rfl rfl (decide_eq_false (by omega)) (pFB rfl rfl rfl rfl rfl (w_nil (then_n (c_F rfl rfl (wp_skip (then_n (wp_seq ?_)))))))))
 refine c_reg (mvI rfl rfl rfl (s_mv (v := .slice _ _ _) rfl rfl rfl (s_bd2 (cells := #[_, _]) bd24 rfl rfl rfl rfl rfl rfl (s_st 0 sz24 (v := .agg _) rfl rfl rfl rfl rfl rfl rfl o4 rfl rfl rfl ?_))))
 clear o4; intro w2 o4 ksw2 zsw2
 replace K := K.trans' ksw2 (fun i hi (e : i = b4) => by omega)
 refine asI rfl rfl rfl (w_nil (then_n (wp_ret ?_)))
 refine retC2 (t := 4) (u := 5) (T := 24) (v := .int .i64 0) ag24 rfl rfl rfl rfl rfl o4.cells rfl ⟨rfl, K⟩
theorem c11 {G1 : Nat → Prop} (B : Option Addr) (capB : Nat) (l : List Edt) (w : World) (hl : EdtsAt G1 w B l) (hv : VE l) (hs : ∀ e ∈ l, (∀ f ∈ e.old, f.subs.length ≤ 1000000) ∧ (∀ f ∈ e.new, f.subs.length ≤ 1000000)) : Calls Tryz.prog 11 #[.slice B l.length capB] w fun e w' => ∃ v, e = .returned (.tuple #[v, .int .i64 0]) ∧ REdts (fun i => w.heap.size ≤ i) w' v (inv 0 l) ∧ New w w' := by
 obtain ⟨W, hW⟩ : ∃ W, W = w := ⟨_, rfl⟩
 subst hW
 have K : New W W := Kp.refl _ _
 have hll := hv.1
 refine enter (n := 42) Tryz.func11 rfl rfl (by simp) ?_
 refine wp_seq (c_reg (s_as (v := .slice _ _ _) rfl rfl rfl (asI rfl rfl rfl (w_nil (then_n (wp_seq (wp_seq (c_reg (s_mv (v := .slice _ _ _) rfl rfl rfl ?_)))))))))
 refine s_call1 go28 rfl (c28 B capB l _ hl hv) rfl rfl ?_
 rintro _ w1 ⟨rfl, kw1⟩
 replace K := K.trans kw1
 refine ⟨_, rfl, ?_⟩
 refine s_not rfl rfl rfl (w_nil (then_n (c_F rfl rfl (wp_skip (then_n (wp_seq (c_reg (s_as (v := .slice _ _ _) rfl rfl rfl (w_nil ?_)))))))))
 refine then_n (wp_seq (c_reg (asI rfl rfl rfl (w_nil (then_n (wp_seq (wp_seq (c_reg (s_mv (v := .slice _ _ _) rfl rfl rfl ?_)))))))))
 refine s_lenL Tryz.underlying31 rfl rfl rfl (mvI rfl rfl rfl (w_nil (then_n (wp_block ?_))))
 refine c_loop (fun m f w => ∃ g k sh vo es r, m = l.length - k ∧ k ≤ l.length ∧ f = (upd (upd (upd (upd (upd g 4 (vo)) 5 (.int .i64 sh)) 11 (.slice B l.length capB)) 12 (.int .i64 (l.length : Nat))) 13 (.int .i64 (k : Nat))) ∧ ERow (fun i => W.heap.size ≤ i) w vo es r ∧ es.length = k ∧ -1000 * (k : Int) ≤ sh ∧ sh ≤ 1000 * (k : Int) ∧ inv 0 l = es ++ inv sh (l.drop k) ∧ New W w) (l.length) ⟨_, 0, 0, _, [], none, by omega, by omega, (upd_keep' (upd_keep' (upd_keep' (upd_keep' (upd_keep' rfl rfl) rfl) rfl) rfl) rfl), ERow.nil _ _, rfl, by omega, by omega, by simp, K⟩ ?_
 clear K
 rintro m _ w0 ⟨g, k, sh, vo, es, r, rfl, hk, rfl, hrow, hes, hsh1, hsh2, hinv, K⟩
 have hrl0 := hrow.rlt
 have K0 : New w0 w0 := Kp.refl _ _
 refine wp_seq (c_reg (s_lss rfl rfl rfl rfl rfl rfl (w_nil (then_n (wp_seq ?_)))))
 refine c_if rfl rfl ?_ ?_
 ·intro ht14
  (try simp only [Q1, Q2, Q3, Q4, Q5] at ht14)
  have hlt : k < l.length := by omega
  obtain ⟨p, _, _, hpA, _, hp, ⟨Ao, co, rfl, ho⟩, ⟨An, cn, rfl, hn⟩⟩ := hl.2 k _ (List.getElem?_eq_getElem hlt)
  subst hpA
  obtain ⟨v1, v2, v3, v4, v5, v6⟩ := hv.2 k _ (List.getElem?_eq_getElem hlt)
  clear v6
  refine wp_skip (then_n (wp_seq (wp_block (wp_seq (c_reg (s_iaE el31 rfl rfl rfl rfl rfl rfl (by omega) (s_ldA ag60 rfl rfl rfl (hp.kp K (fun e => e)) rfl (s_alloc z60 rfl rfl ?_))))))))
  intro b7 w2 eb7 o7 kb7 zb7
  have gb7_K : W.heap.size ≤ b7 := by have := K.size; omega
  have gb7_K0 : w0.heap.size ≤ b7 := by have := K0.size; omega
  replace K := K.trans kb7
  replace K0 := K0.trans kb7
  refine s_st 0 sz60 (v := .agg _) rfl rfl rfl rfl rfl rfl rfl o7 rfl rfl rfl ?_
  clear o7; intro w3 o7 ksw3 zsw3
  replace K := K.trans' ksw3 (fun i hi (e : i = b7) => by omega)
  replace K0 := K0.trans' ksw3 (fun i hi (e : i = b7) => by omega)
  refine w_nil (then_n (wp_seq ?_))
  replace hrow := hrow.kp K0 (fun _ _ _ e => e)
  have hrl := hrow.rlt
  have hW6 := K.size
  refine c_drawS (fun S f w => (S 7 = false → w = w3.drew) ∧ (S 7 = true → S 10 = false → (∃ A1 c1, f 24 = .slice A1 l[k].new.length c1 ∧ w3.heap.size ≤ w.heap.size ∧ FldsAt (fun i => w3.heap.size ≤ i) w A1 l[k].new ∧ ERow (fun i => W.heap.size ≤ i) w vo es r ∧ Own w b7 60 [.int .i64 l[k].pos, .slice Ao l[k].old.length co, .slice An l[k].new.length cn] ∧ New W w)) ∧ (S 10 = true → S 11 = false → (∃ A1 c1 A2 c2, f 24 = .slice A1 l[k].new.length c1 ∧ f 27 = .slice A2 l[k].old.length c2 ∧ FldsAt (fun i => w3.heap.size ≤ i) w A1 l[k].new ∧ FldsAt (fun i => w3.heap.size ≤ i) w A2 l[k].old ∧ ERow (fun i => W.heap.size ≤ i) w vo es r ∧ Own w b7 60 [.int .i64 l[k].pos, .slice Ao l[k].old.length co, .slice An l[k].new.length cn] ∧ New W w)) ∧ (S 11 = true → S 12 = false → (∃ A1 c1 A2 c2, f 28 = .agg #[.int .i64 (l[k].pos + sh), .slice A1 l[k].new.length c1, .slice A2 l[k].old.length c2] ∧ FldsAt (fun i => w3.heap.size ≤ i) w A1 l[k].new ∧ FldsAt (fun i => w3.heap.size ≤ i) w A2 l[k].old ∧ ERow (fun i => W.heap.size ≤ i) w vo es r ∧ Own w b7 60 [.int .i64 l[k].pos, .slice Ao l[k].old.length co, .slice An l[k].new.length cn] ∧ New W w)) ∧ (S 12 = true → S 13 = false → (∃ A1 c1 A2 c2 bz, f 29 = .slice (some ⟨bz, 0, none⟩) 1 1 ∧ Own w bz 60 [.int .i64 (l[k].pos + sh), .slice A1 l[k].new.length c1, .slice A2 l[k].old.length c2] ∧ FldsAt (fun i => w3.heap.size ≤ i) w A1 l[k].new ∧ FldsAt (fun i => w3.heap.size ≤ i) w A2 l[k].old ∧ ERow (fun i => W.heap.size ≤ i) w vo es r ∧ Own w b7 60 [.int .i64 l[k].pos, .slice Ao l[k].old.length co, .slice An l[k].new.length cn] ∧ New W w)) ∧ (S 13 = true → S 14 = false → (∃ vz rz, f 30 = vz ∧ ERow (fun i => W.heap.size ≤ i) w vz (es ++ [⟨l[k].pos + sh, l[k].new, l[k].old⟩]) rz ∧ Own w b7 60 [.int .i64 l[k].pos, .slice Ao l[k].old.length co, .slice An l[k].new.length cn] ∧ New W w)) ∧ (S 14 = true → (∃ vz rz, f 4 = vz ∧ ERow (fun i => W.heap.size ≤ i) w vz (es ++ [⟨l[k].pos + sh, l[k].new, l[k].old⟩]) rz ∧ Own w b7 60 [.int .i64 l[k].pos, .slice Ao l[k].old.length co, .slice An l[k].new.length cn] ∧ New W w)) ∧ f 5 = .int .i64 sh ∧ f 11 = .slice (some p) l.length capB ∧ f 12 = .int .i64 (l.length : Nat) ∧ f 13 = .int .i64 (k : Nat) ∧ f 7 = .pointer (some ⟨b7, 0, none⟩) ∧ (S 14 = false → f 4 = vo) ∧ (S 0 = true → f 17 = vo) ∧ (S 1 = true → f 18 = .pointer (some (Addr.add ⟨b7, 0, none⟩ 0))) ∧ (S 2 = true → f 19 = .int .i64 l[k].pos) ∧ (S 3 = true → f 20 = .int .i64 sh) ∧ (S 4 = true → f 21 = .int .i64 (l[k].pos + sh)) ∧ (S 5 = true → f 22 = .pointer (some (Addr.add ⟨b7, 0, none⟩ 2))) ∧ (S 6 = true → f 23 = .slice An l[k].new.length cn) ∧ (S 8 = true → f 25 = .pointer (some (Addr.add ⟨b7, 0, none⟩ 1))) ∧ (S 9 = true → f 26 = .slice Ao l[k].old.length co) ∧ True) (fun i => i) (rank_back (by kernel_rfl)) ⟨(fun _ => rfl), (fun h => by cases h), (fun h => by cases h), (fun h => by cases h), (fun h => by cases h), (fun h => by cases h), (fun h => by cases h), rfl, rfl, rfl, rfl, rfl, (fun _ => rfl), (fun h => by cases h), (fun h => by cases h), (fun h => by cases h), (fun h => by cases h), (fun h => by cases h), (fun h => by cases h), (fun h => by cases h), (fun h => by cases h), (fun h => by cases h), trivial⟩ ?_ ?_
  ·intro io opx hio S f w hS hC hd hI
   obtain ⟨st0, st1, st2, st3, st4, st5, st6, l5, l11, l12, l13, l7, c4, rv0, rv1, rv2, rv3, rv4, rv5, rv6, rv8, rv9, -⟩ := hI
   match io, hio with
   | 0, hio =>
    cases hio
    have l4 := c4 (by cases h : S 14 with | false => rfl | true => exact absurd (hC 14 _ rfl h ⟨0, .phase⟩ (by simp) rfl) (by rw [hS]; simp))
    obtain ⟨g, rfl⟩ : ∃ g, f = upd (g) 4 (vo) := ⟨f, upd_keep' (rfl) l4⟩
    refine s_mv (v := vo) rfl rfl rfl (w_nil ?_)
    exact ⟨_, rfl, st0, st1, st2, st3, st4, st5, st6, l5, l11, l12, l13, l7, c4, (fun _ => rfl), rv1, rv2, rv3, rv4, rv5, rv6, rv8, rv9, trivial⟩
   | 1, hio =>
    cases hio
    obtain ⟨g, rfl⟩ : ∃ g, f = upd (g) 7 (.pointer (some ⟨b7, 0, none⟩)) := ⟨f, upd_keep' (rfl) l7⟩
    refine s_fa fi60_0 rfl rfl rfl (w_nil ?_)
    exact ⟨_, rfl, st0, st1, st2, st3, st4, st5, st6, l5, l11, l12, l13, l7, c4, rv0, (fun _ => rfl), rv2, rv3, rv4, rv5, rv6, rv8, rv9, trivial⟩
   | 2, hio =>
    cases hio
    have q11 : S 11 = false := Q9 hS fun h => (hC 4 _ rfl (hC 11 _ rfl h ⟨4, .data⟩ (by simp) rfl) ⟨2, .data⟩ (by simp) rfl)
    have q12 : S 12 = false := Q9 hS fun h => (hC 4 _ rfl (hC 11 _ rfl (hC 12 _ rfl h ⟨11, .data⟩ (by simp) rfl) ⟨4, .data⟩ (by simp) rfl) ⟨2, .data⟩ (by simp) rfl)
    have q13 : S 13 = false := Q9 hS fun h => (hC 4 _ rfl (hC 11 _ rfl (hC 12 _ rfl (hC 13 _ rfl h ⟨12, .data⟩ (by simp) rfl) ⟨11, .data⟩ (by simp) rfl) ⟨4, .data⟩ (by simp) rfl) ⟨2, .data⟩ (by simp) rfl)
    have q14 : S 14 = false := Q9 hS fun h => (hC 14 _ rfl h ⟨2, .phase⟩ (by simp) rfl)
    have e18 := rv1 (hd ⟨1, .data⟩ (by simp) rfl)
    cases q7 : S 7 with
    | false =>
     obtain rfl := st0 q7
     have kd : New w3 w3.drew := (Kp.refl _ _).drew
     replace o7 := o7.kp kd (fun e => e)
     replace hrow := hrow.kp kd (fun _ _ _ e => e)
     replace K := K.trans kd
     replace K0 := K0.trans kd
     obtain ⟨g, rfl⟩ : ∃ g, f = upd (g) 18 (.pointer (some (Addr.add ⟨b7, 0, none⟩ 0))) := ⟨f, upd_keep' (rfl) e18⟩
     refine s_ld1 (v := .int .i64 _) on3 rfl rfl rfl (o7.get 0 rfl) (w_nil ?_)
     exact ⟨_, rfl, (fun _ => rfl), st1, st2, st3, st4, st5, st6, l5, l11, l12, l13, l7, c4, rv0, rv1, (fun _ => rfl), rv3, rv4, rv5, rv6, rv8, rv9, trivial⟩
    | true =>
     cases q10 : S 10 with
     | false =>
      obtain ⟨A1, c1, e24, hsz, hf1, hrow, o7, K⟩ := st1 q7 q10
      obtain ⟨g, rfl⟩ : ∃ g, f = upd (g) 18 (.pointer (some (Addr.add ⟨b7, 0, none⟩ 0))) := ⟨f, upd_keep' (rfl) e18⟩
      refine s_ld1 (v := .int .i64 _) on3 rfl rfl rfl (o7.get 0 rfl) (w_nil ?_)
      exact ⟨_, rfl, st0, (fun _ _ => ⟨A1, c1, e24, hsz, hf1, hrow, o7, K⟩), st2, st3, st4, st5, st6, l5, l11, l12, l13, l7, c4, rv0, rv1, (fun _ => rfl), rv3, rv4, rv5, rv6, rv8, rv9, trivial⟩
     | true =>
      obtain ⟨A1, c1, A2, c2, e24, e27, hf1, hf2, hrow, o7, K⟩ := st2 q10 q11
      obtain ⟨g, rfl⟩ : ∃ g, f = upd (g) 18 (.pointer (some (Addr.add ⟨b7, 0, none⟩ 0))) := ⟨f, upd_keep' (rfl) e18⟩
      refine s_ld1 (v := .int .i64 _) on3 rfl rfl rfl (o7.get 0 rfl) (w_nil ?_)
      exact ⟨_, rfl, st0, st1, (fun _ _ => ⟨A1, c1, A2, c2, e24, e27, hf1, hf2, hrow, o7, K⟩), st3, st4, st5, st6, l5, l11, l12, l13, l7, c4, rv0, rv1, (fun _ => rfl), rv3, rv4, rv5, rv6, rv8, rv9, trivial⟩
   | 3, hio =>
    cases hio
    obtain ⟨g, rfl⟩ : ∃ g, f = upd (g) 5 (.int .i64 sh) := ⟨f, upd_keep' (rfl) l5⟩
    refine mvI rfl rfl rfl (w_nil ?_)
    exact ⟨_, rfl, st0, st1, st2, st3, st4, st5, st6, l5, l11, l12, l13, l7, c4, rv0, rv1, rv2, (fun _ => rfl), rv4, rv5, rv6, rv8, rv9, trivial⟩
   | 4, hio =>
    cases hio
    have e19 := rv2 (hd ⟨2, .data⟩ (by simp) rfl)
    have e20 := rv3 (hd ⟨3, .data⟩ (by simp) rfl)
    obtain ⟨g, rfl⟩ : ∃ g, f = upd (upd (g) 19 (.int .i64 l[k].pos)) 20 (.int .i64 sh) := ⟨f, upd_keep' (upd_keep' (rfl) e19) e20⟩
    refine s_add rfl rfl rfl rfl rfl (w64 (by omega)) (w_nil ?_)
    exact ⟨_, rfl, st0, st1, st2, st3, st4, st5, st6, l5, l11, l12, l13, l7, c4, rv0, rv1, rv2, rv3, (fun _ => rfl), rv5, rv6, rv8, rv9, trivial⟩
   | 5, hio =>
    cases hio
    obtain ⟨g, rfl⟩ : ∃ g, f = upd (g) 7 (.pointer (some ⟨b7, 0, none⟩)) := ⟨f, upd_keep' (rfl) l7⟩
    refine s_fa fi60_2 rfl rfl rfl (w_nil ?_)
    exact ⟨_, rfl, st0, st1, st2, st3, st4, st5, st6, l5, l11, l12, l13, l7, c4, rv0, rv1, rv2, rv3, rv4, (fun _ => rfl), rv6, rv8, rv9, trivial⟩
   | 6, hio =>
    cases hio
    have q7 : S 7 = false := Q9 hS fun h => (hC 7 _ rfl h ⟨6, .data⟩ (by simp) rfl)
    have q10 : S 10 = false := Q9 hS fun h => (hC 7 _ rfl (hC 10 _ rfl h ⟨7, .chain⟩ (by simp) rfl) ⟨6, .data⟩ (by simp) rfl)
    have q11 : S 11 = false := Q9 hS fun h => (hC 7 _ rfl (hC 11 _ rfl h ⟨7, .data⟩ (by simp) rfl) ⟨6, .data⟩ (by simp) rfl)
    have q12 : S 12 = false := Q9 hS fun h => (hC 7 _ rfl (hC 11 _ rfl (hC 12 _ rfl h ⟨11, .data⟩ (by simp) rfl) ⟨7, .data⟩ (by simp) rfl) ⟨6, .data⟩ (by simp) rfl)
    have q13 : S 13 = false := Q9 hS fun h => (hC 7 _ rfl (hC 10 _ rfl (hC 13 _ rfl h ⟨10, .chain⟩ (by simp) rfl) ⟨7, .chain⟩ (by simp) rfl) ⟨6, .data⟩ (by simp) rfl)
    have q14 : S 14 = false := Q9 hS fun h => (hC 14 _ rfl h ⟨6, .phase⟩ (by simp) rfl)
    have e22 := rv5 (hd ⟨5, .data⟩ (by simp) rfl)
    obtain rfl := st0 q7
    have kd : New w3 w3.drew := (Kp.refl _ _).drew
    replace o7 := o7.kp kd (fun e => e)
    replace hrow := hrow.kp kd (fun _ _ _ e => e)
    replace K := K.trans kd
    replace K0 := K0.trans kd
    obtain ⟨g, rfl⟩ : ∃ g, f = upd (g) 22 (.pointer (some (Addr.add ⟨b7, 0, none⟩ 2))) := ⟨f, upd_keep' (rfl) e22⟩
    refine s_ld1 (v := .slice _ _ _) on22 rfl rfl rfl (o7.get 2 rfl) (w_nil ?_)
    exact ⟨_, rfl, (fun _ => rfl), st1, st2, st3, st4, st5, st6, l5, l11, l12, l13, l7, c4, rv0, rv1, rv2, rv3, rv4, rv5, (fun _ => rfl), rv8, rv9, trivial⟩
   | 7, hio =>
    cases hio
    have q7 : S 7 = false := hS
    have q10 : S 10 = false := Q9 hS fun h => (hC 10 _ rfl h ⟨7, .chain⟩ (by simp) rfl)
    have q11 : S 11 = false := Q9 hS fun h => (hC 11 _ rfl h ⟨7, .data⟩ (by simp) rfl)
    have q12 : S 12 = false := Q9 hS fun h => (hC 11 _ rfl (hC 12 _ rfl h ⟨11, .data⟩ (by simp) rfl) ⟨7, .data⟩ (by simp) rfl)
    have q13 : S 13 = false := Q9 hS fun h => (hC 10 _ rfl (hC 13 _ rfl h ⟨10, .chain⟩ (by simp) rfl) ⟨7, .chain⟩ (by simp) rfl)
    have q14 : S 14 = false := Q9 hS fun h => (hC 14 _ rfl h ⟨7, .phase⟩ (by simp) rfl)
    have e23 := rv6 (hd ⟨6, .data⟩ (by simp) rfl)
    obtain rfl := st0 q7
    have kd : New w3 w3.drew := (Kp.refl _ _).drew
    replace o7 := o7.kp kd (fun e => e)
    replace hrow := hrow.kp kd (fun _ _ _ e => e)
    replace K := K.trans kd
    replace K0 := K0.trans kd
    obtain ⟨g, rfl⟩ : ∃ g, f = upd (g) 23 (.slice An l[k].new.length cn) := ⟨f, upd_keep' (rfl) e23⟩
    refine s_call1 go29 rfl (c29 An cn l[k].new _ (hn.kp K (fun _ _ _ e => e)) (by omega) (hs _ (List.getElem_mem hlt)).2) rfl rfl ?_
    rintro _ w4 ⟨_, _, rfl, hq1, kc⟩
    obtain ⟨A1, c1, rfl, hf1⟩ := hq1.rflds (by omega)
    refine ⟨_, rfl, ?_⟩
    refine w_nil ?_
    exact ⟨_, rfl, (fun h => absurd h (by simp [ins, q10, q11, q12, q13, q14])), (fun _ _ => ⟨A1, c1, rfl, kc.size, hf1, (hrow.kp kc (fun _ _ _ e => e)), o7.kp kc (fun e => e), K.trans kc⟩), (fun h => absurd h (by simp [ins, q10, q11, q12, q13, q14])), (fun h => absurd h (by simp [ins, q10, q11, q12, q13, q14])), (fun h => absurd h (by simp [ins, q10, q11, q12, q13, q14])), (fun h => absurd h (by simp [ins, q10, q11, q12, q13, q14])), (fun h => absurd h (by simp [ins, q10, q11, q12, q13, q14])), l5, l11, l12, l13, l7, c4, rv0, rv1, rv2, rv3, rv4, rv5, rv6, rv8, rv9, trivial⟩
   | 8, hio =>
    cases hio
    obtain ⟨g, rfl⟩ : ∃ g, f = upd (g) 7 (.pointer (some ⟨b7, 0, none⟩)) := ⟨f, upd_keep' (rfl) l7⟩
    refine s_fa fi60_1 rfl rfl rfl (w_nil ?_)
    exact ⟨_, rfl, st0, st1, st2, st3, st4, st5, st6, l5, l11, l12, l13, l7, c4, rv0, rv1, rv2, rv3, rv4, rv5, rv6, (fun _ => rfl), rv9, trivial⟩
   | 9, hio =>
    cases hio
    have q10 : S 10 = false := Q9 hS fun h => (hC 10 _ rfl h ⟨9, .data⟩ (by simp) rfl)
    have q11 : S 11 = false := Q9 hS fun h => (hC 10 _ rfl (hC 11 _ rfl h ⟨10, .data⟩ (by simp) rfl) ⟨9, .data⟩ (by simp) rfl)
    have q12 : S 12 = false := Q9 hS fun h => (hC 10 _ rfl (hC 11 _ rfl (hC 12 _ rfl h ⟨11, .data⟩ (by simp) rfl) ⟨10, .data⟩ (by simp) rfl) ⟨9, .data⟩ (by simp) rfl)
    have q13 : S 13 = false := Q9 hS fun h => (hC 10 _ rfl (hC 13 _ rfl h ⟨10, .chain⟩ (by simp) rfl) ⟨9, .data⟩ (by simp) rfl)
    have q14 : S 14 = false := Q9 hS fun h => (hC 14 _ rfl h ⟨9, .phase⟩ (by simp) rfl)
    have e25 := rv8 (hd ⟨8, .data⟩ (by simp) rfl)
    cases q7 : S 7 with
    | false =>
     obtain rfl := st0 q7
     have kd : New w3 w3.drew := (Kp.refl _ _).drew
     replace o7 := o7.kp kd (fun e => e)
     replace hrow := hrow.kp kd (fun _ _ _ e => e)
     replace K := K.trans kd
     replace K0 := K0.trans kd
     obtain ⟨g, rfl⟩ : ∃ g, f = upd (g) 25 (.pointer (some (Addr.add ⟨b7, 0, none⟩ 1))) := ⟨f, upd_keep' (rfl) e25⟩
     refine s_ld1 (v := .slice _ _ _) on22 rfl rfl rfl (o7.get 1 rfl) (w_nil ?_)
     exact ⟨_, rfl, (fun _ => rfl), st1, st2, st3, st4, st5, st6, l5, l11, l12, l13, l7, c4, rv0, rv1, rv2, rv3, rv4, rv5, rv6, rv8, (fun _ => rfl), trivial⟩
    | true =>
     obtain ⟨A1, c1, e24, hsz, hf1, hrow, o7, K⟩ := st1 q7 q10
     obtain ⟨g, rfl⟩ : ∃ g, f = upd (g) 25 (.pointer (some (Addr.add ⟨b7, 0, none⟩ 1))) := ⟨f, upd_keep' (rfl) e25⟩
     refine s_ld1 (v := .slice _ _ _) on22 rfl rfl rfl (o7.get 1 rfl) (w_nil ?_)
     exact ⟨_, rfl, st0, (fun _ _ => ⟨A1, c1, e24, hsz, hf1, hrow, o7, K⟩), st2, st3, st4, st5, st6, l5, l11, l12, l13, l7, c4, rv0, rv1, rv2, rv3, rv4, rv5, rv6, rv8, (fun _ => rfl), trivial⟩
   | 10, hio =>
    cases hio
    have q7 : S 7 = true := (hd ⟨7, .chain⟩ (by simp) rfl)
    have q10 : S 10 = false := hS
    have q11 : S 11 = false := Q9 hS fun h => (hC 11 _ rfl h ⟨10, .data⟩ (by simp) rfl)
    have q12 : S 12 = false := Q9 hS fun h => (hC 11 _ rfl (hC 12 _ rfl h ⟨11, .data⟩ (by simp) rfl) ⟨10, .data⟩ (by simp) rfl)
    have q13 : S 13 = false := Q9 hS fun h => (hC 13 _ rfl h ⟨10, .chain⟩ (by simp) rfl)
    have q14 : S 14 = false := Q9 hS fun h => (hC 14 _ rfl h ⟨10, .phase⟩ (by simp) rfl)
    have e26 := rv9 (hd ⟨9, .data⟩ (by simp) rfl)
    obtain ⟨A1, c1, e24, hsz, hf1, hrow, o7, K⟩ := st1 q7 q10
    obtain ⟨g, rfl⟩ : ∃ g, f = upd (g) 26 (.slice Ao l[k].old.length co) := ⟨f, upd_keep' (rfl) e26⟩
    refine s_call1 go29 rfl (c29 Ao co l[k].old _ (ho.kp K (fun _ _ _ e => e)) (by omega) (hs _ (List.getElem_mem hlt)).1) rfl rfl ?_
    rintro _ w4 ⟨_, _, rfl, hq1, kc⟩
    obtain ⟨A2, c2, rfl, hf2⟩ := hq1.rflds (by omega)
    refine ⟨_, rfl, ?_⟩
    refine w_nil ?_
    exact ⟨_, rfl, (fun h => absurd h (by simp [ins, q7, q11, q12, q13, q14])), (fun _ h => absurd h (by simp [ins, q7, q11, q12, q13, q14])), (fun _ _ => ⟨A1, c1, A2, c2, e24, rfl, (hf1.kp kc (fun _ _ _ e => e)), hf2.weak (fun i hi => by omega), (hrow.kp kc (fun _ _ _ e => e)), o7.kp kc (fun e => e), K.trans kc⟩), (fun h => absurd h (by simp [ins, q7, q11, q12, q13, q14])), (fun h => absurd h (by simp [ins, q7, q11, q12, q13, q14])), (fun h => absurd h (by simp [ins, q7, q11, q12, q13, q14])), (fun h => absurd h (by simp [ins, q7, q11, q12, q13, q14])), l5, l11, l12, l13, l7, c4, rv0, rv1, rv2, rv3, rv4, rv5, rv6, rv8, rv9, trivial⟩
   | 11, hio =>
    cases hio
    have q7 : S 7 = true := (hd ⟨7, .data⟩ (by simp) rfl)
    have q10 : S 10 = true := (hd ⟨10, .data⟩ (by simp) rfl)
    have q11 : S 11 = false := hS
    have q12 : S 12 = false := Q9 hS fun h => (hC 12 _ rfl h ⟨11, .data⟩ (by simp) rfl)
    have q13 : S 13 = false := Q9 hS fun h => (hC 12 _ rfl (hC 13 _ rfl h ⟨12, .data⟩ (by simp) rfl) ⟨11, .data⟩ (by simp) rfl)
    have q14 : S 14 = false := Q9 hS fun h => (hC 14 _ rfl h ⟨11, .phase⟩ (by simp) rfl)
    have e21 := rv4 (hd ⟨4, .data⟩ (by simp) rfl)
    obtain ⟨A1, c1, A2, c2, e24, e27, hf1, hf2, hrow, o7, K⟩ := st2 q10 q11
    obtain ⟨g, rfl⟩ : ∃ g, f = upd (upd (upd (g) 21 (.int .i64 (l[k].pos + sh))) 24 (.slice A1 l[k].new.length c1)) 27 (.slice A2 l[k].old.length c2) := ⟨f, upd_keep' (upd_keep' (upd_keep' (rfl) e21) e24) e27⟩
    refine s_bd3 (cells := #[_, _, _]) bd60 rfl rfl rfl rfl rfl rfl rfl rfl (w_nil ?_)
    exact ⟨_, rfl, (fun h => absurd h (by simp [ins, q7, q10, q12, q13, q14])), (fun _ h => absurd h (by simp [ins, q7, q10, q12, q13, q14])), (fun _ h => absurd h (by simp [ins, q7, q10, q12, q13, q14])), (fun _ _ => ⟨A1, c1, A2, c2, rfl, hf1, hf2, hrow, o7, K⟩), (fun h => absurd h (by simp [ins, q7, q10, q12, q13, q14])), (fun h => absurd h (by simp [ins, q7, q10, q12, q13, q14])), (fun h => absurd h (by simp [ins, q7, q10, q12, q13, q14])), l5, l11, l12, l13, l7, c4, rv0, rv1, rv2, rv3, rv4, rv5, rv6, rv8, rv9, trivial⟩
   | 12, hio =>
    cases hio
    have q7 : S 7 = true := (hC 11 _ rfl (hd ⟨11, .data⟩ (by simp) rfl) ⟨7, .data⟩ (by simp) rfl)
    have q10 : S 10 = true := (hC 11 _ rfl (hd ⟨11, .data⟩ (by simp) rfl) ⟨10, .data⟩ (by simp) rfl)
    have q11 : S 11 = true := (hd ⟨11, .data⟩ (by simp) rfl)
    have q12 : S 12 = false := hS
    have q13 : S 13 = false := Q9 hS fun h => (hC 13 _ rfl h ⟨12, .data⟩ (by simp) rfl)
    have q14 : S 14 = false := Q9 hS fun h => (hC 14 _ rfl h ⟨12, .phase⟩ (by simp) rfl)
    obtain ⟨A1, c1, A2, c2, e28, hf1, hf2, hrow, o7, K⟩ := st3 q11 q12
    obtain ⟨g, rfl⟩ : ∃ g, f = upd (g) 28 (.agg #[.int .i64 (l[k].pos + sh), .slice A1 l[k].new.length c1, .slice A2 l[k].old.length c2]) := ⟨f, upd_keep' (rfl) e28⟩
    refine s_bs1E el31 rfl (by decide) rfl rfl rfl rfl ?_
    intro bz wz ebz oz kz zz
    refine w_nil ?_
    exact ⟨_, rfl, (fun h => absurd h (by simp [ins, q7, q10, q11, q13, q14])), (fun _ h => absurd h (by simp [ins, q7, q10, q11, q13, q14])), (fun _ h => absurd h (by simp [ins, q7, q10, q11, q13, q14])), (fun _ h => absurd h (by simp [ins, q7, q10, q11, q13, q14])), (fun _ _ => ⟨A1, c1, A2, c2, _, rfl, oz, (hf1.kp kz (fun _ _ _ e => e)), (hf2.kp kz (fun _ _ _ e => e)), (hrow.kp kz (fun _ _ _ e => e)), o7.kp kz (fun e => e), K.trans kz⟩), (fun h => absurd h (by simp [ins, q7, q10, q11, q13, q14])), (fun h => absurd h (by simp [ins, q7, q10, q11, q13, q14])), l5, l11, l12, l13, l7, c4, rv0, rv1, rv2, rv3, rv4, rv5, rv6, rv8, rv9, trivial⟩
   | 13, hio =>
    cases hio
    have q7 : S 7 = true := (hC 10 _ rfl (hd ⟨10, .chain⟩ (by simp) rfl) ⟨7, .chain⟩ (by simp) rfl)
    have q10 : S 10 = true := (hd ⟨10, .chain⟩ (by simp) rfl)
    have q11 : S 11 = true := (hC 12 _ rfl (hd ⟨12, .data⟩ (by simp) rfl) ⟨11, .data⟩ (by simp) rfl)
    have q12 : S 12 = true := (hd ⟨12, .data⟩ (by simp) rfl)
    have q13 : S 13 = false := hS
    have q14 : S 14 = false := Q9 hS fun h => (hC 14 _ rfl h ⟨13, .data⟩ (by simp) rfl)
    have e17 := rv0 (hd ⟨0, .data⟩ (by simp) rfl)
    obtain ⟨A1, c1, A2, c2, bz, e29, oz, hf1, hf2, hrow, o7, K⟩ := st4 q12 q13
    obtain ⟨g, rfl⟩ : ∃ g, f = upd (upd (g) 17 (vo)) 29 (.slice (some ⟨bz, 0, none⟩) 1 1) := ⟨f, upd_keep' (upd_keep' (rfl) e17) e29⟩
    refine s_appE1 (e := ⟨l[k].pos + sh, l[k].new, l[k].old⟩) (vo := .slice A1 l[k].new.length c1) (vn := .slice A2 l[k].old.length c2) el31 rfl rfl rfl rfl rfl rfl hrow oz.cells ⟨A1, c1, rfl, hf1.weak (fun i hi => ⟨by omega, fun e => by have := hrl _ e.symm; omega⟩)⟩ ⟨A2, c2, rfl, hf2.weak (fun i hi => ⟨by omega, fun e => by have := hrl _ e.symm; omega⟩)⟩ (fun i hi => by have := K.size; omega) (by omega) ?_
    intro vz wA rz hz kA hrz
    refine w_nil ?_
    exact ⟨_, rfl, (fun h => absurd h (by simp [ins, q7, q10, q11, q12, q14])), (fun _ h => absurd h (by simp [ins, q7, q10, q11, q12, q14])), (fun _ h => absurd h (by simp [ins, q7, q10, q11, q12, q14])), (fun _ h => absurd h (by simp [ins, q7, q10, q11, q12, q14])), (fun _ h => absurd h (by simp [ins, q7, q10, q11, q12, q14])), (fun _ _ => ⟨vz, rz, rfl, hz, o7.kp kA (fun e => by have := hrl0 _ e.symm; omega), K.trans' kA (fun i hi e => by have := hrow.rge _ e.symm; omega)⟩), (fun h => absurd h (by simp [ins, q7, q10, q11, q12, q14])), l5, l11, l12, l13, l7, c4, rv0, rv1, rv2, rv3, rv4, rv5, rv6, rv8, rv9, trivial⟩
   | 14, hio =>
    cases hio
    have q7 : S 7 = true := (hd ⟨7, .phase⟩ (by simp) rfl)
    have q10 : S 10 = true := (hd ⟨10, .phase⟩ (by simp) rfl)
    have q11 : S 11 = true := (hd ⟨11, .phase⟩ (by simp) rfl)
    have q12 : S 12 = true := (hd ⟨12, .phase⟩ (by simp) rfl)
    have q13 : S 13 = true := (hd ⟨13, .data⟩ (by simp) rfl)
    have q14 : S 14 = false := hS
    obtain ⟨vz, rz, e30, hz, o7, K⟩ := st5 q13 q14
    obtain ⟨g, rfl⟩ : ∃ g, f = upd (g) 30 (vz) := ⟨f, upd_keep' (rfl) e30⟩
    refine s_as (v := vz) rfl rfl rfl (w_nil ?_)
    exact ⟨_, rfl, (fun h => absurd h (by simp [ins, q7, q10, q11, q12, q13])), (fun _ h => absurd h (by simp [ins, q7, q10, q11, q12, q13])), (fun _ h => absurd h (by simp [ins, q7, q10, q11, q12, q13])), (fun _ h => absurd h (by simp [ins, q7, q10, q11, q12, q13])), (fun _ h => absurd h (by simp [ins, q7, q10, q11, q12, q13])), (fun _ h => absurd h (by simp [ins, q7, q10, q11, q12, q13])), (fun _ => ⟨vz, rz, rfl, hz, o7, K⟩), l5, l11, l12, l13, l7, (fun h => absurd h (by simp [ins])), rv0, rv1, rv2, rv3, rv4, rv5, rv6, rv8, rv9, trivial⟩
   | k + 15, hio => exact absurd hio (by simp)
  ·intro S f w4 hS hI
   obtain ⟨st0, st1, st2, st3, st4, st5, st6, l5, l11, l12, l13, l7, c4, rv0, rv1, rv2, rv3, rv4, rv5, rv6, rv8, rv9, -⟩ := hI
   obtain ⟨vz, rz, e4, hz, o7, K⟩ := st6 (hS 14 (by decide))
   obtain ⟨g, rfl⟩ : ∃ g, f = upd (upd (upd (upd (upd (upd (g) 5 (.int .i64 sh)) 11 (.slice (some p) l.length capB)) 12 (.int .i64 (l.length : Nat))) 13 (.int .i64 (k : Nat))) 7 (.pointer (some ⟨b7, 0, none⟩))) 4 (vz) := ⟨f, upd_keep' (upd_keep' (upd_keep' (upd_keep' (upd_keep' (upd_keep' (rfl) l5) l11) l12) l13) l7) e4⟩
   clear hS st0 st1 st2 st3 st4 st5 st6 l5 l11 l12 l13 l7 c4 rv0 rv1 rv2 rv3 rv4 rv5 rv6 rv8 rv9
   refine then_n (c_reg (mvI rfl rfl rfl (s_fa fi60_2 rfl rfl rfl (s_ld1 (v := .slice _ _ _) on22 rfl rfl rfl (o7.get 2 rfl) (s_lenL Tryz.underlying22 rfl rfl rfl (s_fa fi60_1 rfl rfl rfl (s_ld1 (v := .slice _ _ _) on22 rfl rfl rfl (o7.get 1 rfl) (s_lenL Tryz.underlying22 rfl rfl rfl (s_sub rfl rfl rfl rfl rfl (w64 (by omega)) ?_)))))))))
   refine s_add rfl rfl rfl rfl rfl (w64 (by omega)) (asI rfl rfl rfl (w_nil (inb_n (then_n (c_reg (s_add rfl rfl rfl rfl rfl (w64 (by omega)) (mvI rfl rfl rfl (w_nil (then_n ?_)))))))))
   exact ⟨l.length - (k + 1), _, by omega, rfl, _, k + 1, sh + l[k].new.length - l[k].old.length, vz, _, rz, rfl, by omega, (upd_keep' (upd_keep' (upd_keep' (upd_keep' (upd_keep' rfl rfl) (iv (by omega))) rfl) rfl) rfl), hz, by simp [hes], by omega, by omega, by rw [hinv, List.drop_eq_getElem_cons hlt]; simp only [inv, List.append_assoc, List.singleton_append], K⟩
 ·intro ht14
  (try simp only [Q1, Q2, Q3, Q4, Q5] at ht14)
  refine wp_exit (then_x (then_x (inb_x (then_n (wp_seq (c_reg (s_mv (v := vo) rfl rfl rfl (s_as (v := vo) rfl rfl rfl (asI rfl rfl rfl ?_)))))))))
  refine w_nil (then_n (wp_ret ?_))
  have hkl : k = l.length := by omega
  subst hkl
  rw [List.drop_length] at hinv
  refine ret2 (t := 2) (u := 3) (v := vo) (v' := .int .i64 0) rfl rfl rfl rfl rfl ⟨_, rfl, ?_, K⟩
  rw [hinv]; simp only [inv, List.append_nil]; exact hrow.redts (by omega)
end
section
theorem c51 (lr D b6 ba bb : Nat) (rec : Loop) (A B : Option Addr) (capA capB : Nat) (la lb : List Fld) (GA GB : Nat → Prop) (w : World)
  (hY : YD rec lr D b6) (hlr : lr < w.heap.size) (hD : D < w.heap.size) (hb6 : b6 < w.heap.size) (hJ : JJ rec lr D b6 (fun _ => False) w [] none)
  (hoA : Own w ba 22 [.slice A la.length capA]) (hoB : Own w bb 22 [.slice B lb.length capB]) (hba : ba ≠ lr ∧ ba ≠ b6) (hbb : bb ≠ lr ∧ bb ≠ b6)
  (hcA : la.length ≤ capA) (hcB : lb.length ≤ capB) (hA : FldsAt GA w A la) (hB : FldsAt GB w B lb) (hGA : ∀ i, GA i → i ≠ lr ∧ i ≠ b6) (hGB : ∀ i, GB i → i ≠ lr ∧ i ≠ b6) (hla : la.length ≤ 60) (hlb : lb.length ≤ 60)
  (hsa : ∀ f ∈ la, f.subs.length ≤ 1000000) (hsb : ∀ f ∈ lb, f.subs.length ≤ 1000000) (hbD : b6 ≠ lr ∧ b6 ≠ D ∧ D ≠ lr) :
  Calls Tryz.prog 51 #[.func (.yield lr) #[] #[], .pointer (some ⟨ba, 0, none⟩), .pointer (some ⟨bb, 0, none⟩)] w fun e w' => ∃ v, e = .returned v ∧ ∃ es r, Chain 0 0 0 la lb es ∧ es.length ≤ 61 ∧ JJ rec lr D b6 (fun i => w.heap.size ≤ i) w' es r ∧ Kp (fun i => i = lr ∨ i = b6) w w' := by
 refine enter (n := 128) Tryz.func51 rfl rfl (by simp) ?_
 refine wp_seq (c_reg (s_ld1 (v := .slice _ _ _) on22 rfl rfl rfl (hoA.get 0 rfl) (s_ld1 (v := .slice _ _ _) on22 rfl rfl rfl (hoB.get 0 rfl) (s_call2 go52 rfl (c52 A B capA capB la lb _ hA hB (by omega) (by omega)) rfl rfl rfl rfl ?_))))
 rintro _ W ⟨v4, rfl, hT0, k52⟩
 replace hJ := hJ.kpN k52
 replace hoA := hoA.kp k52 (fun e => e)
 replace hoB := hoB.kp k52 (fun e => e)
 replace hA := hA.kp k52 (fun _ _ _ e => e)
 replace hB := hB.kp k52 (fun _ _ _ e => e)
 obtain ⟨bo, os, rfl, hT1, hT2, hT3, hT4⟩ := hT0.tabG
 have hsz := k52.size
 have K : Kp (fun i => i = lr ∨ i = b6) W W := Kp.refl _ _
 refine ⟨_, rfl, ?_⟩
 refine s_as (v := .slice (some ⟨bo, 0, none⟩) (la.length + 1) (la.length + 1)) rfl rfl rfl ?_
 refine w_nil (then_n (wp_seq (c_reg (s_alloc z60 rfl rfl ?_))))
 intro b5 w1 eb5 o5 kb5 zb5
 have gb5_K : W.heap.size ≤ b5 := by have := K.size; omega
 replace hJ := hJ.kpN kb5
 replace K := K.transN kb5
 refine w_nil (then_n (wp_seq (c_reg (asI rfl rfl rfl (asI rfl rfl rfl (w_nil (then_n (wp_seq (wp_block ?_)))))))))
 refine c_loop (fun m f w => ∃ g i k es r old ro vo new rn vn i0 k0, m = (la.length - i) + (lb.length - k) ∧ i ≤ la.length ∧ k ≤ lb.length ∧ f = (upd (upd (upd (upd (upd (upd (upd g 0 (.func (.yield lr) #[] #[])) 1 (.pointer (some ⟨ba, 0, none⟩))) 2 (.pointer (some ⟨bb, 0, none⟩))) 4 (.slice (some ⟨bo, 0, none⟩) (la.length + 1) (la.length + 1))) 5 (.pointer (some ⟨b5, 0, none⟩))) 6 (.int .i64 (i : Nat))) 7 (.int .i64 (k : Nat))) ∧ i0 ≤ i ∧ k0 ≤ k ∧ old = (la.drop i0).take (i - i0) ∧ new = (lb.drop k0).take (k - k0) ∧ Chain 1 0 0 (la.take i0) (lb.take k0) es ∧ es.length ≤ i0 ∧ Own w b5 60 [.int .i64 (i0 : Nat), vo, vn] ∧ FRowG (Gx b5 rn r) w (vo) (old) ro ∧ FRowG (Gx b5 ro r) w (vn) (new) rn ∧ JJ rec lr D b6 (Gx b5 ro rn) w es r ∧ Kp (fun i => i = lr ∨ i = b6) W w) ((la.length - 0) + (lb.length - 0)) ⟨_, 0, 0, [], none, [], none, .slice none 0 0, [], none, .slice none 0 0, 0, 0, rfl, by omega, by omega, (upd_keep' (upd_keep' (upd_keep' (upd_keep' (upd_keep' (upd_keep' (upd_keep' rfl rfl) rfl) rfl) rfl) rfl) rfl) rfl), by omega, by omega, by simp, by simp, by simpa using Chain.nil 0 0 [] (by simp), by simp, o5, FRowG.nil _ _, FRowG.nil _ _, hJ.weak (fun _ _ h => h.elim), K⟩ ?_
 clear K o5 hJ
 rintro m _ w0 ⟨g, i, k, es, r, old, ro, vo, new, rn, vn, i0, k0, rfl, hi, hk, rfl, hi0, hk0, hold, hnew, hch, hes, o5, hvo, hvn, hJ, K⟩
 obtain ⟨Ao, co, rfl, hco⟩ := hvo.shape
 obtain ⟨An, cn, rfl, hcn⟩ := hvn.shape
 have hol : old.length = i - i0 := by rw [hold]; exact take_drop_len (by omega)
 have hnl : new.length = k - k0 := by rw [hnew]; exact take_drop_len (by omega)
 refine wp_seq (wp_seq (c_reg (mvI rfl rfl rfl (s_ld1 (v := .slice _ _ _) on22 rfl rfl rfl ((hoA.kp K (fun e => e.elim hba.1 hba.2)).get 0 rfl) (s_lenL Tryz.underlying22 rfl rfl rfl (s_lss rfl rfl rfl rfl rfl rfl (mvB rfl rfl rfl ?_)))))))
 refine w_split (t := 15) rfl ?_ ?_
 ·intro hs15
  (try simp only [Q1, Q2, Q3, Q4, Q5] at hs15)
  refine st_skip rfl (st_skip rfl (st_skip rfl (st_skip rfl (pTB rfl rfl rfl rfl rfl (w_nil (then_n (c_T rfl rfl (wp_skip (then_n ?_)))))))))
  refine wp_block (wp_block (wp_seq ?_))
  have hli : i < la.length := by omega
  rcases Nat.lt_or_ge k lb.length with hlk | hlk
  ·have hlk9 := hlk
   obtain ⟨p, va, hpA, hgp, hp, hva⟩ := hA.2 i _ (List.getElem?_eq_getElem hli)
   subst hpA
   have hp1 := hp
   obtain ⟨q, vb, hqB, hgq, hq, hvb⟩ := hB.2 k _ (List.getElem?_eq_getElem hlk)
   subst hqB
   refine c_draw' (fun S f w => New w0 w ∧ f 0 = .func (.yield lr) #[] #[] ∧ f 1 = .pointer (some ⟨ba, 0, none⟩) ∧ f 2 = .pointer (some ⟨bb, 0, none⟩) ∧ f 4 = .slice (some ⟨bo, 0, none⟩) (la.length + 1) (la.length + 1) ∧ f 5 = .pointer (some ⟨b5, 0, none⟩) ∧ f 6 = .int .i64 (i : Nat) ∧ f 7 = .int .i64 (k : Nat) ∧ (S 0 = true → f 34 = .int .i64 (i : Nat)) ∧ (S 1 = true → f 35 = .slice (some p) la.length capA) ∧ (S 2 = true → f 36 = .int .i64 (la.length : Nat)) ∧ (S 3 = true → f 37 = .bool true) ∧ (S 4 = true → f 38 = .bool true) ∧ (S 5 = true → f 39 = .int .i64 (k : Nat)) ∧ (S 6 = true → f 40 = .slice (some q) lb.length capB) ∧ (S 7 = true → f 41 = .int .i64 (lb.length : Nat)) ∧ (S 8 = true → f 42 = .bool true) ∧ (S 9 = true → f 43 = .bool true) ∧ (S 10 = true → f 44 = .bool true) ∧ (S 11 = true → f 45 = .slice (some p) la.length capA) ∧ (S 12 = true → f 46 = .int .i64 (i : Nat)) ∧ (S 13 = true → f 47 = .pointer (some (p.add (i * 4)))) ∧ (S 14 = true → f 48 = .agg (la[i].cells va).toArray) ∧ (S 15 = true → f 49 = .slice (some q) lb.length capB) ∧ (S 16 = true → f 50 = .int .i64 (k : Nat)) ∧ (S 17 = true → f 51 = .pointer (some (q.add (k * 4)))) ∧ (S 18 = true → f 52 = .agg (lb[k].cells vb).toArray) ∧ (S 19 = true → f 53 = .bool (decide (la[i] = lb[k]))) ∧ (S 20 = true → f 54 = .bool (decide (la[i] = lb[k]))) ∧ (S 21 = true → f 33 = .bool (decide (la[i] = lb[k]))) ∧ True) (by kernel_rfl) ⟨(Kp.refl _ _).drew, rfl, rfl, rfl, rfl, rfl, rfl, rfl, (fun h => by cases h), (fun h => by cases h), (fun h => by cases h), (fun h => by cases h), (fun h => by cases h), (fun h => by cases h), (fun h => by cases h), (fun h => by cases h), (fun h => by cases h), (fun h => by cases h), (fun h => by cases h), (fun h => by cases h), (fun h => by cases h), (fun h => by cases h), (fun h => by cases h), (fun h => by cases h), (fun h => by cases h), (fun h => by cases h), (fun h => by cases h), (fun h => by cases h), (fun h => by cases h), (fun h => by cases h), trivial⟩ ?_ ?_
   ·intro io opx hio S f w hd hI
    obtain ⟨kR, l0, l1, l2, l4, l5, l6, l7, rv0, rv1, rv2, rv3, rv4, rv5, rv6, rv7, rv8, rv9, rv10, rv11, rv12, rv13, rv14, rv15, rv16, rv17, rv18, rv19, rv20, rv21, -⟩ := hI
    match io, hio with
    | 0, hio =>
     cases hio
     obtain ⟨g, rfl⟩ : ∃ g, f = upd (g) 6 (.int .i64 (i : Nat)) := ⟨f, upd_keep' (rfl) l6⟩
     refine mvI rfl rfl rfl (w_nil ?_)
     exact ⟨_, rfl, kR, l0, l1, l2, l4, l5, l6, l7, (fun _ => rfl), rv1, rv2, rv3, rv4, rv5, rv6, rv7, rv8, rv9, rv10, rv11, rv12, rv13, rv14, rv15, rv16, rv17, rv18, rv19, rv20, rv21, trivial⟩
    | 1, hio =>
     cases hio
     obtain ⟨g, rfl⟩ : ∃ g, f = upd (g) 1 (.pointer (some ⟨ba, 0, none⟩)) := ⟨f, upd_keep' (rfl) l1⟩
     refine s_ld1 (v := .slice _ _ _) on22 rfl rfl rfl ((hoA.kp (K.transN kR) (fun e => e.elim hba.1 hba.2)).get 0 rfl) (w_nil ?_)
     exact ⟨_, rfl, kR, l0, l1, l2, l4, l5, l6, l7, rv0, (fun _ => rfl), rv2, rv3, rv4, rv5, rv6, rv7, rv8, rv9, rv10, rv11, rv12, rv13, rv14, rv15, rv16, rv17, rv18, rv19, rv20, rv21, trivial⟩
    | 2, hio =>
     cases hio
     have e35 := rv1 (hd ⟨1, .data⟩ (by simp) rfl)
     obtain ⟨g, rfl⟩ : ∃ g, f = upd (g) 35 (.slice (some p) la.length capA) := ⟨f, upd_keep' (rfl) e35⟩
     refine s_lenL Tryz.underlying22 rfl rfl rfl (w_nil ?_)
     exact ⟨_, rfl, kR, l0, l1, l2, l4, l5, l6, l7, rv0, rv1, (fun _ => rfl), rv3, rv4, rv5, rv6, rv7, rv8, rv9, rv10, rv11, rv12, rv13, rv14, rv15, rv16, rv17, rv18, rv19, rv20, rv21, trivial⟩
    | 3, hio =>
     cases hio
     have e34 := rv0 (hd ⟨0, .data⟩ (by simp) rfl)
     have e36 := rv2 (hd ⟨2, .data⟩ (by simp) rfl)
     obtain ⟨g, rfl⟩ : ∃ g, f = upd (upd (g) 34 (.int .i64 (i : Nat))) 36 (.int .i64 (la.length : Nat)) := ⟨f, upd_keep' (upd_keep' (rfl) e34) e36⟩
     refine s_lss rfl rfl rfl rfl rfl (decide_eq_true (by omega)) (w_nil ?_)
     exact ⟨_, rfl, kR, l0, l1, l2, l4, l5, l6, l7, rv0, rv1, rv2, (fun _ => rfl), rv4, rv5, rv6, rv7, rv8, rv9, rv10, rv11, rv12, rv13, rv14, rv15, rv16, rv17, rv18, rv19, rv20, rv21, trivial⟩
    | 4, hio =>
     cases hio
     have e37 := rv3 (hd ⟨3, .data⟩ (by simp) rfl)
     obtain ⟨g, rfl⟩ : ∃ g, f = upd (g) 37 (.bool true) := ⟨f, upd_keep' (rfl) e37⟩
     refine mvB rfl rfl rfl (w_nil ?_)
     exact ⟨_, rfl, kR, l0, l1, l2, l4, l5, l6, l7, rv0, rv1, rv2, rv3, (fun _ => rfl), rv5, rv6, rv7, rv8, rv9, rv10, rv11, rv12, rv13, rv14, rv15, rv16, rv17, rv18, rv19, rv20, rv21, trivial⟩
    | 5, hio =>
     cases hio
     have e38 := rv4 (hd ⟨4, .guard⟩ (by simp) rfl)
     obtain ⟨g, rfl⟩ : ∃ g, f = upd (upd (g) 7 (.int .i64 (k : Nat))) 38 (.bool true) := ⟨f, upd_keep' (upd_keep' (rfl) l7) e38⟩
     refine mvI rfl rfl rfl (w_nil ?_)
     exact ⟨_, rfl, kR, l0, l1, l2, l4, l5, l6, l7, rv0, rv1, rv2, rv3, rv4, (fun _ => rfl), rv6, rv7, rv8, rv9, rv10, rv11, rv12, rv13, rv14, rv15, rv16, rv17, rv18, rv19, rv20, rv21, trivial⟩
    | 6, hio =>
     cases hio
     have e38 := rv4 (hd ⟨4, .guard⟩ (by simp) rfl)
     obtain ⟨g, rfl⟩ : ∃ g, f = upd (upd (g) 2 (.pointer (some ⟨bb, 0, none⟩))) 38 (.bool true) := ⟨f, upd_keep' (upd_keep' (rfl) l2) e38⟩
     refine s_ld1 (v := .slice _ _ _) on22 rfl rfl rfl ((hoB.kp (K.transN kR) (fun e => e.elim hbb.1 hbb.2)).get 0 rfl) (w_nil ?_)
     exact ⟨_, rfl, kR, l0, l1, l2, l4, l5, l6, l7, rv0, rv1, rv2, rv3, rv4, rv5, (fun _ => rfl), rv7, rv8, rv9, rv10, rv11, rv12, rv13, rv14, rv15, rv16, rv17, rv18, rv19, rv20, rv21, trivial⟩
    | 7, hio =>
     cases hio
     have e40 := rv6 (hd ⟨6, .data⟩ (by simp) rfl)
     have e38 := rv4 (hd ⟨4, .guard⟩ (by simp) rfl)
     obtain ⟨g, rfl⟩ : ∃ g, f = upd (upd (g) 40 (.slice (some q) lb.length capB)) 38 (.bool true) := ⟨f, upd_keep' (upd_keep' (rfl) e40) e38⟩
     refine s_lenL Tryz.underlying22 rfl rfl rfl (w_nil ?_)
     exact ⟨_, rfl, kR, l0, l1, l2, l4, l5, l6, l7, rv0, rv1, rv2, rv3, rv4, rv5, rv6, (fun _ => rfl), rv8, rv9, rv10, rv11, rv12, rv13, rv14, rv15, rv16, rv17, rv18, rv19, rv20, rv21, trivial⟩
    | 8, hio =>
     cases hio
     have e39 := rv5 (hd ⟨5, .data⟩ (by simp) rfl)
     have e41 := rv7 (hd ⟨7, .data⟩ (by simp) rfl)
     have e38 := rv4 (hd ⟨4, .guard⟩ (by simp) rfl)
     obtain ⟨g, rfl⟩ : ∃ g, f = upd (upd (upd (g) 39 (.int .i64 (k : Nat))) 41 (.int .i64 (lb.length : Nat))) 38 (.bool true) := ⟨f, upd_keep' (upd_keep' (upd_keep' (rfl) e39) e41) e38⟩
     refine s_lss rfl rfl rfl rfl rfl (decide_eq_true (by omega)) (w_nil ?_)
     exact ⟨_, rfl, kR, l0, l1, l2, l4, l5, l6, l7, rv0, rv1, rv2, rv3, rv4, rv5, rv6, rv7, (fun _ => rfl), rv9, rv10, rv11, rv12, rv13, rv14, rv15, rv16, rv17, rv18, rv19, rv20, rv21, trivial⟩
    | 9, hio =>
     cases hio
     have e38 := rv4 (hd ⟨4, .data⟩ (by simp) rfl)
     have e42 := rv8 (hd ⟨8, .data⟩ (by simp) rfl)
     obtain ⟨g, rfl⟩ : ∃ g, f = upd (upd (g) 38 (.bool true)) 42 (.bool true) := ⟨f, upd_keep' (upd_keep' (rfl) e38) e42⟩
     refine pTB rfl rfl rfl rfl rfl (w_nil ?_)
     exact ⟨_, rfl, kR, l0, l1, l2, l4, l5, l6, l7, rv0, rv1, rv2, rv3, rv4, rv5, rv6, rv7, rv8, (fun _ => rfl), rv10, rv11, rv12, rv13, rv14, rv15, rv16, rv17, rv18, rv19, rv20, rv21, trivial⟩
    | 10, hio =>
     cases hio
     have e43 := rv9 (hd ⟨9, .data⟩ (by simp) rfl)
     obtain ⟨g, rfl⟩ : ∃ g, f = upd (g) 43 (.bool true) := ⟨f, upd_keep' (rfl) e43⟩
     refine mvB rfl rfl rfl (w_nil ?_)
     exact ⟨_, rfl, kR, l0, l1, l2, l4, l5, l6, l7, rv0, rv1, rv2, rv3, rv4, rv5, rv6, rv7, rv8, rv9, (fun _ => rfl), rv11, rv12, rv13, rv14, rv15, rv16, rv17, rv18, rv19, rv20, rv21, trivial⟩
    | 11, hio =>
     cases hio
     have e44 := rv10 (hd ⟨10, .guard⟩ (by simp) rfl)
     obtain ⟨g, rfl⟩ : ∃ g, f = upd (upd (g) 1 (.pointer (some ⟨ba, 0, none⟩))) 44 (.bool true) := ⟨f, upd_keep' (upd_keep' (rfl) l1) e44⟩
     refine s_ld1 (v := .slice _ _ _) on22 rfl rfl rfl ((hoA.kp (K.transN kR) (fun e => e.elim hba.1 hba.2)).get 0 rfl) (w_nil ?_)
     exact ⟨_, rfl, kR, l0, l1, l2, l4, l5, l6, l7, rv0, rv1, rv2, rv3, rv4, rv5, rv6, rv7, rv8, rv9, rv10, (fun _ => rfl), rv12, rv13, rv14, rv15, rv16, rv17, rv18, rv19, rv20, rv21, trivial⟩
    | 12, hio =>
     cases hio
     have e44 := rv10 (hd ⟨10, .guard⟩ (by simp) rfl)
     obtain ⟨g, rfl⟩ : ∃ g, f = upd (upd (g) 6 (.int .i64 (i : Nat))) 44 (.bool true) := ⟨f, upd_keep' (upd_keep' (rfl) l6) e44⟩
     refine mvI rfl rfl rfl (w_nil ?_)
     exact ⟨_, rfl, kR, l0, l1, l2, l4, l5, l6, l7, rv0, rv1, rv2, rv3, rv4, rv5, rv6, rv7, rv8, rv9, rv10, rv11, (fun _ => rfl), rv13, rv14, rv15, rv16, rv17, rv18, rv19, rv20, rv21, trivial⟩
    | 13, hio =>
     cases hio
     have e45 := rv11 (hd ⟨11, .data⟩ (by simp) rfl)
     have e46 := rv12 (hd ⟨12, .data⟩ (by simp) rfl)
     have e44 := rv10 (hd ⟨10, .guard⟩ (by simp) rfl)
     obtain ⟨g, rfl⟩ : ∃ g, f = upd (upd (upd (g) 45 (.slice (some p) la.length capA)) 46 (.int .i64 (i : Nat))) 44 (.bool true) := ⟨f, upd_keep' (upd_keep' (upd_keep' (rfl) e45) e46) e44⟩
     refine s_iaE el22 rfl rfl rfl rfl rfl rfl (by omega) (w_nil ?_)
     exact ⟨_, rfl, kR, l0, l1, l2, l4, l5, l6, l7, rv0, rv1, rv2, rv3, rv4, rv5, rv6, rv7, rv8, rv9, rv10, rv11, rv12, (fun _ => rfl), rv14, rv15, rv16, rv17, rv18, rv19, rv20, rv21, trivial⟩
    | 14, hio =>
     cases hio
     have e47 := rv13 (hd ⟨13, .data⟩ (by simp) rfl)
     have e44 := rv10 (hd ⟨10, .guard⟩ (by simp) rfl)
     obtain ⟨g, rfl⟩ : ∃ g, f = upd (upd (g) 47 (.pointer (some (p.add (i * 4))))) 44 (.bool true) := ⟨f, upd_keep' (upd_keep' (rfl) e47) e44⟩
     refine s_ldA ag53 rfl rfl rfl (hp.kp (K.transN kR) (fun (e : (p.add (i * 4)).block = lr ∨ (p.add (i * 4)).block = b6) => by rw [add_block] at e; exact e.elim (hGA _ hgp).1 (hGA _ hgp).2)) rfl (w_nil ?_)
     exact ⟨_, rfl, kR, l0, l1, l2, l4, l5, l6, l7, rv0, rv1, rv2, rv3, rv4, rv5, rv6, rv7, rv8, rv9, rv10, rv11, rv12, rv13, (fun _ => rfl), rv15, rv16, rv17, rv18, rv19, rv20, rv21, trivial⟩
    | 15, hio =>
     cases hio
     have e44 := rv10 (hd ⟨10, .guard⟩ (by simp) rfl)
     obtain ⟨g, rfl⟩ : ∃ g, f = upd (upd (g) 2 (.pointer (some ⟨bb, 0, none⟩))) 44 (.bool true) := ⟨f, upd_keep' (upd_keep' (rfl) l2) e44⟩
     refine s_ld1 (v := .slice _ _ _) on22 rfl rfl rfl ((hoB.kp (K.transN kR) (fun e => e.elim hbb.1 hbb.2)).get 0 rfl) (w_nil ?_)
     exact ⟨_, rfl, kR, l0, l1, l2, l4, l5, l6, l7, rv0, rv1, rv2, rv3, rv4, rv5, rv6, rv7, rv8, rv9, rv10, rv11, rv12, rv13, rv14, (fun _ => rfl), rv16, rv17, rv18, rv19, rv20, rv21, trivial⟩
    | 16, hio =>
     cases hio
     have e44 := rv10 (hd ⟨10, .guard⟩ (by simp) rfl)
     obtain ⟨g, rfl⟩ : ∃ g, f = upd (upd (g) 7 (.int .i64 (k : Nat))) 44 (.bool true) := ⟨f, upd_keep' (upd_keep' (rfl) l7) e44⟩
     refine mvI rfl rfl rfl (w_nil ?_)
     exact ⟨_, rfl, kR, l0, l1, l2, l4, l5, l6, l7, rv0, rv1, rv2, rv3, rv4, rv5, rv6, rv7, rv8, rv9, rv10, rv11, rv12, rv13, rv14, rv15, (fun _ => rfl), rv17, rv18, rv19, rv20, rv21, trivial⟩
    | 17, hio =>
     cases hio
     have e49 := rv15 (hd ⟨15, .data⟩ (by simp) rfl)
     have e50 := rv16 (hd ⟨16, .data⟩ (by simp) rfl)
     have e44 := rv10 (hd ⟨10, .guard⟩ (by simp) rfl)
     obtain ⟨g, rfl⟩ : ∃ g, f = upd (upd (upd (g) 49 (.slice (some q) lb.length capB)) 50 (.int .i64 (k : Nat))) 44 (.bool true) := ⟨f, upd_keep' (upd_keep' (upd_keep' (rfl) e49) e50) e44⟩
     refine s_iaE el22 rfl rfl rfl rfl rfl rfl (by omega) (w_nil ?_)
     exact ⟨_, rfl, kR, l0, l1, l2, l4, l5, l6, l7, rv0, rv1, rv2, rv3, rv4, rv5, rv6, rv7, rv8, rv9, rv10, rv11, rv12, rv13, rv14, rv15, rv16, (fun _ => rfl), rv18, rv19, rv20, rv21, trivial⟩
    | 18, hio =>
     cases hio
     have e51 := rv17 (hd ⟨17, .data⟩ (by simp) rfl)
     have e44 := rv10 (hd ⟨10, .guard⟩ (by simp) rfl)
     obtain ⟨g, rfl⟩ : ∃ g, f = upd (upd (g) 51 (.pointer (some (q.add (k * 4))))) 44 (.bool true) := ⟨f, upd_keep' (upd_keep' (rfl) e51) e44⟩
     refine s_ldA ag53 rfl rfl rfl (hq.kp (K.transN kR) (fun (e : (q.add (k * 4)).block = lr ∨ (q.add (k * 4)).block = b6) => by rw [add_block] at e; exact e.elim (hGB _ hgq).1 (hGB _ hgq).2)) rfl (w_nil ?_)
     exact ⟨_, rfl, kR, l0, l1, l2, l4, l5, l6, l7, rv0, rv1, rv2, rv3, rv4, rv5, rv6, rv7, rv8, rv9, rv10, rv11, rv12, rv13, rv14, rv15, rv16, rv17, (fun _ => rfl), rv19, rv20, rv21, trivial⟩
    | 19, hio =>
     cases hio
     have e48 := rv14 (hd ⟨14, .data⟩ (by simp) rfl)
     have e52 := rv18 (hd ⟨18, .data⟩ (by simp) rfl)
     have e44 := rv10 (hd ⟨10, .chain⟩ (by simp) rfl)
     obtain ⟨g, rfl⟩ : ∃ g, f = upd (upd (upd (g) 48 (.agg (la[i].cells va).toArray)) 52 (.agg (lb[k].cells vb).toArray)) 44 (.bool true) := ⟨f, upd_keep' (upd_keep' (upd_keep' (rfl) e48) e52) e44⟩
     refine s_call2 go53 rfl (c53 la[i] lb[k] va vb _ (hva.kp (K.transN kR) (fun j _ hg e => e.elim (hGA j hg).1 (hGA j hg).2)) (hvb.kp (K.transN kR) (fun j _ hg e => e.elim (hGB j hg).1 (hGB j hg).2))) rfl rfl rfl rfl ?_
     rintro _ w2 ⟨rfl, kw2⟩
     replace kR := kR.transN kw2
     refine ⟨_, rfl, ?_⟩
     refine w_nil ?_
     exact ⟨_, rfl, kR, l0, l1, l2, l4, l5, l6, l7, rv0, rv1, rv2, rv3, rv4, rv5, rv6, rv7, rv8, rv9, rv10, rv11, rv12, rv13, rv14, rv15, rv16, rv17, rv18, (fun _ => rfl), rv20, rv21, trivial⟩
    | 20, hio =>
     cases hio
     have e44 := rv10 (hd ⟨10, .data⟩ (by simp) rfl)
     have e53 := rv19 (hd ⟨19, .data⟩ (by simp) rfl)
     obtain ⟨g, rfl⟩ : ∃ g, f = upd (upd (g) 44 (.bool true)) 53 (.bool (decide (la[i] = lb[k]))) := ⟨f, upd_keep' (upd_keep' (rfl) e44) e53⟩
     refine pTB rfl rfl rfl rfl rfl (w_nil ?_)
     exact ⟨_, rfl, kR, l0, l1, l2, l4, l5, l6, l7, rv0, rv1, rv2, rv3, rv4, rv5, rv6, rv7, rv8, rv9, rv10, rv11, rv12, rv13, rv14, rv15, rv16, rv17, rv18, rv19, (fun _ => rfl), rv21, trivial⟩
    | 21, hio =>
     cases hio
     have e54 := rv20 (hd ⟨20, .data⟩ (by simp) rfl)
     obtain ⟨g, rfl⟩ : ∃ g, f = upd (g) 54 (.bool (decide (la[i] = lb[k]))) := ⟨f, upd_keep' (rfl) e54⟩
     refine asB rfl rfl rfl (w_nil ?_)
     exact ⟨_, rfl, kR, l0, l1, l2, l4, l5, l6, l7, rv0, rv1, rv2, rv3, rv4, rv5, rv6, rv7, rv8, rv9, rv10, rv11, rv12, rv13, rv14, rv15, rv16, rv17, rv18, rv19, rv20, (fun _ => rfl), trivial⟩
    | k + 22, hio => exact absurd hio (by simp)
   ·intro S f w2 hS hI
    obtain ⟨kR, l0, l1, l2, l4, l5, l6, l7, rv0, rv1, rv2, rv3, rv4, rv5, rv6, rv7, rv8, rv9, rv10, rv11, rv12, rv13, rv14, rv15, rv16, rv17, rv18, rv19, rv20, rv21, -⟩ := hI
    obtain ⟨g, rfl⟩ : ∃ g, f = upd (upd (upd (upd (upd (upd (upd (upd (g) 0 (.func (.yield lr) #[] #[])) 1 (.pointer (some ⟨ba, 0, none⟩))) 2 (.pointer (some ⟨bb, 0, none⟩))) 4 (.slice (some ⟨bo, 0, none⟩) (la.length + 1) (la.length + 1))) 5 (.pointer (some ⟨b5, 0, none⟩))) 6 (.int .i64 (i : Nat))) 7 (.int .i64 (k : Nat))) 33 (.bool (decide (la[i] = lb[k]))) := ⟨f, upd_keep' (upd_keep' (upd_keep' (upd_keep' (upd_keep' (upd_keep' (upd_keep' (upd_keep' (rfl) l0) l1) l2) l4) l5) l6) l7) (rv21 (hS 21 (by decide)))⟩
    clear hS l0 l1 l2 l4 l5 l6 l7 rv0 rv1 rv2 rv3 rv4 rv5 rv6 rv7 rv8 rv9 rv10 rv11 rv12 rv13 rv14 rv15 rv16 rv17 rv18 rv19 rv20 rv21
    replace o5 := o5.kp kR (fun e => e)
    replace hvo := hvo.kp kR (fun _ _ _ e => e)
    replace hvn := hvn.kp kR (fun _ _ _ e => e)
    replace hJ := hJ.kpN kR
    replace K := K.transN kR
    refine then_n ?_
    refine c_if rfl rfl ?_ ?_
    ·intro ht33
     (try simp only [Q1, Q2, Q3, Q4, Q5] at ht33)
     refine wp_seq (wp_seq (c_regF (s_fa fi60_1 rfl rfl rfl (s_ld1 (v := .slice Ao old.length co) on22 rfl rfl rfl (o5.get 1 rfl) (s_lenL Tryz.underlying22 rfl rfl rfl (s_fa fi60_2 rfl rfl rfl (s_ld1 (v := .slice An new.length cn) on22 rfl rfl rfl (o5.get 2 rfl) (s_lenL Tryz.underlying22 rfl rfl rfl (s_add rfl rfl rfl rfl rfl (w64 (by omega)) ?_)))))))))
     refine s_gtr rfl rfl rfl rfl rfl rfl (mvB rfl rfl rfl ?_)
     refine w_split (t := 63) rfl ?_ ?_
     ·intro hs63
      (try simp only [Q1, Q2, Q3, Q4, Q5] at hs63)
      refine s_mv (v := _) rfl rfl rfl (s_ldA ag60 rfl rfl rfl o5.cells rfl ?_)
      refine s_yield rfl rfl rfl rfl rfl (hY (b5 + 1) _ es r ⟨(i0 : Nat), old, new⟩ (.slice Ao old.length co) (.slice An new.length cn) (by omega) (by omega) (by omega) (by have := o5.lt; omega) (hJ.weak (fun j _ hg => hg.1)) (by omega) ((hvo.rflds (by omega)).weak (fun j hg => ⟨hg.1, hg.2.2⟩)) ((hvn.rflds (by omega)).weak (fun j hg => ⟨hg.1, hg.2.2⟩))) ?_
      rintro _ wY ⟨rfl, r2, hJ2, kY, hr2⟩
      replace o5 := o5.kp kY (fun e => by rcases e with e | e | e; omega; omega; exact absurd (hJ.rge b5 e.symm).1 (Nat.lt_irrefl _))
      replace K := K.trans' kY (fun j hj e => by rcases e with e | e | e; exact .inl e; exact .inr e; (have := (hJ.rge j e.symm).1; omega))
      clear hvo hvn hJ
      refine ⟨_, rfl, ?_⟩
      refine s_not rfl rfl rfl (pTB rfl rfl rfl rfl rfl (w_nil (then_n (c_F rfl rfl (wp_skip (then_n (wp_seq (c_reg (mvI rfl rfl rfl ?_)))))))))
      refine s_add rfl rfl rfl rfl rfl (w64 (by omega)) (mvI rfl rfl rfl (s_add rfl rfl rfl rfl rfl (w64 (by omega)) (asI rfl rfl rfl (asI rfl rfl rfl (w_nil (then_n (c_reg (mvI rfl rfl rfl (s_bd1 (cells := #[_, _, _]) bd60 rfl rfl rfl rfl ?_)))))))))
      refine s_st 0 sz60 (v := .agg _) rfl rfl rfl rfl rfl rfl rfl o5 rfl rfl rfl ?_
      clear o5; intro wS o5 ks zs
      replace hJ2 := hJ2.kp ks (fun (e : lr = b5) => by omega) (fun (e : D = b5) => by omega) (fun (e : b6 = b5) => by omega) (fun j _ hg (e : j = b5) => by have : b5 + 1 ≤ j := hg; omega)
      replace K := K.trans' ks (fun j hj (e : j = b5) => by omega)
      refine w_nil (inb_n (inb_n (then_n ?_)))
      have heq : la[i] = lb[k] := by simpa using ht33
      exact ⟨_, _, by omega, rfl, _, i + 1, k + 1, es ++ [⟨(i0 : Nat), old, new⟩], r2, [], none, .slice none 0 0, [], none, .slice none 0 0, i + 1, k + 1, rfl, by omega, by omega, (upd_keep' (upd_keep' (upd_keep' (upd_keep' (upd_keep' (upd_keep' (upd_keep' rfl rfl) rfl) rfl) rfl) rfl) rfl) rfl), by omega, by omega, by simp, by simp, ch_yield hch hold hnew hi0 hk0 hli hlk heq (by omega), by rw [List.length_append, List.length_singleton]; omega, o5, FRowG.nil _ _, FRowG.nil _ _, hJ2.weak (fun j _ hg => ⟨hg, by simp, by simp⟩), K⟩
     ·intro hs63
      (try simp only [Q1, Q2, Q3, Q4, Q5] at hs63)
      refine st_skip rfl (st_skip rfl (st_skip rfl (st_skip rfl (pFB rfl rfl rfl rfl rfl (w_nil (then_n (c_F rfl rfl (wp_skip (then_n ?_)))))))))
      refine wp_seq (c_reg (mvI rfl rfl rfl (s_add rfl rfl rfl rfl rfl (w64 (by omega)) (mvI rfl rfl rfl (s_add rfl rfl rfl rfl rfl (w64 (by omega)) (asI rfl rfl rfl (asI rfl rfl rfl (w_nil (then_n ?_)))))))))
      refine c_reg (mvI rfl rfl rfl (s_bd1 (cells := #[_, _, _]) bd60 rfl rfl rfl rfl (s_st 0 sz60 (v := .agg _) rfl rfl rfl rfl rfl rfl rfl o5 rfl rfl rfl ?_)))
      clear o5; intro wS o5 ks zs
      replace hJ := hJ.kp ks (fun (e : lr = b5) => by omega) (fun (e : D = b5) => by omega) (fun (e : b6 = b5) => by omega) (fun j _ hg (e : j = b5) => by have := hg.1; omega)
      replace K := K.trans' ks (fun j hj (e : j = b5) => by omega)
      refine w_nil (inb_n (inb_n (then_n ?_)))
      have heq : la[i] = lb[k] := by simpa using ht33
      exact ⟨_, _, by omega, rfl, _, i + 1, k + 1, es, r, [], none, .slice none 0 0, [], none, .slice none 0 0, i + 1, k + 1, rfl, by omega, by omega, (upd_keep' (upd_keep' (upd_keep' (upd_keep' (upd_keep' (upd_keep' (upd_keep' rfl rfl) rfl) rfl) rfl) rfl) rfl) rfl), by omega, by omega, by simp, by simp, ch_skip hch (by omega) (by omega) hli hlk heq, by omega, o5, FRowG.nil _ _, FRowG.nil _ _, hJ.weak (fun j _ hg => ⟨hg.1, by simp, by simp⟩), K⟩
    ·intro ht33
     (try simp only [Q1, Q2, Q3, Q4, Q5] at ht33)
     refine wp_seq ?_
     obtain ⟨rz1, x1, hy1, hy2, hy3, hy4, hy5, hy6⟩ := hT4 (i + 1) (by omega)
     obtain ⟨rz2, x2, hz1, hz2, hz3, hz4, hz5, hz6⟩ := hT4 i (by omega)
     refine c_draw' (fun S f w => New w2 w ∧ f 0 = .func (.yield lr) #[] #[] ∧ f 1 = .pointer (some ⟨ba, 0, none⟩) ∧ f 2 = .pointer (some ⟨bb, 0, none⟩) ∧ f 4 = .slice (some ⟨bo, 0, none⟩) (la.length + 1) (la.length + 1) ∧ f 5 = .pointer (some ⟨b5, 0, none⟩) ∧ f 6 = .int .i64 (i : Nat) ∧ f 7 = .int .i64 (k : Nat) ∧ (S 0 = true → f 76 = .int .i64 (i : Nat)) ∧ (S 1 = true → f 77 = .slice (some p) la.length capA) ∧ (S 2 = true → f 78 = .int .i64 (la.length : Nat)) ∧ (S 3 = true → f 79 = .bool true) ∧ (S 4 = true → f 80 = .bool true) ∧ (S 5 = true → f 81 = .int .i64 (k : Nat)) ∧ (S 6 = true → f 82 = .slice (some q) lb.length capB) ∧ (S 7 = true → f 83 = .int .i64 (lb.length : Nat)) ∧ (S 8 = true → f 84 = .bool false) ∧ (S 9 = true → f 85 = .bool false) ∧ (S 10 = true → f 86 = .slice (some ⟨bo, 0, none⟩) (la.length + 1) (la.length + 1)) ∧ (S 11 = true → f 87 = .int .i64 (i : Nat)) ∧ (S 12 = true → f 88 = .int .i64 ((i : Nat) + 1 : Int)) ∧ (S 13 = true → f 89 = .pointer (some (Addr.add ⟨bo, 0, none⟩ ((i + 1) * 1)))) ∧ (S 14 = true → f 90 = .slice (some ⟨rz1, 0, none⟩) (lb.length + 1) (lb.length + 1)) ∧ (S 15 = true → f 91 = .int .i64 (k : Nat)) ∧ (S 16 = true → f 92 = .pointer (some (Addr.add ⟨rz1, 0, none⟩ (k * 1)))) ∧ (S 17 = true → f 93 = .int .i64 x1[k]) ∧ (S 18 = true → f 94 = .slice (some ⟨bo, 0, none⟩) (la.length + 1) (la.length + 1)) ∧ (S 19 = true → f 95 = .int .i64 (i : Nat)) ∧ (S 20 = true → f 96 = .pointer (some (Addr.add ⟨bo, 0, none⟩ (i * 1)))) ∧ (S 21 = true → f 97 = .slice (some ⟨rz2, 0, none⟩) (lb.length + 1) (lb.length + 1)) ∧ (S 22 = true → f 98 = .int .i64 (k : Nat)) ∧ (S 23 = true → f 99 = .int .i64 ((k : Nat) + 1 : Int)) ∧ (S 24 = true → f 100 = .pointer (some (Addr.add ⟨rz2, 0, none⟩ ((k + 1) * 1)))) ∧ (S 25 = true → f 101 = .int .i64 x2[k + 1]) ∧ (S 26 = true → f 102 = .bool (decide (x2[k + 1] ≤ x1[k]))) ∧ (S 27 = true → f 103 = .bool (decide (x2[k + 1] ≤ x1[k]))) ∧ (S 28 = true → f 104 = .bool (decide (x2[k + 1] ≤ x1[k]))) ∧ (S 29 = true → f 75 = .bool (decide (x2[k + 1] ≤ x1[k]))) ∧ True) (by kernel_rfl) ⟨(Kp.refl _ _).drew, rfl, rfl, rfl, rfl, rfl, rfl, rfl, (fun h => by cases h), (fun h => by cases h), (fun h => by cases h), (fun h => by cases h), (fun h => by cases h), (fun h => by cases h), (fun h => by cases h), (fun h => by cases h), (fun h => by cases h), (fun h => by cases h), (fun h => by cases h), (fun h => by cases h), (fun h => by cases h), (fun h => by cases h), (fun h => by cases h), (fun h => by cases h), (fun h => by cases h), (fun h => by cases h), (fun h => by cases h), (fun h => by cases h), (fun h => by cases h), (fun h => by cases h), (fun h => by cases h), (fun h => by cases h), (fun h => by cases h), (fun h => by cases h), (fun h => by cases h), (fun h => by cases h), (fun h => by cases h), (fun h => by cases h), trivial⟩ ?_ ?_
     ·intro io opx hio S f w hd hI
      obtain ⟨kR, l0, l1, l2, l4, l5, l6, l7, rv0, rv1, rv2, rv3, rv4, rv5, rv6, rv7, rv8, rv9, rv10, rv11, rv12, rv13, rv14, rv15, rv16, rv17, rv18, rv19, rv20, rv21, rv22, rv23, rv24, rv25, rv26, rv27, rv28, rv29, -⟩ := hI
      match io, hio with
      | 0, hio =>
       cases hio
       obtain ⟨g, rfl⟩ : ∃ g, f = upd (g) 6 (.int .i64 (i : Nat)) := ⟨f, upd_keep' (rfl) l6⟩
       refine mvI rfl rfl rfl (w_nil ?_)
       exact ⟨_, rfl, kR, l0, l1, l2, l4, l5, l6, l7, (fun _ => rfl), rv1, rv2, rv3, rv4, rv5, rv6, rv7, rv8, rv9, rv10, rv11, rv12, rv13, rv14, rv15, rv16, rv17, rv18, rv19, rv20, rv21, rv22, rv23, rv24, rv25, rv26, rv27, rv28, rv29, trivial⟩
      | 1, hio =>
       cases hio
       obtain ⟨g, rfl⟩ : ∃ g, f = upd (g) 1 (.pointer (some ⟨ba, 0, none⟩)) := ⟨f, upd_keep' (rfl) l1⟩
       refine s_ld1 (v := .slice _ _ _) on22 rfl rfl rfl ((hoA.kp (K.transN kR) (fun e => e.elim hba.1 hba.2)).get 0 rfl) (w_nil ?_)
       exact ⟨_, rfl, kR, l0, l1, l2, l4, l5, l6, l7, rv0, (fun _ => rfl), rv2, rv3, rv4, rv5, rv6, rv7, rv8, rv9, rv10, rv11, rv12, rv13, rv14, rv15, rv16, rv17, rv18, rv19, rv20, rv21, rv22, rv23, rv24, rv25, rv26, rv27, rv28, rv29, trivial⟩
      | 2, hio =>
       cases hio
       have e77 := rv1 (hd ⟨1, .data⟩ (by simp) rfl)
       obtain ⟨g, rfl⟩ : ∃ g, f = upd (g) 77 (.slice (some p) la.length capA) := ⟨f, upd_keep' (rfl) e77⟩
       refine s_lenL Tryz.underlying22 rfl rfl rfl (w_nil ?_)
       exact ⟨_, rfl, kR, l0, l1, l2, l4, l5, l6, l7, rv0, rv1, (fun _ => rfl), rv3, rv4, rv5, rv6, rv7, rv8, rv9, rv10, rv11, rv12, rv13, rv14, rv15, rv16, rv17, rv18, rv19, rv20, rv21, rv22, rv23, rv24, rv25, rv26, rv27, rv28, rv29, trivial⟩
      | 3, hio =>
       cases hio
       have e76 := rv0 (hd ⟨0, .data⟩ (by simp) rfl)
       have e78 := rv2 (hd ⟨2, .data⟩ (by simp) rfl)
       obtain ⟨g, rfl⟩ : ∃ g, f = upd (upd (g) 76 (.int .i64 (i : Nat))) 78 (.int .i64 (la.length : Nat)) := ⟨f, upd_keep' (upd_keep' (rfl) e76) e78⟩
       refine s_lss rfl rfl rfl rfl rfl (decide_eq_true (by omega)) (w_nil ?_)
       exact ⟨_, rfl, kR, l0, l1, l2, l4, l5, l6, l7, rv0, rv1, rv2, (fun _ => rfl), rv4, rv5, rv6, rv7, rv8, rv9, rv10, rv11, rv12, rv13, rv14, rv15, rv16, rv17, rv18, rv19, rv20, rv21, rv22, rv23, rv24, rv25, rv26, rv27, rv28, rv29, trivial⟩
      | 4, hio =>
       cases hio
       have e79 := rv3 (hd ⟨3, .data⟩ (by simp) rfl)
       obtain ⟨g, rfl⟩ : ∃ g, f = upd (g) 79 (.bool true) := ⟨f, upd_keep' (rfl) e79⟩
       refine mvB rfl rfl rfl (w_nil ?_)
       exact ⟨_, rfl, kR, l0, l1, l2, l4, l5, l6, l7, rv0, rv1, rv2, rv3, (fun _ => rfl), rv5, rv6, rv7, rv8, rv9, rv10, rv11, rv12, rv13, rv14, rv15, rv16, rv17, rv18, rv19, rv20, rv21, rv22, rv23, rv24, rv25, rv26, rv27, rv28, rv29, trivial⟩
      | 5, hio =>
       cases hio
       have e80 := rv4 (hd ⟨4, .guard⟩ (by simp) rfl)
       obtain ⟨g, rfl⟩ : ∃ g, f = upd (upd (g) 7 (.int .i64 (k : Nat))) 80 (.bool true) := ⟨f, upd_keep' (upd_keep' (rfl) l7) e80⟩
       refine mvI rfl rfl rfl (w_nil ?_)
       exact ⟨_, rfl, kR, l0, l1, l2, l4, l5, l6, l7, rv0, rv1, rv2, rv3, rv4, (fun _ => rfl), rv6, rv7, rv8, rv9, rv10, rv11, rv12, rv13, rv14, rv15, rv16, rv17, rv18, rv19, rv20, rv21, rv22, rv23, rv24, rv25, rv26, rv27, rv28, rv29, trivial⟩
      | 6, hio =>
       cases hio
       have e80 := rv4 (hd ⟨4, .guard⟩ (by simp) rfl)
       obtain ⟨g, rfl⟩ : ∃ g, f = upd (upd (g) 2 (.pointer (some ⟨bb, 0, none⟩))) 80 (.bool true) := ⟨f, upd_keep' (upd_keep' (rfl) l2) e80⟩
       refine s_ld1 (v := .slice _ _ _) on22 rfl rfl rfl ((hoB.kp (K.transN kR) (fun e => e.elim hbb.1 hbb.2)).get 0 rfl) (w_nil ?_)
       exact ⟨_, rfl, kR, l0, l1, l2, l4, l5, l6, l7, rv0, rv1, rv2, rv3, rv4, rv5, (fun _ => rfl), rv7, rv8, rv9, rv10, rv11, rv12, rv13, rv14, rv15, rv16, rv17, rv18, rv19, rv20, rv21, rv22, rv23, rv24, rv25, rv26, rv27, rv28, rv29, trivial⟩
      | 7, hio =>
       cases hio
       have e82 := rv6 (hd ⟨6, .data⟩ (by simp) rfl)
       have e80 := rv4 (hd ⟨4, .guard⟩ (by simp) rfl)
       obtain ⟨g, rfl⟩ : ∃ g, f = upd (upd (g) 82 (.slice (some q) lb.length capB)) 80 (.bool true) := ⟨f, upd_keep' (upd_keep' (rfl) e82) e80⟩
       refine s_lenL Tryz.underlying22 rfl rfl rfl (w_nil ?_)
       exact ⟨_, rfl, kR, l0, l1, l2, l4, l5, l6, l7, rv0, rv1, rv2, rv3, rv4, rv5, rv6, (fun _ => rfl), rv8, rv9, rv10, rv11, rv12, rv13, rv14, rv15, rv16, rv17, rv18, rv19, rv20, rv21, rv22, rv23, rv24, rv25, rv26, rv27, rv28, rv29, trivial⟩
      | 8, hio =>
       cases hio
       have e81 := rv5 (hd ⟨5, .data⟩ (by simp) rfl)
       have e83 := rv7 (hd ⟨7, .data⟩ (by simp) rfl)
       have e80 := rv4 (hd ⟨4, .guard⟩ (by simp) rfl)
       obtain ⟨g, rfl⟩ : ∃ g, f = upd (upd (upd (g) 81 (.int .i64 (k : Nat))) 83 (.int .i64 (lb.length : Nat))) 80 (.bool true) := ⟨f, upd_keep' (upd_keep' (upd_keep' (rfl) e81) e83) e80⟩
       refine s_eq rfl rfl rfl rfl rfl (decide_eq_false (by omega)) (w_nil ?_)
       exact ⟨_, rfl, kR, l0, l1, l2, l4, l5, l6, l7, rv0, rv1, rv2, rv3, rv4, rv5, rv6, rv7, (fun _ => rfl), rv9, rv10, rv11, rv12, rv13, rv14, rv15, rv16, rv17, rv18, rv19, rv20, rv21, rv22, rv23, rv24, rv25, rv26, rv27, rv28, rv29, trivial⟩
      | 9, hio =>
       cases hio
       have e84 := rv8 (hd ⟨8, .data⟩ (by simp) rfl)
       have e80 := rv4 (hd ⟨4, .chain⟩ (by simp) rfl)
       obtain ⟨g, rfl⟩ : ∃ g, f = upd (upd (g) 84 (.bool false)) 80 (.bool true) := ⟨f, upd_keep' (upd_keep' (rfl) e84) e80⟩
       refine mvB rfl rfl rfl (w_nil ?_)
       exact ⟨_, rfl, kR, l0, l1, l2, l4, l5, l6, l7, rv0, rv1, rv2, rv3, rv4, rv5, rv6, rv7, rv8, (fun _ => rfl), rv10, rv11, rv12, rv13, rv14, rv15, rv16, rv17, rv18, rv19, rv20, rv21, rv22, rv23, rv24, rv25, rv26, rv27, rv28, rv29, trivial⟩
      | 10, hio =>
       cases hio
       have e85 := rv9 (hd ⟨9, .guard⟩ (by simp) rfl)
       obtain ⟨g, rfl⟩ : ∃ g, f = upd (upd (g) 4 (.slice (some ⟨bo, 0, none⟩) (la.length + 1) (la.length + 1))) 85 (.bool false) := ⟨f, upd_keep' (upd_keep' (rfl) l4) e85⟩
       refine s_mv (v := .slice (some ⟨bo, 0, none⟩) (la.length + 1) (la.length + 1)) rfl rfl rfl ?_
       refine w_nil ?_
       exact ⟨_, rfl, kR, l0, l1, l2, l4, l5, l6, l7, rv0, rv1, rv2, rv3, rv4, rv5, rv6, rv7, rv8, rv9, (fun _ => rfl), rv11, rv12, rv13, rv14, rv15, rv16, rv17, rv18, rv19, rv20, rv21, rv22, rv23, rv24, rv25, rv26, rv27, rv28, rv29, trivial⟩
      | 11, hio =>
       cases hio
       have e85 := rv9 (hd ⟨9, .guard⟩ (by simp) rfl)
       obtain ⟨g, rfl⟩ : ∃ g, f = upd (upd (g) 6 (.int .i64 (i : Nat))) 85 (.bool false) := ⟨f, upd_keep' (upd_keep' (rfl) l6) e85⟩
       refine mvI rfl rfl rfl (w_nil ?_)
       exact ⟨_, rfl, kR, l0, l1, l2, l4, l5, l6, l7, rv0, rv1, rv2, rv3, rv4, rv5, rv6, rv7, rv8, rv9, rv10, (fun _ => rfl), rv12, rv13, rv14, rv15, rv16, rv17, rv18, rv19, rv20, rv21, rv22, rv23, rv24, rv25, rv26, rv27, rv28, rv29, trivial⟩
      | 12, hio =>
       cases hio
       have e87 := rv11 (hd ⟨11, .data⟩ (by simp) rfl)
       have e85 := rv9 (hd ⟨9, .guard⟩ (by simp) rfl)
       obtain ⟨g, rfl⟩ : ∃ g, f = upd (upd (g) 87 (.int .i64 (i : Nat))) 85 (.bool false) := ⟨f, upd_keep' (upd_keep' (rfl) e87) e85⟩
       refine s_add rfl rfl rfl rfl rfl (w64 (by omega)) (w_nil ?_)
       exact ⟨_, rfl, kR, l0, l1, l2, l4, l5, l6, l7, rv0, rv1, rv2, rv3, rv4, rv5, rv6, rv7, rv8, rv9, rv10, rv11, (fun _ => rfl), rv13, rv14, rv15, rv16, rv17, rv18, rv19, rv20, rv21, rv22, rv23, rv24, rv25, rv26, rv27, rv28, rv29, trivial⟩
      | 13, hio =>
       cases hio
       have e86 := rv10 (hd ⟨10, .data⟩ (by simp) rfl)
       have e88 := rv12 (hd ⟨12, .data⟩ (by simp) rfl)
       have e85 := rv9 (hd ⟨9, .guard⟩ (by simp) rfl)
       obtain ⟨g, rfl⟩ : ∃ g, f = upd (upd (upd (g) 86 (.slice (some ⟨bo, 0, none⟩) (la.length + 1) (la.length + 1))) 88 (.int .i64 ((i : Nat) + 1 : Int))) 85 (.bool false) := ⟨f, upd_keep' (upd_keep' (upd_keep' (rfl) e86) e88) e85⟩
       refine s_iaE (j := i + 1) el92 rfl rfl rfl rfl rfl (by omega) (by omega) (w_nil ?_)
       exact ⟨_, rfl, kR, l0, l1, l2, l4, l5, l6, l7, rv0, rv1, rv2, rv3, rv4, rv5, rv6, rv7, rv8, rv9, rv10, rv11, rv12, (fun _ => rfl), rv14, rv15, rv16, rv17, rv18, rv19, rv20, rv21, rv22, rv23, rv24, rv25, rv26, rv27, rv28, rv29, trivial⟩
      | 14, hio =>
       cases hio
       have e89 := rv13 (hd ⟨13, .data⟩ (by simp) rfl)
       have e85 := rv9 (hd ⟨9, .guard⟩ (by simp) rfl)
       obtain ⟨g, rfl⟩ : ∃ g, f = upd (upd (g) 89 (.pointer (some (Addr.add ⟨bo, 0, none⟩ ((i + 1) * 1))))) 85 (.bool false) := ⟨f, upd_keep' (upd_keep' (rfl) e89) e85⟩
       refine s_ld1 (v := .slice _ _ _) on94 rfl rfl rfl ((hT1.kp (K.transN kR) (fun e => by omega)).get ((i + 1) * 1) (by rw [Nat.mul_one]; exact hy1)) (w_nil ?_)
       exact ⟨_, rfl, kR, l0, l1, l2, l4, l5, l6, l7, rv0, rv1, rv2, rv3, rv4, rv5, rv6, rv7, rv8, rv9, rv10, rv11, rv12, rv13, (fun _ => rfl), rv15, rv16, rv17, rv18, rv19, rv20, rv21, rv22, rv23, rv24, rv25, rv26, rv27, rv28, rv29, trivial⟩
      | 15, hio =>
       cases hio
       have e85 := rv9 (hd ⟨9, .guard⟩ (by simp) rfl)
       obtain ⟨g, rfl⟩ : ∃ g, f = upd (upd (g) 7 (.int .i64 (k : Nat))) 85 (.bool false) := ⟨f, upd_keep' (upd_keep' (rfl) l7) e85⟩
       refine mvI rfl rfl rfl (w_nil ?_)
       exact ⟨_, rfl, kR, l0, l1, l2, l4, l5, l6, l7, rv0, rv1, rv2, rv3, rv4, rv5, rv6, rv7, rv8, rv9, rv10, rv11, rv12, rv13, rv14, (fun _ => rfl), rv16, rv17, rv18, rv19, rv20, rv21, rv22, rv23, rv24, rv25, rv26, rv27, rv28, rv29, trivial⟩
      | 16, hio =>
       cases hio
       have e90 := rv14 (hd ⟨14, .data⟩ (by simp) rfl)
       have e91 := rv15 (hd ⟨15, .data⟩ (by simp) rfl)
       have e85 := rv9 (hd ⟨9, .guard⟩ (by simp) rfl)
       obtain ⟨g, rfl⟩ : ∃ g, f = upd (upd (upd (g) 90 (.slice (some ⟨rz1, 0, none⟩) (lb.length + 1) (lb.length + 1))) 91 (.int .i64 (k : Nat))) 85 (.bool false) := ⟨f, upd_keep' (upd_keep' (upd_keep' (rfl) e90) e91) e85⟩
       refine s_iaE (j := k) el94 rfl rfl rfl rfl rfl (by omega) (by omega) (w_nil ?_)
       exact ⟨_, rfl, kR, l0, l1, l2, l4, l5, l6, l7, rv0, rv1, rv2, rv3, rv4, rv5, rv6, rv7, rv8, rv9, rv10, rv11, rv12, rv13, rv14, rv15, (fun _ => rfl), rv17, rv18, rv19, rv20, rv21, rv22, rv23, rv24, rv25, rv26, rv27, rv28, rv29, trivial⟩
      | 17, hio =>
       cases hio
       have e92 := rv16 (hd ⟨16, .data⟩ (by simp) rfl)
       have e85 := rv9 (hd ⟨9, .guard⟩ (by simp) rfl)
       obtain ⟨g, rfl⟩ : ∃ g, f = upd (upd (g) 92 (.pointer (some (Addr.add ⟨rz1, 0, none⟩ (k * 1))))) 85 (.bool false) := ⟨f, upd_keep' (upd_keep' (rfl) e92) e85⟩
       refine s_ld1 (v := .int .i64 _) on3 rfl rfl rfl ((hy2.kp (K.transN kR) (fun e => by omega)).get (k * 1) (by rw [Nat.mul_one]; exact ints_get (by omega))) (w_nil ?_)
       exact ⟨_, rfl, kR, l0, l1, l2, l4, l5, l6, l7, rv0, rv1, rv2, rv3, rv4, rv5, rv6, rv7, rv8, rv9, rv10, rv11, rv12, rv13, rv14, rv15, rv16, (fun _ => rfl), rv18, rv19, rv20, rv21, rv22, rv23, rv24, rv25, rv26, rv27, rv28, rv29, trivial⟩
      | 18, hio =>
       cases hio
       have e85 := rv9 (hd ⟨9, .guard⟩ (by simp) rfl)
       obtain ⟨g, rfl⟩ : ∃ g, f = upd (upd (g) 4 (.slice (some ⟨bo, 0, none⟩) (la.length + 1) (la.length + 1))) 85 (.bool false) := ⟨f, upd_keep' (upd_keep' (rfl) l4) e85⟩
       refine s_mv (v := .slice (some ⟨bo, 0, none⟩) (la.length + 1) (la.length + 1)) rfl rfl rfl ?_
       refine w_nil ?_
       exact ⟨_, rfl, kR, l0, l1, l2, l4, l5, l6, l7, rv0, rv1, rv2, rv3, rv4, rv5, rv6, rv7, rv8, rv9, rv10, rv11, rv12, rv13, rv14, rv15, rv16, rv17, (fun _ => rfl), rv19, rv20, rv21, rv22, rv23, rv24, rv25, rv26, rv27, rv28, rv29, trivial⟩
      | 19, hio =>
       cases hio
       have e85 := rv9 (hd ⟨9, .guard⟩ (by simp) rfl)
       obtain ⟨g, rfl⟩ : ∃ g, f = upd (upd (g) 6 (.int .i64 (i : Nat))) 85 (.bool false) := ⟨f, upd_keep' (upd_keep' (rfl) l6) e85⟩
       refine mvI rfl rfl rfl (w_nil ?_)
       exact ⟨_, rfl, kR, l0, l1, l2, l4, l5, l6, l7, rv0, rv1, rv2, rv3, rv4, rv5, rv6, rv7, rv8, rv9, rv10, rv11, rv12, rv13, rv14, rv15, rv16, rv17, rv18, (fun _ => rfl), rv20, rv21, rv22, rv23, rv24, rv25, rv26, rv27, rv28, rv29, trivial⟩
      | 20, hio =>
       cases hio
       have e94 := rv18 (hd ⟨18, .data⟩ (by simp) rfl)
       have e95 := rv19 (hd ⟨19, .data⟩ (by simp) rfl)
       have e85 := rv9 (hd ⟨9, .guard⟩ (by simp) rfl)
       obtain ⟨g, rfl⟩ : ∃ g, f = upd (upd (upd (g) 94 (.slice (some ⟨bo, 0, none⟩) (la.length + 1) (la.length + 1))) 95 (.int .i64 (i : Nat))) 85 (.bool false) := ⟨f, upd_keep' (upd_keep' (upd_keep' (rfl) e94) e95) e85⟩
       refine s_iaE (j := i) el92 rfl rfl rfl rfl rfl (by omega) (by omega) (w_nil ?_)
       exact ⟨_, rfl, kR, l0, l1, l2, l4, l5, l6, l7, rv0, rv1, rv2, rv3, rv4, rv5, rv6, rv7, rv8, rv9, rv10, rv11, rv12, rv13, rv14, rv15, rv16, rv17, rv18, rv19, (fun _ => rfl), rv21, rv22, rv23, rv24, rv25, rv26, rv27, rv28, rv29, trivial⟩
      | 21, hio =>
       cases hio
       have e96 := rv20 (hd ⟨20, .data⟩ (by simp) rfl)
       have e85 := rv9 (hd ⟨9, .guard⟩ (by simp) rfl)
       obtain ⟨g, rfl⟩ : ∃ g, f = upd (upd (g) 96 (.pointer (some (Addr.add ⟨bo, 0, none⟩ (i * 1))))) 85 (.bool false) := ⟨f, upd_keep' (upd_keep' (rfl) e96) e85⟩
       refine s_ld1 (v := .slice _ _ _) on94 rfl rfl rfl ((hT1.kp (K.transN kR) (fun e => by omega)).get (i * 1) (by rw [Nat.mul_one]; exact hz1)) (w_nil ?_)
       exact ⟨_, rfl, kR, l0, l1, l2, l4, l5, l6, l7, rv0, rv1, rv2, rv3, rv4, rv5, rv6, rv7, rv8, rv9, rv10, rv11, rv12, rv13, rv14, rv15, rv16, rv17, rv18, rv19, rv20, (fun _ => rfl), rv22, rv23, rv24, rv25, rv26, rv27, rv28, rv29, trivial⟩
      | 22, hio =>
       cases hio
       have e85 := rv9 (hd ⟨9, .guard⟩ (by simp) rfl)
       obtain ⟨g, rfl⟩ : ∃ g, f = upd (upd (g) 7 (.int .i64 (k : Nat))) 85 (.bool false) := ⟨f, upd_keep' (upd_keep' (rfl) l7) e85⟩
       refine mvI rfl rfl rfl (w_nil ?_)
       exact ⟨_, rfl, kR, l0, l1, l2, l4, l5, l6, l7, rv0, rv1, rv2, rv3, rv4, rv5, rv6, rv7, rv8, rv9, rv10, rv11, rv12, rv13, rv14, rv15, rv16, rv17, rv18, rv19, rv20, rv21, (fun _ => rfl), rv23, rv24, rv25, rv26, rv27, rv28, rv29, trivial⟩
      | 23, hio =>
       cases hio
       have e98 := rv22 (hd ⟨22, .data⟩ (by simp) rfl)
       have e85 := rv9 (hd ⟨9, .guard⟩ (by simp) rfl)
       obtain ⟨g, rfl⟩ : ∃ g, f = upd (upd (g) 98 (.int .i64 (k : Nat))) 85 (.bool false) := ⟨f, upd_keep' (upd_keep' (rfl) e98) e85⟩
       refine s_add rfl rfl rfl rfl rfl (w64 (by omega)) (w_nil ?_)
       exact ⟨_, rfl, kR, l0, l1, l2, l4, l5, l6, l7, rv0, rv1, rv2, rv3, rv4, rv5, rv6, rv7, rv8, rv9, rv10, rv11, rv12, rv13, rv14, rv15, rv16, rv17, rv18, rv19, rv20, rv21, rv22, (fun _ => rfl), rv24, rv25, rv26, rv27, rv28, rv29, trivial⟩
      | 24, hio =>
       cases hio
       have e97 := rv21 (hd ⟨21, .data⟩ (by simp) rfl)
       have e99 := rv23 (hd ⟨23, .data⟩ (by simp) rfl)
       have e85 := rv9 (hd ⟨9, .guard⟩ (by simp) rfl)
       obtain ⟨g, rfl⟩ : ∃ g, f = upd (upd (upd (g) 97 (.slice (some ⟨rz2, 0, none⟩) (lb.length + 1) (lb.length + 1))) 99 (.int .i64 ((k : Nat) + 1 : Int))) 85 (.bool false) := ⟨f, upd_keep' (upd_keep' (upd_keep' (rfl) e97) e99) e85⟩
       refine s_iaE (j := k + 1) el94 rfl rfl rfl rfl rfl (by omega) (by omega) (w_nil ?_)
       exact ⟨_, rfl, kR, l0, l1, l2, l4, l5, l6, l7, rv0, rv1, rv2, rv3, rv4, rv5, rv6, rv7, rv8, rv9, rv10, rv11, rv12, rv13, rv14, rv15, rv16, rv17, rv18, rv19, rv20, rv21, rv22, rv23, (fun _ => rfl), rv25, rv26, rv27, rv28, rv29, trivial⟩
      | 25, hio =>
       cases hio
       have e100 := rv24 (hd ⟨24, .data⟩ (by simp) rfl)
       have e85 := rv9 (hd ⟨9, .guard⟩ (by simp) rfl)
       obtain ⟨g, rfl⟩ : ∃ g, f = upd (upd (g) 100 (.pointer (some (Addr.add ⟨rz2, 0, none⟩ ((k + 1) * 1))))) 85 (.bool false) := ⟨f, upd_keep' (upd_keep' (rfl) e100) e85⟩
       refine s_ld1 (v := .int .i64 _) on3 rfl rfl rfl ((hz2.kp (K.transN kR) (fun e => by omega)).get ((k + 1) * 1) (by rw [Nat.mul_one]; exact ints_get (by omega))) (w_nil ?_)
       exact ⟨_, rfl, kR, l0, l1, l2, l4, l5, l6, l7, rv0, rv1, rv2, rv3, rv4, rv5, rv6, rv7, rv8, rv9, rv10, rv11, rv12, rv13, rv14, rv15, rv16, rv17, rv18, rv19, rv20, rv21, rv22, rv23, rv24, (fun _ => rfl), rv26, rv27, rv28, rv29, trivial⟩
      | 26, hio =>
       cases hio
       have e93 := rv17 (hd ⟨17, .data⟩ (by simp) rfl)
       have e101 := rv25 (hd ⟨25, .data⟩ (by simp) rfl)
       have e85 := rv9 (hd ⟨9, .guard⟩ (by simp) rfl)
       obtain ⟨g, rfl⟩ : ∃ g, f = upd (upd (upd (g) 93 (.int .i64 x1[k])) 101 (.int .i64 x2[k + 1])) 85 (.bool false) := ⟨f, upd_keep' (upd_keep' (upd_keep' (rfl) e93) e101) e85⟩
       refine s_geq rfl rfl rfl rfl rfl rfl (w_nil ?_)
       exact ⟨_, rfl, kR, l0, l1, l2, l4, l5, l6, l7, rv0, rv1, rv2, rv3, rv4, rv5, rv6, rv7, rv8, rv9, rv10, rv11, rv12, rv13, rv14, rv15, rv16, rv17, rv18, rv19, rv20, rv21, rv22, rv23, rv24, rv25, (fun _ => rfl), rv27, rv28, rv29, trivial⟩
      | 27, hio =>
       cases hio
       have e85 := rv9 (hd ⟨9, .data⟩ (by simp) rfl)
       have e102 := rv26 (hd ⟨26, .data⟩ (by simp) rfl)
       have e80 := rv4 (hd ⟨4, .guard⟩ (by simp) rfl)
       obtain ⟨g, rfl⟩ : ∃ g, f = upd (upd (upd (g) 85 (.bool false)) 102 (.bool (decide (x2[k + 1] ≤ x1[k])))) 80 (.bool true) := ⟨f, upd_keep' (upd_keep' (upd_keep' (rfl) e85) e102) e80⟩
       refine pFB rfl rfl rfl rfl rfl (w_nil ?_)
       exact ⟨_, rfl, kR, l0, l1, l2, l4, l5, l6, l7, rv0, rv1, rv2, rv3, rv4, rv5, rv6, rv7, rv8, rv9, rv10, rv11, rv12, rv13, rv14, rv15, rv16, rv17, rv18, rv19, rv20, rv21, rv22, rv23, rv24, rv25, rv26, (fun _ => rfl), rv28, rv29, trivial⟩
      | 28, hio =>
       cases hio
       have e80 := rv4 (hd ⟨4, .data⟩ (by simp) rfl)
       have e103 := rv27 (hd ⟨27, .data⟩ (by simp) rfl)
       obtain ⟨g, rfl⟩ : ∃ g, f = upd (upd (g) 80 (.bool true)) 103 (.bool (decide (x2[k + 1] ≤ x1[k]))) := ⟨f, upd_keep' (upd_keep' (rfl) e80) e103⟩
       refine pTB rfl rfl rfl rfl rfl (w_nil ?_)
       exact ⟨_, rfl, kR, l0, l1, l2, l4, l5, l6, l7, rv0, rv1, rv2, rv3, rv4, rv5, rv6, rv7, rv8, rv9, rv10, rv11, rv12, rv13, rv14, rv15, rv16, rv17, rv18, rv19, rv20, rv21, rv22, rv23, rv24, rv25, rv26, rv27, (fun _ => rfl), rv29, trivial⟩
      | 29, hio =>
       cases hio
       have e104 := rv28 (hd ⟨28, .data⟩ (by simp) rfl)
       obtain ⟨g, rfl⟩ : ∃ g, f = upd (g) 104 (.bool (decide (x2[k + 1] ≤ x1[k]))) := ⟨f, upd_keep' (rfl) e104⟩
       refine asB rfl rfl rfl (w_nil ?_)
       exact ⟨_, rfl, kR, l0, l1, l2, l4, l5, l6, l7, rv0, rv1, rv2, rv3, rv4, rv5, rv6, rv7, rv8, rv9, rv10, rv11, rv12, rv13, rv14, rv15, rv16, rv17, rv18, rv19, rv20, rv21, rv22, rv23, rv24, rv25, rv26, rv27, rv28, (fun _ => rfl), trivial⟩
      | k + 30, hio => exact absurd hio (by simp)
     ·intro S f w3 hS hI
      obtain ⟨kR, l0, l1, l2, l4, l5, l6, l7, rv0, rv1, rv2, rv3, rv4, rv5, rv6, rv7, rv8, rv9, rv10, rv11, rv12, rv13, rv14, rv15, rv16, rv17, rv18, rv19, rv20, rv21, rv22, rv23, rv24, rv25, rv26, rv27, rv28, rv29, -⟩ := hI
      obtain ⟨g, rfl⟩ : ∃ g, f = upd (upd (upd (upd (upd (upd (upd (upd (g) 0 (.func (.yield lr) #[] #[])) 1 (.pointer (some ⟨ba, 0, none⟩))) 2 (.pointer (some ⟨bb, 0, none⟩))) 4 (.slice (some ⟨bo, 0, none⟩) (la.length + 1) (la.length + 1))) 5 (.pointer (some ⟨b5, 0, none⟩))) 6 (.int .i64 (i : Nat))) 7 (.int .i64 (k : Nat))) 75 (.bool (decide (x2[k + 1] ≤ x1[k]))) := ⟨f, upd_keep' (upd_keep' (upd_keep' (upd_keep' (upd_keep' (upd_keep' (upd_keep' (upd_keep' (rfl) l0) l1) l2) l4) l5) l6) l7) (rv29 (hS 29 (by decide)))⟩
      clear hS l0 l1 l2 l4 l5 l6 l7 rv0 rv1 rv2 rv3 rv4 rv5 rv6 rv7 rv8 rv9 rv10 rv11 rv12 rv13 rv14 rv15 rv16 rv17 rv18 rv19 rv20 rv21 rv22 rv23 rv24 rv25 rv26 rv27 rv28 rv29
      replace o5 := o5.kp kR (fun e => e)
      replace hvo := hvo.kp kR (fun _ _ _ e => e)
      replace hvn := hvn.kp kR (fun _ _ _ e => e)
      replace hJ := hJ.kpN kR
      replace K := K.transN kR
      refine then_n ?_
      refine c_if rfl rfl ?_ ?_
      ·intro ht75
       (try simp only [Q1, Q2, Q3, Q4, Q5] at ht75)
       refine wp_seq ?_
       have hseg := seg_one hA hli hcA
       have hb5 := o5.lt
       have hro := hvo.rlt
       have hrn := hvn.rlt
       have hr := hJ.rlt
       refine c_drawS (fun S f w => (S 7 = false → w = w3.drew) ∧ (S 7 = true → S 8 = false → (∃ v1 r1, f 112 = v1 ∧ FRow w3.heap.size w v1 [la[i]] r1 ∧ w3.heap.size ≤ w.heap.size ∧ Own w b5 60 [.int .i64 (i0 : Nat), .slice Ao old.length co, .slice An new.length cn] ∧ FRowG (Gx b5 rn r) w (.slice Ao old.length co) (old) ro ∧ FRowG (Gx b5 ro r) w (.slice An new.length cn) (new) rn ∧ JJ rec lr D b6 (Gx b5 ro rn) w es r ∧ Kp (fun i => i = lr ∨ i = b6) W w)) ∧ (S 8 = true → S 10 = false → (∃ A2 c2 r2, f 113 = .slice A2 (old ++ [la[i]]).length c2 ∧ Own w b5 60 [.int .i64 (i0 : Nat), .slice Ao old.length co, .slice An new.length cn] ∧ FRowG (Gx b5 rn r) w (.slice A2 (old ++ [la[i]]).length c2) (old ++ [la[i]]) r2 ∧ FRowG (Gx b5 r2 r) w (.slice An new.length cn) new rn ∧ JJ rec lr D b6 (Gx b5 r2 rn) w es r ∧ Kp (fun i => i = lr ∨ i = b6) W w)) ∧ (S 10 = true → (∃ A2 c2 r2, Own w b5 60 [.int .i64 (i0 : Nat), .slice A2 (old ++ [la[i]]).length c2, .slice An new.length cn] ∧ FRowG (Gx b5 rn r) w (.slice A2 (old ++ [la[i]]).length c2) (old ++ [la[i]]) r2 ∧ FRowG (Gx b5 r2 r) w (.slice An new.length cn) new rn ∧ JJ rec lr D b6 (Gx b5 r2 rn) w es r ∧ Kp (fun i => i = lr ∨ i = b6) W w)) ∧ f 0 = .func (.yield lr) #[] #[] ∧ f 1 = .pointer (some ⟨ba, 0, none⟩) ∧ f 2 = .pointer (some ⟨bb, 0, none⟩) ∧ f 4 = .slice (some ⟨bo, 0, none⟩) (la.length + 1) (la.length + 1) ∧ f 5 = .pointer (some ⟨b5, 0, none⟩) ∧ f 6 = .int .i64 (i : Nat) ∧ f 7 = .int .i64 (k : Nat) ∧ (S 0 = true → f 105 = .pointer (some (Addr.add ⟨b5, 0, none⟩ 1))) ∧ (S 1 = true → f 106 = .slice Ao old.length co) ∧ (S 2 = true → f 107 = .slice (some p) la.length capA) ∧ (S 3 = true → f 108 = .int .i64 (i : Nat)) ∧ (S 4 = true → f 109 = .int .i64 (i : Nat)) ∧ (S 5 = true → f 110 = .int .i64 ((i : Nat) + 1 : Int)) ∧ (S 6 = true → f 111 = .slice (part (some p) i capA 4) 1 (capA - i)) ∧ (S 9 = true → f 114 = .pointer (some (Addr.add ⟨b5, 0, none⟩ 1))) ∧ True) (fun i => i) (rank_back (by kernel_rfl)) ⟨(fun _ => rfl), (fun h => by cases h), (fun h => by cases h), (fun h => by cases h), rfl, rfl, rfl, rfl, rfl, rfl, rfl, (fun h => by cases h), (fun h => by cases h), (fun h => by cases h), (fun h => by cases h), (fun h => by cases h), (fun h => by cases h), (fun h => by cases h), (fun h => by cases h), trivial⟩ ?_ ?_
       ·intro io opx hio S f w hS hC hd hI
        obtain ⟨st0, st1, st2, st3, l0, l1, l2, l4, l5, l6, l7, rv0, rv1, rv2, rv3, rv4, rv5, rv6, rv9, -⟩ := hI
        match io, hio with
        | 0, hio =>
         cases hio
         obtain ⟨g, rfl⟩ : ∃ g, f = upd (g) 5 (.pointer (some ⟨b5, 0, none⟩)) := ⟨f, upd_keep' (rfl) l5⟩
         refine s_fa fi60_1 rfl rfl rfl (w_nil ?_)
         exact ⟨_, rfl, st0, st1, st2, st3, l0, l1, l2, l4, l5, l6, l7, (fun _ => rfl), rv1, rv2, rv3, rv4, rv5, rv6, rv9, trivial⟩
        | 1, hio =>
         cases hio
         have q8 : S 8 = false := Q9 hS fun h => (hC 8 _ rfl h ⟨1, .data⟩ (by simp) rfl)
         have q10 : S 10 = false := Q9 hS fun h => (hC 10 _ rfl h ⟨1, .phase⟩ (by simp) rfl)
         have e105 := rv0 (hd ⟨0, .data⟩ (by simp) rfl)
         cases q7 : S 7 with
         | false =>
          obtain rfl := st0 q7
          have kd : New w3 w3.drew := (Kp.refl _ _).drew
          replace o5 := o5.kp kd (fun e => e)
          replace hvo := hvo.kp kd (fun _ _ _ e => e)
          replace hvn := hvn.kp kd (fun _ _ _ e => e)
          replace hJ := hJ.kpN kd
          replace K := K.transN kd
          obtain ⟨g, rfl⟩ : ∃ g, f = upd (g) 105 (.pointer (some (Addr.add ⟨b5, 0, none⟩ 1))) := ⟨f, upd_keep' (rfl) e105⟩
          refine s_ld1 (v := .slice Ao old.length co) on22 rfl rfl rfl (o5.get 1 rfl) (w_nil ?_)
          exact ⟨_, rfl, (fun _ => rfl), st1, st2, st3, l0, l1, l2, l4, l5, l6, l7, rv0, (fun _ => rfl), rv2, rv3, rv4, rv5, rv6, rv9, trivial⟩
         | true =>
          obtain ⟨v1, r1, e1, hv1, hszw, o5, hvo, hvn, hJ, K⟩ := st1 q7 q8
          obtain ⟨g, rfl⟩ : ∃ g, f = upd (g) 105 (.pointer (some (Addr.add ⟨b5, 0, none⟩ 1))) := ⟨f, upd_keep' (rfl) e105⟩
          refine s_ld1 (v := .slice Ao old.length co) on22 rfl rfl rfl (o5.get 1 rfl) (w_nil ?_)
          exact ⟨_, rfl, st0, (fun _ _ => ⟨v1, r1, e1, hv1, hszw, o5, hvo, hvn, hJ, K⟩), st2, st3, l0, l1, l2, l4, l5, l6, l7, rv0, (fun _ => rfl), rv2, rv3, rv4, rv5, rv6, rv9, trivial⟩
        | 2, hio =>
         cases hio
         have q7 : S 7 = false := Q9 hS fun h => (hC 6 _ rfl (hC 7 _ rfl h ⟨6, .data⟩ (by simp) rfl) ⟨2, .data⟩ (by simp) rfl)
         have q8 : S 8 = false := Q9 hS fun h => (hC 6 _ rfl (hC 7 _ rfl (hC 8 _ rfl h ⟨7, .data⟩ (by simp) rfl) ⟨6, .data⟩ (by simp) rfl) ⟨2, .data⟩ (by simp) rfl)
         have q10 : S 10 = false := Q9 hS fun h => (hC 10 _ rfl h ⟨2, .phase⟩ (by simp) rfl)
         obtain rfl := st0 q7
         have kd : New w3 w3.drew := (Kp.refl _ _).drew
         replace o5 := o5.kp kd (fun e => e)
         replace hvo := hvo.kp kd (fun _ _ _ e => e)
         replace hvn := hvn.kp kd (fun _ _ _ e => e)
         replace hJ := hJ.kpN kd
         replace K := K.transN kd
         obtain ⟨g, rfl⟩ : ∃ g, f = upd (g) 1 (.pointer (some ⟨ba, 0, none⟩)) := ⟨f, upd_keep' (rfl) l1⟩
         refine s_ld1 (v := .slice _ _ _) on22 rfl rfl rfl ((hoA.kp K (fun e => e.elim hba.1 hba.2)).get 0 rfl) (w_nil ?_)
         exact ⟨_, rfl, (fun _ => rfl), st1, st2, st3, l0, l1, l2, l4, l5, l6, l7, rv0, rv1, (fun _ => rfl), rv3, rv4, rv5, rv6, rv9, trivial⟩
        | 3, hio =>
         cases hio
         obtain ⟨g, rfl⟩ : ∃ g, f = upd (g) 6 (.int .i64 (i : Nat)) := ⟨f, upd_keep' (rfl) l6⟩
         refine mvI rfl rfl rfl (w_nil ?_)
         exact ⟨_, rfl, st0, st1, st2, st3, l0, l1, l2, l4, l5, l6, l7, rv0, rv1, rv2, (fun _ => rfl), rv4, rv5, rv6, rv9, trivial⟩
        | 4, hio =>
         cases hio
         obtain ⟨g, rfl⟩ : ∃ g, f = upd (g) 6 (.int .i64 (i : Nat)) := ⟨f, upd_keep' (rfl) l6⟩
         refine mvI rfl rfl rfl (w_nil ?_)
         exact ⟨_, rfl, st0, st1, st2, st3, l0, l1, l2, l4, l5, l6, l7, rv0, rv1, rv2, rv3, (fun _ => rfl), rv5, rv6, rv9, trivial⟩
        | 5, hio =>
         cases hio
         have e109 := rv4 (hd ⟨4, .data⟩ (by simp) rfl)
         obtain ⟨g, rfl⟩ : ∃ g, f = upd (g) 109 (.int .i64 (i : Nat)) := ⟨f, upd_keep' (rfl) e109⟩
         refine s_add rfl rfl rfl rfl rfl (w64 (by omega)) (w_nil ?_)
         exact ⟨_, rfl, st0, st1, st2, st3, l0, l1, l2, l4, l5, l6, l7, rv0, rv1, rv2, rv3, rv4, (fun _ => rfl), rv6, rv9, trivial⟩
        | 6, hio =>
         cases hio
         have e107 := rv2 (hd ⟨2, .data⟩ (by simp) rfl)
         have e108 := rv3 (hd ⟨3, .data⟩ (by simp) rfl)
         have e110 := rv5 (hd ⟨5, .data⟩ (by simp) rfl)
         obtain ⟨g, rfl⟩ : ∃ g, f = upd (upd (upd (g) 107 (.slice (some p) la.length capA)) 108 (.int .i64 (i : Nat))) 110 (.int .i64 ((i : Nat) + 1 : Int)) := ⟨f, upd_keep' (upd_keep' (upd_keep' (rfl) e107) e108) e110⟩
         refine s_slLH (lo := i) (hi := i + 1) (m := 1) el22 rfl rfl rfl rfl rfl rfl rfl (by omega) (by omega) (by omega) (by omega) (by omega) (w_nil ?_)
         exact ⟨_, rfl, st0, st1, st2, st3, l0, l1, l2, l4, l5, l6, l7, rv0, rv1, rv2, rv3, rv4, rv5, (fun _ => rfl), rv9, trivial⟩
        | 7, hio =>
         cases hio
         have q7 : S 7 = false := hS
         have q8 : S 8 = false := Q9 hS fun h => (hC 8 _ rfl h ⟨7, .data⟩ (by simp) rfl)
         have q10 : S 10 = false := Q9 hS fun h => (hC 10 _ rfl h ⟨7, .phase⟩ (by simp) rfl)
         have e111 := rv6 (hd ⟨6, .data⟩ (by simp) rfl)
         obtain rfl := st0 q7
         have kd : New w3 w3.drew := (Kp.refl _ _).drew
         replace o5 := o5.kp kd (fun e => e)
         replace hvo := hvo.kp kd (fun _ _ _ e => e)
         replace hvn := hvn.kp kd (fun _ _ _ e => e)
         replace hJ := hJ.kpN kd
         replace K := K.transN kd
         obtain ⟨g, rfl⟩ : ∃ g, f = upd (g) 111 (.slice (part (some p) i capA 4) 1 (capA - i)) := ⟨f, upd_keep' (rfl) e111⟩
         refine s_call1 go29 rfl (c29 (part (some p) i capA 4) (capA - i) [la[i]] _ (hseg.kp K (fun j _ hg e => e.elim (hGA j hg).1 (hGA j hg).2)) (by simp) (fun x hx => hsa x (by simp only [List.mem_singleton] at hx; subst hx; exact List.getElem_mem _))) rfl rfl ?_
         rintro _ w4 ⟨v1, r1, rfl, hv1, kc⟩
         refine ⟨_, rfl, ?_⟩
         refine w_nil ?_
         exact ⟨_, rfl, (fun h => absurd h (by simp [ins, q8, q10])), (fun _ _ => ⟨v1, r1, rfl, hv1, kc.size, o5.kp kc (fun e => e), hvo.kp kc (fun _ _ _ e => e), hvn.kp kc (fun _ _ _ e => e), hJ.kpN kc, K.transN kc⟩), (fun h => absurd h (by simp [ins, q8, q10])), (fun h => absurd h (by simp [ins, q8, q10])), l0, l1, l2, l4, l5, l6, l7, rv0, rv1, rv2, rv3, rv4, rv5, rv6, rv9, trivial⟩
        | 8, hio =>
         cases hio
         have q7 : S 7 = true := (hd ⟨7, .data⟩ (by simp) rfl)
         have q8 : S 8 = false := hS
         have q10 : S 10 = false := Q9 hS fun h => (hC 10 _ rfl h ⟨8, .data⟩ (by simp) rfl)
         have e106 := rv1 (hd ⟨1, .data⟩ (by simp) rfl)
         obtain ⟨v1, r1, e1, hv1, hszw, o5, hvo, hvn, hJ, K⟩ := st1 q7 q8
         obtain ⟨g, rfl⟩ : ∃ g, f = upd (upd (g) 106 (.slice Ao old.length co)) 112 (v1) := ⟨f, upd_keep' (upd_keep' (rfl) e106) e1⟩
         refine s_appFG (G := Gx b5 rn r) (l1 := old) (l2 := [la[i]]) el22 rfl rfl rfl rfl rfl rfl hvo hv1 (fun j hj => ⟨by omega, fun e => by have := hrn j e.symm; omega, fun e => by have := hr j e.symm; omega⟩) hro hszw (by simp only [List.length_singleton]; omega) ?_
         intro v2 wA r2 hv2 kA hr2
         obtain ⟨A2, c2, rfl, hc2⟩ := hv2.shape
         refine w_nil ?_
         exact ⟨_, rfl, (fun h => absurd h (by simp [ins, q7, q10])), (fun _ h => absurd h (by simp [ins, q7, q10])), (fun _ _ => ⟨A2, c2, r2, rfl, o5.kp kA (fun e => absurd (hvo.rge b5 e.symm).1 (Nat.lt_irrefl _)), hv2, hvn.mv kA hr2, hJ.mv1 kA hr2 (fun e => by have := (hvo.rge lr e.symm).1; omega) (fun e => by have := (hvo.rge D e.symm).1; omega) (fun e => by have := (hvo.rge b6 e.symm).1; omega), K.trans' kA (fun j hj e => by have := (hvo.rge j e.symm).1; omega)⟩), (fun h => absurd h (by simp [ins, q7, q10])), l0, l1, l2, l4, l5, l6, l7, rv0, rv1, rv2, rv3, rv4, rv5, rv6, rv9, trivial⟩
        | 9, hio =>
         cases hio
         obtain ⟨g, rfl⟩ : ∃ g, f = upd (g) 5 (.pointer (some ⟨b5, 0, none⟩)) := ⟨f, upd_keep' (rfl) l5⟩
         refine s_fa fi60_1 rfl rfl rfl (w_nil ?_)
         exact ⟨_, rfl, st0, st1, st2, st3, l0, l1, l2, l4, l5, l6, l7, rv0, rv1, rv2, rv3, rv4, rv5, rv6, (fun _ => rfl), trivial⟩
        | 10, hio =>
         cases hio
         have q7 : S 7 = true := (hd ⟨7, .phase⟩ (by simp) rfl)
         have q8 : S 8 = true := (hd ⟨8, .data⟩ (by simp) rfl)
         have q10 : S 10 = false := hS
         have e114 := rv9 (hd ⟨9, .data⟩ (by simp) rfl)
         obtain ⟨A2, c2, r2, e2, o5, hvo, hvn, hJ, K⟩ := st2 q8 q10
         obtain ⟨g, rfl⟩ : ∃ g, f = upd (upd (g) 114 (.pointer (some (Addr.add ⟨b5, 0, none⟩ 1)))) 113 (.slice A2 (old ++ [la[i]]).length c2) := ⟨f, upd_keep' (upd_keep' (rfl) e114) e2⟩
         refine s_st 1 sz22 (v := .slice A2 (old ++ [la[i]]).length c2) rfl rfl rfl rfl rfl rfl rfl o5 rfl rfl rfl ?_
         clear o5; intro wS o5 ks zs
         refine w_nil ?_
         exact ⟨_, rfl, (fun h => absurd h (by simp [ins, q7, q8])), (fun _ h => absurd h (by simp [ins, q7, q8])), (fun _ h => absurd h (by simp [ins, q7, q8])), (fun _ => ⟨A2, c2, r2, o5, hvo.kp ks (fun j _ hg e => by have := hg.1; omega), hvn.kp ks (fun j _ hg e => by have := hg.1; omega), hJ.kp ks (fun (e : lr = b5) => by omega) (fun (e : D = b5) => by omega) (fun (e : b6 = b5) => by omega) (fun j _ hg (e : j = b5) => by have := hg.1; omega), K.trans' ks (fun j hj (e : j = b5) => by omega)⟩), l0, l1, l2, l4, l5, l6, l7, rv0, rv1, rv2, rv3, rv4, rv5, rv6, rv9, trivial⟩
        | k + 11, hio => exact absurd hio (by simp)
       ·intro S f w4 hS hI
        obtain ⟨st0, st1, st2, st3, l0, l1, l2, l4, l5, l6, l7, rv0, rv1, rv2, rv3, rv4, rv5, rv6, rv9, -⟩ := hI
        obtain ⟨A2, c2, r2, o5, hvo, hvn, hJ, K⟩ := st3 (hS 10 (by decide))
        obtain ⟨g, rfl⟩ : ∃ g, f = upd (upd (upd (upd (upd (upd (upd (g) 0 (.func (.yield lr) #[] #[])) 1 (.pointer (some ⟨ba, 0, none⟩))) 2 (.pointer (some ⟨bb, 0, none⟩))) 4 (.slice (some ⟨bo, 0, none⟩) (la.length + 1) (la.length + 1))) 5 (.pointer (some ⟨b5, 0, none⟩))) 6 (.int .i64 (i : Nat))) 7 (.int .i64 (k : Nat)) := ⟨f, upd_keep' (upd_keep' (upd_keep' (upd_keep' (upd_keep' (upd_keep' (upd_keep' (rfl) l0) l1) l2) l4) l5) l6) l7⟩
        clear hS st0 st1 st2 st3 l0 l1 l2 l4 l5 l6 l7 rv0 rv1 rv2 rv3 rv4 rv5 rv6 rv9
        refine then_n (c_reg (mvI rfl rfl rfl (s_add rfl rfl rfl rfl rfl (w64 (by omega)) (asI rfl rfl rfl (w_nil (inb_n (inb_n (then_n ?_))))))))
        exact ⟨_, _, by omega, rfl, _, i + 1, k, es, r, _, r2, _, new, rn, _, i0, k0, rfl, by omega, by omega, (upd_keep' (upd_keep' (upd_keep' (upd_keep' (upd_keep' (upd_keep' (upd_keep' rfl rfl) rfl) rfl) rfl) rfl) rfl) rfl), by omega, by omega, by rw [drop_take_succ hi0 hli, hold], hnew, hch, hes, o5, hvo, hvn, hJ, K⟩
      ·intro ht75
       (try simp only [Q1, Q2, Q3, Q4, Q5] at ht75)
       refine wp_seq ?_
       have hseg := seg_one hB hlk hcB
       have hb5 := o5.lt
       have hro := hvo.rlt
       have hrn := hvn.rlt
       have hr := hJ.rlt
       refine c_drawS (fun S f w => (S 7 = false → w = w3.drew) ∧ (S 7 = true → S 8 = false → (∃ v1 r1, f 28 = v1 ∧ FRow w3.heap.size w v1 [lb[k]] r1 ∧ w3.heap.size ≤ w.heap.size ∧ Own w b5 60 [.int .i64 (i0 : Nat), .slice Ao old.length co, .slice An new.length cn] ∧ FRowG (Gx b5 rn r) w (.slice Ao old.length co) (old) ro ∧ FRowG (Gx b5 ro r) w (.slice An new.length cn) (new) rn ∧ JJ rec lr D b6 (Gx b5 ro rn) w es r ∧ Kp (fun i => i = lr ∨ i = b6) W w)) ∧ (S 8 = true → S 10 = false → (∃ A2 c2 r2, f 29 = .slice A2 (new ++ [lb[k]]).length c2 ∧ Own w b5 60 [.int .i64 (i0 : Nat), .slice Ao old.length co, .slice An new.length cn] ∧ FRowG (Gx b5 r2 r) w (.slice Ao old.length co) old ro ∧ FRowG (Gx b5 ro r) w (.slice A2 (new ++ [lb[k]]).length c2) (new ++ [lb[k]]) r2 ∧ JJ rec lr D b6 (Gx b5 ro r2) w es r ∧ Kp (fun i => i = lr ∨ i = b6) W w)) ∧ (S 10 = true → (∃ A2 c2 r2, Own w b5 60 [.int .i64 (i0 : Nat), .slice Ao old.length co, .slice A2 (new ++ [lb[k]]).length c2] ∧ FRowG (Gx b5 r2 r) w (.slice Ao old.length co) old ro ∧ FRowG (Gx b5 ro r) w (.slice A2 (new ++ [lb[k]]).length c2) (new ++ [lb[k]]) r2 ∧ JJ rec lr D b6 (Gx b5 ro r2) w es r ∧ Kp (fun i => i = lr ∨ i = b6) W w)) ∧ f 0 = .func (.yield lr) #[] #[] ∧ f 1 = .pointer (some ⟨ba, 0, none⟩) ∧ f 2 = .pointer (some ⟨bb, 0, none⟩) ∧ f 4 = .slice (some ⟨bo, 0, none⟩) (la.length + 1) (la.length + 1) ∧ f 5 = .pointer (some ⟨b5, 0, none⟩) ∧ f 6 = .int .i64 (i : Nat) ∧ f 7 = .int .i64 (k : Nat) ∧ (S 0 = true → f 21 = .pointer (some (Addr.add ⟨b5, 0, none⟩ 2))) ∧ (S 1 = true → f 22 = .slice An new.length cn) ∧ (S 2 = true → f 23 = .slice (some q) lb.length capB) ∧ (S 3 = true → f 24 = .int .i64 (k : Nat)) ∧ (S 4 = true → f 25 = .int .i64 (k : Nat)) ∧ (S 5 = true → f 26 = .int .i64 ((k : Nat) + 1 : Int)) ∧ (S 6 = true → f 27 = .slice (part (some q) k capB 4) 1 (capB - k)) ∧ (S 9 = true → f 30 = .pointer (some (Addr.add ⟨b5, 0, none⟩ 2))) ∧ True) (fun i => i) (rank_back (by kernel_rfl)) ⟨(fun _ => rfl), (fun h => by cases h), (fun h => by cases h), (fun h => by cases h), rfl, rfl, rfl, rfl, rfl, rfl, rfl, (fun h => by cases h), (fun h => by cases h), (fun h => by cases h), (fun h => by cases h), (fun h => by cases h), (fun h => by cases h), (fun h => by cases h), (fun h => by cases h), trivial⟩ ?_ ?_
       ·intro io opx hio S f w hS hC hd hI
        obtain ⟨st0, st1, st2, st3, l0, l1, l2, l4, l5, l6, l7, rv0, rv1, rv2, rv3, rv4, rv5, rv6, rv9, -⟩ := hI
        match io, hio with
        | 0, hio =>
         cases hio
         obtain ⟨g, rfl⟩ : ∃ g, f = upd (g) 5 (.pointer (some ⟨b5, 0, none⟩)) := ⟨f, upd_keep' (rfl) l5⟩
         refine s_fa fi60_2 rfl rfl rfl (w_nil ?_)
         exact ⟨_, rfl, st0, st1, st2, st3, l0, l1, l2, l4, l5, l6, l7, (fun _ => rfl), rv1, rv2, rv3, rv4, rv5, rv6, rv9, trivial⟩
        | 1, hio =>
         cases hio
         have q8 : S 8 = false := Q9 hS fun h => (hC 8 _ rfl h ⟨1, .data⟩ (by simp) rfl)
         have q10 : S 10 = false := Q9 hS fun h => (hC 10 _ rfl h ⟨1, .phase⟩ (by simp) rfl)
         have e21 := rv0 (hd ⟨0, .data⟩ (by simp) rfl)
         cases q7 : S 7 with
         | false =>
          obtain rfl := st0 q7
          have kd : New w3 w3.drew := (Kp.refl _ _).drew
          replace o5 := o5.kp kd (fun e => e)
          replace hvo := hvo.kp kd (fun _ _ _ e => e)
          replace hvn := hvn.kp kd (fun _ _ _ e => e)
          replace hJ := hJ.kpN kd
          replace K := K.transN kd
          obtain ⟨g, rfl⟩ : ∃ g, f = upd (g) 21 (.pointer (some (Addr.add ⟨b5, 0, none⟩ 2))) := ⟨f, upd_keep' (rfl) e21⟩
          refine s_ld1 (v := .slice An new.length cn) on22 rfl rfl rfl (o5.get 2 rfl) (w_nil ?_)
          exact ⟨_, rfl, (fun _ => rfl), st1, st2, st3, l0, l1, l2, l4, l5, l6, l7, rv0, (fun _ => rfl), rv2, rv3, rv4, rv5, rv6, rv9, trivial⟩
         | true =>
          obtain ⟨v1, r1, e1, hv1, hszw, o5, hvo, hvn, hJ, K⟩ := st1 q7 q8
          obtain ⟨g, rfl⟩ : ∃ g, f = upd (g) 21 (.pointer (some (Addr.add ⟨b5, 0, none⟩ 2))) := ⟨f, upd_keep' (rfl) e21⟩
          refine s_ld1 (v := .slice An new.length cn) on22 rfl rfl rfl (o5.get 2 rfl) (w_nil ?_)
          exact ⟨_, rfl, st0, (fun _ _ => ⟨v1, r1, e1, hv1, hszw, o5, hvo, hvn, hJ, K⟩), st2, st3, l0, l1, l2, l4, l5, l6, l7, rv0, (fun _ => rfl), rv2, rv3, rv4, rv5, rv6, rv9, trivial⟩
        | 2, hio =>
         cases hio
         have q7 : S 7 = false := Q9 hS fun h => (hC 6 _ rfl (hC 7 _ rfl h ⟨6, .data⟩ (by simp) rfl) ⟨2, .data⟩ (by simp) rfl)
         have q8 : S 8 = false := Q9 hS fun h => (hC 6 _ rfl (hC 7 _ rfl (hC 8 _ rfl h ⟨7, .data⟩ (by simp) rfl) ⟨6, .data⟩ (by simp) rfl) ⟨2, .data⟩ (by simp) rfl)
         have q10 : S 10 = false := Q9 hS fun h => (hC 10 _ rfl h ⟨2, .phase⟩ (by simp) rfl)
         obtain rfl := st0 q7
         have kd : New w3 w3.drew := (Kp.refl _ _).drew
         replace o5 := o5.kp kd (fun e => e)
         replace hvo := hvo.kp kd (fun _ _ _ e => e)
         replace hvn := hvn.kp kd (fun _ _ _ e => e)
         replace hJ := hJ.kpN kd
         replace K := K.transN kd
         obtain ⟨g, rfl⟩ : ∃ g, f = upd (g) 2 (.pointer (some ⟨bb, 0, none⟩)) := ⟨f, upd_keep' (rfl) l2⟩
         refine s_ld1 (v := .slice _ _ _) on22 rfl rfl rfl ((hoB.kp K (fun e => e.elim hbb.1 hbb.2)).get 0 rfl) (w_nil ?_)
         exact ⟨_, rfl, (fun _ => rfl), st1, st2, st3, l0, l1, l2, l4, l5, l6, l7, rv0, rv1, (fun _ => rfl), rv3, rv4, rv5, rv6, rv9, trivial⟩
        | 3, hio =>
         cases hio
         obtain ⟨g, rfl⟩ : ∃ g, f = upd (g) 7 (.int .i64 (k : Nat)) := ⟨f, upd_keep' (rfl) l7⟩
         refine mvI rfl rfl rfl (w_nil ?_)
         exact ⟨_, rfl, st0, st1, st2, st3, l0, l1, l2, l4, l5, l6, l7, rv0, rv1, rv2, (fun _ => rfl), rv4, rv5, rv6, rv9, trivial⟩
        | 4, hio =>
         cases hio
         obtain ⟨g, rfl⟩ : ∃ g, f = upd (g) 7 (.int .i64 (k : Nat)) := ⟨f, upd_keep' (rfl) l7⟩
         refine mvI rfl rfl rfl (w_nil ?_)
         exact ⟨_, rfl, st0, st1, st2, st3, l0, l1, l2, l4, l5, l6, l7, rv0, rv1, rv2, rv3, (fun _ => rfl), rv5, rv6, rv9, trivial⟩
        | 5, hio =>
         cases hio
         have e25 := rv4 (hd ⟨4, .data⟩ (by simp) rfl)
         obtain ⟨g, rfl⟩ : ∃ g, f = upd (g) 25 (.int .i64 (k : Nat)) := ⟨f, upd_keep' (rfl) e25⟩
         refine s_add rfl rfl rfl rfl rfl (w64 (by omega)) (w_nil ?_)
         exact ⟨_, rfl, st0, st1, st2, st3, l0, l1, l2, l4, l5, l6, l7, rv0, rv1, rv2, rv3, rv4, (fun _ => rfl), rv6, rv9, trivial⟩
        | 6, hio =>
         cases hio
         have e23 := rv2 (hd ⟨2, .data⟩ (by simp) rfl)
         have e24 := rv3 (hd ⟨3, .data⟩ (by simp) rfl)
         have e26 := rv5 (hd ⟨5, .data⟩ (by simp) rfl)
         obtain ⟨g, rfl⟩ : ∃ g, f = upd (upd (upd (g) 23 (.slice (some q) lb.length capB)) 24 (.int .i64 (k : Nat))) 26 (.int .i64 ((k : Nat) + 1 : Int)) := ⟨f, upd_keep' (upd_keep' (upd_keep' (rfl) e23) e24) e26⟩
         refine s_slLH (lo := k) (hi := k + 1) (m := 1) el22 rfl rfl rfl rfl rfl rfl rfl (by omega) (by omega) (by omega) (by omega) (by omega) (w_nil ?_)
         exact ⟨_, rfl, st0, st1, st2, st3, l0, l1, l2, l4, l5, l6, l7, rv0, rv1, rv2, rv3, rv4, rv5, (fun _ => rfl), rv9, trivial⟩
        | 7, hio =>
         cases hio
         have q7 : S 7 = false := hS
         have q8 : S 8 = false := Q9 hS fun h => (hC 8 _ rfl h ⟨7, .data⟩ (by simp) rfl)
         have q10 : S 10 = false := Q9 hS fun h => (hC 10 _ rfl h ⟨7, .phase⟩ (by simp) rfl)
         have e27 := rv6 (hd ⟨6, .data⟩ (by simp) rfl)
         obtain rfl := st0 q7
         have kd : New w3 w3.drew := (Kp.refl _ _).drew
         replace o5 := o5.kp kd (fun e => e)
         replace hvo := hvo.kp kd (fun _ _ _ e => e)
         replace hvn := hvn.kp kd (fun _ _ _ e => e)
         replace hJ := hJ.kpN kd
         replace K := K.transN kd
         obtain ⟨g, rfl⟩ : ∃ g, f = upd (g) 27 (.slice (part (some q) k capB 4) 1 (capB - k)) := ⟨f, upd_keep' (rfl) e27⟩
         refine s_call1 go29 rfl (c29 (part (some q) k capB 4) (capB - k) [lb[k]] _ (hseg.kp K (fun j _ hg e => e.elim (hGB j hg).1 (hGB j hg).2)) (by simp) (fun x hx => hsb x (by simp only [List.mem_singleton] at hx; subst hx; exact List.getElem_mem _))) rfl rfl ?_
         rintro _ w4 ⟨v1, r1, rfl, hv1, kc⟩
         refine ⟨_, rfl, ?_⟩
         refine w_nil ?_
         exact ⟨_, rfl, (fun h => absurd h (by simp [ins, q8, q10])), (fun _ _ => ⟨v1, r1, rfl, hv1, kc.size, o5.kp kc (fun e => e), hvo.kp kc (fun _ _ _ e => e), hvn.kp kc (fun _ _ _ e => e), hJ.kpN kc, K.transN kc⟩), (fun h => absurd h (by simp [ins, q8, q10])), (fun h => absurd h (by simp [ins, q8, q10])), l0, l1, l2, l4, l5, l6, l7, rv0, rv1, rv2, rv3, rv4, rv5, rv6, rv9, trivial⟩
        | 8, hio =>
         cases hio
         have q7 : S 7 = true := (hd ⟨7, .data⟩ (by simp) rfl)
         have q8 : S 8 = false := hS
         have q10 : S 10 = false := Q9 hS fun h => (hC 10 _ rfl h ⟨8, .data⟩ (by simp) rfl)
         have e22 := rv1 (hd ⟨1, .data⟩ (by simp) rfl)
         obtain ⟨v1, r1, e1, hv1, hszw, o5, hvo, hvn, hJ, K⟩ := st1 q7 q8
         obtain ⟨g, rfl⟩ : ∃ g, f = upd (upd (g) 22 (.slice An new.length cn)) 28 (v1) := ⟨f, upd_keep' (upd_keep' (rfl) e22) e1⟩
         refine s_appFG (G := Gx b5 ro r) (l1 := new) (l2 := [lb[k]]) el22 rfl rfl rfl rfl rfl rfl hvn hv1 (fun j hj => ⟨by omega, fun e => by have := hro j e.symm; omega, fun e => by have := hr j e.symm; omega⟩) hrn hszw (by simp only [List.length_singleton]; omega) ?_
         intro v2 wA r2 hv2 kA hr2
         obtain ⟨A2, c2, rfl, hc2⟩ := hv2.shape
         refine w_nil ?_
         exact ⟨_, rfl, (fun h => absurd h (by simp [ins, q7, q10])), (fun _ h => absurd h (by simp [ins, q7, q10])), (fun _ _ => ⟨A2, c2, r2, rfl, o5.kp kA (fun e => absurd (hvn.rge b5 e.symm).1 (Nat.lt_irrefl _)), hvo.mv kA hr2, hv2, hJ.mv2 kA hr2 (fun e => by have := (hvn.rge lr e.symm).1; omega) (fun e => by have := (hvn.rge D e.symm).1; omega) (fun e => by have := (hvn.rge b6 e.symm).1; omega), K.trans' kA (fun j hj e => by have := (hvn.rge j e.symm).1; omega)⟩), (fun h => absurd h (by simp [ins, q7, q10])), l0, l1, l2, l4, l5, l6, l7, rv0, rv1, rv2, rv3, rv4, rv5, rv6, rv9, trivial⟩
        | 9, hio =>
         cases hio
         obtain ⟨g, rfl⟩ : ∃ g, f = upd (g) 5 (.pointer (some ⟨b5, 0, none⟩)) := ⟨f, upd_keep' (rfl) l5⟩
         refine s_fa fi60_2 rfl rfl rfl (w_nil ?_)
         exact ⟨_, rfl, st0, st1, st2, st3, l0, l1, l2, l4, l5, l6, l7, rv0, rv1, rv2, rv3, rv4, rv5, rv6, (fun _ => rfl), trivial⟩
        | 10, hio =>
         cases hio
         have q7 : S 7 = true := (hd ⟨7, .phase⟩ (by simp) rfl)
         have q8 : S 8 = true := (hd ⟨8, .data⟩ (by simp) rfl)
         have q10 : S 10 = false := hS
         have e30 := rv9 (hd ⟨9, .data⟩ (by simp) rfl)
         obtain ⟨A2, c2, r2, e2, o5, hvo, hvn, hJ, K⟩ := st2 q8 q10
         obtain ⟨g, rfl⟩ : ∃ g, f = upd (upd (g) 30 (.pointer (some (Addr.add ⟨b5, 0, none⟩ 2)))) 29 (.slice A2 (new ++ [lb[k]]).length c2) := ⟨f, upd_keep' (upd_keep' (rfl) e30) e2⟩
         refine s_st 2 sz22 (v := .slice A2 (new ++ [lb[k]]).length c2) rfl rfl rfl rfl rfl rfl rfl o5 rfl rfl rfl ?_
         clear o5; intro wS o5 ks zs
         refine w_nil ?_
         exact ⟨_, rfl, (fun h => absurd h (by simp [ins, q7, q8])), (fun _ h => absurd h (by simp [ins, q7, q8])), (fun _ h => absurd h (by simp [ins, q7, q8])), (fun _ => ⟨A2, c2, r2, o5, hvo.kp ks (fun j _ hg e => by have := hg.1; omega), hvn.kp ks (fun j _ hg e => by have := hg.1; omega), hJ.kp ks (fun (e : lr = b5) => by omega) (fun (e : D = b5) => by omega) (fun (e : b6 = b5) => by omega) (fun j _ hg (e : j = b5) => by have := hg.1; omega), K.trans' ks (fun j hj (e : j = b5) => by omega)⟩), l0, l1, l2, l4, l5, l6, l7, rv0, rv1, rv2, rv3, rv4, rv5, rv6, rv9, trivial⟩
        | k + 11, hio => exact absurd hio (by simp)
       ·intro S f w4 hS hI
        obtain ⟨st0, st1, st2, st3, l0, l1, l2, l4, l5, l6, l7, rv0, rv1, rv2, rv3, rv4, rv5, rv6, rv9, -⟩ := hI
        obtain ⟨A2, c2, r2, o5, hvo, hvn, hJ, K⟩ := st3 (hS 10 (by decide))
        obtain ⟨g, rfl⟩ : ∃ g, f = upd (upd (upd (upd (upd (upd (upd (g) 0 (.func (.yield lr) #[] #[])) 1 (.pointer (some ⟨ba, 0, none⟩))) 2 (.pointer (some ⟨bb, 0, none⟩))) 4 (.slice (some ⟨bo, 0, none⟩) (la.length + 1) (la.length + 1))) 5 (.pointer (some ⟨b5, 0, none⟩))) 6 (.int .i64 (i : Nat))) 7 (.int .i64 (k : Nat)) := ⟨f, upd_keep' (upd_keep' (upd_keep' (upd_keep' (upd_keep' (upd_keep' (upd_keep' (rfl) l0) l1) l2) l4) l5) l6) l7⟩
        clear hS st0 st1 st2 st3 l0 l1 l2 l4 l5 l6 l7 rv0 rv1 rv2 rv3 rv4 rv5 rv6 rv9
        refine then_n (c_reg (mvI rfl rfl rfl (s_add rfl rfl rfl rfl rfl (w64 (by omega)) (asI rfl rfl rfl (w_nil (inb_n (inb_n (then_n ?_))))))))
        exact ⟨_, _, by omega, rfl, _, i, k + 1, es, r, old, ro, _, _, r2, _, i0, k0, rfl, by omega, by omega, (upd_keep' (upd_keep' (upd_keep' (upd_keep' (upd_keep' (upd_keep' (upd_keep' rfl rfl) rfl) rfl) rfl) rfl) rfl) rfl), by omega, by omega, hold, by rw [drop_take_succ hk0 hlk, hnew], hch, hes, o5, hvo, hvn, hJ, K⟩
  ·have hlk9 := hlk
   obtain ⟨p, va, hpA, hgp, hp, hva⟩ := hA.2 i _ (List.getElem?_eq_getElem hli)
   subst hpA
   have hp1 := hp
   refine c_draw' (fun S f w => New w0 w ∧ f 0 = .func (.yield lr) #[] #[] ∧ f 1 = .pointer (some ⟨ba, 0, none⟩) ∧ f 2 = .pointer (some ⟨bb, 0, none⟩) ∧ f 4 = .slice (some ⟨bo, 0, none⟩) (la.length + 1) (la.length + 1) ∧ f 5 = .pointer (some ⟨b5, 0, none⟩) ∧ f 6 = .int .i64 (i : Nat) ∧ f 7 = .int .i64 (k : Nat) ∧ (S 0 = true → f 34 = .int .i64 (i : Nat)) ∧ (S 1 = true → f 35 = .slice (some p) la.length capA) ∧ (S 2 = true → f 36 = .int .i64 (la.length : Nat)) ∧ (S 3 = true → f 37 = .bool true) ∧ (S 4 = true → f 38 = .bool true) ∧ (S 5 = true → f 39 = .int .i64 (k : Nat)) ∧ (S 6 = true → f 40 = .slice B lb.length capB) ∧ (S 7 = true → f 41 = .int .i64 (lb.length : Nat)) ∧ (S 8 = true → f 42 = .bool false) ∧ (S 9 = true → f 43 = .bool false) ∧ (S 10 = true → f 44 = .bool false) ∧ (S 11 = true → f 45 = undef) ∧ (S 12 = true → f 46 = undef) ∧ (S 13 = true → f 47 = undef) ∧ (S 14 = true → f 48 = undef) ∧ (S 15 = true → f 49 = undef) ∧ (S 16 = true → f 50 = undef) ∧ (S 17 = true → f 51 = undef) ∧ (S 18 = true → f 52 = undef) ∧ (S 19 = true → f 53 = undef) ∧ (S 20 = true → f 54 = .bool false) ∧ (S 21 = true → f 33 = .bool false) ∧ True) (by kernel_rfl) ⟨(Kp.refl _ _).drew, rfl, rfl, rfl, rfl, rfl, rfl, rfl, (fun h => by cases h), (fun h => by cases h), (fun h => by cases h), (fun h => by cases h), (fun h => by cases h), (fun h => by cases h), (fun h => by cases h), (fun h => by cases h), (fun h => by cases h), (fun h => by cases h), (fun h => by cases h), (fun h => by cases h), (fun h => by cases h), (fun h => by cases h), (fun h => by cases h), (fun h => by cases h), (fun h => by cases h), (fun h => by cases h), (fun h => by cases h), (fun h => by cases h), (fun h => by cases h), (fun h => by cases h), trivial⟩ ?_ ?_
   ·intro io opx hio S f w hd hI
    obtain ⟨kR, l0, l1, l2, l4, l5, l6, l7, rv0, rv1, rv2, rv3, rv4, rv5, rv6, rv7, rv8, rv9, rv10, rv11, rv12, rv13, rv14, rv15, rv16, rv17, rv18, rv19, rv20, rv21, -⟩ := hI
    match io, hio with
    | 0, hio =>
     cases hio
     obtain ⟨g, rfl⟩ : ∃ g, f = upd (g) 6 (.int .i64 (i : Nat)) := ⟨f, upd_keep' (rfl) l6⟩
     refine mvI rfl rfl rfl (w_nil ?_)
     exact ⟨_, rfl, kR, l0, l1, l2, l4, l5, l6, l7, (fun _ => rfl), rv1, rv2, rv3, rv4, rv5, rv6, rv7, rv8, rv9, rv10, rv11, rv12, rv13, rv14, rv15, rv16, rv17, rv18, rv19, rv20, rv21, trivial⟩
    | 1, hio =>
     cases hio
     obtain ⟨g, rfl⟩ : ∃ g, f = upd (g) 1 (.pointer (some ⟨ba, 0, none⟩)) := ⟨f, upd_keep' (rfl) l1⟩
     refine s_ld1 (v := .slice _ _ _) on22 rfl rfl rfl ((hoA.kp (K.transN kR) (fun e => e.elim hba.1 hba.2)).get 0 rfl) (w_nil ?_)
     exact ⟨_, rfl, kR, l0, l1, l2, l4, l5, l6, l7, rv0, (fun _ => rfl), rv2, rv3, rv4, rv5, rv6, rv7, rv8, rv9, rv10, rv11, rv12, rv13, rv14, rv15, rv16, rv17, rv18, rv19, rv20, rv21, trivial⟩
    | 2, hio =>
     cases hio
     have e35 := rv1 (hd ⟨1, .data⟩ (by simp) rfl)
     obtain ⟨g, rfl⟩ : ∃ g, f = upd (g) 35 (.slice (some p) la.length capA) := ⟨f, upd_keep' (rfl) e35⟩
     refine s_lenL Tryz.underlying22 rfl rfl rfl (w_nil ?_)
     exact ⟨_, rfl, kR, l0, l1, l2, l4, l5, l6, l7, rv0, rv1, (fun _ => rfl), rv3, rv4, rv5, rv6, rv7, rv8, rv9, rv10, rv11, rv12, rv13, rv14, rv15, rv16, rv17, rv18, rv19, rv20, rv21, trivial⟩
    | 3, hio =>
     cases hio
     have e34 := rv0 (hd ⟨0, .data⟩ (by simp) rfl)
     have e36 := rv2 (hd ⟨2, .data⟩ (by simp) rfl)
     obtain ⟨g, rfl⟩ : ∃ g, f = upd (upd (g) 34 (.int .i64 (i : Nat))) 36 (.int .i64 (la.length : Nat)) := ⟨f, upd_keep' (upd_keep' (rfl) e34) e36⟩
     refine s_lss rfl rfl rfl rfl rfl (decide_eq_true (by omega)) (w_nil ?_)
     exact ⟨_, rfl, kR, l0, l1, l2, l4, l5, l6, l7, rv0, rv1, rv2, (fun _ => rfl), rv4, rv5, rv6, rv7, rv8, rv9, rv10, rv11, rv12, rv13, rv14, rv15, rv16, rv17, rv18, rv19, rv20, rv21, trivial⟩
    | 4, hio =>
     cases hio
     have e37 := rv3 (hd ⟨3, .data⟩ (by simp) rfl)
     obtain ⟨g, rfl⟩ : ∃ g, f = upd (g) 37 (.bool true) := ⟨f, upd_keep' (rfl) e37⟩
     refine mvB rfl rfl rfl (w_nil ?_)
     exact ⟨_, rfl, kR, l0, l1, l2, l4, l5, l6, l7, rv0, rv1, rv2, rv3, (fun _ => rfl), rv5, rv6, rv7, rv8, rv9, rv10, rv11, rv12, rv13, rv14, rv15, rv16, rv17, rv18, rv19, rv20, rv21, trivial⟩
    | 5, hio =>
     cases hio
     have e38 := rv4 (hd ⟨4, .guard⟩ (by simp) rfl)
     obtain ⟨g, rfl⟩ : ∃ g, f = upd (upd (g) 7 (.int .i64 (k : Nat))) 38 (.bool true) := ⟨f, upd_keep' (upd_keep' (rfl) l7) e38⟩
     refine mvI rfl rfl rfl (w_nil ?_)
     exact ⟨_, rfl, kR, l0, l1, l2, l4, l5, l6, l7, rv0, rv1, rv2, rv3, rv4, (fun _ => rfl), rv6, rv7, rv8, rv9, rv10, rv11, rv12, rv13, rv14, rv15, rv16, rv17, rv18, rv19, rv20, rv21, trivial⟩
    | 6, hio =>
     cases hio
     have e38 := rv4 (hd ⟨4, .guard⟩ (by simp) rfl)
     obtain ⟨g, rfl⟩ : ∃ g, f = upd (upd (g) 2 (.pointer (some ⟨bb, 0, none⟩))) 38 (.bool true) := ⟨f, upd_keep' (upd_keep' (rfl) l2) e38⟩
     refine s_ld1 (v := .slice _ _ _) on22 rfl rfl rfl ((hoB.kp (K.transN kR) (fun e => e.elim hbb.1 hbb.2)).get 0 rfl) (w_nil ?_)
     exact ⟨_, rfl, kR, l0, l1, l2, l4, l5, l6, l7, rv0, rv1, rv2, rv3, rv4, rv5, (fun _ => rfl), rv7, rv8, rv9, rv10, rv11, rv12, rv13, rv14, rv15, rv16, rv17, rv18, rv19, rv20, rv21, trivial⟩
    | 7, hio =>
     cases hio
     have e40 := rv6 (hd ⟨6, .data⟩ (by simp) rfl)
     have e38 := rv4 (hd ⟨4, .guard⟩ (by simp) rfl)
     obtain ⟨g, rfl⟩ : ∃ g, f = upd (upd (g) 40 (.slice B lb.length capB)) 38 (.bool true) := ⟨f, upd_keep' (upd_keep' (rfl) e40) e38⟩
     refine s_lenL Tryz.underlying22 rfl rfl rfl (w_nil ?_)
     exact ⟨_, rfl, kR, l0, l1, l2, l4, l5, l6, l7, rv0, rv1, rv2, rv3, rv4, rv5, rv6, (fun _ => rfl), rv8, rv9, rv10, rv11, rv12, rv13, rv14, rv15, rv16, rv17, rv18, rv19, rv20, rv21, trivial⟩
    | 8, hio =>
     cases hio
     have e39 := rv5 (hd ⟨5, .data⟩ (by simp) rfl)
     have e41 := rv7 (hd ⟨7, .data⟩ (by simp) rfl)
     have e38 := rv4 (hd ⟨4, .guard⟩ (by simp) rfl)
     obtain ⟨g, rfl⟩ : ∃ g, f = upd (upd (upd (g) 39 (.int .i64 (k : Nat))) 41 (.int .i64 (lb.length : Nat))) 38 (.bool true) := ⟨f, upd_keep' (upd_keep' (upd_keep' (rfl) e39) e41) e38⟩
     refine s_lss rfl rfl rfl rfl rfl (decide_eq_false (by omega)) (w_nil ?_)
     exact ⟨_, rfl, kR, l0, l1, l2, l4, l5, l6, l7, rv0, rv1, rv2, rv3, rv4, rv5, rv6, rv7, (fun _ => rfl), rv9, rv10, rv11, rv12, rv13, rv14, rv15, rv16, rv17, rv18, rv19, rv20, rv21, trivial⟩
    | 9, hio =>
     cases hio
     have e38 := rv4 (hd ⟨4, .data⟩ (by simp) rfl)
     have e42 := rv8 (hd ⟨8, .data⟩ (by simp) rfl)
     obtain ⟨g, rfl⟩ : ∃ g, f = upd (upd (g) 38 (.bool true)) 42 (.bool false) := ⟨f, upd_keep' (upd_keep' (rfl) e38) e42⟩
     refine pTB rfl rfl rfl rfl rfl (w_nil ?_)
     exact ⟨_, rfl, kR, l0, l1, l2, l4, l5, l6, l7, rv0, rv1, rv2, rv3, rv4, rv5, rv6, rv7, rv8, (fun _ => rfl), rv10, rv11, rv12, rv13, rv14, rv15, rv16, rv17, rv18, rv19, rv20, rv21, trivial⟩
    | 10, hio =>
     cases hio
     have e43 := rv9 (hd ⟨9, .data⟩ (by simp) rfl)
     obtain ⟨g, rfl⟩ : ∃ g, f = upd (g) 43 (.bool false) := ⟨f, upd_keep' (rfl) e43⟩
     refine mvB rfl rfl rfl (w_nil ?_)
     exact ⟨_, rfl, kR, l0, l1, l2, l4, l5, l6, l7, rv0, rv1, rv2, rv3, rv4, rv5, rv6, rv7, rv8, rv9, (fun _ => rfl), rv11, rv12, rv13, rv14, rv15, rv16, rv17, rv18, rv19, rv20, rv21, trivial⟩
    | 11, hio =>
     cases hio
     have e44 := rv10 (hd ⟨10, .guard⟩ (by simp) rfl)
     obtain ⟨g, rfl⟩ : ∃ g, f = upd (upd (g) 1 (.pointer (some ⟨ba, 0, none⟩))) 44 (.bool false) := ⟨f, upd_keep' (upd_keep' (rfl) l1) e44⟩
     refine st_skip rfl (w_nil ?_)
     exact ⟨_, rfl, kR, l0, l1, l2, l4, l5, l6, l7, rv0, rv1, rv2, rv3, rv4, rv5, rv6, rv7, rv8, rv9, rv10, (fun _ => rfl), rv12, rv13, rv14, rv15, rv16, rv17, rv18, rv19, rv20, rv21, trivial⟩
    | 12, hio =>
     cases hio
     have e44 := rv10 (hd ⟨10, .guard⟩ (by simp) rfl)
     obtain ⟨g, rfl⟩ : ∃ g, f = upd (upd (g) 6 (.int .i64 (i : Nat))) 44 (.bool false) := ⟨f, upd_keep' (upd_keep' (rfl) l6) e44⟩
     refine st_skip rfl (w_nil ?_)
     exact ⟨_, rfl, kR, l0, l1, l2, l4, l5, l6, l7, rv0, rv1, rv2, rv3, rv4, rv5, rv6, rv7, rv8, rv9, rv10, rv11, (fun _ => rfl), rv13, rv14, rv15, rv16, rv17, rv18, rv19, rv20, rv21, trivial⟩
    | 13, hio =>
     cases hio
     have e45 := rv11 (hd ⟨11, .data⟩ (by simp) rfl)
     have e46 := rv12 (hd ⟨12, .data⟩ (by simp) rfl)
     have e44 := rv10 (hd ⟨10, .guard⟩ (by simp) rfl)
     obtain ⟨g, rfl⟩ : ∃ g, f = upd (upd (upd (g) 45 (undef)) 46 (undef)) 44 (.bool false) := ⟨f, upd_keep' (upd_keep' (upd_keep' (rfl) e45) e46) e44⟩
     refine st_skip rfl (w_nil ?_)
     exact ⟨_, rfl, kR, l0, l1, l2, l4, l5, l6, l7, rv0, rv1, rv2, rv3, rv4, rv5, rv6, rv7, rv8, rv9, rv10, rv11, rv12, (fun _ => rfl), rv14, rv15, rv16, rv17, rv18, rv19, rv20, rv21, trivial⟩
    | 14, hio =>
     cases hio
     have e47 := rv13 (hd ⟨13, .data⟩ (by simp) rfl)
     have e44 := rv10 (hd ⟨10, .guard⟩ (by simp) rfl)
     obtain ⟨g, rfl⟩ : ∃ g, f = upd (upd (g) 47 (undef)) 44 (.bool false) := ⟨f, upd_keep' (upd_keep' (rfl) e47) e44⟩
     refine st_skip rfl (w_nil ?_)
     exact ⟨_, rfl, kR, l0, l1, l2, l4, l5, l6, l7, rv0, rv1, rv2, rv3, rv4, rv5, rv6, rv7, rv8, rv9, rv10, rv11, rv12, rv13, (fun _ => rfl), rv15, rv16, rv17, rv18, rv19, rv20, rv21, trivial⟩
    | 15, hio =>
     cases hio
     have e44 := rv10 (hd ⟨10, .guard⟩ (by simp) rfl)
     obtain ⟨g, rfl⟩ : ∃ g, f = upd (upd (g) 2 (.pointer (some ⟨bb, 0, none⟩))) 44 (.bool false) := ⟨f, upd_keep' (upd_keep' (rfl) l2) e44⟩
     refine st_skip rfl (w_nil ?_)
     exact ⟨_, rfl, kR, l0, l1, l2, l4, l5, l6, l7, rv0, rv1, rv2, rv3, rv4, rv5, rv6, rv7, rv8, rv9, rv10, rv11, rv12, rv13, rv14, (fun _ => rfl), rv16, rv17, rv18, rv19, rv20, rv21, trivial⟩
    | 16, hio =>
     cases hio
     have e44 := rv10 (hd ⟨10, .guard⟩ (by simp) rfl)
     obtain ⟨g, rfl⟩ : ∃ g, f = upd (upd (g) 7 (.int .i64 (k : Nat))) 44 (.bool false) := ⟨f, upd_keep' (upd_keep' (rfl) l7) e44⟩
     refine st_skip rfl (w_nil ?_)
     exact ⟨_, rfl, kR, l0, l1, l2, l4, l5, l6, l7, rv0, rv1, rv2, rv3, rv4, rv5, rv6, rv7, rv8, rv9, rv10, rv11, rv12, rv13, rv14, rv15, (fun _ => rfl), rv17, rv18, rv19, rv20, rv21, trivial⟩
    | 17, hio =>
     cases hio
     have e49 := rv15 (hd ⟨15, .data⟩ (by simp) rfl)
     have e50 := rv16 (hd ⟨16, .data⟩ (by simp) rfl)
     have e44 := rv10 (hd ⟨10, .guard⟩ (by simp) rfl)
     obtain ⟨g, rfl⟩ : ∃ g, f = upd (upd (upd (g) 49 (undef)) 50 (undef)) 44 (.bool false) := ⟨f, upd_keep' (upd_keep' (upd_keep' (rfl) e49) e50) e44⟩
     refine st_skip rfl (w_nil ?_)
     exact ⟨_, rfl, kR, l0, l1, l2, l4, l5, l6, l7, rv0, rv1, rv2, rv3, rv4, rv5, rv6, rv7, rv8, rv9, rv10, rv11, rv12, rv13, rv14, rv15, rv16, (fun _ => rfl), rv18, rv19, rv20, rv21, trivial⟩
    | 18, hio =>
     cases hio
     have e51 := rv17 (hd ⟨17, .data⟩ (by simp) rfl)
     have e44 := rv10 (hd ⟨10, .guard⟩ (by simp) rfl)
     obtain ⟨g, rfl⟩ : ∃ g, f = upd (upd (g) 51 (undef)) 44 (.bool false) := ⟨f, upd_keep' (upd_keep' (rfl) e51) e44⟩
     refine st_skip rfl (w_nil ?_)
     exact ⟨_, rfl, kR, l0, l1, l2, l4, l5, l6, l7, rv0, rv1, rv2, rv3, rv4, rv5, rv6, rv7, rv8, rv9, rv10, rv11, rv12, rv13, rv14, rv15, rv16, rv17, (fun _ => rfl), rv19, rv20, rv21, trivial⟩
    | 19, hio =>
     cases hio
     have e48 := rv14 (hd ⟨14, .data⟩ (by simp) rfl)
     have e52 := rv18 (hd ⟨18, .data⟩ (by simp) rfl)
     have e44 := rv10 (hd ⟨10, .chain⟩ (by simp) rfl)
     obtain ⟨g, rfl⟩ : ∃ g, f = upd (upd (upd (g) 48 (undef)) 52 (undef)) 44 (.bool false) := ⟨f, upd_keep' (upd_keep' (upd_keep' (rfl) e48) e52) e44⟩
     refine st_skip rfl (w_nil ?_)
     exact ⟨_, rfl, kR, l0, l1, l2, l4, l5, l6, l7, rv0, rv1, rv2, rv3, rv4, rv5, rv6, rv7, rv8, rv9, rv10, rv11, rv12, rv13, rv14, rv15, rv16, rv17, rv18, (fun _ => rfl), rv20, rv21, trivial⟩
    | 20, hio =>
     cases hio
     have e44 := rv10 (hd ⟨10, .data⟩ (by simp) rfl)
     have e53 := rv19 (hd ⟨19, .data⟩ (by simp) rfl)
     obtain ⟨g, rfl⟩ : ∃ g, f = upd (upd (g) 44 (.bool false)) 53 (undef) := ⟨f, upd_keep' (upd_keep' (rfl) e44) e53⟩
     refine pFB rfl rfl rfl rfl rfl (w_nil ?_)
     exact ⟨_, rfl, kR, l0, l1, l2, l4, l5, l6, l7, rv0, rv1, rv2, rv3, rv4, rv5, rv6, rv7, rv8, rv9, rv10, rv11, rv12, rv13, rv14, rv15, rv16, rv17, rv18, rv19, (fun _ => rfl), rv21, trivial⟩
    | 21, hio =>
     cases hio
     have e54 := rv20 (hd ⟨20, .data⟩ (by simp) rfl)
     obtain ⟨g, rfl⟩ : ∃ g, f = upd (g) 54 (.bool false) := ⟨f, upd_keep' (rfl) e54⟩
     refine asB rfl rfl rfl (w_nil ?_)
     exact ⟨_, rfl, kR, l0, l1, l2, l4, l5, l6, l7, rv0, rv1, rv2, rv3, rv4, rv5, rv6, rv7, rv8, rv9, rv10, rv11, rv12, rv13, rv14, rv15, rv16, rv17, rv18, rv19, rv20, (fun _ => rfl), trivial⟩
    | k + 22, hio => exact absurd hio (by simp)
   ·intro S f w2 hS hI
    obtain ⟨kR, l0, l1, l2, l4, l5, l6, l7, rv0, rv1, rv2, rv3, rv4, rv5, rv6, rv7, rv8, rv9, rv10, rv11, rv12, rv13, rv14, rv15, rv16, rv17, rv18, rv19, rv20, rv21, -⟩ := hI
    obtain ⟨g, rfl⟩ : ∃ g, f = upd (upd (upd (upd (upd (upd (upd (upd (g) 0 (.func (.yield lr) #[] #[])) 1 (.pointer (some ⟨ba, 0, none⟩))) 2 (.pointer (some ⟨bb, 0, none⟩))) 4 (.slice (some ⟨bo, 0, none⟩) (la.length + 1) (la.length + 1))) 5 (.pointer (some ⟨b5, 0, none⟩))) 6 (.int .i64 (i : Nat))) 7 (.int .i64 (k : Nat))) 33 (.bool false) := ⟨f, upd_keep' (upd_keep' (upd_keep' (upd_keep' (upd_keep' (upd_keep' (upd_keep' (upd_keep' (rfl) l0) l1) l2) l4) l5) l6) l7) (rv21 (hS 21 (by decide)))⟩
    clear hS l0 l1 l2 l4 l5 l6 l7 rv0 rv1 rv2 rv3 rv4 rv5 rv6 rv7 rv8 rv9 rv10 rv11 rv12 rv13 rv14 rv15 rv16 rv17 rv18 rv19 rv20 rv21
    replace o5 := o5.kp kR (fun e => e)
    replace hvo := hvo.kp kR (fun _ _ _ e => e)
    replace hvn := hvn.kp kR (fun _ _ _ e => e)
    replace hJ := hJ.kpN kR
    replace K := K.transN kR
    refine then_n (c_F rfl rfl (wp_seq ?_))
    refine c_draw' (fun S f w => New w2 w ∧ f 0 = .func (.yield lr) #[] #[] ∧ f 1 = .pointer (some ⟨ba, 0, none⟩) ∧ f 2 = .pointer (some ⟨bb, 0, none⟩) ∧ f 4 = .slice (some ⟨bo, 0, none⟩) (la.length + 1) (la.length + 1) ∧ f 5 = .pointer (some ⟨b5, 0, none⟩) ∧ f 6 = .int .i64 (i : Nat) ∧ f 7 = .int .i64 (k : Nat) ∧ (S 0 = true → f 76 = .int .i64 (i : Nat)) ∧ (S 1 = true → f 77 = .slice (some p) la.length capA) ∧ (S 2 = true → f 78 = .int .i64 (la.length : Nat)) ∧ (S 3 = true → f 79 = .bool true) ∧ (S 4 = true → f 80 = .bool true) ∧ (S 5 = true → f 81 = .int .i64 (k : Nat)) ∧ (S 6 = true → f 82 = .slice B lb.length capB) ∧ (S 7 = true → f 83 = .int .i64 (lb.length : Nat)) ∧ (S 8 = true → f 84 = .bool true) ∧ (S 9 = true → f 85 = .bool true) ∧ (S 10 = true → f 86 = undef) ∧ (S 11 = true → f 87 = undef) ∧ (S 12 = true → f 88 = undef) ∧ (S 13 = true → f 89 = undef) ∧ (S 14 = true → f 90 = undef) ∧ (S 15 = true → f 91 = undef) ∧ (S 16 = true → f 92 = undef) ∧ (S 17 = true → f 93 = undef) ∧ (S 18 = true → f 94 = undef) ∧ (S 19 = true → f 95 = undef) ∧ (S 20 = true → f 96 = undef) ∧ (S 21 = true → f 97 = undef) ∧ (S 22 = true → f 98 = undef) ∧ (S 23 = true → f 99 = undef) ∧ (S 24 = true → f 100 = undef) ∧ (S 25 = true → f 101 = undef) ∧ (S 26 = true → f 102 = undef) ∧ (S 27 = true → f 103 = .bool true) ∧ (S 28 = true → f 104 = .bool true) ∧ (S 29 = true → f 75 = .bool true) ∧ True) (by kernel_rfl) ⟨(Kp.refl _ _).drew, rfl, rfl, rfl, rfl, rfl, rfl, rfl, (fun h => by cases h), (fun h => by cases h), (fun h => by cases h), (fun h => by cases h), (fun h => by cases h), (fun h => by cases h), (fun h => by cases h), (fun h => by cases h), (fun h => by cases h), (fun h => by cases h), (fun h => by cases h), (fun h => by cases h), (fun h => by cases h), (fun h => by cases h), (fun h => by cases h), (fun h => by cases h), (fun h => by cases h), (fun h => by cases h), (fun h => by cases h), (fun h => by cases h), (fun h => by cases h), (fun h => by cases h), (fun h => by cases h), (fun h => by cases h), (fun h => by cases h), (fun h => by cases h), (fun h => by cases h), (fun h => by cases h), (fun h => by cases h), (fun h => by cases h), trivial⟩ ?_ ?_
    ·intro io opx hio S f w hd hI
     obtain ⟨kR, l0, l1, l2, l4, l5, l6, l7, rv0, rv1, rv2, rv3, rv4, rv5, rv6, rv7, rv8, rv9, rv10, rv11, rv12, rv13, rv14, rv15, rv16, rv17, rv18, rv19, rv20, rv21, rv22, rv23, rv24, rv25, rv26, rv27, rv28, rv29, -⟩ := hI
     match io, hio with
     | 0, hio =>
      cases hio
      obtain ⟨g, rfl⟩ : ∃ g, f = upd (g) 6 (.int .i64 (i : Nat)) := ⟨f, upd_keep' (rfl) l6⟩
      refine mvI rfl rfl rfl (w_nil ?_)
      exact ⟨_, rfl, kR, l0, l1, l2, l4, l5, l6, l7, (fun _ => rfl), rv1, rv2, rv3, rv4, rv5, rv6, rv7, rv8, rv9, rv10, rv11, rv12, rv13, rv14, rv15, rv16, rv17, rv18, rv19, rv20, rv21, rv22, rv23, rv24, rv25, rv26, rv27, rv28, rv29, trivial⟩
     | 1, hio =>
      cases hio
      obtain ⟨g, rfl⟩ : ∃ g, f = upd (g) 1 (.pointer (some ⟨ba, 0, none⟩)) := ⟨f, upd_keep' (rfl) l1⟩
      refine s_ld1 (v := .slice _ _ _) on22 rfl rfl rfl ((hoA.kp (K.transN kR) (fun e => e.elim hba.1 hba.2)).get 0 rfl) (w_nil ?_)
      exact ⟨_, rfl, kR, l0, l1, l2, l4, l5, l6, l7, rv0, (fun _ => rfl), rv2, rv3, rv4, rv5, rv6, rv7, rv8, rv9, rv10, rv11, rv12, rv13, rv14, rv15, rv16, rv17, rv18, rv19, rv20, rv21, rv22, rv23, rv24, rv25, rv26, rv27, rv28, rv29, trivial⟩
     | 2, hio =>
      cases hio
      have e77 := rv1 (hd ⟨1, .data⟩ (by simp) rfl)
      obtain ⟨g, rfl⟩ : ∃ g, f = upd (g) 77 (.slice (some p) la.length capA) := ⟨f, upd_keep' (rfl) e77⟩
      refine s_lenL Tryz.underlying22 rfl rfl rfl (w_nil ?_)
      exact ⟨_, rfl, kR, l0, l1, l2, l4, l5, l6, l7, rv0, rv1, (fun _ => rfl), rv3, rv4, rv5, rv6, rv7, rv8, rv9, rv10, rv11, rv12, rv13, rv14, rv15, rv16, rv17, rv18, rv19, rv20, rv21, rv22, rv23, rv24, rv25, rv26, rv27, rv28, rv29, trivial⟩
     | 3, hio =>
      cases hio
      have e76 := rv0 (hd ⟨0, .data⟩ (by simp) rfl)
      have e78 := rv2 (hd ⟨2, .data⟩ (by simp) rfl)
      obtain ⟨g, rfl⟩ : ∃ g, f = upd (upd (g) 76 (.int .i64 (i : Nat))) 78 (.int .i64 (la.length : Nat)) := ⟨f, upd_keep' (upd_keep' (rfl) e76) e78⟩
      refine s_lss rfl rfl rfl rfl rfl (decide_eq_true (by omega)) (w_nil ?_)
      exact ⟨_, rfl, kR, l0, l1, l2, l4, l5, l6, l7, rv0, rv1, rv2, (fun _ => rfl), rv4, rv5, rv6, rv7, rv8, rv9, rv10, rv11, rv12, rv13, rv14, rv15, rv16, rv17, rv18, rv19, rv20, rv21, rv22, rv23, rv24, rv25, rv26, rv27, rv28, rv29, trivial⟩
     | 4, hio =>
      cases hio
      have e79 := rv3 (hd ⟨3, .data⟩ (by simp) rfl)
      obtain ⟨g, rfl⟩ : ∃ g, f = upd (g) 79 (.bool true) := ⟨f, upd_keep' (rfl) e79⟩
      refine mvB rfl rfl rfl (w_nil ?_)
      exact ⟨_, rfl, kR, l0, l1, l2, l4, l5, l6, l7, rv0, rv1, rv2, rv3, (fun _ => rfl), rv5, rv6, rv7, rv8, rv9, rv10, rv11, rv12, rv13, rv14, rv15, rv16, rv17, rv18, rv19, rv20, rv21, rv22, rv23, rv24, rv25, rv26, rv27, rv28, rv29, trivial⟩
     | 5, hio =>
      cases hio
      have e80 := rv4 (hd ⟨4, .guard⟩ (by simp) rfl)
      obtain ⟨g, rfl⟩ : ∃ g, f = upd (upd (g) 7 (.int .i64 (k : Nat))) 80 (.bool true) := ⟨f, upd_keep' (upd_keep' (rfl) l7) e80⟩
      refine mvI rfl rfl rfl (w_nil ?_)
      exact ⟨_, rfl, kR, l0, l1, l2, l4, l5, l6, l7, rv0, rv1, rv2, rv3, rv4, (fun _ => rfl), rv6, rv7, rv8, rv9, rv10, rv11, rv12, rv13, rv14, rv15, rv16, rv17, rv18, rv19, rv20, rv21, rv22, rv23, rv24, rv25, rv26, rv27, rv28, rv29, trivial⟩
     | 6, hio =>
      cases hio
      have e80 := rv4 (hd ⟨4, .guard⟩ (by simp) rfl)
      obtain ⟨g, rfl⟩ : ∃ g, f = upd (upd (g) 2 (.pointer (some ⟨bb, 0, none⟩))) 80 (.bool true) := ⟨f, upd_keep' (upd_keep' (rfl) l2) e80⟩
      refine s_ld1 (v := .slice _ _ _) on22 rfl rfl rfl ((hoB.kp (K.transN kR) (fun e => e.elim hbb.1 hbb.2)).get 0 rfl) (w_nil ?_)
      exact ⟨_, rfl, kR, l0, l1, l2, l4, l5, l6, l7, rv0, rv1, rv2, rv3, rv4, rv5, (fun _ => rfl), rv7, rv8, rv9, rv10, rv11, rv12, rv13, rv14, rv15, rv16, rv17, rv18, rv19, rv20, rv21, rv22, rv23, rv24, rv25, rv26, rv27, rv28, rv29, trivial⟩
     | 7, hio =>
      cases hio
      have e82 := rv6 (hd ⟨6, .data⟩ (by simp) rfl)
      have e80 := rv4 (hd ⟨4, .guard⟩ (by simp) rfl)
      obtain ⟨g, rfl⟩ : ∃ g, f = upd (upd (g) 82 (.slice B lb.length capB)) 80 (.bool true) := ⟨f, upd_keep' (upd_keep' (rfl) e82) e80⟩
      refine s_lenL Tryz.underlying22 rfl rfl rfl (w_nil ?_)
      exact ⟨_, rfl, kR, l0, l1, l2, l4, l5, l6, l7, rv0, rv1, rv2, rv3, rv4, rv5, rv6, (fun _ => rfl), rv8, rv9, rv10, rv11, rv12, rv13, rv14, rv15, rv16, rv17, rv18, rv19, rv20, rv21, rv22, rv23, rv24, rv25, rv26, rv27, rv28, rv29, trivial⟩
     | 8, hio =>
      cases hio
      have e81 := rv5 (hd ⟨5, .data⟩ (by simp) rfl)
      have e83 := rv7 (hd ⟨7, .data⟩ (by simp) rfl)
      have e80 := rv4 (hd ⟨4, .guard⟩ (by simp) rfl)
      obtain ⟨g, rfl⟩ : ∃ g, f = upd (upd (upd (g) 81 (.int .i64 (k : Nat))) 83 (.int .i64 (lb.length : Nat))) 80 (.bool true) := ⟨f, upd_keep' (upd_keep' (upd_keep' (rfl) e81) e83) e80⟩
      refine s_eq rfl rfl rfl rfl rfl (decide_eq_true (by omega)) (w_nil ?_)
      exact ⟨_, rfl, kR, l0, l1, l2, l4, l5, l6, l7, rv0, rv1, rv2, rv3, rv4, rv5, rv6, rv7, (fun _ => rfl), rv9, rv10, rv11, rv12, rv13, rv14, rv15, rv16, rv17, rv18, rv19, rv20, rv21, rv22, rv23, rv24, rv25, rv26, rv27, rv28, rv29, trivial⟩
     | 9, hio =>
      cases hio
      have e84 := rv8 (hd ⟨8, .data⟩ (by simp) rfl)
      have e80 := rv4 (hd ⟨4, .chain⟩ (by simp) rfl)
      obtain ⟨g, rfl⟩ : ∃ g, f = upd (upd (g) 84 (.bool true)) 80 (.bool true) := ⟨f, upd_keep' (upd_keep' (rfl) e84) e80⟩
      refine mvB rfl rfl rfl (w_nil ?_)
      exact ⟨_, rfl, kR, l0, l1, l2, l4, l5, l6, l7, rv0, rv1, rv2, rv3, rv4, rv5, rv6, rv7, rv8, (fun _ => rfl), rv10, rv11, rv12, rv13, rv14, rv15, rv16, rv17, rv18, rv19, rv20, rv21, rv22, rv23, rv24, rv25, rv26, rv27, rv28, rv29, trivial⟩
     | 10, hio =>
      cases hio
      have e85 := rv9 (hd ⟨9, .guard⟩ (by simp) rfl)
      obtain ⟨g, rfl⟩ : ∃ g, f = upd (upd (g) 4 (.slice (some ⟨bo, 0, none⟩) (la.length + 1) (la.length + 1))) 85 (.bool true) := ⟨f, upd_keep' (upd_keep' (rfl) l4) e85⟩
      refine st_skip rfl (w_nil ?_)
      exact ⟨_, rfl, kR, l0, l1, l2, l4, l5, l6, l7, rv0, rv1, rv2, rv3, rv4, rv5, rv6, rv7, rv8, rv9, (fun _ => rfl), rv11, rv12, rv13, rv14, rv15, rv16, rv17, rv18, rv19, rv20, rv21, rv22, rv23, rv24, rv25, rv26, rv27, rv28, rv29, trivial⟩
     | 11, hio =>
      cases hio
      have e85 := rv9 (hd ⟨9, .guard⟩ (by simp) rfl)
      obtain ⟨g, rfl⟩ : ∃ g, f = upd (upd (g) 6 (.int .i64 (i : Nat))) 85 (.bool true) := ⟨f, upd_keep' (upd_keep' (rfl) l6) e85⟩
      refine st_skip rfl (w_nil ?_)
      exact ⟨_, rfl, kR, l0, l1, l2, l4, l5, l6, l7, rv0, rv1, rv2, rv3, rv4, rv5, rv6, rv7, rv8, rv9, rv10, (fun _ => rfl), rv12, rv13, rv14, rv15, rv16, rv17, rv18, rv19, rv20, rv21, rv22, rv23, rv24, rv25, rv26, rv27, rv28, rv29, trivial⟩
     | 12, hio =>
      cases hio
      have e87 := rv11 (hd ⟨11, .data⟩ (by simp) rfl)
      have e85 := rv9 (hd ⟨9, .guard⟩ (by simp) rfl)
      obtain ⟨g, rfl⟩ : ∃ g, f = upd (upd (g) 87 (undef)) 85 (.bool true) := ⟨f, upd_keep' (upd_keep' (rfl) e87) e85⟩
      refine st_skip rfl (w_nil ?_)
      exact ⟨_, rfl, kR, l0, l1, l2, l4, l5, l6, l7, rv0, rv1, rv2, rv3, rv4, rv5, rv6, rv7, rv8, rv9, rv10, rv11, (fun _ => rfl), rv13, rv14, rv15, rv16, rv17, rv18, rv19, rv20, rv21, rv22, rv23, rv24, rv25, rv26, rv27, rv28, rv29, trivial⟩
     | 13, hio =>
      cases hio
      have e86 := rv10 (hd ⟨10, .data⟩ (by simp) rfl)
      have e88 := rv12 (hd ⟨12, .data⟩ (by simp) rfl)
      have e85 := rv9 (hd ⟨9, .guard⟩ (by simp) rfl)
      obtain ⟨g, rfl⟩ : ∃ g, f = upd (upd (upd (g) 86 (undef)) 88 (undef)) 85 (.bool true) := ⟨f, upd_keep' (upd_keep' (upd_keep' (rfl) e86) e88) e85⟩
      refine st_skip rfl (w_nil ?_)
      exact ⟨_, rfl, kR, l0, l1, l2, l4, l5, l6, l7, rv0, rv1, rv2, rv3, rv4, rv5, rv6, rv7, rv8, rv9, rv10, rv11, rv12, (fun _ => rfl), rv14, rv15, rv16, rv17, rv18, rv19, rv20, rv21, rv22, rv23, rv24, rv25, rv26, rv27, rv28, rv29, trivial⟩
     | 14, hio =>
      cases hio
      have e89 := rv13 (hd ⟨13, .data⟩ (by simp) rfl)
      have e85 := rv9 (hd ⟨9, .guard⟩ (by simp) rfl)
      obtain ⟨g, rfl⟩ : ∃ g, f = upd (upd (g) 89 (undef)) 85 (.bool true) := ⟨f, upd_keep' (upd_keep' (rfl) e89) e85⟩
      refine st_skip rfl (w_nil ?_)
      exact ⟨_, rfl, kR, l0, l1, l2, l4, l5, l6, l7, rv0, rv1, rv2, rv3, rv4, rv5, rv6, rv7, rv8, rv9, rv10, rv11, rv12, rv13, (fun _ => rfl), rv15, rv16, rv17, rv18, rv19, rv20, rv21, rv22, rv23, rv24, rv25, rv26, rv27, rv28, rv29, trivial⟩
     | 15, hio =>
      cases hio
      have e85 := rv9 (hd ⟨9, .guard⟩ (by simp) rfl)
      obtain ⟨g, rfl⟩ : ∃ g, f = upd (upd (g) 7 (.int .i64 (k : Nat))) 85 (.bool true) := ⟨f, upd_keep' (upd_keep' (rfl) l7) e85⟩
      refine st_skip rfl (w_nil ?_)
      exact ⟨_, rfl, kR, l0, l1, l2, l4, l5, l6, l7, rv0, rv1, rv2, rv3, rv4, rv5, rv6, rv7, rv8, rv9, rv10, rv11, rv12, rv13, rv14, (fun _ => rfl), rv16, rv17, rv18, rv19, rv20, rv21, rv22, rv23, rv24, rv25, rv26, rv27, rv28, rv29, trivial⟩
     | 16, hio =>
      cases hio
      have e90 := rv14 (hd ⟨14, .data⟩ (by simp) rfl)
      have e91 := rv15 (hd ⟨15, .data⟩ (by simp) rfl)
      have e85 := rv9 (hd ⟨9, .guard⟩ (by simp) rfl)
      obtain ⟨g, rfl⟩ : ∃ g, f = upd (upd (upd (g) 90 (undef)) 91 (undef)) 85 (.bool true) := ⟨f, upd_keep' (upd_keep' (upd_keep' (rfl) e90) e91) e85⟩
      refine st_skip rfl (w_nil ?_)
      exact ⟨_, rfl, kR, l0, l1, l2, l4, l5, l6, l7, rv0, rv1, rv2, rv3, rv4, rv5, rv6, rv7, rv8, rv9, rv10, rv11, rv12, rv13, rv14, rv15, (fun _ => rfl), rv17, rv18, rv19, rv20, rv21, rv22, rv23, rv24, rv25, rv26, rv27, rv28, rv29, trivial⟩
     | 17, hio =>
      cases hio
      have e92 := rv16 (hd ⟨16, .data⟩ (by simp) rfl)
      have e85 := rv9 (hd ⟨9, .guard⟩ (by simp) rfl)
      obtain ⟨g, rfl⟩ : ∃ g, f = upd (upd (g) 92 (undef)) 85 (.bool true) := ⟨f, upd_keep' (upd_keep' (rfl) e92) e85⟩
      refine st_skip rfl (w_nil ?_)
      exact ⟨_, rfl, kR, l0, l1, l2, l4, l5, l6, l7, rv0, rv1, rv2, rv3, rv4, rv5, rv6, rv7, rv8, rv9, rv10, rv11, rv12, rv13, rv14, rv15, rv16, (fun _ => rfl), rv18, rv19, rv20, rv21, rv22, rv23, rv24, rv25, rv26, rv27, rv28, rv29, trivial⟩
     | 18, hio =>
      cases hio
      have e85 := rv9 (hd ⟨9, .guard⟩ (by simp) rfl)
      obtain ⟨g, rfl⟩ : ∃ g, f = upd (upd (g) 4 (.slice (some ⟨bo, 0, none⟩) (la.length + 1) (la.length + 1))) 85 (.bool true) := ⟨f, upd_keep' (upd_keep' (rfl) l4) e85⟩
      refine st_skip rfl (w_nil ?_)
      exact ⟨_, rfl, kR, l0, l1, l2, l4, l5, l6, l7, rv0, rv1, rv2, rv3, rv4, rv5, rv6, rv7, rv8, rv9, rv10, rv11, rv12, rv13, rv14, rv15, rv16, rv17, (fun _ => rfl), rv19, rv20, rv21, rv22, rv23, rv24, rv25, rv26, rv27, rv28, rv29, trivial⟩
     | 19, hio =>
      cases hio
      have e85 := rv9 (hd ⟨9, .guard⟩ (by simp) rfl)
      obtain ⟨g, rfl⟩ : ∃ g, f = upd (upd (g) 6 (.int .i64 (i : Nat))) 85 (.bool true) := ⟨f, upd_keep' (upd_keep' (rfl) l6) e85⟩
      refine st_skip rfl (w_nil ?_)
      exact ⟨_, rfl, kR, l0, l1, l2, l4, l5, l6, l7, rv0, rv1, rv2, rv3, rv4, rv5, rv6, rv7, rv8, rv9, rv10, rv11, rv12, rv13, rv14, rv15, rv16, rv17, rv18, (fun _ => rfl), rv20, rv21, rv22, rv23, rv24, rv25, rv26, rv27, rv28, rv29, trivial⟩
     | 20, hio =>
      cases hio
      have e94 := rv18 (hd ⟨18, .data⟩ (by simp) rfl)
      have e95 := rv19 (hd ⟨19, .data⟩ (by simp) rfl)
      have e85 := rv9 (hd ⟨9, .guard⟩ (by simp) rfl)
      obtain ⟨g, rfl⟩ : ∃ g, f = upd (upd (upd (g) 94 (undef)) 95 (undef)) 85 (.bool true) := ⟨f, upd_keep' (upd_keep' (upd_keep' (rfl) e94) e95) e85⟩
      refine st_skip rfl (w_nil ?_)
      exact ⟨_, rfl, kR, l0, l1, l2, l4, l5, l6, l7, rv0, rv1, rv2, rv3, rv4, rv5, rv6, rv7, rv8, rv9, rv10, rv11, rv12, rv13, rv14, rv15, rv16, rv17, rv18, rv19, (fun _ => rfl), rv21, rv22, rv23, rv24, rv25, rv26, rv27, rv28, rv29, trivial⟩
     | 21, hio =>
      cases hio
      have e96 := rv20 (hd ⟨20, .data⟩ (by simp) rfl)
      have e85 := rv9 (hd ⟨9, .guard⟩ (by simp) rfl)
      obtain ⟨g, rfl⟩ : ∃ g, f = upd (upd (g) 96 (undef)) 85 (.bool true) := ⟨f, upd_keep' (upd_keep' (rfl) e96) e85⟩
      refine st_skip rfl (w_nil ?_)
      exact ⟨_, rfl, kR, l0, l1, l2, l4, l5, l6, l7, rv0, rv1, rv2, rv3, rv4, rv5, rv6, rv7, rv8, rv9, rv10, rv11, rv12, rv13, rv14, rv15, rv16, rv17, rv18, rv19, rv20, (fun _ => rfl), rv22, rv23, rv24, rv25, rv26, rv27, rv28, rv29, trivial⟩
     | 22, hio =>
      cases hio
      have e85 := rv9 (hd ⟨9, .guard⟩ (by simp) rfl)
      obtain ⟨g, rfl⟩ : ∃ g, f = upd (upd (g) 7 (.int .i64 (k : Nat))) 85 (.bool true) := ⟨f, upd_keep' (upd_keep' (rfl) l7) e85⟩
      refine st_skip rfl (w_nil ?_)
      exact ⟨_, rfl, kR, l0, l1, l2, l4, l5, l6, l7, rv0, rv1, rv2, rv3, rv4, rv5, rv6, rv7, rv8, rv9, rv10, rv11, rv12, rv13, rv14, rv15, rv16, rv17, rv18, rv19, rv20, rv21, (fun _ => rfl), rv23, rv24, rv25, rv26, rv27, rv28, rv29, trivial⟩
     | 23, hio =>
      cases hio
      have e98 := rv22 (hd ⟨22, .data⟩ (by simp) rfl)
      have e85 := rv9 (hd ⟨9, .guard⟩ (by simp) rfl)
      obtain ⟨g, rfl⟩ : ∃ g, f = upd (upd (g) 98 (undef)) 85 (.bool true) := ⟨f, upd_keep' (upd_keep' (rfl) e98) e85⟩
      refine st_skip rfl (w_nil ?_)
      exact ⟨_, rfl, kR, l0, l1, l2, l4, l5, l6, l7, rv0, rv1, rv2, rv3, rv4, rv5, rv6, rv7, rv8, rv9, rv10, rv11, rv12, rv13, rv14, rv15, rv16, rv17, rv18, rv19, rv20, rv21, rv22, (fun _ => rfl), rv24, rv25, rv26, rv27, rv28, rv29, trivial⟩
     | 24, hio =>
      cases hio
      have e97 := rv21 (hd ⟨21, .data⟩ (by simp) rfl)
      have e99 := rv23 (hd ⟨23, .data⟩ (by simp) rfl)
      have e85 := rv9 (hd ⟨9, .guard⟩ (by simp) rfl)
      obtain ⟨g, rfl⟩ : ∃ g, f = upd (upd (upd (g) 97 (undef)) 99 (undef)) 85 (.bool true) := ⟨f, upd_keep' (upd_keep' (upd_keep' (rfl) e97) e99) e85⟩
      refine st_skip rfl (w_nil ?_)
      exact ⟨_, rfl, kR, l0, l1, l2, l4, l5, l6, l7, rv0, rv1, rv2, rv3, rv4, rv5, rv6, rv7, rv8, rv9, rv10, rv11, rv12, rv13, rv14, rv15, rv16, rv17, rv18, rv19, rv20, rv21, rv22, rv23, (fun _ => rfl), rv25, rv26, rv27, rv28, rv29, trivial⟩
     | 25, hio =>
      cases hio
      have e100 := rv24 (hd ⟨24, .data⟩ (by simp) rfl)
      have e85 := rv9 (hd ⟨9, .guard⟩ (by simp) rfl)
      obtain ⟨g, rfl⟩ : ∃ g, f = upd (upd (g) 100 (undef)) 85 (.bool true) := ⟨f, upd_keep' (upd_keep' (rfl) e100) e85⟩
      refine st_skip rfl (w_nil ?_)
      exact ⟨_, rfl, kR, l0, l1, l2, l4, l5, l6, l7, rv0, rv1, rv2, rv3, rv4, rv5, rv6, rv7, rv8, rv9, rv10, rv11, rv12, rv13, rv14, rv15, rv16, rv17, rv18, rv19, rv20, rv21, rv22, rv23, rv24, (fun _ => rfl), rv26, rv27, rv28, rv29, trivial⟩
     | 26, hio =>
      cases hio
      have e93 := rv17 (hd ⟨17, .data⟩ (by simp) rfl)
      have e101 := rv25 (hd ⟨25, .data⟩ (by simp) rfl)
      have e85 := rv9 (hd ⟨9, .guard⟩ (by simp) rfl)
      obtain ⟨g, rfl⟩ : ∃ g, f = upd (upd (upd (g) 93 (undef)) 101 (undef)) 85 (.bool true) := ⟨f, upd_keep' (upd_keep' (upd_keep' (rfl) e93) e101) e85⟩
      refine st_skip rfl (w_nil ?_)
      exact ⟨_, rfl, kR, l0, l1, l2, l4, l5, l6, l7, rv0, rv1, rv2, rv3, rv4, rv5, rv6, rv7, rv8, rv9, rv10, rv11, rv12, rv13, rv14, rv15, rv16, rv17, rv18, rv19, rv20, rv21, rv22, rv23, rv24, rv25, (fun _ => rfl), rv27, rv28, rv29, trivial⟩
     | 27, hio =>
      cases hio
      have e85 := rv9 (hd ⟨9, .data⟩ (by simp) rfl)
      have e102 := rv26 (hd ⟨26, .data⟩ (by simp) rfl)
      have e80 := rv4 (hd ⟨4, .guard⟩ (by simp) rfl)
      obtain ⟨g, rfl⟩ : ∃ g, f = upd (upd (upd (g) 85 (.bool true)) 102 (undef)) 80 (.bool true) := ⟨f, upd_keep' (upd_keep' (upd_keep' (rfl) e85) e102) e80⟩
      refine pTB rfl rfl rfl rfl rfl (w_nil ?_)
      exact ⟨_, rfl, kR, l0, l1, l2, l4, l5, l6, l7, rv0, rv1, rv2, rv3, rv4, rv5, rv6, rv7, rv8, rv9, rv10, rv11, rv12, rv13, rv14, rv15, rv16, rv17, rv18, rv19, rv20, rv21, rv22, rv23, rv24, rv25, rv26, (fun _ => rfl), rv28, rv29, trivial⟩
     | 28, hio =>
      cases hio
      have e80 := rv4 (hd ⟨4, .data⟩ (by simp) rfl)
      have e103 := rv27 (hd ⟨27, .data⟩ (by simp) rfl)
      obtain ⟨g, rfl⟩ : ∃ g, f = upd (upd (g) 80 (.bool true)) 103 (.bool true) := ⟨f, upd_keep' (upd_keep' (rfl) e80) e103⟩
      refine pTB rfl rfl rfl rfl rfl (w_nil ?_)
      exact ⟨_, rfl, kR, l0, l1, l2, l4, l5, l6, l7, rv0, rv1, rv2, rv3, rv4, rv5, rv6, rv7, rv8, rv9, rv10, rv11, rv12, rv13, rv14, rv15, rv16, rv17, rv18, rv19, rv20, rv21, rv22, rv23, rv24, rv25, rv26, rv27, (fun _ => rfl), rv29, trivial⟩
     | 29, hio =>
      cases hio
      have e104 := rv28 (hd ⟨28, .data⟩ (by simp) rfl)
      obtain ⟨g, rfl⟩ : ∃ g, f = upd (g) 104 (.bool true) := ⟨f, upd_keep' (rfl) e104⟩
      refine asB rfl rfl rfl (w_nil ?_)
      exact ⟨_, rfl, kR, l0, l1, l2, l4, l5, l6, l7, rv0, rv1, rv2, rv3, rv4, rv5, rv6, rv7, rv8, rv9, rv10, rv11, rv12, rv13, rv14, rv15, rv16, rv17, rv18, rv19, rv20, rv21, rv22, rv23, rv24, rv25, rv26, rv27, rv28, (fun _ => rfl), trivial⟩
     | k + 30, hio => exact absurd hio (by simp)
    ·intro S f w3 hS hI
     obtain ⟨kR, l0, l1, l2, l4, l5, l6, l7, rv0, rv1, rv2, rv3, rv4, rv5, rv6, rv7, rv8, rv9, rv10, rv11, rv12, rv13, rv14, rv15, rv16, rv17, rv18, rv19, rv20, rv21, rv22, rv23, rv24, rv25, rv26, rv27, rv28, rv29, -⟩ := hI
     obtain ⟨g, rfl⟩ : ∃ g, f = upd (upd (upd (upd (upd (upd (upd (upd (g) 0 (.func (.yield lr) #[] #[])) 1 (.pointer (some ⟨ba, 0, none⟩))) 2 (.pointer (some ⟨bb, 0, none⟩))) 4 (.slice (some ⟨bo, 0, none⟩) (la.length + 1) (la.length + 1))) 5 (.pointer (some ⟨b5, 0, none⟩))) 6 (.int .i64 (i : Nat))) 7 (.int .i64 (k : Nat))) 75 (.bool true) := ⟨f, upd_keep' (upd_keep' (upd_keep' (upd_keep' (upd_keep' (upd_keep' (upd_keep' (upd_keep' (rfl) l0) l1) l2) l4) l5) l6) l7) (rv29 (hS 29 (by decide)))⟩
     clear hS l0 l1 l2 l4 l5 l6 l7 rv0 rv1 rv2 rv3 rv4 rv5 rv6 rv7 rv8 rv9 rv10 rv11 rv12 rv13 rv14 rv15 rv16 rv17 rv18 rv19 rv20 rv21 rv22 rv23 rv24 rv25 rv26 rv27 rv28 rv29
     replace o5 := o5.kp kR (fun e => e)
     replace hvo := hvo.kp kR (fun _ _ _ e => e)
     replace hvn := hvn.kp kR (fun _ _ _ e => e)
     replace hJ := hJ.kpN kR
     replace K := K.transN kR
     refine then_n (c_T rfl rfl (wp_seq ?_))
     have hseg := seg_one hA hli hcA
     have hb5 := o5.lt
     have hro := hvo.rlt
     have hrn := hvn.rlt
     have hr := hJ.rlt
     refine c_drawS (fun S f w => (S 7 = false → w = w3.drew) ∧ (S 7 = true → S 8 = false → (∃ v1 r1, f 112 = v1 ∧ FRow w3.heap.size w v1 [la[i]] r1 ∧ w3.heap.size ≤ w.heap.size ∧ Own w b5 60 [.int .i64 (i0 : Nat), .slice Ao old.length co, .slice An new.length cn] ∧ FRowG (Gx b5 rn r) w (.slice Ao old.length co) (old) ro ∧ FRowG (Gx b5 ro r) w (.slice An new.length cn) (new) rn ∧ JJ rec lr D b6 (Gx b5 ro rn) w es r ∧ Kp (fun i => i = lr ∨ i = b6) W w)) ∧ (S 8 = true → S 10 = false → (∃ A2 c2 r2, f 113 = .slice A2 (old ++ [la[i]]).length c2 ∧ Own w b5 60 [.int .i64 (i0 : Nat), .slice Ao old.length co, .slice An new.length cn] ∧ FRowG (Gx b5 rn r) w (.slice A2 (old ++ [la[i]]).length c2) (old ++ [la[i]]) r2 ∧ FRowG (Gx b5 r2 r) w (.slice An new.length cn) new rn ∧ JJ rec lr D b6 (Gx b5 r2 rn) w es r ∧ Kp (fun i => i = lr ∨ i = b6) W w)) ∧ (S 10 = true → (∃ A2 c2 r2, Own w b5 60 [.int .i64 (i0 : Nat), .slice A2 (old ++ [la[i]]).length c2, .slice An new.length cn] ∧ FRowG (Gx b5 rn r) w (.slice A2 (old ++ [la[i]]).length c2) (old ++ [la[i]]) r2 ∧ FRowG (Gx b5 r2 r) w (.slice An new.length cn) new rn ∧ JJ rec lr D b6 (Gx b5 r2 rn) w es r ∧ Kp (fun i => i = lr ∨ i = b6) W w)) ∧ f 0 = .func (.yield lr) #[] #[] ∧ f 1 = .pointer (some ⟨ba, 0, none⟩) ∧ f 2 = .pointer (some ⟨bb, 0, none⟩) ∧ f 4 = .slice (some ⟨bo, 0, none⟩) (la.length + 1) (la.length + 1) ∧ f 5 = .pointer (some ⟨b5, 0, none⟩) ∧ f 6 = .int .i64 (i : Nat) ∧ f 7 = .int .i64 (k : Nat) ∧ (S 0 = true → f 105 = .pointer (some (Addr.add ⟨b5, 0, none⟩ 1))) ∧ (S 1 = true → f 106 = .slice Ao old.length co) ∧ (S 2 = true → f 107 = .slice (some p) la.length capA) ∧ (S 3 = true → f 108 = .int .i64 (i : Nat)) ∧ (S 4 = true → f 109 = .int .i64 (i : Nat)) ∧ (S 5 = true → f 110 = .int .i64 ((i : Nat) + 1 : Int)) ∧ (S 6 = true → f 111 = .slice (part (some p) i capA 4) 1 (capA - i)) ∧ (S 9 = true → f 114 = .pointer (some (Addr.add ⟨b5, 0, none⟩ 1))) ∧ True) (fun i => i) (rank_back (by kernel_rfl)) ⟨(fun _ => rfl), (fun h => by cases h), (fun h => by cases h), (fun h => by cases h), rfl, rfl, rfl, rfl, rfl, rfl, rfl, (fun h => by cases h), (fun h => by cases h), (fun h => by cases h), (fun h => by cases h), (fun h => by cases h), (fun h => by cases h), (fun h => by cases h), (fun h => by cases h), trivial⟩ ?_ ?_
     ·intro io opx hio S f w hS hC hd hI
      obtain ⟨st0, st1, st2, st3, l0, l1, l2, l4, l5, l6, l7, rv0, rv1, rv2, rv3, rv4, rv5, rv6, rv9, -⟩ := hI
      match io, hio with
      | 0, hio =>
       cases hio
       obtain ⟨g, rfl⟩ : ∃ g, f = upd (g) 5 (.pointer (some ⟨b5, 0, none⟩)) := ⟨f, upd_keep' (rfl) l5⟩
       refine s_fa fi60_1 rfl rfl rfl (w_nil ?_)
       exact ⟨_, rfl, st0, st1, st2, st3, l0, l1, l2, l4, l5, l6, l7, (fun _ => rfl), rv1, rv2, rv3, rv4, rv5, rv6, rv9, trivial⟩
      | 1, hio =>
       cases hio
       have q8 : S 8 = false := Q9 hS fun h => (hC 8 _ rfl h ⟨1, .data⟩ (by simp) rfl)
       have q10 : S 10 = false := Q9 hS fun h => (hC 10 _ rfl h ⟨1, .phase⟩ (by simp) rfl)
       have e105 := rv0 (hd ⟨0, .data⟩ (by simp) rfl)
       cases q7 : S 7 with
       | false =>
        obtain rfl := st0 q7
        have kd : New w3 w3.drew := (Kp.refl _ _).drew
        replace o5 := o5.kp kd (fun e => e)
        replace hvo := hvo.kp kd (fun _ _ _ e => e)
        replace hvn := hvn.kp kd (fun _ _ _ e => e)
        replace hJ := hJ.kpN kd
        replace K := K.transN kd
        obtain ⟨g, rfl⟩ : ∃ g, f = upd (g) 105 (.pointer (some (Addr.add ⟨b5, 0, none⟩ 1))) := ⟨f, upd_keep' (rfl) e105⟩
        refine s_ld1 (v := .slice Ao old.length co) on22 rfl rfl rfl (o5.get 1 rfl) (w_nil ?_)
        exact ⟨_, rfl, (fun _ => rfl), st1, st2, st3, l0, l1, l2, l4, l5, l6, l7, rv0, (fun _ => rfl), rv2, rv3, rv4, rv5, rv6, rv9, trivial⟩
       | true =>
        obtain ⟨v1, r1, e1, hv1, hszw, o5, hvo, hvn, hJ, K⟩ := st1 q7 q8
        obtain ⟨g, rfl⟩ : ∃ g, f = upd (g) 105 (.pointer (some (Addr.add ⟨b5, 0, none⟩ 1))) := ⟨f, upd_keep' (rfl) e105⟩
        refine s_ld1 (v := .slice Ao old.length co) on22 rfl rfl rfl (o5.get 1 rfl) (w_nil ?_)
        exact ⟨_, rfl, st0, (fun _ _ => ⟨v1, r1, e1, hv1, hszw, o5, hvo, hvn, hJ, K⟩), st2, st3, l0, l1, l2, l4, l5, l6, l7, rv0, (fun _ => rfl), rv2, rv3, rv4, rv5, rv6, rv9, trivial⟩
      | 2, hio =>
       cases hio
       have q7 : S 7 = false := Q9 hS fun h => (hC 6 _ rfl (hC 7 _ rfl h ⟨6, .data⟩ (by simp) rfl) ⟨2, .data⟩ (by simp) rfl)
       have q8 : S 8 = false := Q9 hS fun h => (hC 6 _ rfl (hC 7 _ rfl (hC 8 _ rfl h ⟨7, .data⟩ (by simp) rfl) ⟨6, .data⟩ (by simp) rfl) ⟨2, .data⟩ (by simp) rfl)
       have q10 : S 10 = false := Q9 hS fun h => (hC 10 _ rfl h ⟨2, .phase⟩ (by simp) rfl)
       obtain rfl := st0 q7
       have kd : New w3 w3.drew := (Kp.refl _ _).drew
       replace o5 := o5.kp kd (fun e => e)
       replace hvo := hvo.kp kd (fun _ _ _ e => e)
       replace hvn := hvn.kp kd (fun _ _ _ e => e)
       replace hJ := hJ.kpN kd
       replace K := K.transN kd
       obtain ⟨g, rfl⟩ : ∃ g, f = upd (g) 1 (.pointer (some ⟨ba, 0, none⟩)) := ⟨f, upd_keep' (rfl) l1⟩
       refine s_ld1 (v := .slice _ _ _) on22 rfl rfl rfl ((hoA.kp K (fun e => e.elim hba.1 hba.2)).get 0 rfl) (w_nil ?_)
       exact ⟨_, rfl, (fun _ => rfl), st1, st2, st3, l0, l1, l2, l4, l5, l6, l7, rv0, rv1, (fun _ => rfl), rv3, rv4, rv5, rv6, rv9, trivial⟩
      | 3, hio =>
       cases hio
       obtain ⟨g, rfl⟩ : ∃ g, f = upd (g) 6 (.int .i64 (i : Nat)) := ⟨f, upd_keep' (rfl) l6⟩
       refine mvI rfl rfl rfl (w_nil ?_)
       exact ⟨_, rfl, st0, st1, st2, st3, l0, l1, l2, l4, l5, l6, l7, rv0, rv1, rv2, (fun _ => rfl), rv4, rv5, rv6, rv9, trivial⟩
      | 4, hio =>
       cases hio
       obtain ⟨g, rfl⟩ : ∃ g, f = upd (g) 6 (.int .i64 (i : Nat)) := ⟨f, upd_keep' (rfl) l6⟩
       refine mvI rfl rfl rfl (w_nil ?_)
       exact ⟨_, rfl, st0, st1, st2, st3, l0, l1, l2, l4, l5, l6, l7, rv0, rv1, rv2, rv3, (fun _ => rfl), rv5, rv6, rv9, trivial⟩
      | 5, hio =>
       cases hio
       have e109 := rv4 (hd ⟨4, .data⟩ (by simp) rfl)
       obtain ⟨g, rfl⟩ : ∃ g, f = upd (g) 109 (.int .i64 (i : Nat)) := ⟨f, upd_keep' (rfl) e109⟩
       refine s_add rfl rfl rfl rfl rfl (w64 (by omega)) (w_nil ?_)
       exact ⟨_, rfl, st0, st1, st2, st3, l0, l1, l2, l4, l5, l6, l7, rv0, rv1, rv2, rv3, rv4, (fun _ => rfl), rv6, rv9, trivial⟩
      | 6, hio =>
       cases hio
       have e107 := rv2 (hd ⟨2, .data⟩ (by simp) rfl)
       have e108 := rv3 (hd ⟨3, .data⟩ (by simp) rfl)
       have e110 := rv5 (hd ⟨5, .data⟩ (by simp) rfl)
       obtain ⟨g, rfl⟩ : ∃ g, f = upd (upd (upd (g) 107 (.slice (some p) la.length capA)) 108 (.int .i64 (i : Nat))) 110 (.int .i64 ((i : Nat) + 1 : Int)) := ⟨f, upd_keep' (upd_keep' (upd_keep' (rfl) e107) e108) e110⟩
       refine s_slLH (lo := i) (hi := i + 1) (m := 1) el22 rfl rfl rfl rfl rfl rfl rfl (by omega) (by omega) (by omega) (by omega) (by omega) (w_nil ?_)
       exact ⟨_, rfl, st0, st1, st2, st3, l0, l1, l2, l4, l5, l6, l7, rv0, rv1, rv2, rv3, rv4, rv5, (fun _ => rfl), rv9, trivial⟩
      | 7, hio =>
       cases hio
       have q7 : S 7 = false := hS
       have q8 : S 8 = false := Q9 hS fun h => (hC 8 _ rfl h ⟨7, .data⟩ (by simp) rfl)
       have q10 : S 10 = false := Q9 hS fun h => (hC 10 _ rfl h ⟨7, .phase⟩ (by simp) rfl)
       have e111 := rv6 (hd ⟨6, .data⟩ (by simp) rfl)
       obtain rfl := st0 q7
       have kd : New w3 w3.drew := (Kp.refl _ _).drew
       replace o5 := o5.kp kd (fun e => e)
       replace hvo := hvo.kp kd (fun _ _ _ e => e)
       replace hvn := hvn.kp kd (fun _ _ _ e => e)
       replace hJ := hJ.kpN kd
       replace K := K.transN kd
       obtain ⟨g, rfl⟩ : ∃ g, f = upd (g) 111 (.slice (part (some p) i capA 4) 1 (capA - i)) := ⟨f, upd_keep' (rfl) e111⟩
       refine s_call1 go29 rfl (c29 (part (some p) i capA 4) (capA - i) [la[i]] _ (hseg.kp K (fun j _ hg e => e.elim (hGA j hg).1 (hGA j hg).2)) (by simp) (fun x hx => hsa x (by simp only [List.mem_singleton] at hx; subst hx; exact List.getElem_mem _))) rfl rfl ?_
       rintro _ w4 ⟨v1, r1, rfl, hv1, kc⟩
       refine ⟨_, rfl, ?_⟩
       refine w_nil ?_
       exact ⟨_, rfl, (fun h => absurd h (by simp [ins, q8, q10])), (fun _ _ => ⟨v1, r1, rfl, hv1, kc.size, o5.kp kc (fun e => e), hvo.kp kc (fun _ _ _ e => e), hvn.kp kc (fun _ _ _ e => e), hJ.kpN kc, K.transN kc⟩), (fun h => absurd h (by simp [ins, q8, q10])), (fun h => absurd h (by simp [ins, q8, q10])), l0, l1, l2, l4, l5, l6, l7, rv0, rv1, rv2, rv3, rv4, rv5, rv6, rv9, trivial⟩
      | 8, hio =>
       cases hio
       have q7 : S 7 = true := (hd ⟨7, .data⟩ (by simp) rfl)
       have q8 : S 8 = false := hS
       have q10 : S 10 = false := Q9 hS fun h => (hC 10 _ rfl h ⟨8, .data⟩ (by simp) rfl)
       have e106 := rv1 (hd ⟨1, .data⟩ (by simp) rfl)
       obtain ⟨v1, r1, e1, hv1, hszw, o5, hvo, hvn, hJ, K⟩ := st1 q7 q8
       obtain ⟨g, rfl⟩ : ∃ g, f = upd (upd (g) 106 (.slice Ao old.length co)) 112 (v1) := ⟨f, upd_keep' (upd_keep' (rfl) e106) e1⟩
       refine s_appFG (G := Gx b5 rn r) (l1 := old) (l2 := [la[i]]) el22 rfl rfl rfl rfl rfl rfl hvo hv1 (fun j hj => ⟨by omega, fun e => by have := hrn j e.symm; omega, fun e => by have := hr j e.symm; omega⟩) hro hszw (by simp only [List.length_singleton]; omega) ?_
       intro v2 wA r2 hv2 kA hr2
       obtain ⟨A2, c2, rfl, hc2⟩ := hv2.shape
       refine w_nil ?_
       exact ⟨_, rfl, (fun h => absurd h (by simp [ins, q7, q10])), (fun _ h => absurd h (by simp [ins, q7, q10])), (fun _ _ => ⟨A2, c2, r2, rfl, o5.kp kA (fun e => absurd (hvo.rge b5 e.symm).1 (Nat.lt_irrefl _)), hv2, hvn.mv kA hr2, hJ.mv1 kA hr2 (fun e => by have := (hvo.rge lr e.symm).1; omega) (fun e => by have := (hvo.rge D e.symm).1; omega) (fun e => by have := (hvo.rge b6 e.symm).1; omega), K.trans' kA (fun j hj e => by have := (hvo.rge j e.symm).1; omega)⟩), (fun h => absurd h (by simp [ins, q7, q10])), l0, l1, l2, l4, l5, l6, l7, rv0, rv1, rv2, rv3, rv4, rv5, rv6, rv9, trivial⟩
      | 9, hio =>
       cases hio
       obtain ⟨g, rfl⟩ : ∃ g, f = upd (g) 5 (.pointer (some ⟨b5, 0, none⟩)) := ⟨f, upd_keep' (rfl) l5⟩
       refine s_fa fi60_1 rfl rfl rfl (w_nil ?_)
       exact ⟨_, rfl, st0, st1, st2, st3, l0, l1, l2, l4, l5, l6, l7, rv0, rv1, rv2, rv3, rv4, rv5, rv6, (fun _ => rfl), trivial⟩
      | 10, hio =>
       cases hio
       have q7 : S 7 = true := (hd ⟨7, .phase⟩ (by simp) rfl)
       have q8 : S 8 = true := (hd ⟨8, .data⟩ (by simp) rfl)
       have q10 : S 10 = false := hS
       have e114 := rv9 (hd ⟨9, .data⟩ (by simp) rfl)
       obtain ⟨A2, c2, r2, e2, o5, hvo, hvn, hJ, K⟩ := st2 q8 q10
       obtain ⟨g, rfl⟩ : ∃ g, f = upd (upd (g) 114 (.pointer (some (Addr.add ⟨b5, 0, none⟩ 1)))) 113 (.slice A2 (old ++ [la[i]]).length c2) := ⟨f, upd_keep' (upd_keep' (rfl) e114) e2⟩
       refine s_st 1 sz22 (v := .slice A2 (old ++ [la[i]]).length c2) rfl rfl rfl rfl rfl rfl rfl o5 rfl rfl rfl ?_
       clear o5; intro wS o5 ks zs
       refine w_nil ?_
       exact ⟨_, rfl, (fun h => absurd h (by simp [ins, q7, q8])), (fun _ h => absurd h (by simp [ins, q7, q8])), (fun _ h => absurd h (by simp [ins, q7, q8])), (fun _ => ⟨A2, c2, r2, o5, hvo.kp ks (fun j _ hg e => by have := hg.1; omega), hvn.kp ks (fun j _ hg e => by have := hg.1; omega), hJ.kp ks (fun (e : lr = b5) => by omega) (fun (e : D = b5) => by omega) (fun (e : b6 = b5) => by omega) (fun j _ hg (e : j = b5) => by have := hg.1; omega), K.trans' ks (fun j hj (e : j = b5) => by omega)⟩), l0, l1, l2, l4, l5, l6, l7, rv0, rv1, rv2, rv3, rv4, rv5, rv6, rv9, trivial⟩
      | k + 11, hio => exact absurd hio (by simp)
     ·intro S f w4 hS hI
      obtain ⟨st0, st1, st2, st3, l0, l1, l2, l4, l5, l6, l7, rv0, rv1, rv2, rv3, rv4, rv5, rv6, rv9, -⟩ := hI
      obtain ⟨A2, c2, r2, o5, hvo, hvn, hJ, K⟩ := st3 (hS 10 (by decide))
      obtain ⟨g, rfl⟩ : ∃ g, f = upd (upd (upd (upd (upd (upd (upd (g) 0 (.func (.yield lr) #[] #[])) 1 (.pointer (some ⟨ba, 0, none⟩))) 2 (.pointer (some ⟨bb, 0, none⟩))) 4 (.slice (some ⟨bo, 0, none⟩) (la.length + 1) (la.length + 1))) 5 (.pointer (some ⟨b5, 0, none⟩))) 6 (.int .i64 (i : Nat))) 7 (.int .i64 (k : Nat)) := ⟨f, upd_keep' (upd_keep' (upd_keep' (upd_keep' (upd_keep' (upd_keep' (upd_keep' (rfl) l0) l1) l2) l4) l5) l6) l7⟩
      clear hS st0 st1 st2 st3 l0 l1 l2 l4 l5 l6 l7 rv0 rv1 rv2 rv3 rv4 rv5 rv6 rv9
      refine then_n (c_reg (mvI rfl rfl rfl (s_add rfl rfl rfl rfl rfl (w64 (by omega)) (asI rfl rfl rfl (w_nil (inb_n (inb_n (then_n ?_))))))))
      exact ⟨_, _, by omega, rfl, _, i + 1, k, es, r, _, r2, _, new, rn, _, i0, k0, rfl, by omega, by omega, (upd_keep' (upd_keep' (upd_keep' (upd_keep' (upd_keep' (upd_keep' (upd_keep' rfl rfl) rfl) rfl) rfl) rfl) rfl) rfl), by omega, by omega, by rw [drop_take_succ hi0 hli, hold], hnew, hch, hes, o5, hvo, hvn, hJ, K⟩
 ·intro hs15
  (try simp only [Q1, Q2, Q3, Q4, Q5] at hs15)
  refine mvI rfl rfl rfl (s_ld1 (v := .slice _ _ _) on22 rfl rfl rfl ((hoB.kp K (fun e => e.elim hbb.1 hbb.2)).get 0 rfl) (s_lenL Tryz.underlying22 rfl rfl rfl (s_lss rfl rfl rfl rfl rfl rfl (pFB rfl rfl rfl rfl rfl (w_nil (then_n ?_))))))
  refine c_if rfl rfl ?_ ?_
  ·intro ht20
   (try simp only [Q1, Q2, Q3, Q4, Q5] at ht20)
   refine wp_skip (then_n (wp_block (wp_block (wp_seq ?_))))
   have hlk : k < lb.length := by omega
   obtain ⟨q, vb, hqB, hgq, hq, hvb⟩ := hB.2 k _ (List.getElem?_eq_getElem hlk)
   subst hqB
   refine c_draw' (fun S f w => New w0 w ∧ f 0 = .func (.yield lr) #[] #[] ∧ f 1 = .pointer (some ⟨ba, 0, none⟩) ∧ f 2 = .pointer (some ⟨bb, 0, none⟩) ∧ f 4 = .slice (some ⟨bo, 0, none⟩) (la.length + 1) (la.length + 1) ∧ f 5 = .pointer (some ⟨b5, 0, none⟩) ∧ f 6 = .int .i64 (i : Nat) ∧ f 7 = .int .i64 (k : Nat) ∧ (S 0 = true → f 34 = .int .i64 (i : Nat)) ∧ (S 1 = true → f 35 = .slice A la.length capA) ∧ (S 2 = true → f 36 = .int .i64 (la.length : Nat)) ∧ (S 3 = true → f 37 = .bool false) ∧ (S 4 = true → f 38 = .bool false) ∧ (S 5 = true → f 39 = undef) ∧ (S 6 = true → f 40 = undef) ∧ (S 7 = true → f 41 = undef) ∧ (S 8 = true → f 42 = undef) ∧ (S 9 = true → f 43 = .bool false) ∧ (S 10 = true → f 44 = .bool false) ∧ (S 11 = true → f 45 = undef) ∧ (S 12 = true → f 46 = undef) ∧ (S 13 = true → f 47 = undef) ∧ (S 14 = true → f 48 = undef) ∧ (S 15 = true → f 49 = undef) ∧ (S 16 = true → f 50 = undef) ∧ (S 17 = true → f 51 = undef) ∧ (S 18 = true → f 52 = undef) ∧ (S 19 = true → f 53 = undef) ∧ (S 20 = true → f 54 = .bool false) ∧ (S 21 = true → f 33 = .bool false) ∧ True) (by kernel_rfl) ⟨(Kp.refl _ _).drew, rfl, rfl, rfl, rfl, rfl, rfl, rfl, (fun h => by cases h), (fun h => by cases h), (fun h => by cases h), (fun h => by cases h), (fun h => by cases h), (fun h => by cases h), (fun h => by cases h), (fun h => by cases h), (fun h => by cases h), (fun h => by cases h), (fun h => by cases h), (fun h => by cases h), (fun h => by cases h), (fun h => by cases h), (fun h => by cases h), (fun h => by cases h), (fun h => by cases h), (fun h => by cases h), (fun h => by cases h), (fun h => by cases h), (fun h => by cases h), (fun h => by cases h), trivial⟩ ?_ ?_
   ·intro io opx hio S f w hd hI
    obtain ⟨kR, l0, l1, l2, l4, l5, l6, l7, rv0, rv1, rv2, rv3, rv4, rv5, rv6, rv7, rv8, rv9, rv10, rv11, rv12, rv13, rv14, rv15, rv16, rv17, rv18, rv19, rv20, rv21, -⟩ := hI
    match io, hio with
    | 0, hio =>
     cases hio
     obtain ⟨g, rfl⟩ : ∃ g, f = upd (g) 6 (.int .i64 (i : Nat)) := ⟨f, upd_keep' (rfl) l6⟩
     refine mvI rfl rfl rfl (w_nil ?_)
     exact ⟨_, rfl, kR, l0, l1, l2, l4, l5, l6, l7, (fun _ => rfl), rv1, rv2, rv3, rv4, rv5, rv6, rv7, rv8, rv9, rv10, rv11, rv12, rv13, rv14, rv15, rv16, rv17, rv18, rv19, rv20, rv21, trivial⟩
    | 1, hio =>
     cases hio
     obtain ⟨g, rfl⟩ : ∃ g, f = upd (g) 1 (.pointer (some ⟨ba, 0, none⟩)) := ⟨f, upd_keep' (rfl) l1⟩
     refine s_ld1 (v := .slice _ _ _) on22 rfl rfl rfl ((hoA.kp (K.transN kR) (fun e => e.elim hba.1 hba.2)).get 0 rfl) (w_nil ?_)
     exact ⟨_, rfl, kR, l0, l1, l2, l4, l5, l6, l7, rv0, (fun _ => rfl), rv2, rv3, rv4, rv5, rv6, rv7, rv8, rv9, rv10, rv11, rv12, rv13, rv14, rv15, rv16, rv17, rv18, rv19, rv20, rv21, trivial⟩
    | 2, hio =>
     cases hio
     have e35 := rv1 (hd ⟨1, .data⟩ (by simp) rfl)
     obtain ⟨g, rfl⟩ : ∃ g, f = upd (g) 35 (.slice A la.length capA) := ⟨f, upd_keep' (rfl) e35⟩
     refine s_lenL Tryz.underlying22 rfl rfl rfl (w_nil ?_)
     exact ⟨_, rfl, kR, l0, l1, l2, l4, l5, l6, l7, rv0, rv1, (fun _ => rfl), rv3, rv4, rv5, rv6, rv7, rv8, rv9, rv10, rv11, rv12, rv13, rv14, rv15, rv16, rv17, rv18, rv19, rv20, rv21, trivial⟩
    | 3, hio =>
     cases hio
     have e34 := rv0 (hd ⟨0, .data⟩ (by simp) rfl)
     have e36 := rv2 (hd ⟨2, .data⟩ (by simp) rfl)
     obtain ⟨g, rfl⟩ : ∃ g, f = upd (upd (g) 34 (.int .i64 (i : Nat))) 36 (.int .i64 (la.length : Nat)) := ⟨f, upd_keep' (upd_keep' (rfl) e34) e36⟩
     refine s_lss rfl rfl rfl rfl rfl (decide_eq_false (by omega)) (w_nil ?_)
     exact ⟨_, rfl, kR, l0, l1, l2, l4, l5, l6, l7, rv0, rv1, rv2, (fun _ => rfl), rv4, rv5, rv6, rv7, rv8, rv9, rv10, rv11, rv12, rv13, rv14, rv15, rv16, rv17, rv18, rv19, rv20, rv21, trivial⟩
    | 4, hio =>
     cases hio
     have e37 := rv3 (hd ⟨3, .data⟩ (by simp) rfl)
     obtain ⟨g, rfl⟩ : ∃ g, f = upd (g) 37 (.bool false) := ⟨f, upd_keep' (rfl) e37⟩
     refine mvB rfl rfl rfl (w_nil ?_)
     exact ⟨_, rfl, kR, l0, l1, l2, l4, l5, l6, l7, rv0, rv1, rv2, rv3, (fun _ => rfl), rv5, rv6, rv7, rv8, rv9, rv10, rv11, rv12, rv13, rv14, rv15, rv16, rv17, rv18, rv19, rv20, rv21, trivial⟩
    | 5, hio =>
     cases hio
     have e38 := rv4 (hd ⟨4, .guard⟩ (by simp) rfl)
     obtain ⟨g, rfl⟩ : ∃ g, f = upd (upd (g) 7 (.int .i64 (k : Nat))) 38 (.bool false) := ⟨f, upd_keep' (upd_keep' (rfl) l7) e38⟩
     refine st_skip rfl (w_nil ?_)
     exact ⟨_, rfl, kR, l0, l1, l2, l4, l5, l6, l7, rv0, rv1, rv2, rv3, rv4, (fun _ => rfl), rv6, rv7, rv8, rv9, rv10, rv11, rv12, rv13, rv14, rv15, rv16, rv17, rv18, rv19, rv20, rv21, trivial⟩
    | 6, hio =>
     cases hio
     have e38 := rv4 (hd ⟨4, .guard⟩ (by simp) rfl)
     obtain ⟨g, rfl⟩ : ∃ g, f = upd (upd (g) 2 (.pointer (some ⟨bb, 0, none⟩))) 38 (.bool false) := ⟨f, upd_keep' (upd_keep' (rfl) l2) e38⟩
     refine st_skip rfl (w_nil ?_)
     exact ⟨_, rfl, kR, l0, l1, l2, l4, l5, l6, l7, rv0, rv1, rv2, rv3, rv4, rv5, (fun _ => rfl), rv7, rv8, rv9, rv10, rv11, rv12, rv13, rv14, rv15, rv16, rv17, rv18, rv19, rv20, rv21, trivial⟩
    | 7, hio =>
     cases hio
     have e40 := rv6 (hd ⟨6, .data⟩ (by simp) rfl)
     have e38 := rv4 (hd ⟨4, .guard⟩ (by simp) rfl)
     obtain ⟨g, rfl⟩ : ∃ g, f = upd (upd (g) 40 (undef)) 38 (.bool false) := ⟨f, upd_keep' (upd_keep' (rfl) e40) e38⟩
     refine st_skip rfl (w_nil ?_)
     exact ⟨_, rfl, kR, l0, l1, l2, l4, l5, l6, l7, rv0, rv1, rv2, rv3, rv4, rv5, rv6, (fun _ => rfl), rv8, rv9, rv10, rv11, rv12, rv13, rv14, rv15, rv16, rv17, rv18, rv19, rv20, rv21, trivial⟩
    | 8, hio =>
     cases hio
     have e39 := rv5 (hd ⟨5, .data⟩ (by simp) rfl)
     have e41 := rv7 (hd ⟨7, .data⟩ (by simp) rfl)
     have e38 := rv4 (hd ⟨4, .guard⟩ (by simp) rfl)
     obtain ⟨g, rfl⟩ : ∃ g, f = upd (upd (upd (g) 39 (undef)) 41 (undef)) 38 (.bool false) := ⟨f, upd_keep' (upd_keep' (upd_keep' (rfl) e39) e41) e38⟩
     refine st_skip rfl (w_nil ?_)
     exact ⟨_, rfl, kR, l0, l1, l2, l4, l5, l6, l7, rv0, rv1, rv2, rv3, rv4, rv5, rv6, rv7, (fun _ => rfl), rv9, rv10, rv11, rv12, rv13, rv14, rv15, rv16, rv17, rv18, rv19, rv20, rv21, trivial⟩
    | 9, hio =>
     cases hio
     have e38 := rv4 (hd ⟨4, .data⟩ (by simp) rfl)
     have e42 := rv8 (hd ⟨8, .data⟩ (by simp) rfl)
     obtain ⟨g, rfl⟩ : ∃ g, f = upd (upd (g) 38 (.bool false)) 42 (undef) := ⟨f, upd_keep' (upd_keep' (rfl) e38) e42⟩
     refine pFB rfl rfl rfl rfl rfl (w_nil ?_)
     exact ⟨_, rfl, kR, l0, l1, l2, l4, l5, l6, l7, rv0, rv1, rv2, rv3, rv4, rv5, rv6, rv7, rv8, (fun _ => rfl), rv10, rv11, rv12, rv13, rv14, rv15, rv16, rv17, rv18, rv19, rv20, rv21, trivial⟩
    | 10, hio =>
     cases hio
     have e43 := rv9 (hd ⟨9, .data⟩ (by simp) rfl)
     obtain ⟨g, rfl⟩ : ∃ g, f = upd (g) 43 (.bool false) := ⟨f, upd_keep' (rfl) e43⟩
     refine mvB rfl rfl rfl (w_nil ?_)
     exact ⟨_, rfl, kR, l0, l1, l2, l4, l5, l6, l7, rv0, rv1, rv2, rv3, rv4, rv5, rv6, rv7, rv8, rv9, (fun _ => rfl), rv11, rv12, rv13, rv14, rv15, rv16, rv17, rv18, rv19, rv20, rv21, trivial⟩
    | 11, hio =>
     cases hio
     have e44 := rv10 (hd ⟨10, .guard⟩ (by simp) rfl)
     obtain ⟨g, rfl⟩ : ∃ g, f = upd (upd (g) 1 (.pointer (some ⟨ba, 0, none⟩))) 44 (.bool false) := ⟨f, upd_keep' (upd_keep' (rfl) l1) e44⟩
     refine st_skip rfl (w_nil ?_)
     exact ⟨_, rfl, kR, l0, l1, l2, l4, l5, l6, l7, rv0, rv1, rv2, rv3, rv4, rv5, rv6, rv7, rv8, rv9, rv10, (fun _ => rfl), rv12, rv13, rv14, rv15, rv16, rv17, rv18, rv19, rv20, rv21, trivial⟩
    | 12, hio =>
     cases hio
     have e44 := rv10 (hd ⟨10, .guard⟩ (by simp) rfl)
     obtain ⟨g, rfl⟩ : ∃ g, f = upd (upd (g) 6 (.int .i64 (i : Nat))) 44 (.bool false) := ⟨f, upd_keep' (upd_keep' (rfl) l6) e44⟩
     refine st_skip rfl (w_nil ?_)
     exact ⟨_, rfl, kR, l0, l1, l2, l4, l5, l6, l7, rv0, rv1, rv2, rv3, rv4, rv5, rv6, rv7, rv8, rv9, rv10, rv11, (fun _ => rfl), rv13, rv14, rv15, rv16, rv17, rv18, rv19, rv20, rv21, trivial⟩
    | 13, hio =>
     cases hio
     have e45 := rv11 (hd ⟨11, .data⟩ (by simp) rfl)
     have e46 := rv12 (hd ⟨12, .data⟩ (by simp) rfl)
     have e44 := rv10 (hd ⟨10, .guard⟩ (by simp) rfl)
     obtain ⟨g, rfl⟩ : ∃ g, f = upd (upd (upd (g) 45 (undef)) 46 (undef)) 44 (.bool false) := ⟨f, upd_keep' (upd_keep' (upd_keep' (rfl) e45) e46) e44⟩
     refine st_skip rfl (w_nil ?_)
     exact ⟨_, rfl, kR, l0, l1, l2, l4, l5, l6, l7, rv0, rv1, rv2, rv3, rv4, rv5, rv6, rv7, rv8, rv9, rv10, rv11, rv12, (fun _ => rfl), rv14, rv15, rv16, rv17, rv18, rv19, rv20, rv21, trivial⟩
    | 14, hio =>
     cases hio
     have e47 := rv13 (hd ⟨13, .data⟩ (by simp) rfl)
     have e44 := rv10 (hd ⟨10, .guard⟩ (by simp) rfl)
     obtain ⟨g, rfl⟩ : ∃ g, f = upd (upd (g) 47 (undef)) 44 (.bool false) := ⟨f, upd_keep' (upd_keep' (rfl) e47) e44⟩
     refine st_skip rfl (w_nil ?_)
     exact ⟨_, rfl, kR, l0, l1, l2, l4, l5, l6, l7, rv0, rv1, rv2, rv3, rv4, rv5, rv6, rv7, rv8, rv9, rv10, rv11, rv12, rv13, (fun _ => rfl), rv15, rv16, rv17, rv18, rv19, rv20, rv21, trivial⟩
    | 15, hio =>
     cases hio
     have e44 := rv10 (hd ⟨10, .guard⟩ (by simp) rfl)
     obtain ⟨g, rfl⟩ : ∃ g, f = upd (upd (g) 2 (.pointer (some ⟨bb, 0, none⟩))) 44 (.bool false) := ⟨f, upd_keep' (upd_keep' (rfl) l2) e44⟩
     refine st_skip rfl (w_nil ?_)
     exact ⟨_, rfl, kR, l0, l1, l2, l4, l5, l6, l7, rv0, rv1, rv2, rv3, rv4, rv5, rv6, rv7, rv8, rv9, rv10, rv11, rv12, rv13, rv14, (fun _ => rfl), rv16, rv17, rv18, rv19, rv20, rv21, trivial⟩
    | 16, hio =>
     cases hio
     have e44 := rv10 (hd ⟨10, .guard⟩ (by simp) rfl)
     obtain ⟨g, rfl⟩ : ∃ g, f = upd (upd (g) 7 (.int .i64 (k : Nat))) 44 (.bool false) := ⟨f, upd_keep' (upd_keep' (rfl) l7) e44⟩
     refine st_skip rfl (w_nil ?_)
     exact ⟨_, rfl, kR, l0, l1, l2, l4, l5, l6, l7, rv0, rv1, rv2, rv3, rv4, rv5, rv6, rv7, rv8, rv9, rv10, rv11, rv12, rv13, rv14, rv15, (fun _ => rfl), rv17, rv18, rv19, rv20, rv21, trivial⟩
    | 17, hio =>
     cases hio
     have e49 := rv15 (hd ⟨15, .data⟩ (by simp) rfl)
     have e50 := rv16 (hd ⟨16, .data⟩ (by simp) rfl)
     have e44 := rv10 (hd ⟨10, .guard⟩ (by simp) rfl)
     obtain ⟨g, rfl⟩ : ∃ g, f = upd (upd (upd (g) 49 (undef)) 50 (undef)) 44 (.bool false) := ⟨f, upd_keep' (upd_keep' (upd_keep' (rfl) e49) e50) e44⟩
     refine st_skip rfl (w_nil ?_)
     exact ⟨_, rfl, kR, l0, l1, l2, l4, l5, l6, l7, rv0, rv1, rv2, rv3, rv4, rv5, rv6, rv7, rv8, rv9, rv10, rv11, rv12, rv13, rv14, rv15, rv16, (fun _ => rfl), rv18, rv19, rv20, rv21, trivial⟩
    | 18, hio =>
     cases hio
     have e51 := rv17 (hd ⟨17, .data⟩ (by simp) rfl)
     have e44 := rv10 (hd ⟨10, .guard⟩ (by simp) rfl)
     obtain ⟨g, rfl⟩ : ∃ g, f = upd (upd (g) 51 (undef)) 44 (.bool false) := ⟨f, upd_keep' (upd_keep' (rfl) e51) e44⟩
     refine st_skip rfl (w_nil ?_)
     exact ⟨_, rfl, kR, l0, l1, l2, l4, l5, l6, l7, rv0, rv1, rv2, rv3, rv4, rv5, rv6, rv7, rv8, rv9, rv10, rv11, rv12, rv13, rv14, rv15, rv16, rv17, (fun _ => rfl), rv19, rv20, rv21, trivial⟩
    | 19, hio =>
     cases hio
     have e48 := rv14 (hd ⟨14, .data⟩ (by simp) rfl)
     have e52 := rv18 (hd ⟨18, .data⟩ (by simp) rfl)
     have e44 := rv10 (hd ⟨10, .chain⟩ (by simp) rfl)
     obtain ⟨g, rfl⟩ : ∃ g, f = upd (upd (upd (g) 48 (undef)) 52 (undef)) 44 (.bool false) := ⟨f, upd_keep' (upd_keep' (upd_keep' (rfl) e48) e52) e44⟩
     refine st_skip rfl (w_nil ?_)
     exact ⟨_, rfl, kR, l0, l1, l2, l4, l5, l6, l7, rv0, rv1, rv2, rv3, rv4, rv5, rv6, rv7, rv8, rv9, rv10, rv11, rv12, rv13, rv14, rv15, rv16, rv17, rv18, (fun _ => rfl), rv20, rv21, trivial⟩
    | 20, hio =>
     cases hio
     have e44 := rv10 (hd ⟨10, .data⟩ (by simp) rfl)
     have e53 := rv19 (hd ⟨19, .data⟩ (by simp) rfl)
     obtain ⟨g, rfl⟩ : ∃ g, f = upd (upd (g) 44 (.bool false)) 53 (undef) := ⟨f, upd_keep' (upd_keep' (rfl) e44) e53⟩
     refine pFB rfl rfl rfl rfl rfl (w_nil ?_)
     exact ⟨_, rfl, kR, l0, l1, l2, l4, l5, l6, l7, rv0, rv1, rv2, rv3, rv4, rv5, rv6, rv7, rv8, rv9, rv10, rv11, rv12, rv13, rv14, rv15, rv16, rv17, rv18, rv19, (fun _ => rfl), rv21, trivial⟩
    | 21, hio =>
     cases hio
     have e54 := rv20 (hd ⟨20, .data⟩ (by simp) rfl)
     obtain ⟨g, rfl⟩ : ∃ g, f = upd (g) 54 (.bool false) := ⟨f, upd_keep' (rfl) e54⟩
     refine asB rfl rfl rfl (w_nil ?_)
     exact ⟨_, rfl, kR, l0, l1, l2, l4, l5, l6, l7, rv0, rv1, rv2, rv3, rv4, rv5, rv6, rv7, rv8, rv9, rv10, rv11, rv12, rv13, rv14, rv15, rv16, rv17, rv18, rv19, rv20, (fun _ => rfl), trivial⟩
    | k + 22, hio => exact absurd hio (by simp)
   ·intro S f w2 hS hI
    obtain ⟨kR, l0, l1, l2, l4, l5, l6, l7, rv0, rv1, rv2, rv3, rv4, rv5, rv6, rv7, rv8, rv9, rv10, rv11, rv12, rv13, rv14, rv15, rv16, rv17, rv18, rv19, rv20, rv21, -⟩ := hI
    obtain ⟨g, rfl⟩ : ∃ g, f = upd (upd (upd (upd (upd (upd (upd (upd (g) 0 (.func (.yield lr) #[] #[])) 1 (.pointer (some ⟨ba, 0, none⟩))) 2 (.pointer (some ⟨bb, 0, none⟩))) 4 (.slice (some ⟨bo, 0, none⟩) (la.length + 1) (la.length + 1))) 5 (.pointer (some ⟨b5, 0, none⟩))) 6 (.int .i64 (i : Nat))) 7 (.int .i64 (k : Nat))) 33 (.bool false) := ⟨f, upd_keep' (upd_keep' (upd_keep' (upd_keep' (upd_keep' (upd_keep' (upd_keep' (upd_keep' (rfl) l0) l1) l2) l4) l5) l6) l7) (rv21 (hS 21 (by decide)))⟩
    clear hS l0 l1 l2 l4 l5 l6 l7 rv0 rv1 rv2 rv3 rv4 rv5 rv6 rv7 rv8 rv9 rv10 rv11 rv12 rv13 rv14 rv15 rv16 rv17 rv18 rv19 rv20 rv21
    replace o5 := o5.kp kR (fun e => e)
    replace hvo := hvo.kp kR (fun _ _ _ e => e)
    replace hvn := hvn.kp kR (fun _ _ _ e => e)
    replace hJ := hJ.kpN kR
    replace K := K.transN kR
    refine then_n (c_F rfl rfl (wp_seq ?_))
    refine c_draw' (fun S f w => New w2 w ∧ f 0 = .func (.yield lr) #[] #[] ∧ f 1 = .pointer (some ⟨ba, 0, none⟩) ∧ f 2 = .pointer (some ⟨bb, 0, none⟩) ∧ f 4 = .slice (some ⟨bo, 0, none⟩) (la.length + 1) (la.length + 1) ∧ f 5 = .pointer (some ⟨b5, 0, none⟩) ∧ f 6 = .int .i64 (i : Nat) ∧ f 7 = .int .i64 (k : Nat) ∧ (S 0 = true → f 76 = .int .i64 (i : Nat)) ∧ (S 1 = true → f 77 = .slice A la.length capA) ∧ (S 2 = true → f 78 = .int .i64 (la.length : Nat)) ∧ (S 3 = true → f 79 = .bool false) ∧ (S 4 = true → f 80 = .bool false) ∧ (S 5 = true → f 81 = undef) ∧ (S 6 = true → f 82 = undef) ∧ (S 7 = true → f 83 = undef) ∧ (S 8 = true → f 84 = undef) ∧ (S 9 = true → f 85 = undef) ∧ (S 10 = true → f 86 = undef) ∧ (S 11 = true → f 87 = undef) ∧ (S 12 = true → f 88 = undef) ∧ (S 13 = true → f 89 = undef) ∧ (S 14 = true → f 90 = undef) ∧ (S 15 = true → f 91 = undef) ∧ (S 16 = true → f 92 = undef) ∧ (S 17 = true → f 93 = undef) ∧ (S 18 = true → f 94 = undef) ∧ (S 19 = true → f 95 = undef) ∧ (S 20 = true → f 96 = undef) ∧ (S 21 = true → f 97 = undef) ∧ (S 22 = true → f 98 = undef) ∧ (S 23 = true → f 99 = undef) ∧ (S 24 = true → f 100 = undef) ∧ (S 25 = true → f 101 = undef) ∧ (S 26 = true → f 102 = undef) ∧ (S 27 = true → f 103 = undef) ∧ (S 28 = true → f 104 = .bool false) ∧ (S 29 = true → f 75 = .bool false) ∧ True) (by kernel_rfl) ⟨(Kp.refl _ _).drew, rfl, rfl, rfl, rfl, rfl, rfl, rfl, (fun h => by cases h), (fun h => by cases h), (fun h => by cases h), (fun h => by cases h), (fun h => by cases h), (fun h => by cases h), (fun h => by cases h), (fun h => by cases h), (fun h => by cases h), (fun h => by cases h), (fun h => by cases h), (fun h => by cases h), (fun h => by cases h), (fun h => by cases h), (fun h => by cases h), (fun h => by cases h), (fun h => by cases h), (fun h => by cases h), (fun h => by cases h), (fun h => by cases h), (fun h => by cases h), (fun h => by cases h), (fun h => by cases h), (fun h => by cases h), (fun h => by cases h), (fun h => by cases h), (fun h => by cases h), (fun h => by cases h), (fun h => by cases h), (fun h => by cases h), trivial⟩ ?_ ?_
    ·intro io opx hio S f w hd hI
     obtain ⟨kR, l0, l1, l2, l4, l5, l6, l7, rv0, rv1, rv2, rv3, rv4, rv5, rv6, rv7, rv8, rv9, rv10, rv11, rv12, rv13, rv14, rv15, rv16, rv17, rv18, rv19, rv20, rv21, rv22, rv23, rv24, rv25, rv26, rv27, rv28, rv29, -⟩ := hI
     match io, hio with
     | 0, hio =>
      cases hio
      obtain ⟨g, rfl⟩ : ∃ g, f = upd (g) 6 (.int .i64 (i : Nat)) := ⟨f, upd_keep' (rfl) l6⟩
      refine mvI rfl rfl rfl (w_nil ?_)
      exact ⟨_, rfl, kR, l0, l1, l2, l4, l5, l6, l7, (fun _ => rfl), rv1, rv2, rv3, rv4, rv5, rv6, rv7, rv8, rv9, rv10, rv11, rv12, rv13, rv14, rv15, rv16, rv17, rv18, rv19, rv20, rv21, rv22, rv23, rv24, rv25, rv26, rv27, rv28, rv29, trivial⟩
     | 1, hio =>
      cases hio
      obtain ⟨g, rfl⟩ : ∃ g, f = upd (g) 1 (.pointer (some ⟨ba, 0, none⟩)) := ⟨f, upd_keep' (rfl) l1⟩
      refine s_ld1 (v := .slice _ _ _) on22 rfl rfl rfl ((hoA.kp (K.transN kR) (fun e => e.elim hba.1 hba.2)).get 0 rfl) (w_nil ?_)
      exact ⟨_, rfl, kR, l0, l1, l2, l4, l5, l6, l7, rv0, (fun _ => rfl), rv2, rv3, rv4, rv5, rv6, rv7, rv8, rv9, rv10, rv11, rv12, rv13, rv14, rv15, rv16, rv17, rv18, rv19, rv20, rv21, rv22, rv23, rv24, rv25, rv26, rv27, rv28, rv29, trivial⟩
     | 2, hio =>
      cases hio
      have e77 := rv1 (hd ⟨1, .data⟩ (by simp) rfl)
      obtain ⟨g, rfl⟩ : ∃ g, f = upd (g) 77 (.slice A la.length capA) := ⟨f, upd_keep' (rfl) e77⟩
      refine s_lenL Tryz.underlying22 rfl rfl rfl (w_nil ?_)
      exact ⟨_, rfl, kR, l0, l1, l2, l4, l5, l6, l7, rv0, rv1, (fun _ => rfl), rv3, rv4, rv5, rv6, rv7, rv8, rv9, rv10, rv11, rv12, rv13, rv14, rv15, rv16, rv17, rv18, rv19, rv20, rv21, rv22, rv23, rv24, rv25, rv26, rv27, rv28, rv29, trivial⟩
     | 3, hio =>
      cases hio
      have e76 := rv0 (hd ⟨0, .data⟩ (by simp) rfl)
      have e78 := rv2 (hd ⟨2, .data⟩ (by simp) rfl)
      obtain ⟨g, rfl⟩ : ∃ g, f = upd (upd (g) 76 (.int .i64 (i : Nat))) 78 (.int .i64 (la.length : Nat)) := ⟨f, upd_keep' (upd_keep' (rfl) e76) e78⟩
      refine s_lss rfl rfl rfl rfl rfl (decide_eq_false (by omega)) (w_nil ?_)
      exact ⟨_, rfl, kR, l0, l1, l2, l4, l5, l6, l7, rv0, rv1, rv2, (fun _ => rfl), rv4, rv5, rv6, rv7, rv8, rv9, rv10, rv11, rv12, rv13, rv14, rv15, rv16, rv17, rv18, rv19, rv20, rv21, rv22, rv23, rv24, rv25, rv26, rv27, rv28, rv29, trivial⟩
     | 4, hio =>
      cases hio
      have e79 := rv3 (hd ⟨3, .data⟩ (by simp) rfl)
      obtain ⟨g, rfl⟩ : ∃ g, f = upd (g) 79 (.bool false) := ⟨f, upd_keep' (rfl) e79⟩
      refine mvB rfl rfl rfl (w_nil ?_)
      exact ⟨_, rfl, kR, l0, l1, l2, l4, l5, l6, l7, rv0, rv1, rv2, rv3, (fun _ => rfl), rv5, rv6, rv7, rv8, rv9, rv10, rv11, rv12, rv13, rv14, rv15, rv16, rv17, rv18, rv19, rv20, rv21, rv22, rv23, rv24, rv25, rv26, rv27, rv28, rv29, trivial⟩
     | 5, hio =>
      cases hio
      have e80 := rv4 (hd ⟨4, .guard⟩ (by simp) rfl)
      obtain ⟨g, rfl⟩ : ∃ g, f = upd (upd (g) 7 (.int .i64 (k : Nat))) 80 (.bool false) := ⟨f, upd_keep' (upd_keep' (rfl) l7) e80⟩
      refine st_skip rfl (w_nil ?_)
      exact ⟨_, rfl, kR, l0, l1, l2, l4, l5, l6, l7, rv0, rv1, rv2, rv3, rv4, (fun _ => rfl), rv6, rv7, rv8, rv9, rv10, rv11, rv12, rv13, rv14, rv15, rv16, rv17, rv18, rv19, rv20, rv21, rv22, rv23, rv24, rv25, rv26, rv27, rv28, rv29, trivial⟩
     | 6, hio =>
      cases hio
      have e80 := rv4 (hd ⟨4, .guard⟩ (by simp) rfl)
      obtain ⟨g, rfl⟩ : ∃ g, f = upd (upd (g) 2 (.pointer (some ⟨bb, 0, none⟩))) 80 (.bool false) := ⟨f, upd_keep' (upd_keep' (rfl) l2) e80⟩
      refine st_skip rfl (w_nil ?_)
      exact ⟨_, rfl, kR, l0, l1, l2, l4, l5, l6, l7, rv0, rv1, rv2, rv3, rv4, rv5, (fun _ => rfl), rv7, rv8, rv9, rv10, rv11, rv12, rv13, rv14, rv15, rv16, rv17, rv18, rv19, rv20, rv21, rv22, rv23, rv24, rv25, rv26, rv27, rv28, rv29, trivial⟩
     | 7, hio =>
      cases hio
      have e82 := rv6 (hd ⟨6, .data⟩ (by simp) rfl)
      have e80 := rv4 (hd ⟨4, .guard⟩ (by simp) rfl)
      obtain ⟨g, rfl⟩ : ∃ g, f = upd (upd (g) 82 (undef)) 80 (.bool false) := ⟨f, upd_keep' (upd_keep' (rfl) e82) e80⟩
      refine st_skip rfl (w_nil ?_)
      exact ⟨_, rfl, kR, l0, l1, l2, l4, l5, l6, l7, rv0, rv1, rv2, rv3, rv4, rv5, rv6, (fun _ => rfl), rv8, rv9, rv10, rv11, rv12, rv13, rv14, rv15, rv16, rv17, rv18, rv19, rv20, rv21, rv22, rv23, rv24, rv25, rv26, rv27, rv28, rv29, trivial⟩
     | 8, hio =>
      cases hio
      have e81 := rv5 (hd ⟨5, .data⟩ (by simp) rfl)
      have e83 := rv7 (hd ⟨7, .data⟩ (by simp) rfl)
      have e80 := rv4 (hd ⟨4, .guard⟩ (by simp) rfl)
      obtain ⟨g, rfl⟩ : ∃ g, f = upd (upd (upd (g) 81 (undef)) 83 (undef)) 80 (.bool false) := ⟨f, upd_keep' (upd_keep' (upd_keep' (rfl) e81) e83) e80⟩
      refine st_skip rfl (w_nil ?_)
      exact ⟨_, rfl, kR, l0, l1, l2, l4, l5, l6, l7, rv0, rv1, rv2, rv3, rv4, rv5, rv6, rv7, (fun _ => rfl), rv9, rv10, rv11, rv12, rv13, rv14, rv15, rv16, rv17, rv18, rv19, rv20, rv21, rv22, rv23, rv24, rv25, rv26, rv27, rv28, rv29, trivial⟩
     | 9, hio =>
      cases hio
      have e84 := rv8 (hd ⟨8, .data⟩ (by simp) rfl)
      have e80 := rv4 (hd ⟨4, .chain⟩ (by simp) rfl)
      obtain ⟨g, rfl⟩ : ∃ g, f = upd (upd (g) 84 (undef)) 80 (.bool false) := ⟨f, upd_keep' (upd_keep' (rfl) e84) e80⟩
      refine st_skip rfl (w_nil ?_)
      exact ⟨_, rfl, kR, l0, l1, l2, l4, l5, l6, l7, rv0, rv1, rv2, rv3, rv4, rv5, rv6, rv7, rv8, (fun _ => rfl), rv10, rv11, rv12, rv13, rv14, rv15, rv16, rv17, rv18, rv19, rv20, rv21, rv22, rv23, rv24, rv25, rv26, rv27, rv28, rv29, trivial⟩
     | 10, hio =>
      cases hio
      have e85 := rv9 (hd ⟨9, .guard⟩ (by simp) rfl)
      obtain ⟨g, rfl⟩ : ∃ g, f = upd (upd (g) 4 (.slice (some ⟨bo, 0, none⟩) (la.length + 1) (la.length + 1))) 85 (undef) := ⟨f, upd_keep' (upd_keep' (rfl) l4) e85⟩
      refine st_skip rfl (w_nil ?_)
      exact ⟨_, rfl, kR, l0, l1, l2, l4, l5, l6, l7, rv0, rv1, rv2, rv3, rv4, rv5, rv6, rv7, rv8, rv9, (fun _ => rfl), rv11, rv12, rv13, rv14, rv15, rv16, rv17, rv18, rv19, rv20, rv21, rv22, rv23, rv24, rv25, rv26, rv27, rv28, rv29, trivial⟩
     | 11, hio =>
      cases hio
      have e85 := rv9 (hd ⟨9, .guard⟩ (by simp) rfl)
      obtain ⟨g, rfl⟩ : ∃ g, f = upd (upd (g) 6 (.int .i64 (i : Nat))) 85 (undef) := ⟨f, upd_keep' (upd_keep' (rfl) l6) e85⟩
      refine st_skip rfl (w_nil ?_)
      exact ⟨_, rfl, kR, l0, l1, l2, l4, l5, l6, l7, rv0, rv1, rv2, rv3, rv4, rv5, rv6, rv7, rv8, rv9, rv10, (fun _ => rfl), rv12, rv13, rv14, rv15, rv16, rv17, rv18, rv19, rv20, rv21, rv22, rv23, rv24, rv25, rv26, rv27, rv28, rv29, trivial⟩
     | 12, hio =>
      cases hio
      have e87 := rv11 (hd ⟨11, .data⟩ (by simp) rfl)
      have e85 := rv9 (hd ⟨9, .guard⟩ (by simp) rfl)
      obtain ⟨g, rfl⟩ : ∃ g, f = upd (upd (g) 87 (undef)) 85 (undef) := ⟨f, upd_keep' (upd_keep' (rfl) e87) e85⟩
      refine st_skip rfl (w_nil ?_)
      exact ⟨_, rfl, kR, l0, l1, l2, l4, l5, l6, l7, rv0, rv1, rv2, rv3, rv4, rv5, rv6, rv7, rv8, rv9, rv10, rv11, (fun _ => rfl), rv13, rv14, rv15, rv16, rv17, rv18, rv19, rv20, rv21, rv22, rv23, rv24, rv25, rv26, rv27, rv28, rv29, trivial⟩
     | 13, hio =>
      cases hio
      have e86 := rv10 (hd ⟨10, .data⟩ (by simp) rfl)
      have e88 := rv12 (hd ⟨12, .data⟩ (by simp) rfl)
      have e85 := rv9 (hd ⟨9, .guard⟩ (by simp) rfl)
      obtain ⟨g, rfl⟩ : ∃ g, f = upd (upd (upd (g) 86 (undef)) 88 (undef)) 85 (undef) := ⟨f, upd_keep' (upd_keep' (upd_keep' (rfl) e86) e88) e85⟩
      refine st_skip rfl (w_nil ?_)
      exact ⟨_, rfl, kR, l0, l1, l2, l4, l5, l6, l7, rv0, rv1, rv2, rv3, rv4, rv5, rv6, rv7, rv8, rv9, rv10, rv11, rv12, (fun _ => rfl), rv14, rv15, rv16, rv17, rv18, rv19, rv20, rv21, rv22, rv23, rv24, rv25, rv26, rv27, rv28, rv29, trivial⟩
     | 14, hio =>
      cases hio
      have e89 := rv13 (hd ⟨13, .data⟩ (by simp) rfl)
      have e85 := rv9 (hd ⟨9, .guard⟩ (by simp) rfl)
      obtain ⟨g, rfl⟩ : ∃ g, f = upd (upd (g) 89 (undef)) 85 (undef) := ⟨f, upd_keep' (upd_keep' (rfl) e89) e85⟩
      refine st_skip rfl (w_nil ?_)
      exact ⟨_, rfl, kR, l0, l1, l2, l4, l5, l6, l7, rv0, rv1, rv2, rv3, rv4, rv5, rv6, rv7, rv8, rv9, rv10, rv11, rv12, rv13, (fun _ => rfl), rv15, rv16, rv17, rv18, rv19, rv20, rv21, rv22, rv23, rv24, rv25, rv26, rv27, rv28, rv29, trivial⟩
     | 15, hio =>
      cases hio
      have e85 := rv9 (hd ⟨9, .guard⟩ (by simp) rfl)
      obtain ⟨g, rfl⟩ : ∃ g, f = upd (upd (g) 7 (.int .i64 (k : Nat))) 85 (undef) := ⟨f, upd_keep' (upd_keep' (rfl) l7) e85⟩
      refine st_skip rfl (w_nil ?_)
      exact ⟨_, rfl, kR, l0, l1, l2, l4, l5, l6, l7, rv0, rv1, rv2, rv3, rv4, rv5, rv6, rv7, rv8, rv9, rv10, rv11, rv12, rv13, rv14, (fun _ => rfl), rv16, rv17, rv18, rv19, rv20, rv21, rv22, rv23, rv24, rv25, rv26, rv27, rv28, rv29, trivial⟩
     | 16, hio =>
      cases hio
      have e90 := rv14 (hd ⟨14, .data⟩ (by simp) rfl)
      have e91 := rv15 (hd ⟨15, .data⟩ (by simp) rfl)
      have e85 := rv9 (hd ⟨9, .guard⟩ (by simp) rfl)
      obtain ⟨g, rfl⟩ : ∃ g, f = upd (upd (upd (g) 90 (undef)) 91 (undef)) 85 (undef) := ⟨f, upd_keep' (upd_keep' (upd_keep' (rfl) e90) e91) e85⟩
      refine st_skip rfl (w_nil ?_)
      exact ⟨_, rfl, kR, l0, l1, l2, l4, l5, l6, l7, rv0, rv1, rv2, rv3, rv4, rv5, rv6, rv7, rv8, rv9, rv10, rv11, rv12, rv13, rv14, rv15, (fun _ => rfl), rv17, rv18, rv19, rv20, rv21, rv22, rv23, rv24, rv25, rv26, rv27, rv28, rv29, trivial⟩
     | 17, hio =>
      cases hio
      have e92 := rv16 (hd ⟨16, .data⟩ (by simp) rfl)
      have e85 := rv9 (hd ⟨9, .guard⟩ (by simp) rfl)
      obtain ⟨g, rfl⟩ : ∃ g, f = upd (upd (g) 92 (undef)) 85 (undef) := ⟨f, upd_keep' (upd_keep' (rfl) e92) e85⟩
      refine st_skip rfl (w_nil ?_)
      exact ⟨_, rfl, kR, l0, l1, l2, l4, l5, l6, l7, rv0, rv1, rv2, rv3, rv4, rv5, rv6, rv7, rv8, rv9, rv10, rv11, rv12, rv13, rv14, rv15, rv16, (fun _ => rfl), rv18, rv19, rv20, rv21, rv22, rv23, rv24, rv25, rv26, rv27, rv28, rv29, trivial⟩
     | 18, hio =>
      cases hio
      have e85 := rv9 (hd ⟨9, .guard⟩ (by simp) rfl)
      obtain ⟨g, rfl⟩ : ∃ g, f = upd (upd (g) 4 (.slice (some ⟨bo, 0, none⟩) (la.length + 1) (la.length + 1))) 85 (undef) := ⟨f, upd_keep' (upd_keep' (rfl) l4) e85⟩
      refine st_skip rfl (w_nil ?_)
      exact ⟨_, rfl, kR, l0, l1, l2, l4, l5, l6, l7, rv0, rv1, rv2, rv3, rv4, rv5, rv6, rv7, rv8, rv9, rv10, rv11, rv12, rv13, rv14, rv15, rv16, rv17, (fun _ => rfl), rv19, rv20, rv21, rv22, rv23, rv24, rv25, rv26, rv27, rv28, rv29, trivial⟩
     | 19, hio =>
      cases hio
      have e85 := rv9 (hd ⟨9, .guard⟩ (by simp) rfl)
      obtain ⟨g, rfl⟩ : ∃ g, f = upd (upd (g) 6 (.int .i64 (i : Nat))) 85 (undef) := ⟨f, upd_keep' (upd_keep' (rfl) l6) e85⟩
      refine st_skip rfl (w_nil ?_)
      exact ⟨_, rfl, kR, l0, l1, l2, l4, l5, l6, l7, rv0, rv1, rv2, rv3, rv4, rv5, rv6, rv7, rv8, rv9, rv10, rv11, rv12, rv13, rv14, rv15, rv16, rv17, rv18, (fun _ => rfl), rv20, rv21, rv22, rv23, rv24, rv25, rv26, rv27, rv28, rv29, trivial⟩
     | 20, hio =>
      cases hio
      have e94 := rv18 (hd ⟨18, .data⟩ (by simp) rfl)
      have e95 := rv19 (hd ⟨19, .data⟩ (by simp) rfl)
      have e85 := rv9 (hd ⟨9, .guard⟩ (by simp) rfl)
      obtain ⟨g, rfl⟩ : ∃ g, f = upd (upd (upd (g) 94 (undef)) 95 (undef)) 85 (undef) := ⟨f, upd_keep' (upd_keep' (upd_keep' (rfl) e94) e95) e85⟩
      refine st_skip rfl (w_nil ?_)
      exact ⟨_, rfl, kR, l0, l1, l2, l4, l5, l6, l7, rv0, rv1, rv2, rv3, rv4, rv5, rv6, rv7, rv8, rv9, rv10, rv11, rv12, rv13, rv14, rv15, rv16, rv17, rv18, rv19, (fun _ => rfl), rv21, rv22, rv23, rv24, rv25, rv26, rv27, rv28, rv29, trivial⟩
     | 21, hio =>
      cases hio
      have e96 := rv20 (hd ⟨20, .data⟩ (by simp) rfl)
      have e85 := rv9 (hd ⟨9, .guard⟩ (by simp) rfl)
      obtain ⟨g, rfl⟩ : ∃ g, f = upd (upd (g) 96 (undef)) 85 (undef) := ⟨f, upd_keep' (upd_keep' (rfl) e96) e85⟩
      refine st_skip rfl (w_nil ?_)
      exact ⟨_, rfl, kR, l0, l1, l2, l4, l5, l6, l7, rv0, rv1, rv2, rv3, rv4, rv5, rv6, rv7, rv8, rv9, rv10, rv11, rv12, rv13, rv14, rv15, rv16, rv17, rv18, rv19, rv20, (fun _ => rfl), rv22, rv23, rv24, rv25, rv26, rv27, rv28, rv29, trivial⟩
     | 22, hio =>
      cases hio
      have e85 := rv9 (hd ⟨9, .guard⟩ (by simp) rfl)
      obtain ⟨g, rfl⟩ : ∃ g, f = upd (upd (g) 7 (.int .i64 (k : Nat))) 85 (undef) := ⟨f, upd_keep' (upd_keep' (rfl) l7) e85⟩
      refine st_skip rfl (w_nil ?_)
      exact ⟨_, rfl, kR, l0, l1, l2, l4, l5, l6, l7, rv0, rv1, rv2, rv3, rv4, rv5, rv6, rv7, rv8, rv9, rv10, rv11, rv12, rv13, rv14, rv15, rv16, rv17, rv18, rv19, rv20, rv21, (fun _ => rfl), rv23, rv24, rv25, rv26, rv27, rv28, rv29, trivial⟩
     | 23, hio =>
      cases hio
      have e98 := rv22 (hd ⟨22, .data⟩ (by simp) rfl)
      have e85 := rv9 (hd ⟨9, .guard⟩ (by simp) rfl)
      obtain ⟨g, rfl⟩ : ∃ g, f = upd (upd (g) 98 (undef)) 85 (undef) := ⟨f, upd_keep' (upd_keep' (rfl) e98) e85⟩
      refine st_skip rfl (w_nil ?_)
      exact ⟨_, rfl, kR, l0, l1, l2, l4, l5, l6, l7, rv0, rv1, rv2, rv3, rv4, rv5, rv6, rv7, rv8, rv9, rv10, rv11, rv12, rv13, rv14, rv15, rv16, rv17, rv18, rv19, rv20, rv21, rv22, (fun _ => rfl), rv24, rv25, rv26, rv27, rv28, rv29, trivial⟩
     | 24, hio =>
      cases hio
      have e97 := rv21 (hd ⟨21, .data⟩ (by simp) rfl)
      have e99 := rv23 (hd ⟨23, .data⟩ (by simp) rfl)
      have e85 := rv9 (hd ⟨9, .guard⟩ (by simp) rfl)
      obtain ⟨g, rfl⟩ : ∃ g, f = upd (upd (upd (g) 97 (undef)) 99 (undef)) 85 (undef) := ⟨f, upd_keep' (upd_keep' (upd_keep' (rfl) e97) e99) e85⟩
      refine st_skip rfl (w_nil ?_)
      exact ⟨_, rfl, kR, l0, l1, l2, l4, l5, l6, l7, rv0, rv1, rv2, rv3, rv4, rv5, rv6, rv7, rv8, rv9, rv10, rv11, rv12, rv13, rv14, rv15, rv16, rv17, rv18, rv19, rv20, rv21, rv22, rv23, (fun _ => rfl), rv25, rv26, rv27, rv28, rv29, trivial⟩
     | 25, hio =>
      cases hio
      have e100 := rv24 (hd ⟨24, .data⟩ (by simp) rfl)
      have e85 := rv9 (hd ⟨9, .guard⟩ (by simp) rfl)
      obtain ⟨g, rfl⟩ : ∃ g, f = upd (upd (g) 100 (undef)) 85 (undef) := ⟨f, upd_keep' (upd_keep' (rfl) e100) e85⟩
      refine st_skip rfl (w_nil ?_)
      exact ⟨_, rfl, kR, l0, l1, l2, l4, l5, l6, l7, rv0, rv1, rv2, rv3, rv4, rv5, rv6, rv7, rv8, rv9, rv10, rv11, rv12, rv13, rv14, rv15, rv16, rv17, rv18, rv19, rv20, rv21, rv22, rv23, rv24, (fun _ => rfl), rv26, rv27, rv28, rv29, trivial⟩
     | 26, hio =>
      cases hio
      have e93 := rv17 (hd ⟨17, .data⟩ (by simp) rfl)
      have e101 := rv25 (hd ⟨25, .data⟩ (by simp) rfl)
      have e85 := rv9 (hd ⟨9, .guard⟩ (by simp) rfl)
      obtain ⟨g, rfl⟩ : ∃ g, f = upd (upd (upd (g) 93 (undef)) 101 (undef)) 85 (undef) := ⟨f, upd_keep' (upd_keep' (upd_keep' (rfl) e93) e101) e85⟩
      refine st_skip rfl (w_nil ?_)
      exact ⟨_, rfl, kR, l0, l1, l2, l4, l5, l6, l7, rv0, rv1, rv2, rv3, rv4, rv5, rv6, rv7, rv8, rv9, rv10, rv11, rv12, rv13, rv14, rv15, rv16, rv17, rv18, rv19, rv20, rv21, rv22, rv23, rv24, rv25, (fun _ => rfl), rv27, rv28, rv29, trivial⟩
     | 27, hio =>
      cases hio
      have e85 := rv9 (hd ⟨9, .data⟩ (by simp) rfl)
      have e102 := rv26 (hd ⟨26, .data⟩ (by simp) rfl)
      have e80 := rv4 (hd ⟨4, .guard⟩ (by simp) rfl)
      obtain ⟨g, rfl⟩ : ∃ g, f = upd (upd (upd (g) 85 (undef)) 102 (undef)) 80 (.bool false) := ⟨f, upd_keep' (upd_keep' (upd_keep' (rfl) e85) e102) e80⟩
      refine st_skip rfl (w_nil ?_)
      exact ⟨_, rfl, kR, l0, l1, l2, l4, l5, l6, l7, rv0, rv1, rv2, rv3, rv4, rv5, rv6, rv7, rv8, rv9, rv10, rv11, rv12, rv13, rv14, rv15, rv16, rv17, rv18, rv19, rv20, rv21, rv22, rv23, rv24, rv25, rv26, (fun _ => rfl), rv28, rv29, trivial⟩
     | 28, hio =>
      cases hio
      have e80 := rv4 (hd ⟨4, .data⟩ (by simp) rfl)
      have e103 := rv27 (hd ⟨27, .data⟩ (by simp) rfl)
      obtain ⟨g, rfl⟩ : ∃ g, f = upd (upd (g) 80 (.bool false)) 103 (undef) := ⟨f, upd_keep' (upd_keep' (rfl) e80) e103⟩
      refine pFB rfl rfl rfl rfl rfl (w_nil ?_)
      exact ⟨_, rfl, kR, l0, l1, l2, l4, l5, l6, l7, rv0, rv1, rv2, rv3, rv4, rv5, rv6, rv7, rv8, rv9, rv10, rv11, rv12, rv13, rv14, rv15, rv16, rv17, rv18, rv19, rv20, rv21, rv22, rv23, rv24, rv25, rv26, rv27, (fun _ => rfl), rv29, trivial⟩
     | 29, hio =>
      cases hio
      have e104 := rv28 (hd ⟨28, .data⟩ (by simp) rfl)
      obtain ⟨g, rfl⟩ : ∃ g, f = upd (g) 104 (.bool false) := ⟨f, upd_keep' (rfl) e104⟩
      refine asB rfl rfl rfl (w_nil ?_)
      exact ⟨_, rfl, kR, l0, l1, l2, l4, l5, l6, l7, rv0, rv1, rv2, rv3, rv4, rv5, rv6, rv7, rv8, rv9, rv10, rv11, rv12, rv13, rv14, rv15, rv16, rv17, rv18, rv19, rv20, rv21, rv22, rv23, rv24, rv25, rv26, rv27, rv28, (fun _ => rfl), trivial⟩
     | k + 30, hio => exact absurd hio (by simp)
    ·intro S f w3 hS hI
     obtain ⟨kR, l0, l1, l2, l4, l5, l6, l7, rv0, rv1, rv2, rv3, rv4, rv5, rv6, rv7, rv8, rv9, rv10, rv11, rv12, rv13, rv14, rv15, rv16, rv17, rv18, rv19, rv20, rv21, rv22, rv23, rv24, rv25, rv26, rv27, rv28, rv29, -⟩ := hI
     obtain ⟨g, rfl⟩ : ∃ g, f = upd (upd (upd (upd (upd (upd (upd (upd (g) 0 (.func (.yield lr) #[] #[])) 1 (.pointer (some ⟨ba, 0, none⟩))) 2 (.pointer (some ⟨bb, 0, none⟩))) 4 (.slice (some ⟨bo, 0, none⟩) (la.length + 1) (la.length + 1))) 5 (.pointer (some ⟨b5, 0, none⟩))) 6 (.int .i64 (i : Nat))) 7 (.int .i64 (k : Nat))) 75 (.bool false) := ⟨f, upd_keep' (upd_keep' (upd_keep' (upd_keep' (upd_keep' (upd_keep' (upd_keep' (upd_keep' (rfl) l0) l1) l2) l4) l5) l6) l7) (rv29 (hS 29 (by decide)))⟩
     clear hS l0 l1 l2 l4 l5 l6 l7 rv0 rv1 rv2 rv3 rv4 rv5 rv6 rv7 rv8 rv9 rv10 rv11 rv12 rv13 rv14 rv15 rv16 rv17 rv18 rv19 rv20 rv21 rv22 rv23 rv24 rv25 rv26 rv27 rv28 rv29
     replace o5 := o5.kp kR (fun e => e)
     replace hvo := hvo.kp kR (fun _ _ _ e => e)
     replace hvn := hvn.kp kR (fun _ _ _ e => e)
     replace hJ := hJ.kpN kR
     replace K := K.transN kR
     refine then_n (c_F rfl rfl (wp_seq ?_))
     have hseg := seg_one hB hlk hcB
     have hb5 := o5.lt
     have hro := hvo.rlt
     have hrn := hvn.rlt
     have hr := hJ.rlt
     refine c_drawS (fun S f w => (S 7 = false → w = w3.drew) ∧ (S 7 = true → S 8 = false → (∃ v1 r1, f 28 = v1 ∧ FRow w3.heap.size w v1 [lb[k]] r1 ∧ w3.heap.size ≤ w.heap.size ∧ Own w b5 60 [.int .i64 (i0 : Nat), .slice Ao old.length co, .slice An new.length cn] ∧ FRowG (Gx b5 rn r) w (.slice Ao old.length co) (old) ro ∧ FRowG (Gx b5 ro r) w (.slice An new.length cn) (new) rn ∧ JJ rec lr D b6 (Gx b5 ro rn) w es r ∧ Kp (fun i => i = lr ∨ i = b6) W w)) ∧ (S 8 = true → S 10 = false → (∃ A2 c2 r2, f 29 = .slice A2 (new ++ [lb[k]]).length c2 ∧ Own w b5 60 [.int .i64 (i0 : Nat), .slice Ao old.length co, .slice An new.length cn] ∧ FRowG (Gx b5 r2 r) w (.slice Ao old.length co) old ro ∧ FRowG (Gx b5 ro r) w (.slice A2 (new ++ [lb[k]]).length c2) (new ++ [lb[k]]) r2 ∧ JJ rec lr D b6 (Gx b5 ro r2) w es r ∧ Kp (fun i => i = lr ∨ i = b6) W w)) ∧ (S 10 = true → (∃ A2 c2 r2, Own w b5 60 [.int .i64 (i0 : Nat), .slice Ao old.length co, .slice A2 (new ++ [lb[k]]).length c2] ∧ FRowG (Gx b5 r2 r) w (.slice Ao old.length co) old ro ∧ FRowG (Gx b5 ro r) w (.slice A2 (new ++ [lb[k]]).length c2) (new ++ [lb[k]]) r2 ∧ JJ rec lr D b6 (Gx b5 ro r2) w es r ∧ Kp (fun i => i = lr ∨ i = b6) W w)) ∧ f 0 = .func (.yield lr) #[] #[] ∧ f 1 = .pointer (some ⟨ba, 0, none⟩) ∧ f 2 = .pointer (some ⟨bb, 0, none⟩) ∧ f 4 = .slice (some ⟨bo, 0, none⟩) (la.length + 1) (la.length + 1) ∧ f 5 = .pointer (some ⟨b5, 0, none⟩) ∧ f 6 = .int .i64 (i : Nat) ∧ f 7 = .int .i64 (k : Nat) ∧ (S 0 = true → f 21 = .pointer (some (Addr.add ⟨b5, 0, none⟩ 2))) ∧ (S 1 = true → f 22 = .slice An new.length cn) ∧ (S 2 = true → f 23 = .slice (some q) lb.length capB) ∧ (S 3 = true → f 24 = .int .i64 (k : Nat)) ∧ (S 4 = true → f 25 = .int .i64 (k : Nat)) ∧ (S 5 = true → f 26 = .int .i64 ((k : Nat) + 1 : Int)) ∧ (S 6 = true → f 27 = .slice (part (some q) k capB 4) 1 (capB - k)) ∧ (S 9 = true → f 30 = .pointer (some (Addr.add ⟨b5, 0, none⟩ 2))) ∧ True) (fun i => i) (rank_back (by kernel_rfl)) ⟨(fun _ => rfl), (fun h => by cases h), (fun h => by cases h), (fun h => by cases h), rfl, rfl, rfl, rfl, rfl, rfl, rfl, (fun h => by cases h), (fun h => by cases h), (fun h => by cases h), (fun h => by cases h), (fun h => by cases h), (fun h => by cases h), (fun h => by cases h), (fun h => by cases h), trivial⟩ ?_ ?_
     ·intro io opx hio S f w hS hC hd hI
      obtain ⟨st0, st1, st2, st3, l0, l1, l2, l4, l5, l6, l7, rv0, rv1, rv2, rv3, rv4, rv5, rv6, rv9, -⟩ := hI
      match io, hio with
      | 0, hio =>
       cases hio
       obtain ⟨g, rfl⟩ : ∃ g, f = upd (g) 5 (.pointer (some ⟨b5, 0, none⟩)) := ⟨f, upd_keep' (rfl) l5⟩
       refine s_fa fi60_2 rfl rfl rfl (w_nil ?_)
       exact ⟨_, rfl, st0, st1, st2, st3, l0, l1, l2, l4, l5, l6, l7, (fun _ => rfl), rv1, rv2, rv3, rv4, rv5, rv6, rv9, trivial⟩
      | 1, hio =>
       cases hio
       have q8 : S 8 = false := Q9 hS fun h => (hC 8 _ rfl h ⟨1, .data⟩ (by simp) rfl)
       have q10 : S 10 = false := Q9 hS fun h => (hC 10 _ rfl h ⟨1, .phase⟩ (by simp) rfl)
       have e21 := rv0 (hd ⟨0, .data⟩ (by simp) rfl)
       cases q7 : S 7 with
       | false =>
        obtain rfl := st0 q7
        have kd : New w3 w3.drew := (Kp.refl _ _).drew
        replace o5 := o5.kp kd (fun e => e)
        replace hvo := hvo.kp kd (fun _ _ _ e => e)
        replace hvn := hvn.kp kd (fun _ _ _ e => e)
        replace hJ := hJ.kpN kd
        replace K := K.transN kd
        obtain ⟨g, rfl⟩ : ∃ g, f = upd (g) 21 (.pointer (some (Addr.add ⟨b5, 0, none⟩ 2))) := ⟨f, upd_keep' (rfl) e21⟩
        refine s_ld1 (v := .slice An new.length cn) on22 rfl rfl rfl (o5.get 2 rfl) (w_nil ?_)
        exact ⟨_, rfl, (fun _ => rfl), st1, st2, st3, l0, l1, l2, l4, l5, l6, l7, rv0, (fun _ => rfl), rv2, rv3, rv4, rv5, rv6, rv9, trivial⟩
       | true =>
        obtain ⟨v1, r1, e1, hv1, hszw, o5, hvo, hvn, hJ, K⟩ := st1 q7 q8
        obtain ⟨g, rfl⟩ : ∃ g, f = upd (g) 21 (.pointer (some (Addr.add ⟨b5, 0, none⟩ 2))) := ⟨f, upd_keep' (rfl) e21⟩
        refine s_ld1 (v := .slice An new.length cn) on22 rfl rfl rfl (o5.get 2 rfl) (w_nil ?_)
        exact ⟨_, rfl, st0, (fun _ _ => ⟨v1, r1, e1, hv1, hszw, o5, hvo, hvn, hJ, K⟩), st2, st3, l0, l1, l2, l4, l5, l6, l7, rv0, (fun _ => rfl), rv2, rv3, rv4, rv5, rv6, rv9, trivial⟩
      | 2, hio =>
       cases hio
       have q7 : S 7 = false := Q9 hS fun h => (hC 6 _ rfl (hC 7 _ rfl h ⟨6, .data⟩ (by simp) rfl) ⟨2, .data⟩ (by simp) rfl)
       have q8 : S 8 = false := Q9 hS fun h => (hC 6 _ rfl (hC 7 _ rfl (hC 8 _ rfl h ⟨7, .data⟩ (by simp) rfl) ⟨6, .data⟩ (by simp) rfl) ⟨2, .data⟩ (by simp) rfl)
       have q10 : S 10 = false := Q9 hS fun h => (hC 10 _ rfl h ⟨2, .phase⟩ (by simp) rfl)
       obtain rfl := st0 q7
       have kd : New w3 w3.drew := (Kp.refl _ _).drew
       replace o5 := o5.kp kd (fun e => e)
       replace hvo := hvo.kp kd (fun _ _ _ e => e)
       replace hvn := hvn.kp kd (fun _ _ _ e => e)
       replace hJ := hJ.kpN kd
       replace K := K.transN kd
       obtain ⟨g, rfl⟩ : ∃ g, f = upd (g) 2 (.pointer (some ⟨bb, 0, none⟩)) := ⟨f, upd_keep' (rfl) l2⟩
       refine s_ld1 (v := .slice _ _ _) on22 rfl rfl rfl ((hoB.kp K (fun e => e.elim hbb.1 hbb.2)).get 0 rfl) (w_nil ?_)
       exact ⟨_, rfl, (fun _ => rfl), st1, st2, st3, l0, l1, l2, l4, l5, l6, l7, rv0, rv1, (fun _ => rfl), rv3, rv4, rv5, rv6, rv9, trivial⟩
      | 3, hio =>
       cases hio
       obtain ⟨g, rfl⟩ : ∃ g, f = upd (g) 7 (.int .i64 (k : Nat)) := ⟨f, upd_keep' (rfl) l7⟩
       refine mvI rfl rfl rfl (w_nil ?_)
       exact ⟨_, rfl, st0, st1, st2, st3, l0, l1, l2, l4, l5, l6, l7, rv0, rv1, rv2, (fun _ => rfl), rv4, rv5, rv6, rv9, trivial⟩
      | 4, hio =>
       cases hio
       obtain ⟨g, rfl⟩ : ∃ g, f = upd (g) 7 (.int .i64 (k : Nat)) := ⟨f, upd_keep' (rfl) l7⟩
       refine mvI rfl rfl rfl (w_nil ?_)
       exact ⟨_, rfl, st0, st1, st2, st3, l0, l1, l2, l4, l5, l6, l7, rv0, rv1, rv2, rv3, (fun _ => rfl), rv5, rv6, rv9, trivial⟩
      | 5, hio =>
       cases hio
       have e25 := rv4 (hd ⟨4, .data⟩ (by simp) rfl)
       obtain ⟨g, rfl⟩ : ∃ g, f = upd (g) 25 (.int .i64 (k : Nat)) := ⟨f, upd_keep' (rfl) e25⟩
       refine s_add rfl rfl rfl rfl rfl (w64 (by omega)) (w_nil ?_)
       exact ⟨_, rfl, st0, st1, st2, st3, l0, l1, l2, l4, l5, l6, l7, rv0, rv1, rv2, rv3, rv4, (fun _ => rfl), rv6, rv9, trivial⟩
      | 6, hio =>
       cases hio
       have e23 := rv2 (hd ⟨2, .data⟩ (by simp) rfl)
       have e24 := rv3 (hd ⟨3, .data⟩ (by simp) rfl)
       have e26 := rv5 (hd ⟨5, .data⟩ (by simp) rfl)
       obtain ⟨g, rfl⟩ : ∃ g, f = upd (upd (upd (g) 23 (.slice (some q) lb.length capB)) 24 (.int .i64 (k : Nat))) 26 (.int .i64 ((k : Nat) + 1 : Int)) := ⟨f, upd_keep' (upd_keep' (upd_keep' (rfl) e23) e24) e26⟩
       refine s_slLH (lo := k) (hi := k + 1) (m := 1) el22 rfl rfl rfl rfl rfl rfl rfl (by omega) (by omega) (by omega) (by omega) (by omega) (w_nil ?_)
       exact ⟨_, rfl, st0, st1, st2, st3, l0, l1, l2, l4, l5, l6, l7, rv0, rv1, rv2, rv3, rv4, rv5, (fun _ => rfl), rv9, trivial⟩
      | 7, hio =>
       cases hio
       have q7 : S 7 = false := hS
       have q8 : S 8 = false := Q9 hS fun h => (hC 8 _ rfl h ⟨7, .data⟩ (by simp) rfl)
       have q10 : S 10 = false := Q9 hS fun h => (hC 10 _ rfl h ⟨7, .phase⟩ (by simp) rfl)
       have e27 := rv6 (hd ⟨6, .data⟩ (by simp) rfl)
       obtain rfl := st0 q7
       have kd : New w3 w3.drew := (Kp.refl _ _).drew
       replace o5 := o5.kp kd (fun e => e)
       replace hvo := hvo.kp kd (fun _ _ _ e => e)
       replace hvn := hvn.kp kd (fun _ _ _ e => e)
       replace hJ := hJ.kpN kd
       replace K := K.transN kd
       obtain ⟨g, rfl⟩ : ∃ g, f = upd (g) 27 (.slice (part (some q) k capB 4) 1 (capB - k)) := ⟨f, upd_keep' (rfl) e27⟩
       refine s_call1 go29 rfl (c29 (part (some q) k capB 4) (capB - k) [lb[k]] _ (hseg.kp K (fun j _ hg e => e.elim (hGB j hg).1 (hGB j hg).2)) (by simp) (fun x hx => hsb x (by simp only [List.mem_singleton] at hx; subst hx; exact List.getElem_mem _))) rfl rfl ?_
       rintro _ w4 ⟨v1, r1, rfl, hv1, kc⟩
       refine ⟨_, rfl, ?_⟩
       refine w_nil ?_
       exact ⟨_, rfl, (fun h => absurd h (by simp [ins, q8, q10])), (fun _ _ => ⟨v1, r1, rfl, hv1, kc.size, o5.kp kc (fun e => e), hvo.kp kc (fun _ _ _ e => e), hvn.kp kc (fun _ _ _ e => e), hJ.kpN kc, K.transN kc⟩), (fun h => absurd h (by simp [ins, q8, q10])), (fun h => absurd h (by simp [ins, q8, q10])), l0, l1, l2, l4, l5, l6, l7, rv0, rv1, rv2, rv3, rv4, rv5, rv6, rv9, trivial⟩
      | 8, hio =>
       cases hio
       have q7 : S 7 = true := (hd ⟨7, .data⟩ (by simp) rfl)
       have q8 : S 8 = false := hS
       have q10 : S 10 = false := Q9 hS fun h => (hC 10 _ rfl h ⟨8, .data⟩ (by simp) rfl)
       have e22 := rv1 (hd ⟨1, .data⟩ (by simp) rfl)
       obtain ⟨v1, r1, e1, hv1, hszw, o5, hvo, hvn, hJ, K⟩ := st1 q7 q8
       obtain ⟨g, rfl⟩ : ∃ g, f = upd (upd (g) 22 (.slice An new.length cn)) 28 (v1) := ⟨f, upd_keep' (upd_keep' (rfl) e22) e1⟩
       refine s_appFG (G := Gx b5 ro r) (l1 := new) (l2 := [lb[k]]) el22 rfl rfl rfl rfl rfl rfl hvn hv1 (fun j hj => ⟨by omega, fun e => by have := hro j e.symm; omega, fun e => by have := hr j e.symm; omega⟩) hrn hszw (by simp only [List.length_singleton]; omega) ?_
       intro v2 wA r2 hv2 kA hr2
       obtain ⟨A2, c2, rfl, hc2⟩ := hv2.shape
       refine w_nil ?_
       exact ⟨_, rfl, (fun h => absurd h (by simp [ins, q7, q10])), (fun _ h => absurd h (by simp [ins, q7, q10])), (fun _ _ => ⟨A2, c2, r2, rfl, o5.kp kA (fun e => absurd (hvn.rge b5 e.symm).1 (Nat.lt_irrefl _)), hvo.mv kA hr2, hv2, hJ.mv2 kA hr2 (fun e => by have := (hvn.rge lr e.symm).1; omega) (fun e => by have := (hvn.rge D e.symm).1; omega) (fun e => by have := (hvn.rge b6 e.symm).1; omega), K.trans' kA (fun j hj e => by have := (hvn.rge j e.symm).1; omega)⟩), (fun h => absurd h (by simp [ins, q7, q10])), l0, l1, l2, l4, l5, l6, l7, rv0, rv1, rv2, rv3, rv4, rv5, rv6, rv9, trivial⟩
      | 9, hio =>
       cases hio
       obtain ⟨g, rfl⟩ : ∃ g, f = upd (g) 5 (.pointer (some ⟨b5, 0, none⟩)) := ⟨f, upd_keep' (rfl) l5⟩
       refine s_fa fi60_2 rfl rfl rfl (w_nil ?_)
       exact ⟨_, rfl, st0, st1, st2, st3, l0, l1, l2, l4, l5, l6, l7, rv0, rv1, rv2, rv3, rv4, rv5, rv6, (fun _ => rfl), trivial⟩
      | 10, hio =>
       cases hio
       have q7 : S 7 = true := (hd ⟨7, .phase⟩ (by simp) rfl)
       have q8 : S 8 = true := (hd ⟨8, .data⟩ (by simp) rfl)
       have q10 : S 10 = false := hS
       have e30 := rv9 (hd ⟨9, .data⟩ (by simp) rfl)
       obtain ⟨A2, c2, r2, e2, o5, hvo, hvn, hJ, K⟩ := st2 q8 q10
       obtain ⟨g, rfl⟩ : ∃ g, f = upd (upd (g) 30 (.pointer (some (Addr.add ⟨b5, 0, none⟩ 2)))) 29 (.slice A2 (new ++ [lb[k]]).length c2) := ⟨f, upd_keep' (upd_keep' (rfl) e30) e2⟩
       refine s_st 2 sz22 (v := .slice A2 (new ++ [lb[k]]).length c2) rfl rfl rfl rfl rfl rfl rfl o5 rfl rfl rfl ?_
       clear o5; intro wS o5 ks zs
       refine w_nil ?_
       exact ⟨_, rfl, (fun h => absurd h (by simp [ins, q7, q8])), (fun _ h => absurd h (by simp [ins, q7, q8])), (fun _ h => absurd h (by simp [ins, q7, q8])), (fun _ => ⟨A2, c2, r2, o5, hvo.kp ks (fun j _ hg e => by have := hg.1; omega), hvn.kp ks (fun j _ hg e => by have := hg.1; omega), hJ.kp ks (fun (e : lr = b5) => by omega) (fun (e : D = b5) => by omega) (fun (e : b6 = b5) => by omega) (fun j _ hg (e : j = b5) => by have := hg.1; omega), K.trans' ks (fun j hj (e : j = b5) => by omega)⟩), l0, l1, l2, l4, l5, l6, l7, rv0, rv1, rv2, rv3, rv4, rv5, rv6, rv9, trivial⟩
      | k + 11, hio => exact absurd hio (by simp)
     ·intro S f w4 hS hI
      obtain ⟨st0, st1, st2, st3, l0, l1, l2, l4, l5, l6, l7, rv0, rv1, rv2, rv3, rv4, rv5, rv6, rv9, -⟩ := hI
      obtain ⟨A2, c2, r2, o5, hvo, hvn, hJ, K⟩ := st3 (hS 10 (by decide))
      obtain ⟨g, rfl⟩ : ∃ g, f = upd (upd (upd (upd (upd (upd (upd (g) 0 (.func (.yield lr) #[] #[])) 1 (.pointer (some ⟨ba, 0, none⟩))) 2 (.pointer (some ⟨bb, 0, none⟩))) 4 (.slice (some ⟨bo, 0, none⟩) (la.length + 1) (la.length + 1))) 5 (.pointer (some ⟨b5, 0, none⟩))) 6 (.int .i64 (i : Nat))) 7 (.int .i64 (k : Nat)) := ⟨f, upd_keep' (upd_keep' (upd_keep' (upd_keep' (upd_keep' (upd_keep' (upd_keep' (rfl) l0) l1) l2) l4) l5) l6) l7⟩
      clear hS st0 st1 st2 st3 l0 l1 l2 l4 l5 l6 l7 rv0 rv1 rv2 rv3 rv4 rv5 rv6 rv9
      refine then_n (c_reg (mvI rfl rfl rfl (s_add rfl rfl rfl rfl rfl (w64 (by omega)) (asI rfl rfl rfl (w_nil (inb_n (inb_n (then_n ?_))))))))
      exact ⟨_, _, by omega, rfl, _, i, k + 1, es, r, old, ro, _, _, r2, _, i0, k0, rfl, by omega, by omega, (upd_keep' (upd_keep' (upd_keep' (upd_keep' (upd_keep' (upd_keep' (upd_keep' rfl rfl) rfl) rfl) rfl) rfl) rfl) rfl), by omega, by omega, hold, by rw [drop_take_succ hk0 hlk, hnew], hch, hes, o5, hvo, hvn, hJ, K⟩
  ·intro ht20
   (try simp only [Q1, Q2, Q3, Q4, Q5] at ht20)
   refine wp_exit (then_x (then_x (inb_x (then_n (wp_seq (c_reg (s_fa fi60_1 rfl rfl rfl (s_ld1 (v := .slice Ao old.length co) on22 rfl rfl rfl (o5.get 1 rfl) (s_lenL Tryz.underlying22 rfl rfl rfl ?_)))))))))
   refine s_fa fi60_2 rfl rfl rfl (s_ld1 (v := .slice An new.length cn) on22 rfl rfl rfl (o5.get 2 rfl) (s_lenL Tryz.underlying22 rfl rfl rfl (s_add rfl rfl rfl rfl rfl (w64 (by omega)) (s_gtr rfl rfl rfl rfl rfl rfl (w_nil (then_n ?_))))))
   refine c_if rfl rfl ?_ ?_
   ·intro ht124
    (try simp only [Q1, Q2, Q3, Q4, Q5] at ht124)
    refine c_regF (s_mv (v := _) rfl rfl rfl (s_ldA ag60 rfl rfl rfl o5.cells rfl ?_))
    refine s_yield rfl rfl rfl rfl rfl (hY (b5 + 1) _ es r ⟨(i0 : Nat), old, new⟩ (.slice Ao old.length co) (.slice An new.length cn) (by omega) (by omega) (by omega) (by have := o5.lt; omega) (hJ.weak (fun j _ hg => hg.1)) (by omega) ((hvo.rflds (by omega)).weak (fun j hg => ⟨hg.1, hg.2.2⟩)) ((hvn.rflds (by omega)).weak (fun j hg => ⟨hg.1, hg.2.2⟩))) ?_
    rintro _ wY ⟨rfl, r2, hJ2, kY, hr2⟩
    replace o5 := o5.kp kY (fun e => by rcases e with e | e | e; omega; omega; exact absurd (hJ.rge b5 e.symm).1 (Nat.lt_irrefl _))
    replace K := K.trans' kY (fun j hj e => by rcases e with e | e | e; exact .inl e; exact .inr e; (have := (hJ.rge j e.symm).1; omega))
    clear hvo hvn hJ
    refine ⟨_, rfl, ?_⟩
    refine w_nil ?_
    have hie : i = la.length := by omega
    have hke : k = lb.length := by omega
    subst hie hke
    refine nor0 rfl ⟨_, rfl, es ++ [⟨(i0 : Nat), old, new⟩], r2, ch_fin hch hold hnew hi0 hk0 (by omega), by rw [List.length_append, List.length_singleton]; omega, hJ2.weak (fun j _ hg => by have : b5 + 1 ≤ j := hg; omega), (k52.mono (fun _ _ e => e.elim)).trans K⟩
   ·intro ht124
    (try simp only [Q1, Q2, Q3, Q4, Q5] at ht124)
    refine wp_skip ?_
    have hie : i = la.length := by omega
    have hke : k = lb.length := by omega
    subst hie hke
    refine nor0 rfl ⟨_, rfl, es, r, ch_fin0 hch (by omega) (by omega), by omega, hJ.weak (fun j _ hg => by have := hg.1; omega), (k52.mono (fun _ _ e => e.elim)).trans K⟩
end
end Go.Proofs.YtkabfelhicohnaaGreatDoor.V
