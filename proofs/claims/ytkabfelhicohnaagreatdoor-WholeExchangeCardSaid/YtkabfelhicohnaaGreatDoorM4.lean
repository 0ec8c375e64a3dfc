/- Walks: validity, Diff, Apply. No condition. -/
import Derived.Test.YtkabfelhicohnaaGreatDoorM3
import Derived.Laws.Runes
import Derived.Lib.IndexLaws
import Derived.Lib.Small
import Derived.Lib.LaidTab
import Derived.Lib.ItoaNum
import Derived.Shelf.Unicode.DecodeSlow
set_option linter.unusedSimpArgs false
set_option linter.unusedVariables false
set_option maxRecDepth 4000
set_option maxHeartbeats 2000000
namespace Go.Proofs.YtkabfelhicohnaaGreatDoor.V
open Go.RowKit
section
def rd : Operand → List Nat
  | .tmp t => [t]
  | _ => []
def rdo : Option Operand → List Nat
  | some x => rd x
  | none => []
def reads : Op → Option (List Nat)
  | .move x => some (rd x)
  | .assign x => some (rd x)
  | .pick c a b => some (rd c ++ rd a ++ rd b)
  | .alloc _ => some []
  | .box _ x => some (rd x)
  | .build _ ps => some (ps.toList.flatMap fun p => rd p.2)
  | .buildSlice _ _ ps => some (ps.toList.flatMap fun p => rd p.2)
  | .load _ a => some (rd a)
  | .store _ a x => some (rd a ++ rd x)
  | .nilCheck x => some (rd x)
  | .binOp _ _ x y _ => some (rd x ++ rd y)
  | .unOp _ _ x => some (rd x)
  | .convert _ _ x => some (rd x)
  | .slice _ x lo hi mx => some (rd x ++ rdo lo ++ rdo hi ++ rdo mx)
  | .fieldAddr _ x _ => some (rd x)
  | .indexAddr _ x y => some (rd x ++ rd y)
  | .index _ x y => some (rd x ++ rd y)
  | .extract x _ => some (rd x)
  | .call c => match c.callee with
    | .builtin _ => some (c.args.toList.flatMap rd)
    | .value f => some (rd f ++ c.args.toList.flatMap rd)
    | _ => none
  | _ => none
def Agr (R : List Nat) (p q : Operand → Value) : Prop := ∀ x, (∀ t ∈ rd x, t ∈ R) → p x = q x
theorem Agr.all {R : List Nat} {p q : Operand → Value} (h : Agr R p q) {l : List Operand} (hl : ∀ t ∈ l.flatMap rd, t ∈ R) : l.map p = l.map q := by
  apply List.map_congr_left
  intro x hx
  exact h x fun t ht => hl t (List.mem_flatMap.2 ⟨x, hx, ht⟩)
theorem Agr.opt {R : List Nat} {p q : Operand → Value} (h : Agr R p q) {x : Option Operand} (hl : ∀ t ∈ rdo x, t ∈ R) : x.map p = x.map q := by
  cases x with
  | none => rfl
  | some x => simp only [Option.map_some]; rw [h x hl]
theorem Agr.args {R : List Nat} {p q : Operand → Value} (h : Agr R p q) {l : Array Operand} (hl : ∀ t ∈ l.toList.flatMap rd, t ∈ R) : l.map p = l.map q := by
  apply Array.toList_inj.1
  rw [Array.toList_map, Array.toList_map]; exact h.all hl
theorem Agr.parts {α : Type} {R : List Nat} {p q : Operand → Value} (h : Agr R p q) {l : Array (α × Operand)} (hl : ∀ t ∈ l.toList.flatMap (fun y => rd y.2), t ∈ R) : (l.map fun y => (y.1, p y.2)) = l.map fun y => (y.1, q y.2) := by
  apply Array.toList_inj.1
  rw [Array.toList_map, Array.toList_map]
  apply List.map_congr_left
  intro x hx
  rw [h x.2 fun t ht => hl t (List.mem_flatMap.2 ⟨x, hx, ht⟩)]
theorem exec_congr {o : Oper} {R : List Nat} {p q : Operand → Value} (hr : reads o.op = some R) (h : Agr R p q) : execOp p o = execOp q o := by
  obtain ⟨dst, op, ty, pos, af, g⟩ := o
  cases op <;> simp only [reads, Option.some.injEq] at hr <;> try (cases hr; done)
  case call c =>
    obtain ⟨cal, args, tys⟩ := c
    cases cal <;> simp only [Option.some.injEq] at hr <;> try (cases hr; done)
    · subst hr; simp only [execOp, resolve]; rw [h _ (fun t ht => List.mem_append_left _ ht), h.args (fun t ht => List.mem_append_right _ ht)]
    · subst hr; simp only [execOp, resolve]; rw [h.args (fun t ht => ht)]
  case build t ps => subst hr; simp only [execOp]; rw [h.parts (fun t ht => ht)]
  case buildSlice t k ps => subst hr; simp only [execOp]; rw [h.parts (fun t ht => ht)]
  case slice t x lo hi mx =>
    subst hr; simp only [execOp]
    rw [h x (fun t ht => by simp [ht]), h.opt (x := lo) (fun t ht => by simp [ht]), h.opt (x := hi) (fun t ht => by simp [ht]), h.opt (x := mx) (fun t ht => by simp [ht])]
  all_goals (subst hr; simp only [execOp])
  all_goals first
    | (rw [h _ (fun t ht => ht)]; done)
    | (rw [h _ (fun t ht => List.mem_append_left _ ht), h _ (fun t ht => List.mem_append_right _ ht)]; done)
    | (rename_i c a b; rw [h c (fun t ht => by simp [ht]), h a (fun t ht => by simp [ht]), h b (fun t ht => by simp [ht])]; done)
    | skip
def put' (f : Nat → Value) (d : Option Nat) (v : Value) : Nat → Value := match d with | some d => upd f d v | none => f
theorem Fr_put' (n : Nat) (ds : List Deferred) (f : Nat → Value) (d : Option Nat) (v : Value) : (Fr n ds f).put d v = Fr n ds (put' f d v) := by
  cases d with
  | some d => exact Fr_put n ds f d v
  | none => rfl
def dl : Option Nat → List Nat
  | some d => [d]
  | none => []
theorem upd_comm (f : Nat → Value) {d e : Nat} (v u : Value) (h : d ≠ e) : upd (upd f d v) e u = upd (upd f e u) d v := by
  funext i
  by_cases h1 : i = e
  · subst h1; rw [upd_same, upd_ne _ _ (fun e => h e.symm), upd_same]
  · rw [upd_ne _ _ h1]
    by_cases h2 : i = d
    · subst h2; rw [upd_same, upd_same]
    · rw [upd_ne _ _ h2, upd_ne _ _ h2, upd_ne _ _ h1]
theorem put_comm (f : Nat → Value) {d e : Option Nat} (v u : Value) (h : ∀ t ∈ dl d, t ∉ dl e) : put' (put' f d v) e u = put' (put' f e u) d v := by
  cases d with
  | none => rfl
  | some d => cases e with
    | none => rfl
    | some e => exact upd_comm f v u (fun he => h d (by simp [dl]) (by simp [dl, he]))
section
variable (P : Program) (ops : Array Oper) (n : Nat) (ds : List Deferred)
def grd (g : Option (Nat × Bool)) : List Nat := match g with
  | none => []
  | some (j, _) => dl ((ops[j]?).bind (·.dst))
def wnt (o : Oper) (f : Nat → Value) : Bool := Region.wanted o (yielded ops (Fr n ds f).tmps)
theorem tmps_ne (f : Nat → Value) {d : Option Nat} (v : Value) {t : Nat} (h : t ∉ dl d) : (Fr n ds (put' f d v)).tmps[t]? = (Fr n ds f).tmps[t]? := by
  cases d with
  | none => rfl
  | some d =>
    have hne : t ≠ d := fun e => h (by simp [dl, e])
    simp only [Fr, put', Array.getElem?_ofFn, upd_ne f v hne]
theorem wnt_put {o : Oper} {f : Nat → Value} {d : Option Nat} {v : Value} (h : ∀ t ∈ dl d, t ∉ grd ops o.guard) : wnt ops n ds o (put' f d v) = wnt ops n ds o f := by
  obtain ⟨dst, op, ty, pos, af, g⟩ := o
  cases g with
  | none => rfl
  | some jw =>
    obtain ⟨j, want⟩ := jw
    simp only [wnt, Region.wanted, yielded]
    cases ho : (ops[j]?).bind (·.dst) with
    | none => rfl
    | some t =>
      simp only [Option.bind_some]
      rw [tmps_ne n ds f v (d := d) (t := t) (fun ht => h t ht (by simp [grd, ho, dl]))]
theorem agr_put {R : List Nat} {f : Nat → Value} {d : Option Nat} {v : Value} (h : ∀ t ∈ dl d, t ∉ R) : Agr R (Fr n ds (put' f d v)).eval (Fr n ds f).eval := by
  intro x hx
  cases x with
  | tmp t =>
    have ht : t ∈ R := hx t (by simp [rd])
    have := tmps_ne n ds f v (d := d) (t := t) (fun hd => h t hd ht)
    simp only [Act.eval]
    rw [Array.getD_eq_getD_getElem?, Array.getD_eq_getD_getElem?, this]
  | const v => rfl
  | global g => rfl
  | func g => rfl
def LS (p : Operand → Value) (o : Oper) (w : World) (K : Value → World → Prop) : Prop :=
  match (execOp p o).run P w with
  | .ok (.value v) w' => K v w'
  | .ok .skip w' => K undef w'
  | .ok (.enter F args) w' => Calls P F args w' fun e w'' => ∃ v, e = .returned v ∧ K v w''
  | .ok (.row r args) w' => Rows P r args w' K
  | _ => False
variable {P} in
theorem LS.mono {p : Operand → Value} {o : Oper} {w : World} {K K' : Value → World → Prop} (h : LS P p o w K) (hk : ∀ v w, K v w → K' v w) : LS P p o w K' := by
  unfold LS at h ⊢
  split at h
  · exact hk _ _ h
  · exact hk _ _ h
  · exact h.mono fun e w' ⟨v, he, hv⟩ => ⟨v, he, hk _ _ hv⟩
  · exact h.mono hk
  · exact h.elim
variable {P} in
theorem LS.ex {p : Operand → Value} {o : Oper} {w : World} {K : Value → World → Prop} (h : LS P p o w K) : ∃ v w', K v w' := by
  unfold LS at h
  split at h
  · exact ⟨_, _, h⟩
  · exact ⟨_, _, h⟩
  · obtain ⟨e, w', fr, ⟨v, _, hv⟩, _⟩ := h []
    exact ⟨v, w', hv⟩
  · obtain ⟨v, w', hv, _⟩ := h default []
    exact ⟨v, w', hv⟩
  · exact h.elim
def WT (Fa : World → Prop) (K : (Nat → Value) → World → Prop) : List (Bool × Oper) → (Nat → Value) → World → Prop
  | [], f, w => K f w
  | (b, o) :: L, f, w =>
    (wnt ops n ds o f = false ∧ WT Fa K L (put' f o.dst undef) w) ∨
    (wnt ops n ds o f = true ∧ b = false ∧ ∃ v, (∀ u, Fa u → (execOp (Fr n ds f).eval o).run P u = .ok (.value v) u) ∧ WT Fa K L (put' f o.dst v) w) ∨
    (wnt ops n ds o f = true ∧ b = true ∧ LS P (Fr n ds f).eval o w fun v w' => Fa w' ∧ WT Fa K L (put' f o.dst v) w')
def idp (x y : Bool × Oper) : Bool := !(x.1 && y.1) &&
  match reads x.2.op, reads y.2.op with
  | some R, some R' => (dl x.2.dst).all (fun t => !(R' ++ grd ops y.2.guard ++ dl y.2.dst).contains t) && (dl y.2.dst).all (fun t => !(R ++ grd ops x.2.guard).contains t)
  | _, _ => false
variable {P ops n ds}
theorem idp_of {x y : Bool × Oper} (h : idp ops x y = true) : ¬ (x.1 = true ∧ y.1 = true) ∧ ∃ R R', reads x.2.op = some R ∧ reads y.2.op = some R' ∧
    (∀ t ∈ dl x.2.dst, t ∉ R') ∧ (∀ t ∈ dl x.2.dst, t ∉ grd ops y.2.guard) ∧ (∀ t ∈ dl x.2.dst, t ∉ dl y.2.dst) ∧ (∀ t ∈ dl y.2.dst, t ∉ R) ∧ (∀ t ∈ dl y.2.dst, t ∉ grd ops x.2.guard) := by
  unfold idp at h
  rw [Bool.and_eq_true] at h
  obtain ⟨h1, h2⟩ := h
  refine ⟨by rintro ⟨p, q⟩; simp [p, q] at h1, ?_⟩
  split at h2
  · rename_i R R' hR hR'
    rw [Bool.and_eq_true, List.all_eq_true, List.all_eq_true] at h2
    refine ⟨R, R', hR, hR', ?_, ?_, ?_, ?_, ?_⟩ <;> intro t ht hm
    · have := h2.1 t ht; simp [hm] at this
    · have := h2.1 t ht; simp [hm] at this
    · have := h2.1 t ht; simp [hm] at this
    · have := h2.2 t ht; simp [hm] at this
    · have := h2.2 t ht; simp [hm] at this
  · cases h2
theorem WT.swap {Fa : World → Prop} {K : (Nat → Value) → World → Prop} {x y : Bool × Oper} {L : List (Bool × Oper)} {f : Nat → Value} {w : World} (hi : idp ops x y = true) (hF : Fa w)
    (h : WT P ops n ds Fa K (x :: y :: L) f w) : WT P ops n ds Fa K (y :: x :: L) f w := by
  obtain ⟨hn, R, R', hR, hR', a1, a2, a3, a4, a5⟩ := idp_of hi
  obtain ⟨bx, a⟩ := x
  obtain ⟨by', o⟩ := y
  simp only at hn hR hR' a1 a2 a3 a4 a5
  have wo : ∀ v, wnt ops n ds o (put' f a.dst v) = wnt ops n ds o f := fun v => wnt_put ops n ds a2
  have wa : ∀ v, wnt ops n ds a (put' f o.dst v) = wnt ops n ds a f := fun v => wnt_put ops n ds a5
  have eo : ∀ v, execOp (Fr n ds (put' f a.dst v)).eval o = execOp (Fr n ds f).eval o := fun v => exec_congr hR' (agr_put n ds a1)
  have ea : ∀ v, execOp (Fr n ds (put' f o.dst v)).eval a = execOp (Fr n ds f).eval a := fun v => exec_congr hR (agr_put n ds a4)
  have cm : ∀ v u, put' (put' f a.dst v) o.dst u = put' (put' f o.dst u) a.dst v := fun v u => put_comm f v u a3
  simp only [WT] at h ⊢
  simp only [wo, wa, eo, ea, LS, cm] at h ⊢
  rcases h with ⟨h1, h⟩ | ⟨h1, h2, va, hva, h⟩ | ⟨h1, h2, h⟩
  · rcases h with ⟨g1, g⟩ | ⟨g1, g2, vo, hvo, g⟩ | ⟨g1, g2, g⟩
    · exact .inl ⟨g1, .inl ⟨h1, g⟩⟩
    · exact .inr (.inl ⟨g1, g2, vo, hvo, .inl ⟨h1, g⟩⟩)
    · refine .inr (.inr ⟨g1, g2, LS.mono (P := P) g fun v w' hk => ⟨hk.1, .inl ⟨h1, hk.2⟩⟩⟩)
  · rcases h with ⟨g1, g⟩ | ⟨g1, g2, vo, hvo, g⟩ | ⟨g1, g2, g⟩
    · exact .inl ⟨g1, .inr (.inl ⟨h1, h2, va, hva, g⟩)⟩
    · exact .inr (.inl ⟨g1, g2, vo, hvo, .inr (.inl ⟨h1, h2, va, hva, g⟩)⟩)
    · exact .inr (.inr ⟨g1, g2, LS.mono (P := P) g fun v w' hk => ⟨hk.1, .inr (.inl ⟨h1, h2, va, hva, hk.2⟩)⟩⟩)
  · obtain ⟨v0, w0, hF0, h0⟩ := LS.ex (P := P) h
    rcases h0 with ⟨g1, g⟩ | ⟨g1, g2, vo, hvo, g⟩ | ⟨g1, g2, g⟩
    · refine .inl ⟨g1, .inr (.inr ⟨h1, h2, LS.mono (P := P) h fun v w' hk => ⟨hk.1, ?_⟩⟩)⟩
      rcases hk.2 with ⟨_, g⟩ | ⟨q, _⟩ | ⟨q, _⟩
      · exact g
      · rw [g1] at q; cases q
      · rw [g1] at q; cases q
    · refine .inr (.inl ⟨g1, g2, vo, hvo, .inr (.inr ⟨h1, h2, LS.mono (P := P) h fun v w' hk => ⟨hk.1, ?_⟩⟩)⟩)
      rcases hk.2 with ⟨q, _⟩ | ⟨_, _, vo', hvo', g⟩ | ⟨_, q, _⟩
      · rw [g1] at q; cases q
      · have e := (hvo w hF).symm.trans (hvo' w hF)
        simp only [Result.ok.injEq, Next.value.injEq, and_true] at e
        rw [e]; exact g
      · exact absurd ⟨h2, q⟩ hn
    · exact absurd ⟨h2, g2⟩ hn
theorem WT.mono {Fa : World → Prop} {K : (Nat → Value) → World → Prop} {x : Bool × Oper} {L L' : List (Bool × Oper)} {f : Nat → Value} {w : World} (hF : Fa w)
    (h : WT P ops n ds Fa K (x :: L) f w) (hk : ∀ f w, Fa w → WT P ops n ds Fa K L f w → WT P ops n ds Fa K L' f w) : WT P ops n ds Fa K (x :: L') f w := by
  obtain ⟨bx, a⟩ := x
  simp only [WT] at h ⊢
  rcases h with ⟨h1, h⟩ | ⟨h1, h2, va, hva, h⟩ | ⟨h1, h2, h⟩
  · exact .inl ⟨h1, hk _ _ hF h⟩
  · exact .inr (.inl ⟨h1, h2, va, hva, hk _ _ hF h⟩)
  · exact .inr (.inr ⟨h1, h2, h.mono fun v w' q => ⟨q.1, hk _ _ q.1 q.2⟩⟩)
theorem WT.front {Fa : World → Prop} {K : (Nat → Value) → World → Prop} {y : Bool × Oper} {L2 : List (Bool × Oper)} : ∀ (L1 : List (Bool × Oper)) (f : Nat → Value) (w : World), (∀ x ∈ L1, idp ops x y = true) → Fa w →
    WT P ops n ds Fa K (L1 ++ y :: L2) f w → WT P ops n ds Fa K (y :: (L1 ++ L2)) f w := by
  intro L1
  induction L1 with
  | nil => intro f w _ _ h; exact h
  | cons x L1 ih =>
    intro f w hi hF h
    refine WT.swap (hi x (by simp)) hF ?_
    exact WT.mono hF h fun f w hF h => ih f w (fun x hx => hi x (by simp [hx])) hF h
def chk (ops : Array Oper) (l : List (Bool × Oper)) (A : List (List Nat)) : Bool :=
  l.zipIdx.all fun y => y.1.2.after.toList.all (fun e => !alw e || Nat.blt e.on y.2) &&
    (A.getD y.2 []).all (fun j => y.1.2.after.toList.any fun e => alw e && (e.on == j || (A.getD e.on []).contains j)) &&
    (l.zipIdx.take y.2).all (fun x => (A.getD y.2 []).contains x.2 || idp ops x.1 y.1)
theorem wl_step {Fa : World → Prop} {K : (Nat → Value) → World → Prop} {b : Bool} {o : Oper} {L : List (Bool × Oper)} {f : Nat → Value} {w : World} (hF : Fa w)
    (h : WT P ops n ds Fa K ((b, o) :: L) f w) : WL .plain P ops (fun e a w => e = .normal ∧ ∃ f, a = Fr n ds f ∧ Fa w ∧ WT P ops n ds Fa K L f w) [o] n ds f w := by
  constructor
  simp only [wpM]
  unfold wpList
  simp only [WT] at h
  rcases h with ⟨h1, h⟩ | ⟨h1, h2, va, hva, h⟩ | ⟨h1, h2, h⟩
  · rw [if_neg (by rw [show Region.wanted o (yielded ops (Fr n ds f).tmps) = false from h1]; simp), Fr_put']
    exact ⟨rfl, _, rfl, hF, h⟩
  · rw [if_pos (show Region.wanted o (yielded ops (Fr n ds f).tmps) = true from h1)]
    refine .inl ?_
    unfold Oper.wp
    rw [hva w hF]
    simp only [Oper.upon, Fr_put']
    exact ⟨rfl, _, rfl, hF, h⟩
  · rw [if_pos (show Region.wanted o (yielded ops (Fr n ds f).tmps) = true from h1)]
    refine .inl ?_
    unfold Oper.wp
    unfold LS at h
    generalize (execOp (Fr n ds f).eval o).run P w = r at h
    split at h
    · simp only [Oper.upon, Fr_put']; exact ⟨rfl, _, rfl, h⟩
    · simp only [Oper.upon, Fr_put']; exact ⟨rfl, _, rfl, h⟩
    · simp only [Oper.upon]
      refine h.mono ?_
      rintro e w' ⟨v, rfl, hk⟩
      simp only [Fr_put']; exact ⟨rfl, _, rfl, hk⟩
    · simp only [Oper.upon, Fr_put']
      exact h.mono fun v w' hk => ⟨rfl, _, rfl, hk⟩
    · exact h.elim
theorem wl1_mono {Q Q' : Exit → Act → World → Prop} {o : Oper} {f : Nat → Value} {w : World} (h : WL .plain P ops Q [o] n ds f w) (hq : ∀ e a w, Q e a w → Q' e a w) : WL .plain P ops Q' [o] n ds f w := by
  replace h := h.out
  refine ⟨?_⟩
  simp only [wpM] at h ⊢
  unfold wpList at h ⊢
  split
  · rename_i hw
    rw [if_pos hw] at h
    rcases h with h | ⟨ha, a, w, hl⟩
    · refine .inl ?_
      unfold Oper.wp at h ⊢
      exact upon_mono (fun a w h => hq _ _ _ h) (fun e a w _ h => hq _ _ _ h) _ h
    · exact .inr ⟨ha, a, w, hq _ _ _ hl⟩
  · rename_i hw
    rw [if_neg hw] at h
    exact hq _ _ _ h
def rem (l : List (Bool × Oper)) (S : Nat → Bool) : List (Bool × Oper) := (l.zipIdx.filter fun p => !S p.2).map (·.1)
theorem rem_at {l : List (Bool × Oper)} {S : Nat → Bool} {i : Nat} {y : Bool × Oper} (hy : l[i]? = some y) (hS : S i = false) :
    ∃ L1 L2, rem l S = L1 ++ y :: L2 ∧ rem l (ins S i) = L1 ++ L2 ∧ ∀ x ∈ L1, ∃ j, j < i ∧ S j = false ∧ l[j]? = some x := by
  obtain ⟨hi, hyi⟩ := List.getElem?_eq_some_iff.1 hy
  have hz : l.zipIdx = l.zipIdx.take i ++ (y, i) :: l.zipIdx.drop (i + 1) := by
    have h1 : i < l.zipIdx.length := by simpa using hi
    have h2 : l.zipIdx[i] = (y, i) := by simp [hyi]
    rw [← h2, List.getElem_cons_drop, List.take_append_drop]
  refine ⟨((l.zipIdx.take i).filter fun p => !S p.2).map (·.1), ((l.zipIdx.drop (i + 1)).filter fun p => !S p.2).map (·.1), ?_, ?_, ?_⟩
  · unfold rem
    conv => lhs; rw [hz]
    simp [List.filter_append, List.filter_cons, hS]
  · unfold rem
    conv => lhs; rw [hz]
    rw [List.filter_append, List.filter_cons, List.map_append]
    have e0 : (!ins S i i) = false := by simp [ins]
    simp only [e0, Bool.false_eq_true, if_false]
    congr 2
    · apply List.filter_congr
      intro p hp
      obtain ⟨j, hj, hpj⟩ := List.mem_take_iff_getElem.1 hp
      have : p.2 = j := by rw [← hpj]; simp
      have hne : (p.2 == i) = false := by simp; omega
      simp [ins, hne]
    · apply List.filter_congr
      intro p hp
      obtain ⟨j, hj, hpj⟩ := List.mem_drop_iff_getElem.1 hp
      have : p.2 = i + 1 + j := by rw [← hpj]; simp
      have hne : (p.2 == i) = false := by simp; omega
      simp [ins, hne]
  · intro x hx
    rw [List.mem_map] at hx
    obtain ⟨p, hp, rfl⟩ := hx
    rw [List.mem_filter] at hp
    obtain ⟨hp, hs⟩ := hp
    obtain ⟨j, hj, hpj⟩ := List.mem_take_iff_getElem.1 hp
    have e2 : p.2 = j := by rw [← hpj]; simp
    have e1 : l[j]? = some p.1 := by
      have : j < l.length := by simp at hj; omega
      rw [List.getElem?_eq_getElem this, ← hpj]; simp
    refine ⟨j, by simp at hj; omega, by simpa [e2] using hs, e1⟩
def Kn (Q : Exit → Act → World → Prop) (n : Nat) (ds : List Deferred) : (Nat → Value) → World → Prop := fun f w => Q .normal (Fr n ds f) w
theorem c_drawG {Q : Exit → Act → World → Prop} {id : Nat} {f : Nat → Value} {w : World} (Fa : World → Prop) (tg : List Bool) (A : List (List Nat)) (rk : Nat → Nat)
    (hb : ∀ m, ∀ i o, ops[i]? = some o → ∀ e ∈ o.after, Region.binds m e = true → e.on < ops.size ∧ (if m = .gc then rk else fun i => i) e.on < (if m = .gc then rk else fun i => i) i)
    (hl : tg.length = ops.toList.length) (hc : chk ops (tg.zip ops.toList) A = true) (hF : Fa w.drew)
    (h : WT P ops n ds Fa (Kn Q n ds) (tg.zip ops.toList) f w.drew) : (Code.region id ops true).wp P Q (Fr n ds f) w := by
  generalize hll : tg.zip ops.toList = l at hc h
  have hat : ∀ (i : Nat) (o : Oper), ops[i]? = some o → ∃ b : Bool, l[i]? = some (b, o) := by
    intro i o ho
    have hi : i < ops.size := (Array.getElem?_eq_some_iff.1 ho).1
    subst hll
    refine ⟨tg[i]'(by rw [hl]; simpa using hi), ?_⟩
    rw [List.getElem?_zip_eq_some]
    exact ⟨by simp, by simpa using ho⟩
  unfold chk at hc
  rw [List.all_eq_true] at hc
  have hc' : ∀ (i : Nat) (b : Bool) (o : Oper), l[i]? = some (b, o) → (∀ e ∈ o.after, alw e = true → e.on < i) ∧ (∀ j ∈ A.getD i [], ∃ e ∈ o.after, alw e = true ∧ (e.on = j ∨ j ∈ A.getD e.on [])) ∧
      ∀ j x, j < i → l[j]? = some x → j ∈ A.getD i [] ∨ idp ops x (b, o) = true := by
    intro i b o hi
    have := hc ((b, o), i) (by rw [List.mem_zipIdx_iff_getElem?]; exact hi)
    simp only [Bool.and_eq_true, List.all_eq_true, List.any_eq_true, Array.mem_toList_iff, List.contains_eq_mem, Bool.or_eq_true, decide_eq_true_eq, beq_iff_eq, Bool.not_eq_true', Nat.blt_eq] at this
    refine ⟨fun e he ha => ?_, fun j hj => ?_, fun j x hj hx => ?_⟩
    · rcases this.1.1 e he with h | h
      · rw [ha] at h; cases h
      · exact h
    · obtain ⟨e, he, h1, h2⟩ := this.1.2 j hj
      exact ⟨e, he, h1, h2⟩
    · refine this.2 (x, j) ?_
      rw [List.mem_take_iff_getElem]
      have hjl : j < l.length := (List.getElem?_eq_some_iff.1 hx).1
      refine ⟨j, by simp; omega, ?_⟩
      have := (List.getElem?_eq_some_iff.1 hx).2
      simp [this]
  refine c_drawS (fun S f w => Fa w ∧ WT P ops n ds Fa (Kn Q n ds) (rem l S) f w) rk hb ⟨hF, ?_⟩ ?_ ?_
  · have : rem l (fun _ => false) = l := by
      unfold rem
      rw [List.filter_eq_self.2 (by simp)]
      exact List.zipIdx_map_fst 0 l
    rw [this]; exact h
  · intro i o ho S f w hS hD hd ⟨hF, h⟩
    obtain ⟨b, hi⟩ := hat i o ho
    obtain ⟨L1, L2, e1, e2, e3⟩ := rem_at hi hS
    have anc : ∀ k, S k = true → k < ops.size → ∀ j ∈ A.getD k [], S j = true := by
      intro k
      induction k using Nat.strongRecOn with
      | _ k ih =>
        intro hk hlt j hj
        obtain ⟨o', ho'⟩ : ∃ o', ops[k]? = some o' := ⟨_, Array.getElem?_eq_getElem hlt⟩
        obtain ⟨b', hb'⟩ := hat k o' ho'
        obtain ⟨q1, q2, _⟩ := hc' k b' o' hb'
        obtain ⟨e, he, ha, h⟩ := q2 j hj
        have hdone := hD k o' ho' hk e he ha
        rcases h with rfl | h
        · exact hdone
        · have := q1 e he ha
          exact ih e.on this hdone (by omega) j h
    obtain ⟨q1, q2, q3⟩ := hc' i b o hi
    have hiz : i < ops.size := (Array.getElem?_eq_some_iff.1 ho).1
    rw [e1] at h
    have h' := WT.front L1 f w (fun x hx => by
      obtain ⟨j, hj, hSj, hxj⟩ := e3 x hx
      rcases q3 j x hj hxj with h | h
      · exfalso
        obtain ⟨e, he, ha, h⟩ := q2 j h
        have hdone := hd e he ha
        rcases h with rfl | h
        · rw [hSj] at hdone; cases hdone
        · have := anc e.on hdone (by have := q1 e he ha; omega) j h
          rw [hSj] at this; cases this
      · exact h) hF h
    refine wl1_mono (wl_step hF h') ?_
    rintro e a w' ⟨rfl, f', rfl, hF', h''⟩
    exact ⟨f', rfl, hF', by rw [e2]; exact h''⟩
  · intro S f w hS ⟨hF, h⟩
    have : rem l S = [] := by
      unfold rem
      rw [List.map_eq_nil_iff, List.filter_eq_nil_iff]
      intro p hp
      have hp2 := List.mem_zipIdx_iff_getElem?.1 hp
      have : p.2 < l.length := (List.getElem?_eq_some_iff.1 hp2).1
      have hll' : l.length = ops.size := by subst hll; simp [List.length_zip, hl]
      simp [hS p.2 (by omega)]
    rw [this] at h
    exact h
def calm : Op → Bool
  | .move _ => true
  | .assign _ => true
  | .pick _ _ _ => true
  | .load _ _ => true
  | .binOp _ _ _ _ _ => true
  | .unOp _ _ _ => true
  | .convert _ _ _ => true
  | .slice _ _ _ _ _ => true
  | .fieldAddr _ _ _ => true
  | .indexAddr _ _ _ => true
  | .index _ _ _ => true
  | .extract _ _ => true
  | .build _ _ => true
  | .call c => match c.callee with
    | .builtin .len => true
    | .builtin .cap => true
    | .builtin .min => true
    | .builtin .max => true
    | _ => false
  | _ => false
theorem val_run {s : Sem Value} (u : World) : (∃ v u', (do pure (Next.value (← s)) : Sem Next).run P u = .ok (.value v) u') ∨ ∃ e u', (do pure (Next.value (← s)) : Sem Next).run P u = .halt e u' := by
  simp only [Sem.run_bind, Sem.run_pure]
  cases s.run P u with
  | ok v u' => exact .inl ⟨v, u', rfl⟩
  | halt e u' => exact .inr ⟨e, u', rfl⟩
theorem calm_run {o : Oper} (h : calm o.op = true) (p : Operand → Value) (u : World) : (∃ v u', (execOp p o).run P u = .ok (.value v) u') ∨ ∃ e u', (execOp p o).run P u = .halt e u' := by
  obtain ⟨dst, op, ty, pos, af, g⟩ := o
  cases op <;> simp only [calm] at h <;> try (cases h; done)
  case move => exact .inl ⟨_, _, rfl⟩
  case assign => exact .inl ⟨_, _, rfl⟩
  case pick c a b =>
    simp only [execOp, Sem.run_bind, Sem.run_pure]
    cases (asBool (p c)).run P u with
    | ok v u' => exact .inl ⟨_, u', rfl⟩
    | halt e u' => exact .inr ⟨e, u', rfl⟩
  case call c =>
    obtain ⟨cal, args, tys⟩ := c
    cases cal with
    | builtin b =>
      simp only [execOp, resolve, Sem.run_bind, Sem.run_pure, Result.andThen_ok, invoke]
      cases b <;> simp only at h <;> try (cases h; done)
      all_goals (simp only [builtin]; exact val_run u)
    | value f => cases h
    | invoke r n => cases h
  all_goals (simp only [execOp]; exact val_run u)
theorem t_q {Fa : World → Prop} {K : (Nat → Value) → World → Prop} {L : List (Bool × Oper)} {f : Nat → Value} {w : World} {d : Nat} {op : Op} {ty : TypeId} {pos : String} {af : Array Edge} {g : Option (Nat × Bool)} {v : Value}
    (hg : Gd n ops f g = some true) (hc : calm op = true) (hd : Nat.blt d n = true)
    (hq : ∀ u, Fa u → WL .plain P ops (fun e a u' => e = .normal ∧ a = Fr n ds (upd f d v) ∧ u' = u) [⟨some d, op, ty, pos, af, g⟩] n ds f u)
    (k : WT P ops n ds Fa K L (upd f d v) w) : WT P ops n ds Fa K ((false, ⟨some d, op, ty, pos, af, g⟩) :: L) f w := by
  have hw := wanted_of (ds := ds) (o := ⟨some d, op, ty, pos, af, g⟩) hg
  simp only [WT]
  refine .inr (.inl ⟨hw, trivial, v, fun u hu => ?_, k⟩)
  have h := (hq u hu).out
  simp only [wpM] at h
  unfold wpList at h
  rw [if_pos hw] at h
  rcases h with h | ⟨_, a, w, hl⟩
  · unfold Oper.wp at h
    rcases calm_run (P := P) (o := ⟨some d, op, ty, pos, af, g⟩) hc (Fr n ds f).eval u with ⟨v', u', hr⟩ | ⟨e, u', hr⟩
    · rw [hr] at h ⊢
      simp only [Oper.upon, wpList, Fr_put] at h
      obtain ⟨_, h1, rfl⟩ := h
      have h2 := congrArg (fun a : Act => a.tmps[d]?) h1
      have hd' : d < n := by simpa using hd
      simp only [Fr_get n ds _ d hd', upd_same, Option.some.injEq] at h2
      rw [h2]
    · rw [hr] at h
      cases e <;> simp only [Oper.upon] at h <;> first | (exact h.elim; done) | (exact absurd h.1 (by simp))
  · exact absurd hl.1 (by simp)
theorem WT.congr {Fa : World → Prop} {Q : Exit → Act → World → Prop} : ∀ (L : List (Bool × Oper)) (f f' : Nat → Value) (w : World), Fr n ds f = Fr n ds f' → WT P ops n ds Fa (Kn Q n ds) L f w → WT P ops n ds Fa (Kn Q n ds) L f' w := by
  intro L
  induction L with
  | nil => intro f f' w he h; simp only [WT, Kn] at h ⊢; rwa [← he]
  | cons x L ih =>
    intro f f' w he h
    obtain ⟨b, o⟩ := x
    have hp : ∀ v, Fr n ds (put' f o.dst v) = Fr n ds (put' f' o.dst v) := fun v => by rw [← Fr_put', ← Fr_put', he]
    simp only [WT, wnt] at h ⊢
    rw [← he]
    rcases h with ⟨h1, h⟩ | ⟨h1, h2, v, hv, h⟩ | ⟨h1, h2, h⟩
    · exact .inl ⟨h1, ih _ _ _ (hp _) h⟩
    · exact .inr (.inl ⟨h1, h2, v, hv, ih _ _ _ (hp _) h⟩)
    · exact .inr (.inr ⟨h1, h2, h.mono fun v w' q => ⟨q.1, ih _ _ _ (hp v) q.2⟩⟩)
theorem t_nc {Fa : World → Prop} {K : (Nat → Value) → World → Prop} {L : List (Bool × Oper)} {f : Nat → Value} {w : World} {d : Nat} {x : Operand} {ty : TypeId} {pos : String} {af : Array Edge} {g : Option (Nat × Bool)} {q : Addr}
    (hg : Gd n ops f g = some true) (hb : inb n x = true) (hx : ev f x = .pointer (some q)) (k : WT P ops n ds Fa K L (upd f d (.pointer (some q))) w) : WT P ops n ds Fa K ((false, ⟨some d, .nilCheck x, ty, pos, af, g⟩) :: L) f w := by
  have hw := wanted_of (ds := ds) (o := ⟨some d, .nilCheck x, ty, pos, af, g⟩) hg
  simp only [WT]
  exact .inr (.inl ⟨hw, trivial, .pointer (some q), fun u hu => by simp only [execOp, Fr_eval hb, hx]; rfl, k⟩)
theorem t_l {Fa : World → Prop} {Q : Exit → Act → World → Prop} {L : List (Bool × Oper)} {f : Nat → Value} {w : World} {d : Option Nat} {op : Op} {ty : TypeId} {pos : String} {af : Array Edge} {g : Option (Nat × Bool)}
    (hg : Gd n ops f g = some true)
    (h : WL .plain P ops (fun e a w' => e = .normal ∧ ∃ f', a = Fr n ds f' ∧ Fa w' ∧ WT P ops n ds Fa (Kn Q n ds) L f' w') [⟨d, op, ty, pos, af, g⟩] n ds f w) :
    WT P ops n ds Fa (Kn Q n ds) ((true, ⟨d, op, ty, pos, af, g⟩) :: L) f w := by
  have hw := wanted_of (ds := ds) (o := ⟨d, op, ty, pos, af, g⟩) hg
  simp only [WT]
  refine .inr (.inr ⟨hw, trivial, ?_⟩)
  replace h := h.out
  simp only [wpM] at h
  unfold wpList at h
  rw [if_pos hw] at h
  rcases h with h | ⟨_, a, w, hl⟩
  · unfold Oper.wp at h
    unfold LS
    generalize (execOp (Fr n ds f).eval ⟨d, op, ty, pos, af, g⟩).run P w = r at h
    have key : ∀ v w', (∃ f', (Fr n ds f).put d v = Fr n ds f' ∧ Fa w' ∧ WT P ops n ds Fa (Kn Q n ds) L f' w') → Fa w' ∧ WT P ops n ds Fa (Kn Q n ds) L (put' f d v) w' := by
      rintro v w' ⟨f', he, hF, h⟩
      rw [Fr_put'] at he
      exact ⟨hF, WT.congr L _ _ _ he.symm h⟩
    cases r with
    | ok x w1 =>
      cases x <;> simp only [Oper.upon, wpList] at h ⊢
      case value v => exact key _ _ h.2
      case skip => exact key _ _ h.2
      case enter F args =>
        refine h.mono ?_
        intro e w' he
        cases e with
        | returned v => exact ⟨v, rfl, key _ _ he.2⟩
        | panicked c => exact absurd he.1 (by simp)
        | outgrown => obtain ⟨a, w, hl⟩ := he; exact absurd hl.1 (by simp)
      case defer d' =>
        obtain ⟨_, f', he, _⟩ := h
        exfalso
        have := congrArg (fun a : Act => a.defers.length) he
        cases d <;> simp [Act.put, Fr] at this
      case row r args => exact h.mono fun v w' q => key _ _ q.2
    | halt x w1 => cases x <;> simp only [Oper.upon] at h <;> first | (exact h.elim; done) | (exact absurd h.1 (by simp))
  · exact absurd hl.1 (by simp)
theorem t_s {Fa : World → Prop} {K : (Nat → Value) → World → Prop} {L : List (Bool × Oper)} {f : Nat → Value} {w : World} {b : Bool} {d : Nat} {op : Op} {ty : TypeId} {pos : String} {af : Array Edge} {g : Option (Nat × Bool)}
    (hg : Gd n ops f g = some false) (k : WT P ops n ds Fa K L (upd f d undef) w) : WT P ops n ds Fa K ((b, ⟨some d, op, ty, pos, af, g⟩) :: L) f w := by
  have hw := wanted_of (ds := ds) (o := ⟨some d, op, ty, pos, af, g⟩) hg
  simp only [WT]
  exact .inl ⟨hw, k⟩
theorem t_n {Fa : World → Prop} {Q : Exit → Act → World → Prop} {f : Nat → Value} {w : World} (h : Q .normal (Fr n ds f) w) : WT P ops n ds Fa (Kn Q n ds) [] f w := h
theorem t_split {Fa : World → Prop} {K : (Nat → Value) → World → Prop} {L : List (Bool × Oper)} {f : Nat → Value} {w : World} {t : Nat} {b : Bool} (hv : f t = .bool b)
    (h1 : b = true → WT P ops n ds Fa K L (upd f t (.bool true)) w) (h2 : b = false → WT P ops n ds Fa K L (upd f t (.bool false)) w) : WT P ops n ds Fa K L f w := by
  cases b
  · have := h2 rfl; rwa [← upd_keep hv] at this
  · have := h1 rfl; rwa [← upd_keep hv] at this
end
theorem c_mid {P : Program} {n : Nat} {ds : List Deferred} {Q : Exit → Act → World → Prop} {x y : Code} {f : Nat → Value} {w : World} (J : (Nat → Value) → World → Prop)
    (h1 : x.wp P (Exit.then (fun a w => ∃ f, a = Fr n ds f ∧ J f w) Q) (Fr n ds f) w) (h2 : ∀ f w, J f w → y.wp P Q (Fr n ds f) w) : (Code.seq x y).wp P Q (Fr n ds f) w := by
  refine wp_seq (Code.wp_mono ?_ h1)
  intro e a w h
  cases e with
  | normal => obtain ⟨f, rfl, hJ⟩ := h; exact h2 f w hJ
  | _ => exact h
section
variable {P : Program} {Q : Exit → Act → World → Prop} {K : Act → World → Prop} {J : Act → World → Prop} {a : Act} {w : World} {i l l' : Nat}
theorem then_g (h : Q (.goto l) a w) : Exit.then K Q (.goto l) a w := h
theorem inb_g (h : Q (.goto l) a w) : Exit.inBlock i Q (.goto l) a w := h
theorem nog_n (h : Q .normal a w) : Exit.noGoto Q .normal a w := h
theorem nog_r (h : Q .ret a w) : Exit.noGoto Q .ret a w := h
theorem nog_x (h : Q (.exit i) a w) : Exit.noGoto Q (.exit i) a w := h
theorem noL_n (h : Q .normal a w) : noL l Q .normal a w := h
theorem noL_r (h : Q .ret a w) : noL l Q .ret a w := h
theorem noL_x (h : Q (.exit i) a w) : noL l Q (.exit i) a w := h
theorem jmp_n (h : Q .normal a w) : jmp l J Q .normal a w := h
theorem jmp_r (h : Q .ret a w) : jmp l J Q .ret a w := h
theorem jmp_x (h : Q (.exit i) a w) : jmp l J Q (.exit i) a w := h
theorem jmp_g (h : J a w) : jmp l J Q (.goto l) a w := .inl ⟨rfl, h⟩
end
end
section
section steps
variable {md : Md} {P : Program} {ops : Array Oper} {Q : Exit → Act → World → Prop} {n : Nat} {ds : List Deferred} {f : Nat → Value} {w w' : World} {rest : List Oper}
  {d : Nat} {ty : TypeId} {pos : String} {af : Array Edge} {g : Option (Nat × Bool)} {v : Value} {x y z : Operand} {T U tx ty' : TypeId} {kk k1 k2 : IntKind} {a b c : Int}
theorem s_nc {q : Addr} (hg : Gd n ops f g = some true) (hb : inb n x = true) (hx : ev f x = .pointer (some q)) (k : WL md P ops Q rest n ds (upd f d (.pointer (some q))) w) :
    WL md P ops Q (⟨some d, .nilCheck x, ty, pos, af, g⟩ :: rest) n ds f w :=
  st_run hg (by simp only [execOp, Fr_eval hb, hx]; rfl) k
theorem s_i2s (hs : (P.underlying T).isSome = true) (hd : P.underlying U = some .string) (hg : Gd n ops f g = some true) (hb : inb n x = true) (hx : ev f x = .int k1 a)
    (k : WL md P ops Q rest n ds (upd f d (.string (Utf8.encode a))) w) : WL md P ops Q (⟨some d, .convert T U x, ty, pos, af, g⟩ :: rest) n ds f w :=
  st_run hg (by simp only [execOp, Fr_eval hb, hx]; exact run_val (run_convert_int_string w T U k1 a hs hd)) k
end steps
theorem enc_of {r : Int} (h0 : 128 ≤ r) (h1 : r ≤ 65535) (hv : Lib.validRune r = true) : ∃ (k : Nat) (lb : UInt8), (Utf8.encode r).size = k + 1 ∧ 1 ≤ k ∧ k ≤ 2 ∧ (Utf8.encode r)[k]? = some lb ∧ (lb.toNat : Int) = 128 + r % 64 ∧
    (r < 2048 → k = 1 ∧ ∃ b0 : UInt8, (Utf8.encode r)[0]? = some b0 ∧ (b0.toNat : Int) = 192 + r / 64) := by
  have hv' : Utf8.valid r = true := by
    simp only [Lib.validRune, decide_eq_true_eq] at hv
    simp only [Utf8.valid, Bool.or_eq_true, Bool.and_eq_true, decide_eq_true_eq]; omega
  unfold Utf8.encode
  simp only [hv', if_true]
  rw [if_neg (by omega)]
  by_cases h2 : r.toNat < 2048
  · rw [if_pos (by omega)]
    refine ⟨1, UInt8.ofNat (128 + r.toNat % 64), rfl, by omega, by omega, rfl, by simp; omega, fun _ => ⟨rfl, UInt8.ofNat (192 + r.toNat / 64), rfl, by simp; omega⟩⟩
  · rw [if_neg (by omega), if_pos (by omega)]
    exact ⟨2, UInt8.ofNat (128 + r.toNat % 64), rfl, by omega, by omega, rfl, by simp; omega, fun h => by omega⟩
def cntb (s : ByteArray) (c i : Nat) : Nat := ((s.data.toList.take i).map UInt8.toNat).count c
theorem get_list (s : ByteArray) (i : Nat) : s[i]? = s.data.toList[i]? := by
  rw [Array.getElem?_toList]
  by_cases h : i < s.size
  · rw [getElem?_pos s i h]
    have : i < s.data.size := h
    rw [Array.getElem?_eq_getElem this]; rfl
  · rw [getElem?_neg s i h]
    rw [Array.getElem?_eq_none (by have : s.data.size = s.size := rfl; omega)]
theorem cntb_succ {s : ByteArray} {i : Nat} {u : UInt8} (h : s[i]? = some u) : cntb s u.toNat (i + 1) = cntb s u.toNat i + 1 := by
  rw [get_list] at h
  unfold cntb
  rw [List.take_add_one, h]
  simp only [Option.toList_some, List.map_append, List.map_cons, List.map_nil, List.count_append, List.count_singleton_self]
theorem cntb_mono (s : ByteArray) (c : Nat) {i j : Nat} (h : i ≤ j) : cntb s c i ≤ cntb s c j := by
  unfold cntb
  have : s.data.toList.take i = (s.data.toList.take j).take i := by rw [List.take_take]; congr 1; omega
  rw [this, List.map_take]
  exact List.Sublist.count_le _ (List.take_sublist _ _)
def isN (s : ByteArray) : Bool := (List.range s.size).all fun i => Nat.ble 192 (bt s i).toNat || Nat.ble (8 * cntb s (bt s i).toNat (i + 1)) (i + 17)
theorem isN_of {s : ByteArray} (h : isN s = true) {i : Nat} {u : UInt8} (hi : s[i]? = some u) (hu : u.toNat < 192) : 8 * cntb s u.toNat (i + 1) ≤ i + 17 := by
  unfold isN at h
  rw [List.all_eq_true] at h
  have hlt : i < s.size := by
    apply Classical.byContradiction; intro hn
    rw [getElem?_neg s i hn] at hi; cases hi
  have := h i (by simpa using hlt)
  simp only [bt, hi, Bool.or_eq_true, Nat.ble_eq, Int.toNat_natCast] at this
  omega
def isE (s : ByteArray) (L : List Int) : Bool := L.zipIdx.all fun x => decide (128 ≤ x.1) && decide (x.1 < 2048) && Nat.blt (2 * x.2 + 1) s.size && decide (bt s (2 * x.2) = 192 + x.1 / 64) && decide (bt s (2 * x.2 + 1) = 128 + x.1 % 64)
theorem isE_of {s : ByteArray} {L : List Int} (h : isE s L = true) {r : Int} (hr : r ∈ L) : 128 ≤ r ∧ r < 2048 ∧ ∃ m, 1 ≤ m ∧ m < s.size ∧ bt s m = 128 + r % 64 ∧ bt s (m - 1) = 192 + r / 64 := by
  unfold isE at h
  rw [List.all_eq_true] at h
  obtain ⟨k, hk, hkr⟩ := List.getElem_of_mem hr
  have := h (r, k) (by rw [List.mem_zipIdx_iff_getElem?]; simp [hk, hkr])
  simp only [Bool.and_eq_true, decide_eq_true_eq, Nat.blt_eq] at this
  obtain ⟨⟨⟨⟨h1, h2⟩, h3⟩, h4⟩, h5⟩ := this
  exact ⟨h1, h2, 2 * k + 1, by omega, h3, h5, by simpa using h4⟩
theorem bt_at {s : ByteArray} {i : Nat} {u : UInt8} (h : s[i]? = some u) : bt s i = u.toNat := by simp [bt, h]
theorem nxt_of {s : ByteArray} {i : Nat} {c : UInt8} {o : Int} (h : Lib.indexByte (s.extract (i + 1) s.size).data.toList c = o) :
    (o < 0 → ∀ m, i < m → s[m]? ≠ some c) ∧ (0 ≤ o → ∃ k : Nat, o = k ∧ s[i + 1 + k]? = some c ∧ ∀ m, i < m → m < i + 1 + k → s[m]? ≠ some c) := by
  have hg : ∀ m, i < m → (s.extract (i + 1) s.size).data.toList[m - (i + 1)]? = s[m]? := by
    intro m hm
    rw [get_list]
    simp only [ByteArray.data_extract, Array.toList_extract]
    rw [List.extract_eq_take_drop, List.getElem?_take]
    by_cases hz : m - (i + 1) < s.size - (i + 1)
    · rw [if_pos hz, List.getElem?_drop]; congr 1; omega
    · rw [if_neg hz, List.getElem?_eq_none]
      have : s.data.toList.length = s.size := Array.length_toList
      omega
  refine ⟨fun ho m hm => ?_, fun ho => ?_⟩
  · have := Lib.indexByte_ge (s.extract (i + 1) s.size).data.toList c
    rw [← hg m hm]
    exact Lib.indexByte_none (by omega) _
  · obtain ⟨k, rfl⟩ := Int.eq_ofNat_of_zero_le ho
    obtain ⟨h1, h2⟩ := Lib.indexByte_some h
    refine ⟨k, rfl, ?_, fun m hm hk => ?_⟩
    · rw [← hg _ (by omega), ← h1]; congr 1; omega
    · rw [← hg m hm]; exact h2 _ (by omega)
end
section
structure Tb (w : World) : Prop where
  u8 : Lib.Utf8Tabs 4 5 w
  p10 : Lib.TabIs Tryz.prog w "internal/strconv.uint64pow10" .u64 Lib.pow10Tab
  mx : ∃ m, w.cell? ⟨0, 0, none⟩ = some (.int .i64 m)
  sz : 8 ≤ w.heap.size
theorem glob1 : Tryz.prog.globalNamed "internal/strconv.uint64pow10" = some 1 := by kernel_rfl
theorem Tb.kp {M : Nat → Prop} {w w' : World} (h : Tb w) (k : Kp M w w') (hm : ∀ i, i < w.heap.size → i < 8 → ¬ M i) : Tb w' := by
  have hs := h.sz
  refine ⟨⟨fun c hc => k.cell (h.u8.1 c hc) (hm 4 (by omega) (by omega)), fun i hi => ⟨k.cell (h.u8.2 i hi).1 (hm 5 (by omega) (by omega)), k.cell (h.u8.2 i hi).2 (hm 5 (by omega) (by omega))⟩⟩, ?_, ?_, Nat.le_trans h.sz k.size⟩
  · have hp := h.p10
    unfold Lib.TabIs World.var? at hp ⊢
    rw [glob1] at hp ⊢
    simp only [Option.bind_some] at hp ⊢
    rw [k.block 1 (by omega) (hm 1 (by omega) (by omega))]; exact hp
  · obtain ⟨m, hm0⟩ := h.mx
    exact ⟨m, k.cell hm0 (hm 0 (by omega) (by omega))⟩
end
section
def C20 (pd : Int → List Fld → Prop) : Prop := ∀ (G : Nat → Prop) (id : Int) (A : Option Addr) (cap : Nat) (l : List Fld) (w : World), Tb w → FldsAt G w A l → pd id l →
 Calls Tryz.prog 20 #[.agg #[.int .i64 id, .slice A l.length cap]] w fun e w' => e = .returned (.bool true) ∧ New w w'
theorem c21 (A B : Option Addr) (na nb capA capB : Nat) (w : World) : Calls Tryz.prog 21 #[.slice A na capA, .slice B nb capB] w fun e w' => ∃ ba bb, e = .returned (.func (.func 51) #[] #[.pointer (some ⟨ba, 0, none⟩), .pointer (some ⟨bb, 0, none⟩)]) ∧ Own w' ba 22 [.slice A na capA] ∧ Own w' bb 22 [.slice B nb capB] ∧ w.heap.size ≤ ba ∧ w.heap.size ≤ bb ∧ New w w' := by
 obtain ⟨W, hW⟩ : ∃ W, W = w := ⟨_, rfl⟩
 subst hW
 have K : New W W := Kp.refl _ _
 refine enter (n := 6) Tryz.func21 rfl rfl (by simp) ?_
 refine wp_seq (c_reg (s_box rfl rfl rfl rfl ?_))
 intro b2 w1 eb2 o2 kb2 zb2
 have gb2_K : W.heap.size ≤ b2 := by have := K.size; omega
 replace K := K.transN kb2
 refine s_box rfl rfl rfl rfl ?_
 intro b3 w2 eb3 o3 kb3 zb3
 have gb3_K : W.heap.size ≤ b3 := by have := K.size; omega
 replace o2 := o2.kp kb3 (fun e => e)
 replace K := K.transN kb3
 refine s_as (v := _) rfl rfl rfl (w_nil (then_n (wp_seq (c_reg (s_mf2 rfl rfl rfl rfl rfl (s_as (v := _) rfl rfl rfl (w_nil (then_n (wp_ret ?_)))))))))
 refine ret1 (t := 4) (v := .func _ _ _) rfl rfl rfl ⟨b2, b3, rfl, o2, o3, gb2_K, gb3_K, K⟩
theorem c9 (pd : Int → List Fld → Prop) (hv20 : C20 pd) (id : Int) (A B : Option Addr) (capA capB : Nat) (la lb : List Fld) (GA GB : Nat → Prop) (w : World) (hT : Tb w) (hpA : pd id la) (hpB : pd id lb)
  (hcA : la.length ≤ capA) (hcB : lb.length ≤ capB) (hA : FldsAt GA w A la) (hB : FldsAt GB w B lb) (hGA : ∀ i, GA i → i < w.heap.size) (hGB : ∀ i, GB i → i < w.heap.size) (hla : la.length ≤ 60) (hlb : lb.length ≤ 60)
  (hsa : ∀ f ∈ la, f.subs.length ≤ 1000000) (hsb : ∀ f ∈ lb, f.subs.length ≤ 1000000) :
  Calls Tryz.prog 9 #[.agg #[.int .i64 id, .slice A la.length capA], .agg #[.int .i64 id, .slice B lb.length capB]] w fun e w' => ∃ v es, e = .returned (.tuple #[v, .int .i64 0]) ∧ Chain 0 0 0 la lb es ∧ es.length ≤ 61 ∧ REdts (fun i => w.heap.size ≤ i) w' v es ∧ New w w' := by
 obtain ⟨W, hW⟩ : ∃ W, W = w := ⟨_, rfl⟩
 subst hW
 have K : New W W := Kp.refl _ _
 refine enterM (n := 34) Tryz.func9 rfl rfl (by simp) ?_
 refine wp_seq (c_reg (s_box rfl rfl rfl rfl ?_))
 intro b2 w1 eb2 o2 kb2 zb2
 have gb2_K : W.heap.size ≤ b2 := by have := K.size; omega
 replace K := K.transN kb2
 refine s_box rfl rfl rfl rfl ?_
 intro b3 w2 eb3 o3 kb3 zb3
 have gb3_K : W.heap.size ≤ b3 := by have := K.size; omega
 replace o2 := o2.kp kb3 (fun e => e)
 replace K := K.transN kb3
 refine s_as (v := .slice _ _ _) rfl rfl rfl (asI rfl rfl rfl (w_nil (then_n (wp_seq (wp_block (wp_seq (c_reg (s_ldA ag24 rfl rfl rfl o2.cells rfl (s_call1 go20 rfl (hv20 GA id A capA la _ (hT.kp K (fun _ _ _ e => e)) (hA.kp K (fun _ _ _ e => e)) hpA) rfl rfl ?_)))))))))
 rintro _ w3 ⟨rfl, kw3⟩
 replace o2 := o2.kp kw3 (fun e => e)
 replace o3 := o3.kp kw3 (fun e => e)
 replace K := K.transN kw3
 refine ⟨_, rfl, ?_⟩
 refine s_not rfl rfl rfl (mvB rfl rfl rfl (s_ldA ag24 rfl rfl rfl o3.cells rfl (s_call1 go20 rfl (hv20 GB id B capB lb _ (hT.kp K (fun _ _ _ e => e)) (hB.kp K (fun _ _ _ e => e)) hpB) rfl rfl ?_)))
 rintro _ w4 ⟨rfl, kw4⟩
 replace o2 := o2.kp kw4 (fun e => e)
 replace o3 := o3.kp kw4 (fun e => e)
 replace K := K.transN kw4
 refine ⟨_, rfl, ?_⟩
 refine s_not rfl rfl rfl (pFB rfl rfl rfl rfl rfl (asB rfl rfl rfl (w_nil (then_n (c_F rfl rfl (wp_seq (c_reg (s_fa fi24_0 rfl rfl rfl (s_ld1 (v := .int .i64 _) on3 rfl rfl rfl (o2.get 0 rfl) ?_)))))))))
 refine s_fa fi24_0 rfl rfl rfl (s_ld1 (v := .int .i64 _) on3 rfl rfl rfl (o3.get 0 rfl) (s_ne rfl rfl rfl rfl rfl (ne_F (by omega)) (asB rfl rfl rfl (w_nil (then_n (c_F rfl rfl (wp_skip (inb_n (then_n ?_)))))))))
 refine wp_seq (c_reg (s_alloc z31 rfl rfl ?_))
 intro b6 w5 eb6 o6 kb6 zb6
 have gb6_K : W.heap.size ≤ b6 := by have := K.size; omega
 replace o2 := o2.kp kb6 (fun e => e)
 replace o3 := o3.kp kb6 (fun e => e)
 replace K := K.transN kb6
 refine w_nil (then_n (wp_seq (wp_seq (c_reg (s_fa fi24_1 rfl rfl rfl (s_ld1 (v := .slice _ _ _) on22 rfl rfl rfl (o2.get 1 rfl) (s_fa fi24_1 rfl rfl rfl (s_ld1 (v := .slice _ _ _) on22 rfl rfl rfl (o3.get 1 rfl) (s_call2 go21 rfl (c21 A B la.length lb.length capA capB _) rfl rfl rfl rfl ?_)))))))))
 rintro _ w21 ⟨ba, bb, rfl, hoA, hoB, gba, gbb, k21⟩
 replace o2 := o2.kp k21 (fun e => e)
 replace o3 := o3.kp k21 (fun e => e)
 replace o6 := o6.kp k21 (fun e => e)
 replace K := K.transN k21
 have hK21 := K.size
 refine ⟨_, rfl, ?_⟩
 refine w_nil (then_n (wp_block ?_))
 have hsz6 := o6.lt
 refine c_range (t := 27) rfl rfl go51 (fun fn WL1 hL1 hL2 kL hLs => ?_)
 have hYD : ∀ rec, WL1.heap[(w21.heap.size + 1)]? = some (.loop rec) → YD rec (w21.heap.size + 1) w21.heap.size b6 := by
  intro rec hrec; rw [hL1] at hrec; cases hrec
  intro Bq wq es r e vo vn hlr hD hb6 hBw hJ hes ho hn
  have hJr := hJ.rlt; have hJg := hJ.rge
  obtain ⟨hL, hDq, vq, hO, hR⟩ := hJ
  have hLlt := (Array.getElem?_eq_some_iff.1 hL).1
  have hDlt := (Array.getElem?_eq_some_iff.1 hDq).1
  have hOlt := hO.lt
  refine yield_at hL ?_
  obtain ⟨Ao, co, rfl, ho⟩ := ho
  obtain ⟨An, cn, rfl, hn⟩ := hn
  refine c_regR (s_alloc z60 rfl rfl ?_)
  intro b7 w1 eb7 o7 k7 z7
  refine s_st 0 sz60 (v := .agg _) rfl rfl rfl rfl rfl rfl rfl o7 rfl rfl rfl ?_
  clear o7; intro w2 o7 k8 z8
  have kq : New wq w2 := Kp.trans' k7 k8 (fun j hj (e : j = b7) => by omega)
  refine w_nil (then_n ?_)
  refine ⟨_, _, _, _, kp_heap kq hL (fun e => e), fun w3 hL3 k9 z9 => ?_⟩
  have hq2 := kq.size
  have hq3 := k9.size
  replace o7 := o7.kp k9 (fun (e : b7 = _) => by omega)
  have hO3 := (hO.kp kq (fun e => e)).kp k9 (fun (e : b6 = _) => by omega)
  have hR3 := (hR.kp kq (fun _ _ _ e => e)).kp k9 (fun j _ hg (e : j = _) => by have : Bq ≤ j := hg; omega)
  have ho3 := (ho.kp kq (fun _ _ _ e => e)).kp k9 (fun j _ hg (e : j = _) => by have : Bq ≤ j := hg.1; omega)
  have hn3 := (hn.kp kq (fun _ _ _ e => e)).kp k9 (fun j _ hg (e : j = _) => by have : Bq ≤ j := hg.1; omega)
  have hD3 := kp_heap k9 (kp_heap kq hDq (fun e => e)) (fun (e : w21.heap.size = _) => by omega)
  refine wpIn_block ?_
  refine c_regR (s_ld1 (v := vq) on31 rfl rfl rfl (hO3.get 0 rfl) (s_ldA ag60 rfl rfl rfl o7.cells rfl (s_bs1E el31 rfl (by decide) rfl rfl rfl rfl ?_)))
  intro bz w4 ebz oz kz zz
  refine s_appE1 (e := e) (vo := .slice Ao e.old.length co) (vn := .slice An e.new.length cn) el31 rfl rfl rfl rfl rfl rfl (hR3.kp kz (fun _ _ _ e => e)) oz.cells ⟨Ao, co, rfl, ho3.kp kz (fun _ _ _ e => e)⟩ ⟨An, cn, rfl, hn3.kp kz (fun _ _ _ e => e)⟩ (fun j hj => by show Bq ≤ j; omega) (by omega) ?_
  intro vz w5 rz hz kA hrz
  obtain ⟨Az, cz, rfl⟩ := hz.sh
  have hO5 := (hO3.kp kz (fun e => e)).kp kA (fun e => by have : Bq ≤ b6 := hJg b6 e.symm; omega)
  refine s_st 0 sz31 (v := .slice _ _ _) rfl rfl rfl rfl rfl rfl rfl hO5 rfl rfl rfl ?_
  intro w6 oF kF zF
  refine w_nil (inb_n ?_)
  have hL6 := kp_heap kF (kp_heap kA (kp_heap kz hL3 (fun e => e)) (fun e => by have : Bq ≤ _ := hJg _ e.symm; omega)) (fun (e : _ = b6) => by omega)
  have hD6 := kp_heap kF (kp_heap kA (kp_heap kz hD3 (fun e => e)) (fun e => by have : Bq ≤ _ := hJg _ e.symm; omega)) (fun (e : _ = b6) => by omega)
  have hz6 := hz.kp kF (fun j _ hg (e : j = b6) => by have : Bq ≤ j := hg; omega)
  refine rnd_end hL6 (fun w7 hL7 k7 z7 => ⟨rfl, rz, ?_, ?_, ?_⟩)
  ·exact ⟨hL7, kp_heap k7 hD6 (fun (e : w21.heap.size = _) => by omega), _, oF.kp k7 (fun (e : b6 = _) => by omega), hz6.kp k7 (fun j _ hg (e : j = _) => by have : Bq ≤ j := hg; omega)⟩
  ·exact (((((kq.mono (fun _ _ e => e.elim)).trans' k9 (fun j _ e => .inl e)).transN kz).trans' kA (fun j _ e => .inr (.inr e))).trans' kF (fun j _ e => .inr (.inl e))).trans' k7 (fun j _ e => .inl e)
  ·rcases hrz with h | h
   ·exact .inl h
   ·exact .inr ⟨_, h, by have := kz.size; omega⟩
 have hLsz := kL.size
 have hKsz := K.size
 have hc51 := c51 (w21.heap.size + 1) w21.heap.size b6 ba bb _ A B capA capB la lb GA GB WL1 (hYD _ hL1) (by omega) (by omega) (by omega) ⟨hL1, hL2, _, o6.kp kL (fun e => e), ERow.nil _ _⟩ (hoA.kp kL (fun e => e)) (hoB.kp kL (fun e => e)) ⟨by have := hoA.lt; omega, by omega⟩ ⟨by have := hoB.lt; omega, by omega⟩ hcA hcB (hA.kp (K.trans kL) (fun _ _ _ e => e)) (hB.kp (K.trans kL) (fun _ _ _ e => e)) (fun j hg => ⟨by have := hGA j hg; omega, by have := hGA j hg; omega⟩) (fun j hg => ⟨by have := hGB j hg; omega, by have := hGB j hg; omega⟩) (by omega) (by omega) hsa hsb ⟨by omega, by omega, by omega⟩
 refine hc51.mono ?_
 rintro _ w3 ⟨v, rfl, es, r, hch, hel, hJ, kJ⟩
 obtain ⟨hL, hDq, vq, hO, hR⟩ := hJ
 refine ⟨v, _, rfl, hL, by simp, rfl, fun w4 k4 z4 => ?_⟩
 have hD4 := kp_heap k4 hDq (fun (e : w21.heap.size = _) => by omega)
 have hO4 := hO.kp k4 (fun (e : b6 = _) => by omega)
 have hR4 := hR.kp k4 (fun j _ hg (e : j = _) => by have : WL1.heap.size ≤ j := hg; omega)
 replace K : New W w4 := ((K.trans kL).trans' kJ (fun j hj e => by rcases e with e | e <;> omega)).trans' k4 (fun j hj (e : j = _) => by omega)
 have hvq := hR4.sh
 obtain ⟨Aq, cq, rfl⟩ := hvq
 refine inb_n (then_n (wp_seq (c_reg (s_ld1 (v := .slice _ _ _) on31 rfl rfl rfl (hO4.get 0 rfl) (s_as (v := .slice _ _ _) rfl rfl rfl (asI rfl rfl rfl (w_nil (then_n (wp_ret ?_)))))))))
 refine retM2 (t := 4) (u := 5) (D := w21.heap.size) (v := .slice Aq es.length cq) (v' := .int .i64 0) rfl rfl rfl rfl rfl hD4 ⟨_, es, rfl, hch, hel, ?_, K.trans' (kp_put _ _) (fun j hj (e : j = _) => by omega)⟩
 exact ((hR4.kp (kp_put _ _) (fun j _ hg (e : j = _) => by have : WL1.heap.size ≤ j := hg; omega)).weak (fun j _ hg => by have : WL1.heap.size ≤ j := hg; show W.heap.size ≤ j; omega)).redts (by omega)
end
section
def C63 (pt : ByteArray → Prop) : Prop := ∀ (s : ByteArray) (w : World), Tb w → pt s → Calls Tryz.prog 63 #[.string s] w fun e w' => e = .returned (.bool true) ∧ New w w'
theorem c88 (c : Int) (w : World) : Calls Tryz.prog 88 #[.int .u8 c] w fun e w' => e = .returned (.bool (dg c)) ∧ New w w' := by
 obtain ⟨W, hW⟩ : ∃ W, W = w := ⟨_, rfl⟩
 subst hW
 have K : New W W := Kp.refl _ _
 refine enter (n := 9) Tryz.func88 rfl rfl (by simp) ?_
 refine wp_seq (c_reg (asB rfl rfl rfl (w_nil (then_n (wp_seq (c_reg (s_mv (v := .int .u8 _) rfl rfl rfl (s_geq rfl rfl rfl rfl rfl rfl (mvB rfl rfl rfl ?_)))))))))
 refine w_split (t := 5) rfl ?_ ?_
 ·intro hs5
  (try simp only [Q1, Q2, Q3, Q4, Q5] at hs5)
  refine s_mv (v := .int .u8 _) rfl rfl rfl (s_leq rfl rfl rfl rfl rfl rfl (pTB rfl rfl rfl rfl rfl (asB rfl rfl rfl (w_nil (then_n (wp_ret ?_))))))
  refine ret1 (t := 2) (v := .bool _) rfl rfl rfl ⟨by simp [dg, hs5], K⟩
 ·intro hs5
  (try simp only [Q1, Q2, Q3, Q4, Q5] at hs5)
  refine st_skip rfl (st_skip rfl (pFB rfl rfl rfl rfl rfl (asB rfl rfl rfl (w_nil (then_n (wp_ret ?_))))))
  refine ret1 (t := 2) (v := .bool _) rfl rfl rfl ⟨by simp [dg, hs5], K⟩
theorem c83 (c : Int) (w : World) : Calls Tryz.prog 83 #[.int .u8 c] w fun e w' => e = .returned (.bool (dg c)) ∧ New w w' := by
 obtain ⟨W, hW⟩ : ∃ W, W = w := ⟨_, rfl⟩
 subst hW
 have K : New W W := Kp.refl _ _
 refine enter (n := 9) Tryz.func83 rfl rfl (by simp) ?_
 refine wp_seq (c_reg (asB rfl rfl rfl (w_nil (then_n (wp_seq (c_reg (s_mv (v := .int .u8 _) rfl rfl rfl (s_geq rfl rfl rfl rfl rfl rfl (mvB rfl rfl rfl ?_)))))))))
 refine w_split (t := 5) rfl ?_ ?_
 ·intro hs5
  (try simp only [Q1, Q2, Q3, Q4, Q5] at hs5)
  refine s_mv (v := .int .u8 _) rfl rfl rfl (s_leq rfl rfl rfl rfl rfl rfl (pTB rfl rfl rfl rfl rfl (asB rfl rfl rfl (w_nil (then_n (wp_ret ?_))))))
  refine ret1 (t := 2) (v := .bool _) rfl rfl rfl ⟨by simp [dg, hs5], K⟩
 ·intro hs5
  (try simp only [Q1, Q2, Q3, Q4, Q5] at hs5)
  refine st_skip rfl (st_skip rfl (pFB rfl rfl rfl rfl rfl (asB rfl rfl rfl (w_nil (then_n (wp_ret ?_))))))
  refine ret1 (t := 2) (v := .bool _) rfl rfl rfl ⟨by simp [dg, hs5], K⟩
theorem c90 (c : Int) (w : World) : Calls Tryz.prog 90 #[.int .u8 c] w fun e w' => e = .returned (.bool (sm c)) ∧ New w w' := by
 obtain ⟨W, hW⟩ : ∃ W, W = w := ⟨_, rfl⟩
 subst hW
 have K : New W W := Kp.refl _ _
 refine enter (n := 9) Tryz.func90 rfl rfl (by simp) ?_
 refine wp_seq (c_reg (asB rfl rfl rfl (w_nil (then_n (wp_seq (c_reg (s_mv (v := .int .u8 _) rfl rfl rfl (s_geq rfl rfl rfl rfl rfl rfl (mvB rfl rfl rfl ?_)))))))))
 refine w_split (t := 5) rfl ?_ ?_
 ·intro hs5
  (try simp only [Q1, Q2, Q3, Q4, Q5] at hs5)
  refine s_mv (v := .int .u8 _) rfl rfl rfl (s_leq rfl rfl rfl rfl rfl rfl (pTB rfl rfl rfl rfl rfl (asB rfl rfl rfl (w_nil (then_n (wp_ret ?_))))))
  refine ret1 (t := 2) (v := .bool _) rfl rfl rfl ⟨by simp [sm, hs5], K⟩
 ·intro hs5
  (try simp only [Q1, Q2, Q3, Q4, Q5] at hs5)
  refine st_skip rfl (st_skip rfl (pFB rfl rfl rfl rfl rfl (asB rfl rfl rfl (w_nil (then_n (wp_ret ?_))))))
  refine ret1 (t := 2) (v := .bool _) rfl rfl rfl ⟨by simp [sm, hs5], K⟩
theorem c62 (c : Int) (w : World) : Calls Tryz.prog 62 #[.int .u8 c] w fun e w' => e = .returned (.bool (cd c)) ∧ New w w' := by
 obtain ⟨W, hW⟩ : ∃ W, W = w := ⟨_, rfl⟩
 subst hW
 have K : New W W := Kp.refl _ _
 refine enter (n := 9) Tryz.func62 rfl rfl (by simp) ?_
 refine wp_seq (c_reg (asB rfl rfl rfl (w_nil (then_n (wp_seq (c_reg (s_mv (v := .int .u8 _) rfl rfl rfl (s_call1 go88 rfl (c88 c _) rfl rfl ?_))))))))
 rintro _ w1 ⟨rfl, kw1⟩
 replace K := K.transN kw1
 refine ⟨_, rfl, ?_⟩
 refine mvB rfl rfl rfl ?_
 refine w_split (t := 5) rfl ?_ ?_
 ·intro hs5
  (try simp only [Q1, Q2, Q3, Q4, Q5] at hs5)
  refine st_skip rfl (st_skip rfl (pTB rfl rfl rfl rfl rfl (asB rfl rfl rfl (w_nil (then_n (wp_ret ?_))))))
  refine ret1 (t := 2) (v := .bool _) rfl rfl rfl ⟨by simp [cd, hs5], K⟩
 ·intro hs5
  (try simp only [Q1, Q2, Q3, Q4, Q5] at hs5)
  refine s_mv (v := .int .u8 _) rfl rfl rfl (s_call1 go90 rfl (c90 c _) rfl rfl ?_)
  rintro _ w2 ⟨rfl, kw2⟩
  replace K := K.transN kw2
  refine ⟨_, rfl, ?_⟩
  refine pFB rfl rfl rfl rfl rfl (asB rfl rfl rfl (w_nil (then_n (wp_ret ?_))))
  refine ret1 (t := 2) (v := .bool _) rfl rfl rfl ⟨by simp [cd, hs5], K⟩
theorem c48 (c : Int) (w : World) : Calls Tryz.prog 48 #[.int .u8 c] w fun e w' => e = .returned (.bool (cd c)) ∧ New w w' := by
 obtain ⟨W, hW⟩ : ∃ W, W = w := ⟨_, rfl⟩
 subst hW
 have K : New W W := Kp.refl _ _
 refine enter (n := 13) Tryz.func48 rfl rfl (by simp) ?_
 refine wp_seq (c_reg (asB rfl rfl rfl (w_nil (then_n (wp_seq (c_reg (s_mv (v := .int .u8 _) rfl rfl rfl (s_call1 go83 rfl (c83 c _) rfl rfl ?_))))))))
 rintro _ w1 ⟨rfl, kw1⟩
 replace K := K.transN kw1
 refine ⟨_, rfl, ?_⟩
 refine mvB rfl rfl rfl ?_
 refine w_split (t := 5) rfl ?_ ?_
 ·intro hs5
  (try simp only [Q1, Q2, Q3, Q4, Q5] at hs5)
  refine st_skip rfl (st_skip rfl (st_skip rfl (st_skip rfl (st_skip rfl (st_skip rfl (pTB rfl rfl rfl rfl rfl (asB rfl rfl rfl (w_nil (then_n ?_)))))))))
  refine wp_ret ?_
  refine ret1 (t := 2) (v := .bool _) rfl rfl rfl ⟨by simp [cd, sm, hs5], K⟩
 ·intro hs5
  (try simp only [Q1, Q2, Q3, Q4, Q5] at hs5)
  refine s_mv (v := .int .u8 _) rfl rfl rfl (s_geq rfl rfl rfl rfl rfl rfl (mvB rfl rfl rfl ?_))
  refine w_split (t := 8) rfl ?_ ?_
  ·intro hs8
   (try simp only [Q1, Q2, Q3, Q4, Q5] at hs8)
   refine s_mv (v := .int .u8 _) rfl rfl rfl (s_leq rfl rfl rfl rfl rfl rfl (pTB rfl rfl rfl rfl rfl (pFB rfl rfl rfl rfl rfl (asB rfl rfl rfl (w_nil (then_n (wp_ret ?_)))))))
   refine ret1 (t := 2) (v := .bool _) rfl rfl rfl ⟨by simp [cd, sm, hs5, hs8], K⟩
  ·intro hs8
   (try simp only [Q1, Q2, Q3, Q4, Q5] at hs8)
   refine st_skip rfl (st_skip rfl (pFB rfl rfl rfl rfl rfl (pFB rfl rfl rfl rfl rfl (asB rfl rfl rfl (w_nil (then_n (wp_ret ?_)))))))
   refine ret1 (t := 2) (v := .bool _) rfl rfl rfl ⟨by simp [cd, sm, hs5, hs8], K⟩
theorem c59 (c : Int) (w : World) : Calls Tryz.prog 59 #[.int .u8 c] w fun e w' => e = .returned (.bool (ind c)) ∧ New w w' := by
 obtain ⟨W, hW⟩ : ∃ W, W = w := ⟨_, rfl⟩
 subst hW
 have K : New W W := Kp.refl _ _
 refine enter (n := 9) Tryz.func59 rfl rfl (by simp) ?_
 refine wp_seq (c_reg (asB rfl rfl rfl (w_nil (then_n (wp_seq (c_reg (s_mv (v := .int .u8 _) rfl rfl rfl (s_eq rfl rfl rfl rfl rfl rfl (mvB rfl rfl rfl ?_)))))))))
 refine w_split (t := 5) rfl ?_ ?_
 ·intro hs5
  (try simp only [Q1, Q2, Q3, Q4, Q5] at hs5)
  refine st_skip rfl (st_skip rfl (pTB rfl rfl rfl rfl rfl (asB rfl rfl rfl (w_nil (then_n (wp_ret ?_))))))
  refine ret1 (t := 2) (v := .bool _) rfl rfl rfl ⟨by simp [ind, hs5], K⟩
 ·intro hs5
  (try simp only [Q1, Q2, Q3, Q4, Q5] at hs5)
  refine s_mv (v := .int .u8 _) rfl rfl rfl (s_call1 go62 rfl (c62 c _) rfl rfl ?_)
  rintro _ w1 ⟨rfl, kw1⟩
  replace K := K.transN kw1
  refine ⟨_, rfl, ?_⟩
  refine pFB rfl rfl rfl rfl rfl (asB rfl rfl rfl (w_nil (then_n (wp_ret ?_))))
  refine ret1 (t := 2) (v := .bool _) rfl rfl rfl ⟨by simp [ind, hs5], K⟩
theorem c58 (t : ByteArray) (w : World) (ht : VTag t) : Calls Tryz.prog 58 #[.string t] w fun e w' => e = .returned (.bool true) ∧ New w w' := by
 obtain ⟨W, hW⟩ : ∃ W, W = w := ⟨_, rfl⟩
 subst hW
 have K : New W W := Kp.refl _ _
 obtain ⟨a, b, c, rfl, ha, hb, hc, hn⟩ := ht
 have hne : (!decide ((⟨#[a, b, c]⟩ : ByteArray) = ⟨#[48, 48, 48]⟩)) = true := by simp [hn]
 refine enter (n := 25) Tryz.func58 rfl rfl (by simp) ?_
 refine wp_seq (c_reg (asB rfl rfl rfl (w_nil (then_n (wp_seq (c_reg (s_mv (v := .string _) rfl rfl rfl (s_lenS Tryz.underlying9 rfl rfl rfl (s_eq rfl rfl rfl rfl rfl (decide_eq_true rfl) ?_)))))))))
 refine mvB rfl rfl rfl (s_mv (v := .string _) rfl rfl rfl (s_sne rfl rfl rfl rfl rfl hne (pTB rfl rfl rfl rfl rfl (mvB rfl rfl rfl (s_mv (v := .string _) rfl rfl rfl (s_ixS Tryz.underlying9 rfl rfl rfl rfl rfl (by omega) rfl (s_call1 go88 rfl (c88 a.toNat _) rfl rfl ?_)))))))
 rintro _ w1 ⟨rfl, kw1⟩
 replace K := K.transN kw1
 refine ⟨_, rfl, ?_⟩
 refine pTB rfl rfl rfl rfl rfl (mvB rfl rfl rfl ?_)
 refine w_split (t := 15) rfl ?_ ?_
 ·intro hs15
  (try simp only [Q1, Q2, Q3, Q4, Q5] at hs15)
  refine s_mv (v := .string _) rfl rfl rfl (s_ixS Tryz.underlying9 rfl rfl rfl rfl rfl (by omega) rfl (s_call1 go88 rfl (c88 b.toNat _) rfl rfl ?_))
  rintro _ w2 ⟨rfl, kw2⟩
  replace K := K.transN kw2
  refine ⟨_, rfl, ?_⟩
  refine pTB rfl rfl rfl rfl rfl (mvB rfl rfl rfl ?_)
  refine w_split (t := 20) rfl ?_ ?_
  ·intro hs20
   (try simp only [Q1, Q2, Q3, Q4, Q5] at hs20)
   refine s_mv (v := .string _) rfl rfl rfl (s_ixS Tryz.underlying9 rfl rfl rfl rfl rfl (by omega) rfl (s_call1 go88 rfl (c88 c.toNat _) rfl rfl ?_))
   rintro _ w3 ⟨rfl, kw3⟩
   replace K := K.transN kw3
   refine ⟨_, rfl, ?_⟩
   refine pTB rfl rfl rfl rfl rfl (asB rfl rfl rfl (w_nil (then_n (wp_ret ?_))))
   refine ret1 (t := 2) (v := .bool _) rfl rfl rfl ⟨by simp_all, K⟩
  ·intro hs20
   (try simp only [Q1, Q2, Q3, Q4, Q5] at hs20)
   refine st_skip rfl (st_skip rfl (st_skip rfl (pFB rfl rfl rfl rfl rfl (asB rfl rfl rfl (w_nil (then_n (wp_ret ?_)))))))
   refine ret1 (t := 2) (v := .bool _) rfl rfl rfl ⟨by simp_all, K⟩
 ·intro hs15
  (try simp only [Q1, Q2, Q3, Q4, Q5] at hs15)
  refine st_skip rfl (st_skip rfl (st_skip rfl (pFB rfl rfl rfl rfl rfl (mvB rfl rfl rfl (st_skip rfl (st_skip rfl (st_skip rfl (pFB rfl rfl rfl rfl rfl (asB rfl rfl rfl ?_)))))))))
  refine w_nil (then_n (wp_ret ?_))
  refine ret1 (t := 2) (v := .bool _) rfl rfl rfl ⟨by simp_all, K⟩
theorem c62t {c : Int} {w : World} (h : cd c = true) : Calls Tryz.prog 62 #[.int .u8 c] w fun e w' => e = .returned (.bool true) ∧ New w w' := by have := c62 c w; rwa [h] at this
theorem c59t {c : Int} {w : World} (h : ind c = true) : Calls Tryz.prog 59 #[.int .u8 c] w fun e w' => e = .returned (.bool true) ∧ New w w' := by have := c59 c w; rwa [h] at this
theorem c61 (pt : ByteArray → Prop) (hv63 : C63 pt) (s : Sub) (w : World) (hT : Tb w) (hs : VSub pt s) : Calls Tryz.prog 61 #[.agg #[.int .u8 s.code, .string s.value]] w fun e w' => e = .returned (.bool false) ∧ New w w' := by
 obtain ⟨W, hW⟩ : ∃ W, W = w := ⟨_, rfl⟩
 subst hW
 have K : New W W := Kp.refl _ _
 refine enter (n := 13) Tryz.func61 rfl rfl (by simp) ?_
 refine wp_seq (c_reg (s_box rfl rfl rfl rfl ?_))
 intro b1 w1 eb1 o1 kb1 zb1
 have gb1_K : W.heap.size ≤ b1 := by have := K.size; omega
 replace K := K.transN kb1
 refine asB rfl rfl rfl (w_nil (then_n (wp_seq (c_reg (s_fa fi50_0 rfl rfl rfl (s_ld1 (v := .int .u8 _) on5 rfl rfl rfl (o1.get 0 rfl) (s_call1 go62 rfl (c62t hs.1) rfl rfl ?_)))))))
 rintro _ w2 ⟨rfl, kw2⟩
 replace o1 := o1.kp kw2 (fun e => e)
 replace K := K.transN kw2
 refine ⟨_, rfl, ?_⟩
 refine s_not rfl rfl rfl (mvB rfl rfl rfl (s_fa fi50_1 rfl rfl rfl (s_ld1 (v := .string _) on9 rfl rfl rfl (o1.get 1 rfl) (s_call1 go63 rfl (hv63 s.value _ (hT.kp K (fun _ _ _ e => e)) hs.2) rfl rfl ?_))))
 rintro _ w3 ⟨rfl, kw3⟩
 replace o1 := o1.kp kw3 (fun e => e)
 replace K := K.transN kw3
 refine ⟨_, rfl, ?_⟩
 refine s_not rfl rfl rfl (pFB rfl rfl rfl rfl rfl (asB rfl rfl rfl (w_nil (then_n (wp_ret ?_)))))
 refine ret1 (t := 2) (v := .bool _) rfl rfl rfl ⟨rfl, K⟩
theorem c89 {G : Nat → Prop} (pt : ByteArray → Prop) (hv63 : C63 pt) (A : Option Addr) (cap : Nat) (l : List Sub) (w : World) (hT : Tb w) (hA : SubsAt G w A l) (hl : l.length ≤ 1000) (hv : ∀ s ∈ l, VSub pt s) : Calls Tryz.prog 89 #[.slice A l.length cap, .func (.func 61) #[] #[]] w fun e w' => e = .returned (.int .i64 (-1)) ∧ New w w' := by
 obtain ⟨W, hW⟩ : ∃ W, W = w := ⟨_, rfl⟩
 subst hW
 have K : New W W := Kp.refl _ _
 refine enter (n := 19) Tryz.func89 rfl rfl (by simp) ?_
 refine wp_seq (c_reg (asI rfl rfl rfl (w_nil (then_n (wp_seq (wp_seq (c_reg (s_mv (v := .slice _ _ _) rfl rfl rfl (s_lenL Tryz.underlying51 rfl rfl rfl ?_)))))))))
 refine mvI rfl rfl rfl (w_nil (then_n (wp_block ?_)))
 refine c_loop (fun m f w => ∃ g k, m = l.length - k ∧ k ≤ l.length ∧ f = (upd (upd (upd (upd g 0 (.slice A l.length cap)) 1 (.func (.func 61) #[] #[])) 7 (.int .i64 (l.length : Nat))) 8 (.int .i64 (k : Nat))) ∧ New W w) (l.length) ⟨_, 0, by omega, by omega, (upd_keep' (upd_keep' (upd_keep' (upd_keep' rfl rfl) rfl) rfl) rfl), K⟩ ?_
 clear K
 rintro m _ w0 ⟨g, k, rfl, hk, rfl, K⟩
 refine wp_seq (c_reg (s_lss rfl rfl rfl rfl rfl rfl (w_nil (then_n (wp_seq ?_)))))
 refine c_if rfl rfl ?_ ?_
 ·intro ht9
  (try simp only [Q1, Q2, Q3, Q4, Q5] at ht9)
  have hlt : k < l.length := by omega
  obtain ⟨p, hpA, _, hp⟩ := hA.2 k _ (List.getElem?_eq_getElem hlt)
  subst hpA
  refine wp_skip (then_n (wp_seq (wp_block (wp_seq (c_reg (mvI rfl rfl rfl (asI rfl rfl rfl (w_nil (then_n ?_)))))))))
  refine wp_seq (c_reg (s_mv (v := _) rfl rfl rfl (s_mv (v := .slice _ _ _) rfl rfl rfl (mvI rfl rfl rfl (s_iaE el51 rfl rfl rfl rfl rfl rfl (by omega) (s_ldA ag50 rfl rfl rfl (hp.kp K (fun e => e)) rfl (s_callv1 go61 rfl rfl rfl (c61 pt hv63 l[k] _ (hT.kp K (fun _ _ _ e => e)) (hv _ (List.getElem_mem hlt))) rfl rfl ?_)))))))
  rintro _ w1 ⟨rfl, kw1⟩
  replace K := K.transN kw1
  refine ⟨_, rfl, ?_⟩
  refine w_nil (then_n (c_F rfl rfl (wp_skip (inb_n (then_n (c_reg (s_add rfl rfl rfl rfl rfl (w64 (by omega)) (mvI rfl rfl rfl (w_nil ?_)))))))))
  refine then_n ?_
  exact ⟨l.length - (k + 1), _, by omega, rfl, _, k + 1, rfl, by omega, (upd_keep' (upd_keep' (upd_keep' (upd_keep' rfl rfl) rfl) rfl) rfl), K⟩
 ·intro ht9
  (try simp only [Q1, Q2, Q3, Q4, Q5] at ht9)
  refine wp_exit (then_x (then_x (inb_x (then_n (wp_seq (c_reg (asI rfl rfl rfl (w_nil (then_n ?_)))))))))
  refine wp_ret ?_
  refine ret1 (t := 4) (v := .int .i64 _) rfl rfl rfl ⟨rfl, K⟩
theorem c60 {G : Nat → Prop} (pt : ByteArray → Prop) (hv63 : C63 pt) (A : Option Addr) (cap : Nat) (l : List Sub) (w : World) (hT : Tb w) (hA : SubsAt G w A l) (hl : l.length ≤ 1000) (hv : ∀ s ∈ l, VSub pt s) : Calls Tryz.prog 60 #[.slice A l.length cap, .func (.func 61) #[] #[]] w fun e w' => e = .returned (.bool false) ∧ New w w' := by
 obtain ⟨W, hW⟩ : ∃ W, W = w := ⟨_, rfl⟩
 subst hW
 have K : New W W := Kp.refl _ _
 refine enter (n := 9) Tryz.func60 rfl rfl (by simp) ?_
 refine wp_seq (c_reg (asB rfl rfl rfl (w_nil (then_n (wp_seq (c_reg (s_mv (v := .slice _ _ _) rfl rfl rfl (s_mv (v := _) rfl rfl rfl (s_call2 go89 rfl (c89 pt hv63 A cap l _ (hT.kp K (fun _ _ _ e => e)) hA hl hv) rfl rfl rfl rfl ?_)))))))))
 rintro _ w1 ⟨rfl, kw1⟩
 replace K := K.transN kw1
 refine ⟨_, rfl, ?_⟩
 refine s_geq rfl rfl rfl rfl rfl (decide_eq_false (by omega)) (asB rfl rfl rfl (w_nil (then_n (wp_ret ?_))))
 refine ret1 (t := 4) (v := .bool _) rfl rfl rfl ⟨rfl, K⟩
theorem c25 {G : Nat → Prop} (pt : ByteArray → Prop) (hv63 : C63 pt) (x : Fld) (vs : Value) (w : World) (hT : Tb w) (hx : VFld pt x) (hR : RSubs G w vs x.subs) : Calls Tryz.prog 25 #[.agg (x.cells vs).toArray] w fun e w' => e = .returned (.bool true) ∧ New w w' := by
 obtain ⟨W, hW⟩ : ∃ W, W = w := ⟨_, rfl⟩
 subst hW
 have K : New W W := Kp.refl _ _
 obtain ⟨tag, i0, i1, l⟩ := x
 obtain ⟨A, cap, rfl, hA⟩ := hR
 obtain ⟨h1, h2, h3, h4, h5, h6⟩ := hx
 replace h4 : 1 ≤ l.length := h4
 replace h5 : l.length ≤ 20 := h5
 simp only [Fld.cells]
 refine enter (n := 37) Tryz.func25 rfl rfl (by simp) ?_
 refine wp_seq (c_reg (s_box rfl rfl rfl rfl ?_))
 intro b1 w1 eb1 o1 kb1 zb1
 have gb1_K : W.heap.size ≤ b1 := by have := K.size; omega
 replace K := K.transN kb1
 refine asB rfl rfl rfl (w_nil (then_n (wp_seq (wp_seq (c_reg (s_fa fi53_0 rfl rfl rfl (s_ld1 (v := .string _) on9 rfl rfl rfl (o1.get 0 rfl) (s_call1 go58 rfl (c58 tag _ h1) rfl rfl ?_))))))))
 rintro _ w2 ⟨rfl, kw2⟩
 replace o1 := o1.kp kw2 (fun e => e)
 replace K := K.transN kw2
 refine ⟨_, rfl, ?_⟩
 refine s_not rfl rfl rfl (mvB rfl rfl rfl (s_fa fi53_1 rfl rfl rfl (s_iaA (j := 0) Tryz.underlying48 sz5 rfl rfl rfl rfl rfl rfl (by decide) (s_ld1 (v := .int .u8 _) on5 rfl rfl rfl (by rw [add_add]; exact o1.get 1 rfl) (s_call1 go59 rfl (c59t h2) rfl rfl ?_)))))
 rintro _ w3 ⟨rfl, kw3⟩
 replace o1 := o1.kp kw3 (fun e => e)
 replace K := K.transN kw3
 refine ⟨_, rfl, ?_⟩
 refine s_not rfl rfl rfl (pFB rfl rfl rfl rfl rfl (mvB rfl rfl rfl (s_fa fi53_1 rfl rfl rfl (s_iaA (j := 1) Tryz.underlying48 sz5 rfl rfl rfl rfl rfl rfl (by decide) (s_ld1 (v := .int .u8 _) on5 rfl rfl rfl (by rw [add_add]; exact o1.get 2 rfl) (s_call1 go59 rfl (c59t h3) rfl rfl ?_))))))
 rintro _ w4 ⟨rfl, kw4⟩
 replace o1 := o1.kp kw4 (fun e => e)
 replace K := K.transN kw4
 refine ⟨_, rfl, ?_⟩
 refine s_not rfl rfl rfl (pFB rfl rfl rfl rfl rfl (mvB rfl rfl rfl (s_fa fi53_2 rfl rfl rfl (s_ld1 (v := .slice _ _ _) on51 rfl rfl rfl (o1.get 3 rfl) (s_lenL Tryz.underlying51 rfl rfl rfl (s_lss rfl rfl rfl rfl rfl (decide_eq_false (by omega)) (pFB rfl rfl rfl rfl rfl (mvB rfl rfl rfl (s_fa fi53_2 rfl rfl rfl ?_)))))))))
 refine s_ld1 (v := .slice _ _ _) on51 rfl rfl rfl (o1.get 3 rfl) (s_lenL Tryz.underlying51 rfl rfl rfl (s_gtr rfl rfl rfl rfl rfl (decide_eq_false (by omega)) (pFB rfl rfl rfl rfl rfl (w_nil (then_n (c_F rfl rfl (wp_skip (then_n (wp_seq ?_)))))))))
 refine c_reg (s_fa fi53_2 rfl rfl rfl (s_ld1 (v := .slice _ _ _) on51 rfl rfl rfl (o1.get 3 rfl) (s_call2 go60 rfl (c60 pt hv63 A cap l _ (hT.kp K (fun _ _ _ e => e)) (hA.kp K (fun _ _ _ e => e)) (by omega) h6) rfl rfl rfl rfl ?_)))
 rintro _ w5 ⟨rfl, kw5⟩
 replace o1 := o1.kp kw5 (fun e => e)
 replace K := K.transN kw5
 refine ⟨_, rfl, ?_⟩
 refine s_not rfl rfl rfl (asB rfl rfl rfl (w_nil (then_n (wp_ret ?_))))
 refine ret1 (t := 2) (v := .bool _) rfl rfl rfl ⟨rfl, K⟩
theorem c57 {G : Nat → Prop} (A : Option Addr) (cap : Nat) (l : List Fld) (w : World) (hT : Tb w) (hA : FldsAt G w A l) (hl : l.length ≤ 1000) (F : FuncId) (hgo : isGo Tryz.prog F) (hc : ∀ x ∈ l, ∀ vs w, Tb w → RSubs G w vs x.subs → Calls Tryz.prog F #[.agg (x.cells vs).toArray] w fun e w' => e = .returned (.bool false) ∧ New w w') : Calls Tryz.prog 57 #[.slice A l.length cap, .func (.func F) #[] #[]] w fun e w' => e = .returned (.int .i64 (-1)) ∧ New w w' := by
 obtain ⟨W, hW⟩ : ∃ W, W = w := ⟨_, rfl⟩
 subst hW
 have K : New W W := Kp.refl _ _
 refine enter (n := 19) Tryz.func57 rfl rfl (by simp) ?_
 refine wp_seq (c_reg (asI rfl rfl rfl (w_nil (then_n (wp_seq (wp_seq (c_reg (s_mv (v := .slice _ _ _) rfl rfl rfl (s_lenL Tryz.underlying22 rfl rfl rfl ?_)))))))))
 refine mvI rfl rfl rfl (w_nil (then_n (wp_block ?_)))
 refine c_loop (fun m f w => ∃ g k, m = l.length - k ∧ k ≤ l.length ∧ f = (upd (upd (upd (upd g 0 (.slice A l.length cap)) 1 (.func (.func F) #[] #[])) 7 (.int .i64 (l.length : Nat))) 8 (.int .i64 (k : Nat))) ∧ New W w) (l.length) ⟨_, 0, by omega, by omega, (upd_keep' (upd_keep' (upd_keep' (upd_keep' rfl rfl) rfl) rfl) rfl), K⟩ ?_
 clear K
 rintro m _ w0 ⟨g, k, rfl, hk, rfl, K⟩
 refine wp_seq (c_reg (s_lss rfl rfl rfl rfl rfl rfl (w_nil (then_n (wp_seq ?_)))))
 refine c_if rfl rfl ?_ ?_
 ·intro ht9
  (try simp only [Q1, Q2, Q3, Q4, Q5] at ht9)
  have hlt : k < l.length := by omega
  obtain ⟨p, vs, hpA, _, hp, hs⟩ := hA.2 k _ (List.getElem?_eq_getElem hlt)
  subst hpA
  refine wp_skip (then_n (wp_seq (wp_block (wp_seq (c_reg (mvI rfl rfl rfl (asI rfl rfl rfl (w_nil (then_n ?_)))))))))
  refine wp_seq (c_reg (s_mv (v := _) rfl rfl rfl (s_mv (v := .slice _ _ _) rfl rfl rfl (mvI rfl rfl rfl (s_iaE el22 rfl rfl rfl rfl rfl rfl (by omega) (s_ldA ag53 rfl rfl rfl (hp.kp K (fun e => e)) rfl (s_callv1 hgo rfl rfl rfl (hc _ (List.getElem_mem hlt) vs _ (hT.kp K (fun _ _ _ e => e)) (hs.kp K (fun _ _ _ e => e))) rfl rfl ?_)))))))
  rintro _ w1 ⟨rfl, kw1⟩
  replace K := K.transN kw1
  refine ⟨_, rfl, ?_⟩
  refine w_nil (then_n (c_F rfl rfl (wp_skip (inb_n (then_n (c_reg (s_add rfl rfl rfl rfl rfl (w64 (by omega)) (mvI rfl rfl rfl (w_nil ?_)))))))))
  refine then_n ?_
  exact ⟨l.length - (k + 1), _, by omega, rfl, _, k + 1, rfl, by omega, (upd_keep' (upd_keep' (upd_keep' (upd_keep' rfl rfl) rfl) rfl) rfl), K⟩
 ·intro ht9
  (try simp only [Q1, Q2, Q3, Q4, Q5] at ht9)
  refine wp_exit (then_x (then_x (inb_x (then_n (wp_seq (c_reg (asI rfl rfl rfl (w_nil (then_n ?_)))))))))
  refine wp_ret ?_
  refine ret1 (t := 4) (v := .int .i64 _) rfl rfl rfl ⟨rfl, K⟩
theorem c23 {G : Nat → Prop} (A : Option Addr) (cap : Nat) (l : List Fld) (w : World) (hT : Tb w) (hA : FldsAt G w A l) (hl : l.length ≤ 1000) (F : FuncId) (hgo : isGo Tryz.prog F) (hc : ∀ x ∈ l, ∀ vs w, Tb w → RSubs G w vs x.subs → Calls Tryz.prog F #[.agg (x.cells vs).toArray] w fun e w' => e = .returned (.bool false) ∧ New w w') : Calls Tryz.prog 23 #[.slice A l.length cap, .func (.func F) #[] #[]] w fun e w' => e = .returned (.bool false) ∧ New w w' := by
 obtain ⟨W, hW⟩ : ∃ W, W = w := ⟨_, rfl⟩
 subst hW
 have K : New W W := Kp.refl _ _
 refine enter (n := 9) Tryz.func23 rfl rfl (by simp) ?_
 refine wp_seq (c_reg (asB rfl rfl rfl (w_nil (then_n (wp_seq (c_reg (s_mv (v := .slice _ _ _) rfl rfl rfl (s_mv (v := _) rfl rfl rfl (s_call2 go57 rfl (c57 A cap l _ (hT.kp K (fun _ _ _ e => e)) hA hl F hgo hc) rfl rfl rfl rfl ?_)))))))))
 rintro _ w1 ⟨rfl, kw1⟩
 replace K := K.transN kw1
 refine ⟨_, rfl, ?_⟩
 refine s_geq rfl rfl rfl rfl rfl (decide_eq_false (by omega)) (asB rfl rfl rfl (w_nil (then_n (wp_ret ?_))))
 refine ret1 (t := 4) (v := .bool _) rfl rfl rfl ⟨rfl, K⟩
theorem c50 {G : Nat → Prop} (pt : ByteArray → Prop) (hv63 : C63 pt) (x : Fld) (vs : Value) (w : World) (hT : Tb w) (hx : VFld pt x) (hR : RSubs G w vs x.subs) : Calls Tryz.prog 50 #[.agg (x.cells vs).toArray] w fun e w' => e = .returned (.bool false) ∧ New w w' := by
 obtain ⟨W, hW⟩ : ∃ W, W = w := ⟨_, rfl⟩
 subst hW
 have K : New W W := Kp.refl _ _
 refine enter (n := 6) Tryz.func50 rfl rfl (by simp) ?_
 refine wp_seq (c_reg (s_box rfl rfl rfl rfl ?_))
 intro b1 w1 eb1 o1 kb1 zb1
 have gb1_K : W.heap.size ≤ b1 := by have := K.size; omega
 replace K := K.transN kb1
 refine asB rfl rfl rfl (w_nil (then_n (wp_seq (c_reg (s_ldA ag53 rfl rfl rfl o1.cells rfl (s_call1 go25 rfl (c25 pt hv63 x vs _ (hT.kp K (fun _ _ _ e => e)) hx (hR.kp K (fun _ _ _ e => e))) rfl rfl ?_))))))
 rintro _ w2 ⟨rfl, kw2⟩
 replace o1 := o1.kp kw2 (fun e => e)
 replace K := K.transN kw2
 refine ⟨_, rfl, ?_⟩
 refine s_not rfl rfl rfl (asB rfl rfl rfl (w_nil (then_n (wp_ret ?_))))
 refine ret1 (t := 2) (v := .bool _) rfl rfl rfl ⟨rfl, K⟩
theorem c24 {G : Nat → Prop} (pt : ByteArray → Prop) (hv63 : C63 pt) (x : Fld) (vs : Value) (w : World) (hT : Tb w) (hx : VFld pt x) (hR : RSubs G w vs x.subs) : Calls Tryz.prog 24 #[.agg (x.cells vs).toArray] w fun e w' => e = .returned (.bool false) ∧ New w w' := by
 obtain ⟨W, hW⟩ : ∃ W, W = w := ⟨_, rfl⟩
 subst hW
 have K : New W W := Kp.refl _ _
 refine enter (n := 6) Tryz.func24 rfl rfl (by simp) ?_
 refine wp_seq (c_reg (s_box rfl rfl rfl rfl ?_))
 intro b1 w1 eb1 o1 kb1 zb1
 have gb1_K : W.heap.size ≤ b1 := by have := K.size; omega
 replace K := K.transN kb1
 refine asB rfl rfl rfl (w_nil (then_n (wp_seq (c_reg (s_ldA ag53 rfl rfl rfl o1.cells rfl (s_call1 go25 rfl (c25 pt hv63 x vs _ (hT.kp K (fun _ _ _ e => e)) hx (hR.kp K (fun _ _ _ e => e))) rfl rfl ?_))))))
 rintro _ w2 ⟨rfl, kw2⟩
 replace o1 := o1.kp kw2 (fun e => e)
 replace K := K.transN kw2
 refine ⟨_, rfl, ?_⟩
 refine s_not rfl rfl rfl (asB rfl rfl rfl (w_nil (then_n (wp_ret ?_))))
 refine ret1 (t := 2) (v := .bool _) rfl rfl rfl ⟨rfl, K⟩
theorem c20 (pt : ByteArray → Prop) (hv63 : C63 pt) (G : Nat → Prop) (id : Int) (A : Option Addr) (cap : Nat) (l : List Fld) (w : World) (hT : Tb w) (hA : FldsAt G w A l) (hv : VRec pt id l) : Calls Tryz.prog 20 #[.agg #[.int .i64 id, .slice A l.length cap]] w fun e w' => e = .returned (.bool true) ∧ New w w' := by
 obtain ⟨W, hW⟩ : ∃ W, W = w := ⟨_, rfl⟩
 subst hW
 have K : New W W := Kp.refl _ _
 obtain ⟨h1, h2, h3, h4, h5⟩ := hv
 refine enter (n := 27) Tryz.func20 rfl rfl (by simp) ?_
 refine wp_seq (c_reg (s_box rfl rfl rfl rfl ?_))
 intro b1 w1 eb1 o1 kb1 zb1
 have gb1_K : W.heap.size ≤ b1 := by have := K.size; omega
 replace K := K.transN kb1
 refine asB rfl rfl rfl (w_nil (then_n (wp_seq (wp_seq (c_reg (s_fa fi24_0 rfl rfl rfl (s_ld1 (v := .int .i64 _) on3 rfl rfl rfl (o1.get 0 rfl) (s_lss rfl rfl rfl rfl rfl (decide_eq_false (by omega)) (mvB rfl rfl rfl ?_)))))))))
 refine s_fa fi24_0 rfl rfl rfl (s_ld1 (v := .int .i64 _) on3 rfl rfl rfl (o1.get 0 rfl) (s_gtr rfl rfl rfl rfl rfl (decide_eq_false (by omega)) (pFB rfl rfl rfl rfl rfl (mvB rfl rfl rfl (s_fa fi24_1 rfl rfl rfl (s_ld1 (v := .slice _ _ _) on22 rfl rfl rfl (o1.get 1 rfl) (s_lenL Tryz.underlying22 rfl rfl rfl (s_lss rfl rfl rfl rfl rfl (decide_eq_false (by omega)) (pFB rfl rfl rfl rfl rfl ?_)))))))))
 refine mvB rfl rfl rfl (s_fa fi24_1 rfl rfl rfl (s_ld1 (v := .slice _ _ _) on22 rfl rfl rfl (o1.get 1 rfl) (s_lenL Tryz.underlying22 rfl rfl rfl (s_gtr rfl rfl rfl rfl rfl (decide_eq_false (by omega)) (pFB rfl rfl rfl rfl rfl (w_nil (then_n (c_F rfl rfl (wp_skip ?_)))))))))
 refine then_n (wp_seq (c_reg (s_fa fi24_1 rfl rfl rfl (s_ld1 (v := .slice _ _ _) on22 rfl rfl rfl (o1.get 1 rfl) (s_call2 go23 rfl (c23 A cap l _ (hT.kp K (fun _ _ _ e => e)) (hA.kp K (fun _ _ _ e => e)) (by omega) 50 go50 (fun x hx vs w hT hs => c50 pt hv63 x vs w hT (h5 x hx) hs)) rfl rfl rfl rfl ?_)))))
 rintro _ w2 ⟨rfl, kw2⟩
 replace o1 := o1.kp kw2 (fun e => e)
 replace K := K.transN kw2
 refine ⟨_, rfl, ?_⟩
 refine s_not rfl rfl rfl (asB rfl rfl rfl (w_nil (then_n (wp_ret ?_))))
 refine ret1 (t := 2) (v := .bool _) rfl rfl rfl ⟨rfl, K⟩
theorem c20c (pt : ByteArray → Prop) (hv63 : C63 pt) : C20 (VRec pt) := fun G id A cap l w hT hA hv => c20 pt hv63 G id A cap l w hT hA hv
end
section
theorem c10 (pt : ByteArray → Prop) (hv63 : C63 pt) {GA GB : Nat → Prop} (id : Int) (A : Option Addr) (cap : Nat) (la : List Fld) (B : Option Addr) (capB : Nat) (l : List Edt) (w : World) (hT : Tb w) (hcap : la.length ≤ cap) (hA : FldsAt GA w A la) (hv : VRec pt id la)
  (hsa : ∀ f ∈ la, f.subs.length ≤ 1000000) (hl : EdtsAt GB w B l) (hve : VE l) (hf : Fits la l) (hsn : ∀ e ∈ l, ∀ f ∈ e.new, f.subs.length ≤ 1000000) (hvn : ∀ e ∈ l, ∀ f ∈ e.new, VFld pt f) (h1 : 1 ≤ (app la 0 l).length) (h2 : (app la 0 l).length ≤ 60) :
  Calls Tryz.prog 10 #[.agg #[.int .i64 id, .slice A la.length cap], .slice B l.length capB] w fun e w' => ∃ A2 c2 r2, e = .returned (.tuple #[.agg #[.int .i64 id, .slice A2 (app la 0 l).length c2], .int .i64 0]) ∧ FRow w.heap.size w' (.slice A2 (app la 0 l).length c2) (app la 0 l) r2 ∧ New w w' := by
 obtain ⟨W, hW⟩ : ∃ W, W = w := ⟨_, rfl⟩
 subst hW
 have K : New W W := Kp.refl _ _
 have hla := hv.2.2.2.1
 have hll := hve.1
 refine enter (n := 40) Tryz.func10 rfl rfl (by simp) ?_
 refine wp_seq (c_reg (s_box rfl rfl rfl rfl ?_))
 intro b2 w1 eb2 o2 kb2 zb2
 have gb2_K : W.heap.size ≤ b2 := by have := K.size; omega
 replace K := K.transN kb2
 refine s_alloc z24 rfl rfl ?_
 intro b4 w2 eb4 o4 kb4 zb4
 have gb4_K : W.heap.size ≤ b4 := by have := K.size; omega
 replace o2 := o2.kp kb4 (fun e => e)
 replace K := K.transN kb4
 refine asI rfl rfl rfl (w_nil (then_n (wp_seq (wp_block (wp_seq (c_reg (s_ldA ag24 rfl rfl rfl o2.cells rfl (s_call1 go20 rfl (c20 pt hv63 GA id A cap la _ (hT.kp K (fun _ _ _ e => e)) (hA.kp K (fun _ _ _ e => e)) hv) rfl rfl ?_))))))))
 rintro _ w3 ⟨rfl, kw3⟩
 replace o2 := o2.kp kw3 (fun e => e)
 replace o4 := o4.kp kw3 (fun e => e)
 replace K := K.transN kw3
 refine ⟨_, rfl, ?_⟩
 refine s_not rfl rfl rfl (asB rfl rfl rfl (w_nil (then_n (c_F rfl rfl (wp_seq (c_reg (s_fa fi24_1 rfl rfl rfl (s_ld1 (v := .slice _ _ _) on22 rfl rfl rfl (o2.get 1 rfl) (s_mv (v := .slice _ _ _) rfl rfl rfl ?_)))))))))
 refine s_call2 go22 rfl (c22 A cap la B capB l _ hcap (hA.kp K (fun _ _ _ e => e)) (by omega) (hl.kp K (fun _ _ _ e => e)) hve hf) rfl rfl rfl rfl ?_
 rintro _ w4 ⟨rfl, kw4⟩
 replace o2 := o2.kp kw4 (fun e => e)
 replace o4 := o4.kp kw4 (fun e => e)
 replace K := K.transN kw4
 refine ⟨_, rfl, ?_⟩
 refine s_not rfl rfl rfl (asB rfl rfl rfl (w_nil (then_n (c_F rfl rfl (wp_skip (inb_n (then_n (wp_seq (wp_seq ?_)))))))))
 refine c_reg (s_mv (v := .slice _ _ _) rfl rfl rfl (s_lenL Tryz.underlying31 rfl rfl rfl (mvI rfl rfl rfl (w_nil (then_n (wp_block ?_))))))
 refine c_loop (fun m f w => ∃ g k, m = l.length - k ∧ k ≤ l.length ∧ f = (upd (upd (upd (upd (upd (upd (upd g 1 (.slice B l.length capB)) 2 (.pointer (some ⟨b2, 0, none⟩))) 4 (.pointer (some ⟨b4, 0, none⟩))) 5 (.int .i64 0)) 20 (.slice B l.length capB)) 21 (.int .i64 (l.length : Nat))) 22 (.int .i64 (k : Nat))) ∧ Own w b2 24 [.int .i64 id, .slice A la.length cap] ∧ Own w b4 24 [.int .i64 0, .slice none 0 0] ∧ New W w) (l.length) ⟨_, 0, by omega, by omega, (upd_keep' (upd_keep' (upd_keep' (upd_keep' (upd_keep' (upd_keep' (upd_keep' rfl rfl) rfl) rfl) rfl) rfl) rfl) rfl), o2, o4, K⟩ ?_
 clear K o2 o4
 rintro m _ w0 ⟨g, k, rfl, hk, rfl, o2, o4, K⟩
 have hb2 := o2.lt
 have hb4 := o4.lt
 refine wp_seq (c_reg (s_lss rfl rfl rfl rfl rfl rfl (w_nil (then_n (wp_seq ?_)))))
 refine c_if rfl rfl ?_ ?_
 ·intro ht23
  (try simp only [Q1, Q2, Q3, Q4, Q5] at ht23)
  have hlt : k < l.length := by omega
  obtain ⟨p, vo, vn, hpA, _, hp, ⟨Ao, co, rfl, ho⟩, ⟨An, cn, rfl, hn⟩⟩ := hl.2 k _ (List.getElem?_eq_getElem hlt)
  subst hpA
  obtain ⟨v1, v2, v3, v4, v5, v6⟩ := hve.2 k _ (List.getElem?_eq_getElem hlt)
  clear v6
  refine wp_skip (then_n (wp_seq (wp_block (wp_seq (c_reg (s_iaE el31 rfl rfl rfl rfl rfl rfl (by omega) (s_ldA ag60 rfl rfl rfl (hp.kp K (fun e => e)) rfl (s_alloc z60 rfl rfl ?_))))))))
  intro b7 w5 eb7 o7 kb7 zb7
  have gb7_K : W.heap.size ≤ b7 := by have := K.size; omega
  replace o2 := o2.kp kb7 (fun e => e)
  replace o4 := o4.kp kb7 (fun e => e)
  replace K := K.transN kb7
  refine s_st 0 sz60 (v := .agg _) rfl rfl rfl rfl rfl rfl rfl o7 rfl rfl rfl ?_
  clear o7; intro w6 o7 ksw6 zsw6
  replace o2 := o2.kp ksw6 (show ¬ (_ = _) by omega)
  replace o4 := o4.kp ksw6 (show ¬ (_ = _) by omega)
  replace K := K.trans' ksw6 (fun i hi (e : i = b7) => by omega)
  refine w_nil (then_n (wp_seq (c_reg (s_fa fi60_2 rfl rfl rfl (s_ld1 (v := .slice _ _ _) on22 rfl rfl rfl (o7.get 2 rfl) (s_call2 go23 rfl (c23 An cn l[k].new _ (hT.kp K (fun _ _ _ e => e)) (hn.kp K (fun _ _ _ e => e)) (by omega) 24 go24 (fun x hx vs w hT hs => c24 pt hv63 x vs w hT (hvn _ (List.getElem_mem hlt) x hx) hs)) rfl rfl rfl rfl ?_))))))
  rintro _ w7 ⟨rfl, kw7⟩
  replace o2 := o2.kp kw7 (fun e => e)
  replace o4 := o4.kp kw7 (fun e => e)
  replace o7 := o7.kp kw7 (fun e => e)
  replace K := K.transN kw7
  refine ⟨_, rfl, ?_⟩
  refine w_nil (then_n (c_F rfl rfl (wp_skip (inb_n (then_n (c_reg (s_add rfl rfl rfl rfl rfl (w64 (by omega)) (mvI rfl rfl rfl (w_nil ?_)))))))))
  refine then_n ?_
  exact ⟨l.length - (k + 1), _, by omega, rfl, _, k + 1, rfl, by omega, (upd_keep' (upd_keep' (upd_keep' (upd_keep' (upd_keep' (upd_keep' (upd_keep' rfl rfl) rfl) rfl) rfl) rfl) rfl) rfl), o2, o4, K⟩
 ·intro ht23
  (try simp only [Q1, Q2, Q3, Q4, Q5] at ht23)
  refine wp_exit (then_x (then_x (inb_x (then_n (wp_seq ?_)))))
  have hb2 := o2.lt
  have hb4 := o4.lt
  have hK6 := K.size
  refine c_drawS (fun S f w => (S 5 = false → w = w0.drew) ∧ (S 5 = true → S 6 = false → (∃ A2 c2 r2, f 36 = .slice A2 (app la 0 l).length c2 ∧ FRow w0.heap.size w (.slice A2 (app la 0 l).length c2) (app la 0 l) r2 ∧ Own w b2 24 [.int .i64 id, .slice A la.length cap] ∧ Own w b4 24 [.int .i64 0, .slice none 0 0] ∧ New W w)) ∧ (S 6 = true → S 7 = false → (∃ A2 c2 r2, f 37 = .tuple #[.agg #[.int .i64 id, .slice A2 (app la 0 l).length c2], .int .i64 0] ∧ FRow w0.heap.size w (.slice A2 (app la 0 l).length c2) (app la 0 l) r2 ∧ Own w b2 24 [.int .i64 id, .slice A la.length cap] ∧ Own w b4 24 [.int .i64 0, .slice none 0 0] ∧ New W w)) ∧ (S 7 = true → S 9 = false → (∃ A2 c2 r2, f 37 = .tuple #[.agg #[.int .i64 id, .slice A2 (app la 0 l).length c2], .int .i64 0] ∧ f 38 = .agg #[.int .i64 id, .slice A2 (app la 0 l).length c2] ∧ FRow w0.heap.size w (.slice A2 (app la 0 l).length c2) (app la 0 l) r2 ∧ Own w b2 24 [.int .i64 id, .slice A la.length cap] ∧ Own w b4 24 [.int .i64 0, .slice none 0 0] ∧ New W w)) ∧ (S 9 = true → (∃ A2 c2 r2, FRow w0.heap.size w (.slice A2 (app la 0 l).length c2) (app la 0 l) r2 ∧ Own w b4 24 [.int .i64 id, .slice A2 (app la 0 l).length c2] ∧ New W w)) ∧ f 1 = .slice B l.length capB ∧ f 2 = .pointer (some ⟨b2, 0, none⟩) ∧ f 4 = .pointer (some ⟨b4, 0, none⟩) ∧ (S 0 = true → f 31 = .pointer (some (Addr.add ⟨b2, 0, none⟩ 0))) ∧ (S 1 = true → f 32 = .int .i64 id) ∧ (S 2 = true → f 33 = .pointer (some (Addr.add ⟨b2, 0, none⟩ 1))) ∧ (S 3 = true → f 34 = .slice A la.length cap) ∧ (S 4 = true → f 35 = .slice B l.length capB) ∧ (S 8 = true → f 39 = .int .i64 0) ∧ (S 10 = true → f 5 = .int .i64 0) ∧ True) (fun i => i) (rank_back (by kernel_rfl)) ⟨(fun _ => rfl), (fun h => by cases h), (fun h => by cases h), (fun h => by cases h), (fun h => by cases h), rfl, rfl, rfl, (fun h => by cases h), (fun h => by cases h), (fun h => by cases h), (fun h => by cases h), (fun h => by cases h), (fun h => by cases h), (fun h => by cases h), trivial⟩ ?_ ?_
  ·intro io opx hio S f w hS hC hd hI
   obtain ⟨st0, st1, st2, st3, st4, l1, l2, l4, rv0, rv1, rv2, rv3, rv4, rv8, rv10, -⟩ := hI
   match io, hio with
   | 0, hio =>
    cases hio
    obtain ⟨g, rfl⟩ : ∃ g, f = upd (g) 2 (.pointer (some ⟨b2, 0, none⟩)) := ⟨f, upd_keep' (rfl) l2⟩
    refine s_fa fi24_0 rfl rfl rfl (w_nil ?_)
    exact ⟨_, rfl, st0, st1, st2, st3, st4, l1, l2, l4, (fun _ => rfl), rv1, rv2, rv3, rv4, rv8, rv10, trivial⟩
   | 1, hio =>
    cases hio
    have q6 : S 6 = false := Q9 hS fun h => (hC 6 _ rfl h ⟨1, .data⟩ (by simp) rfl)
    have q7 : S 7 = false := Q9 hS fun h => (hC 6 _ rfl (hC 7 _ rfl h ⟨6, .data⟩ (by simp) rfl) ⟨1, .data⟩ (by simp) rfl)
    have q9 : S 9 = false := Q9 hS fun h => (hC 9 _ rfl h ⟨1, .phase⟩ (by simp) rfl)
    have e31 := rv0 (hd ⟨0, .data⟩ (by simp) rfl)
    cases q5 : S 5 with
    | false =>
     obtain rfl := st0 q5
     have kd : New w0 w0.drew := (Kp.refl _ _).drew
     replace o2 := o2.kp kd (fun e => e)
     replace o4 := o4.kp kd (fun e => e)
     replace K := K.transN kd
     obtain ⟨g, rfl⟩ : ∃ g, f = upd (g) 31 (.pointer (some (Addr.add ⟨b2, 0, none⟩ 0))) := ⟨f, upd_keep' (rfl) e31⟩
     refine s_ld1 (v := .int .i64 _) on3 rfl rfl rfl (o2.get 0 rfl) (w_nil ?_)
     exact ⟨_, rfl, (fun _ => rfl), st1, st2, st3, st4, l1, l2, l4, rv0, (fun _ => rfl), rv2, rv3, rv4, rv8, rv10, trivial⟩
    | true =>
     obtain ⟨A2, c2, r2, e36, hrw, o2, o4, K⟩ := st1 q5 q6
     obtain ⟨g, rfl⟩ : ∃ g, f = upd (g) 31 (.pointer (some (Addr.add ⟨b2, 0, none⟩ 0))) := ⟨f, upd_keep' (rfl) e31⟩
     refine s_ld1 (v := .int .i64 _) on3 rfl rfl rfl (o2.get 0 rfl) (w_nil ?_)
     exact ⟨_, rfl, st0, (fun _ _ => ⟨A2, c2, r2, e36, hrw, o2, o4, K⟩), st2, st3, st4, l1, l2, l4, rv0, (fun _ => rfl), rv2, rv3, rv4, rv8, rv10, trivial⟩
   | 2, hio =>
    cases hio
    obtain ⟨g, rfl⟩ : ∃ g, f = upd (g) 2 (.pointer (some ⟨b2, 0, none⟩)) := ⟨f, upd_keep' (rfl) l2⟩
    refine s_fa fi24_1 rfl rfl rfl (w_nil ?_)
    exact ⟨_, rfl, st0, st1, st2, st3, st4, l1, l2, l4, rv0, rv1, (fun _ => rfl), rv3, rv4, rv8, rv10, trivial⟩
   | 3, hio =>
    cases hio
    have q5 : S 5 = false := Q9 hS fun h => (hC 5 _ rfl h ⟨3, .data⟩ (by simp) rfl)
    have q6 : S 6 = false := Q9 hS fun h => (hC 5 _ rfl (hC 6 _ rfl h ⟨5, .data⟩ (by simp) rfl) ⟨3, .data⟩ (by simp) rfl)
    have q7 : S 7 = false := Q9 hS fun h => (hC 5 _ rfl (hC 6 _ rfl (hC 7 _ rfl h ⟨6, .data⟩ (by simp) rfl) ⟨5, .data⟩ (by simp) rfl) ⟨3, .data⟩ (by simp) rfl)
    have q9 : S 9 = false := Q9 hS fun h => (hC 9 _ rfl h ⟨3, .phase⟩ (by simp) rfl)
    have e33 := rv2 (hd ⟨2, .data⟩ (by simp) rfl)
    obtain rfl := st0 q5
    have kd : New w0 w0.drew := (Kp.refl _ _).drew
    replace o2 := o2.kp kd (fun e => e)
    replace o4 := o4.kp kd (fun e => e)
    replace K := K.transN kd
    obtain ⟨g, rfl⟩ : ∃ g, f = upd (g) 33 (.pointer (some (Addr.add ⟨b2, 0, none⟩ 1))) := ⟨f, upd_keep' (rfl) e33⟩
    refine s_ld1 (v := .slice _ _ _) on22 rfl rfl rfl (o2.get 1 rfl) (w_nil ?_)
    exact ⟨_, rfl, (fun _ => rfl), st1, st2, st3, st4, l1, l2, l4, rv0, rv1, rv2, (fun _ => rfl), rv4, rv8, rv10, trivial⟩
   | 4, hio =>
    cases hio
    obtain ⟨g, rfl⟩ : ∃ g, f = upd (g) 1 (.slice B l.length capB) := ⟨f, upd_keep' (rfl) l1⟩
    refine s_mv (v := .slice _ _ _) rfl rfl rfl (w_nil ?_)
    exact ⟨_, rfl, st0, st1, st2, st3, st4, l1, l2, l4, rv0, rv1, rv2, rv3, (fun _ => rfl), rv8, rv10, trivial⟩
   | 5, hio =>
    cases hio
    have q5 : S 5 = false := hS
    have q6 : S 6 = false := Q9 hS fun h => (hC 6 _ rfl h ⟨5, .data⟩ (by simp) rfl)
    have q7 : S 7 = false := Q9 hS fun h => (hC 6 _ rfl (hC 7 _ rfl h ⟨6, .data⟩ (by simp) rfl) ⟨5, .data⟩ (by simp) rfl)
    have q9 : S 9 = false := Q9 hS fun h => (hC 9 _ rfl h ⟨5, .phase⟩ (by simp) rfl)
    have e34 := rv3 (hd ⟨3, .data⟩ (by simp) rfl)
    have e35 := rv4 (hd ⟨4, .data⟩ (by simp) rfl)
    obtain rfl := st0 q5
    have kd : New w0 w0.drew := (Kp.refl _ _).drew
    replace o2 := o2.kp kd (fun e => e)
    replace o4 := o4.kp kd (fun e => e)
    replace K := K.transN kd
    obtain ⟨g, rfl⟩ : ∃ g, f = upd (upd (g) 34 (.slice A la.length cap)) 35 (.slice B l.length capB) := ⟨f, upd_keep' (upd_keep' (rfl) e34) e35⟩
    refine s_call2 go27 rfl (c27 A cap la B capB l _ hcap (hA.kp K (fun _ _ _ e => e)) (by omega) hsa (hl.kp K (fun _ _ _ e => e)) hve hf hsn (by omega)) rfl rfl rfl rfl ?_
    rintro _ w5 ⟨_, r2, rfl, hq1, kc⟩
    obtain ⟨A2, c2, rfl, hc2⟩ := (frow_iff.1 hq1).shape
    have hq2 := hq1
    refine ⟨_, rfl, ?_⟩
    refine w_nil ?_
    exact ⟨_, rfl, (fun h => absurd h (by simp [ins, q6, q7, q9])), (fun _ _ => ⟨A2, c2, _, rfl, hq2, o2.kp kc (fun e => e), o4.kp kc (fun e => e), K.trans kc⟩), (fun h => absurd h (by simp [ins, q6, q7, q9])), (fun h => absurd h (by simp [ins, q6, q7, q9])), (fun h => absurd h (by simp [ins, q6, q7, q9])), l1, l2, l4, rv0, rv1, rv2, rv3, rv4, rv8, rv10, trivial⟩
   | 6, hio =>
    cases hio
    have q5 : S 5 = true := (hd ⟨5, .data⟩ (by simp) rfl)
    have q6 : S 6 = false := hS
    have q7 : S 7 = false := Q9 hS fun h => (hC 7 _ rfl h ⟨6, .data⟩ (by simp) rfl)
    have q9 : S 9 = false := Q9 hS fun h => (hC 9 _ rfl h ⟨6, .chain⟩ (by simp) rfl)
    have e32 := rv1 (hd ⟨1, .data⟩ (by simp) rfl)
    obtain ⟨A2, c2, r2, e36, hrw, o2, o4, K⟩ := st1 q5 q6
    obtain ⟨g, rfl⟩ : ∃ g, f = upd (upd (g) 32 (.int .i64 id)) 36 (.slice A2 (app la 0 l).length c2) := ⟨f, upd_keep' (upd_keep' (rfl) e32) e36⟩
    refine s_call2 go26 rfl (c26 id A2 c2 (app la 0 l).length _ h1 h2) rfl rfl rfl rfl ?_
    rintro _ w5 ⟨rfl, kc⟩
    refine ⟨_, rfl, ?_⟩
    refine w_nil ?_
    exact ⟨_, rfl, (fun h => absurd h (by simp [ins, q5, q7, q9])), (fun _ h => absurd h (by simp [ins, q5, q7, q9])), (fun _ _ => ⟨A2, c2, r2, rfl, hrw.kp kc (fun _ _ _ e => e), o2.kp kc (fun e => e), o4.kp kc (fun e => e), K.trans kc⟩), (fun h => absurd h (by simp [ins, q5, q7, q9])), (fun h => absurd h (by simp [ins, q5, q7, q9])), l1, l2, l4, rv0, rv1, rv2, rv3, rv4, rv8, rv10, trivial⟩
   | 7, hio =>
    cases hio
    have q5 : S 5 = true := (hC 6 _ rfl (hd ⟨6, .data⟩ (by simp) rfl) ⟨5, .data⟩ (by simp) rfl)
    have q6 : S 6 = true := (hd ⟨6, .data⟩ (by simp) rfl)
    have q7 : S 7 = false := hS
    have q9 : S 9 = false := Q9 hS fun h => (hC 9 _ rfl h ⟨7, .data⟩ (by simp) rfl)
    obtain ⟨A2, c2, r2, e37, hrw, o2, o4, K⟩ := st2 q6 q7
    obtain ⟨g, rfl⟩ : ∃ g, f = upd (g) 37 (.tuple #[.agg #[.int .i64 id, .slice A2 (app la 0 l).length c2], .int .i64 0]) := ⟨f, upd_keep' (rfl) e37⟩
    refine s_ext (v := .agg #[.int .i64 id, .slice A2 (app la 0 l).length c2]) rfl rfl rfl rfl (w_nil ?_)
    exact ⟨_, rfl, (fun h => absurd h (by simp [ins, q5, q6, q9])), (fun _ h => absurd h (by simp [ins, q5, q6, q9])), (fun _ h => absurd h (by simp [ins, q5, q6, q9])), (fun _ _ => ⟨A2, c2, r2, e37, rfl, hrw, o2, o4, K⟩), (fun h => absurd h (by simp [ins, q5, q6, q9])), l1, l2, l4, rv0, rv1, rv2, rv3, rv4, rv8, rv10, trivial⟩
   | 8, hio =>
    cases hio
    have q5 : S 5 = true := (hC 6 _ rfl (hd ⟨6, .data⟩ (by simp) rfl) ⟨5, .data⟩ (by simp) rfl)
    have q6 : S 6 = true := (hd ⟨6, .data⟩ (by simp) rfl)
    have q9 : S 9 = false := Q9 hS fun h => (hC 9 _ rfl h ⟨8, .phase⟩ (by simp) rfl)
    cases q7 : S 7 with
    | false =>
     obtain ⟨A2, c2, r2, e37, hrw, o2, o4, K⟩ := st2 q6 q7
     obtain ⟨g, rfl⟩ : ∃ g, f = upd (g) 37 (.tuple #[.agg #[.int .i64 id, .slice A2 (app la 0 l).length c2], .int .i64 0]) := ⟨f, upd_keep' (rfl) e37⟩
     refine s_ext (v := .int .i64 0) rfl rfl rfl rfl (w_nil ?_)
     exact ⟨_, rfl, st0, st1, (fun _ _ => ⟨A2, c2, r2, e37, hrw, o2, o4, K⟩), st3, st4, l1, l2, l4, rv0, rv1, rv2, rv3, rv4, (fun _ => rfl), rv10, trivial⟩
    | true =>
     obtain ⟨A2, c2, r2, e37, e38, hrw, o2, o4, K⟩ := st3 q7 q9
     obtain ⟨g, rfl⟩ : ∃ g, f = upd (g) 37 (.tuple #[.agg #[.int .i64 id, .slice A2 (app la 0 l).length c2], .int .i64 0]) := ⟨f, upd_keep' (rfl) e37⟩
     refine s_ext (v := .int .i64 0) rfl rfl rfl rfl (w_nil ?_)
     exact ⟨_, rfl, st0, st1, st2, (fun _ _ => ⟨A2, c2, r2, e37, e38, hrw, o2, o4, K⟩), st4, l1, l2, l4, rv0, rv1, rv2, rv3, rv4, (fun _ => rfl), rv10, trivial⟩
   | 9, hio =>
    cases hio
    have q5 : S 5 = true := (hd ⟨5, .phase⟩ (by simp) rfl)
    have q6 : S 6 = true := (hd ⟨6, .chain⟩ (by simp) rfl)
    have q7 : S 7 = true := (hd ⟨7, .data⟩ (by simp) rfl)
    have q9 : S 9 = false := hS
    obtain ⟨A2, c2, r2, e37, e38, hrw, o2, o4, K⟩ := st3 q7 q9
    obtain ⟨g, rfl⟩ : ∃ g, f = upd (upd (g) 4 (.pointer (some ⟨b4, 0, none⟩))) 38 (.agg #[.int .i64 id, .slice A2 (app la 0 l).length c2]) := ⟨f, upd_keep' (upd_keep' (rfl) l4) e38⟩
    refine s_st 0 sz24 (v := .agg #[.int .i64 id, .slice A2 (app la 0 l).length c2]) rfl rfl rfl rfl rfl rfl rfl o4 rfl rfl rfl ?_
    clear o4; intro wS o4 ks zs
    refine w_nil ?_
    exact ⟨_, rfl, (fun h => absurd h (by simp [ins, q5, q6, q7])), (fun _ h => absurd h (by simp [ins, q5, q6, q7])), (fun _ h => absurd h (by simp [ins, q5, q6, q7])), (fun _ h => absurd h (by simp [ins, q5, q6, q7])), (fun _ => ⟨A2, c2, r2, hrw.kp ks (fun i hi hB (e : i = b4) => by omega), o4, K.trans' ks (fun i hi (e : i = b4) => by omega)⟩), l1, l2, l4, rv0, rv1, rv2, rv3, rv4, rv8, rv10, trivial⟩
   | 10, hio =>
    cases hio
    have e39 := rv8 (hd ⟨8, .data⟩ (by simp) rfl)
    obtain ⟨g, rfl⟩ : ∃ g, f = upd (g) 39 (.int .i64 0) := ⟨f, upd_keep' (rfl) e39⟩
    refine asI rfl rfl rfl (w_nil ?_)
    exact ⟨_, rfl, st0, st1, st2, st3, st4, l1, l2, l4, rv0, rv1, rv2, rv3, rv4, rv8, (fun _ => rfl), trivial⟩
   | k + 11, hio => exact absurd hio (by simp)
  ·intro S f w5 hS hI
   obtain ⟨st0, st1, st2, st3, st4, l1, l2, l4, rv0, rv1, rv2, rv3, rv4, rv8, rv10, -⟩ := hI
   obtain ⟨A2, c2, r2, hrw, o4, K⟩ := st4 (hS 9 (by decide))
   obtain ⟨g, rfl⟩ : ∃ g, f = upd (upd (upd (upd (g) 1 (.slice B l.length capB)) 2 (.pointer (some ⟨b2, 0, none⟩))) 4 (.pointer (some ⟨b4, 0, none⟩))) 5 (.int .i64 0) := ⟨f, upd_keep' (upd_keep' (upd_keep' (upd_keep' (rfl) l1) l2) l4) (rv10 (hS 10 (by decide)))⟩
   clear hS st0 st1 st2 st3 st4 l1 l2 l4 rv0 rv1 rv2 rv3 rv4 rv8 rv10
   refine then_n (wp_ret ?_)
   refine retC2 (t := 4) (u := 5) (T := 24) (v := .int .i64 0) ag24 rfl rfl rfl rfl rfl o4.cells rfl ⟨A2, c2, r2, rfl, (frow_iff.1 hrw).weak (fun i _ hi => by show W.heap.size ≤ i; omega), K⟩
end
section
theorem size3 {s : ByteArray} (h : s.size = 3) : ∃ a b c : UInt8, s = ⟨#[a, b, c]⟩ := by
 obtain ⟨⟨l⟩⟩ := s
 match l, h with
 | [a, b, c], _ => exact ⟨a, b, c, rfl⟩
def C49 (pt : ByteArray → Prop) : Prop := ∀ (s : ByteArray) (w : World), Calls Tryz.prog 49 #[.string s] w fun e w' => ∃ b, e = .returned (.bool b) ∧ (b = true → pt s) ∧ New w w'
theorem c47 (s : ByteArray) (w : World) : Calls Tryz.prog 47 #[.string s] w fun e w' => ∃ b, e = .returned (.bool b) ∧ (b = true → VTag s) ∧ New w w' := by
 obtain ⟨W, hW⟩ : ∃ W, W = w := ⟨_, rfl⟩
 subst hW
 have K : New W W := Kp.refl _ _
 refine enter (n := 25) Tryz.func47 rfl rfl (by simp) ?_
 refine wp_seq (c_reg (asB rfl rfl rfl (w_nil (then_n (wp_seq (c_reg (s_mv (v := .string _) rfl rfl rfl (s_lenS Tryz.underlying9 rfl rfl rfl (s_eq rfl rfl rfl rfl rfl rfl ?_)))))))))
 refine mvB rfl rfl rfl ?_
 refine w_split (t := 6) rfl ?_ ?_
 ·intro hs6
  (try simp only [Q1, Q2, Q3, Q4, Q5] at hs6)
  obtain ⟨a, b, c, rfl⟩ := size3 (s := s) (by omega)
  refine s_mv (v := .string _) rfl rfl rfl (s_ixS Tryz.underlying9 rfl rfl rfl rfl rfl (by omega) rfl (s_call1 go83 rfl (c83 a.toNat _) rfl rfl ?_))
  rintro _ w1 ⟨rfl, kw1⟩
  replace K := K.transN kw1
  refine ⟨_, rfl, ?_⟩
  refine pTB rfl rfl rfl rfl rfl (mvB rfl rfl rfl ?_)
  refine w_split (t := 11) rfl ?_ ?_
  ·intro hs11
   (try simp only [Q1, Q2, Q3, Q4, Q5] at hs11)
   refine s_mv (v := .string _) rfl rfl rfl (s_ixS Tryz.underlying9 rfl rfl rfl rfl rfl (by omega) rfl (s_call1 go83 rfl (c83 b.toNat _) rfl rfl ?_))
   rintro _ w2 ⟨rfl, kw2⟩
   replace K := K.transN kw2
   refine ⟨_, rfl, ?_⟩
   refine pTB rfl rfl rfl rfl rfl (mvB rfl rfl rfl ?_)
   refine w_split (t := 16) rfl ?_ ?_
   ·intro hs16
    (try simp only [Q1, Q2, Q3, Q4, Q5] at hs16)
    refine s_mv (v := .string _) rfl rfl rfl (s_ixS Tryz.underlying9 rfl rfl rfl rfl rfl (by omega) rfl (s_call1 go83 rfl (c83 c.toNat _) rfl rfl ?_))
    rintro _ w3 ⟨rfl, kw3⟩
    replace K := K.transN kw3
    refine ⟨_, rfl, ?_⟩
    refine pTB rfl rfl rfl rfl rfl (mvB rfl rfl rfl ?_)
    refine w_split (t := 21) rfl ?_ ?_
    ·intro hs21
     (try simp only [Q1, Q2, Q3, Q4, Q5] at hs21)
     refine s_mv (v := .string _) rfl rfl rfl (s_sne rfl rfl rfl rfl rfl rfl (pTB rfl rfl rfl rfl rfl (asB rfl rfl rfl (w_nil (then_n (wp_ret ?_))))))
     refine ret1 (t := 2) (v := .bool _) rfl rfl rfl ⟨_, rfl, fun hb => ?_, K⟩
     exact ⟨a, b, c, rfl, by simpa using hs11, by simpa using hs16, by simpa using hs21, by simpa only [Bool.not_eq_true', decide_eq_false_iff_not] using hb⟩
    ·intro hs21
     (try simp only [Q1, Q2, Q3, Q4, Q5] at hs21)
     refine st_skip rfl (st_skip rfl (pFB rfl rfl rfl rfl rfl (asB rfl rfl rfl (w_nil (then_n (wp_ret ?_))))))
     refine ret1 (t := 2) (v := .bool _) rfl rfl rfl ⟨_, rfl, fun hb => ?_, K⟩
     exact absurd hb (by simp)
   ·intro hs16
    (try simp only [Q1, Q2, Q3, Q4, Q5] at hs16)
    refine st_skip rfl (st_skip rfl (st_skip rfl (pFB rfl rfl rfl rfl rfl (mvB rfl rfl rfl (st_skip rfl (st_skip rfl (pFB rfl rfl rfl rfl rfl (asB rfl rfl rfl (w_nil ?_)))))))))
    refine then_n (wp_ret ?_)
    refine ret1 (t := 2) (v := .bool _) rfl rfl rfl ⟨_, rfl, fun hb => ?_, K⟩
    exact absurd hb (by simp)
  ·intro hs11
   (try simp only [Q1, Q2, Q3, Q4, Q5] at hs11)
   refine st_skip rfl (st_skip rfl (st_skip rfl (pFB rfl rfl rfl rfl rfl (mvB rfl rfl rfl (st_skip rfl (st_skip rfl (st_skip rfl (pFB rfl rfl rfl rfl rfl (mvB rfl rfl rfl ?_)))))))))
   refine st_skip rfl (st_skip rfl (pFB rfl rfl rfl rfl rfl (asB rfl rfl rfl (w_nil (then_n (wp_ret ?_))))))
   refine ret1 (t := 2) (v := .bool _) rfl rfl rfl ⟨_, rfl, fun hb => ?_, K⟩
   exact absurd hb (by simp)
 ·intro hs6
  (try simp only [Q1, Q2, Q3, Q4, Q5] at hs6)
  refine st_skip rfl (st_skip rfl (st_skip rfl (pFB rfl rfl rfl rfl rfl (mvB rfl rfl rfl (st_skip rfl (st_skip rfl (st_skip rfl (pFB rfl rfl rfl rfl rfl (mvB rfl rfl rfl ?_)))))))))
  refine st_skip rfl (st_skip rfl (st_skip rfl (pFB rfl rfl rfl rfl rfl (mvB rfl rfl rfl (st_skip rfl (st_skip rfl (pFB rfl rfl rfl rfl rfl (asB rfl rfl rfl (w_nil ?_)))))))))
  refine then_n (wp_ret ?_)
  refine ret1 (t := 2) (v := .bool _) rfl rfl rfl ⟨_, rfl, fun hb => ?_, K⟩
  exact absurd hb (by simp)
theorem c19 {G : Nat → Prop} (pt : ByteArray → Prop) (hv49 : C49 pt) (x : Fld) (vs : Value) (w : World) (hR : RSubs G w vs x.subs) : Calls Tryz.prog 19 #[.agg (x.cells vs).toArray] w fun e w' => ∃ b, e = .returned (.bool b) ∧ (b = true → VFld pt x) ∧ New w w' := by
 obtain ⟨W, hW⟩ : ∃ W, W = w := ⟨_, rfl⟩
 subst hW
 have K : New W W := Kp.refl _ _
 obtain ⟨tag, i0, i1, l⟩ := x
 obtain ⟨A, cap, rfl, hA⟩ := hR
 have hbig : l.length ≤ 140737488355328 := hA.1
 simp only [Fld.cells]
 refine enter (n := 63) Tryz.func19 rfl rfl (by simp) ?_
 refine wp_seq (c_reg (s_box rfl rfl rfl rfl ?_))
 intro b1 w1 eb1 o1 kb1 zb1
 have gb1_K : W.heap.size ≤ b1 := by have := K.size; omega
 replace K := K.transN kb1
 refine asB rfl rfl rfl (w_nil (then_n (wp_seq (wp_seq (c_reg (s_fa fi53_0 rfl rfl rfl (s_ld1 (v := .string _) on9 rfl rfl rfl (o1.get 0 rfl) (s_call1 go47 rfl (c47 tag _) rfl rfl ?_))))))))
 rintro _ w2 ⟨b47, rfl, h47, kw2⟩
 replace o1 := o1.kp kw2 (fun e => e)
 replace K := K.transN kw2
 refine ⟨_, rfl, ?_⟩
 refine s_not rfl rfl rfl (mvB rfl rfl rfl ?_)
 refine w_split (t := 9) rfl ?_ ?_
 ·intro hs9
  (try simp only [Q1, Q2, Q3, Q4, Q5] at hs9)
  refine st_skip rfl (st_skip rfl (st_skip rfl (st_skip rfl (pTB rfl rfl rfl rfl rfl (mvB rfl rfl rfl (st_skip rfl (st_skip rfl (st_skip rfl (st_skip rfl ?_)))))))))
  refine pTB rfl rfl rfl rfl rfl (w_nil (then_n (c_T rfl rfl (wp_seq (c_reg (asB rfl rfl rfl (w_nil (then_n (wp_ret ?_)))))))))
  refine then_r ?_
  refine ret1 (t := 2) (v := .bool _) rfl rfl rfl ⟨_, rfl, fun hb => ?_, K⟩
  exact absurd hb (by simp)
 ·intro hs9
  (try simp only [Q1, Q2, Q3, Q4, Q5] at hs9)
  refine s_fa fi53_2 rfl rfl rfl (s_ld1 (v := .slice _ _ _) on51 rfl rfl rfl (o1.get 3 rfl) (s_lenL Tryz.underlying51 rfl rfl rfl (s_lss rfl rfl rfl rfl rfl rfl (pFB rfl rfl rfl rfl rfl (mvB rfl rfl rfl ?_)))))
  refine w_split (t := 15) rfl ?_ ?_
  ·intro hs15
   (try simp only [Q1, Q2, Q3, Q4, Q5] at hs15)
   refine st_skip rfl (st_skip rfl (st_skip rfl (st_skip rfl (pTB rfl rfl rfl rfl rfl (w_nil (then_n (c_T rfl rfl (wp_seq (c_reg ?_)))))))))
   refine asB rfl rfl rfl (w_nil (then_n (wp_ret (then_r ?_))))
   refine ret1 (t := 2) (v := .bool _) rfl rfl rfl ⟨_, rfl, fun hb => ?_, K⟩
   exact absurd hb (by simp)
  ·intro hs15
   (try simp only [Q1, Q2, Q3, Q4, Q5] at hs15)
   refine s_fa fi53_2 rfl rfl rfl (s_ld1 (v := .slice _ _ _) on51 rfl rfl rfl (o1.get 3 rfl) (s_lenL Tryz.underlying51 rfl rfl rfl (s_gtr rfl rfl rfl rfl rfl rfl (pFB rfl rfl rfl rfl rfl (w_nil (then_n ?_))))))
   refine c_if rfl rfl ?_ ?_
   ·intro ht20
    (try simp only [Q1, Q2, Q3, Q4, Q5] at ht20)
    refine wp_seq (c_reg (asB rfl rfl rfl (w_nil (then_n (wp_ret (then_r ?_))))))
    refine ret1 (t := 2) (v := .bool _) rfl rfl rfl ⟨_, rfl, fun hb => ?_, K⟩
    exact absurd hb (by simp)
   ·intro ht20
    (try simp only [Q1, Q2, Q3, Q4, Q5] at ht20)
    refine wp_skip (then_n (wp_seq (wp_seq (c_reg (asI rfl rfl rfl (w_nil (then_n (wp_block ?_))))))))
    refine c_loop (fun m f w => ∃ g k, m = 2 - k ∧ k ≤ 2 ∧ f = (upd (upd g 1 (.pointer (some ⟨b1, 0, none⟩))) 3 (.int .i64 (k : Nat))) ∧ Own w b1 53 [.string tag, .int .u8 i0, .int .u8 i1, .slice A l.length cap] ∧ (0 < k → ind i0 = true) ∧ (1 < k → ind i1 = true) ∧ New W w) (2) ⟨_, 0, by omega, by omega, (upd_keep' (upd_keep' rfl rfl) rfl), o1, (fun h => by omega), (fun h => by omega), K⟩ ?_
    clear K o1
    rintro m _ w0 ⟨g, k, rfl, hk, rfl, o1, hi0, hi1, K⟩
    refine wp_seq (wp_seq (c_reg (mvI rfl rfl rfl (s_lss rfl rfl rfl rfl rfl rfl (w_nil (then_n ?_))))))
    refine c_if rfl rfl ?_ ?_
    ·intro ht22
     (try simp only [Q1, Q2, Q3, Q4, Q5] at ht22)
     have hk01 : k = 0 ∨ k = 1 := by omega
     refine wp_skip (then_n (wp_seq (wp_block (wp_seq (c_reg (mvI rfl rfl rfl (s_fa fi53_1 rfl rfl rfl (s_iaA (j := k) Tryz.underlying48 sz5 rfl rfl rfl rfl rfl rfl (by omega) (s_ld1 (v := .int .u8 (if k = 0 then i0 else i1)) on5 rfl rfl rfl (by rcases hk01 with rfl | rfl; (rw [add_add]; exact o1.get 1 rfl); (rw [add_add]; exact o1.get 2 rfl)) ?_)))))))))
     refine s_ne rfl rfl rfl rfl rfl rfl (mvB rfl rfl rfl ?_)
     refine w_split (t := 30) rfl ?_ ?_
     ·intro hs30
      (try simp only [Q1, Q2, Q3, Q4, Q5] at hs30)
      refine mvI rfl rfl rfl (s_fa fi53_1 rfl rfl rfl (s_iaA (j := k) Tryz.underlying48 sz5 rfl rfl rfl rfl rfl rfl (by omega) (s_ld1 (v := .int .u8 (if k = 0 then i0 else i1)) on5 rfl rfl rfl (by rcases hk01 with rfl | rfl; (rw [add_add]; exact o1.get 1 rfl); (rw [add_add]; exact o1.get 2 rfl)) (s_call1 go48 rfl (c48 (if k = 0 then i0 else i1) _) rfl rfl ?_))))
      rintro _ w3 ⟨rfl, kw3⟩
      replace o1 := o1.kp kw3 (fun e => e)
      replace K := K.transN kw3
      refine ⟨_, rfl, ?_⟩
      refine s_not rfl rfl rfl (pTB rfl rfl rfl rfl rfl (w_nil (then_n ?_)))
      refine c_if rfl rfl ?_ ?_
      ·intro ht37
       (try simp only [Q1, Q2, Q3, Q4, Q5] at ht37)
       refine wp_seq (c_reg (asB rfl rfl rfl (w_nil (then_n (wp_ret (inb_r (then_r (then_r (inb_r ?_)))))))))
       refine then_r ?_
       refine ret1 (t := 2) (v := .bool _) rfl rfl rfl ⟨_, rfl, fun hb => ?_, K⟩
       exact absurd hb (by simp)
      ·intro ht37
       (try simp only [Q1, Q2, Q3, Q4, Q5] at ht37)
       refine wp_skip (inb_n (then_n (c_reg (mvI rfl rfl rfl (s_add rfl rfl rfl rfl rfl (w64 (by omega)) (asI rfl rfl rfl (w_nil (then_n ?_))))))))
       have hind : ind (if k = 0 then i0 else i1) = true := by simp_all [ind]
       exact ⟨2 - (k + 1), _, by omega, rfl, _, k + 1, rfl, by omega, (upd_keep' (upd_keep' rfl rfl) rfl), o1, (fun _ => by rcases hk01 with rfl | rfl; simpa using hind; exact hi0 (by omega)), (fun _ => by rcases hk01 with rfl | rfl; omega; simpa using hind), K⟩
     ·intro hs30
      (try simp only [Q1, Q2, Q3, Q4, Q5] at hs30)
      refine st_skip rfl (st_skip rfl (st_skip rfl (st_skip rfl (st_skip rfl (st_skip rfl (pFB rfl rfl rfl rfl rfl (w_nil (then_n (c_F rfl rfl ?_)))))))))
      refine wp_skip (inb_n (then_n (c_reg (mvI rfl rfl rfl (s_add rfl rfl rfl rfl rfl (w64 (by omega)) (asI rfl rfl rfl (w_nil (then_n ?_))))))))
      have hind : ind (if k = 0 then i0 else i1) = true := by simp_all [ind]
      exact ⟨2 - (k + 1), _, by omega, rfl, _, k + 1, rfl, by omega, (upd_keep' (upd_keep' rfl rfl) rfl), o1, (fun _ => by rcases hk01 with rfl | rfl; simpa using hind; exact hi0 (by omega)), (fun _ => by rcases hk01 with rfl | rfl; omega; simpa using hind), K⟩
    ·intro ht22
     (try simp only [Q1, Q2, Q3, Q4, Q5] at ht22)
     replace hi0 := hi0 (by omega)
     replace hi1 := hi1 (by omega)
     refine wp_exit (then_x (then_x (inb_x (then_n (wp_seq (wp_seq (c_reg (asI rfl rfl rfl (w_nil ?_)))))))))
     refine then_n (wp_block ?_)
     refine c_loop (fun m f w => ∃ g k, m = l.length - k ∧ k ≤ l.length ∧ f = (upd (upd g 1 (.pointer (some ⟨b1, 0, none⟩))) 4 (.int .i64 (k : Nat))) ∧ Own w b1 53 [.string tag, .int .u8 i0, .int .u8 i1, .slice A l.length cap] ∧ (∀ s ∈ l.take k, VSub pt s) ∧ New W w) (l.length) ⟨_, 0, by omega, by omega, (upd_keep' (upd_keep' rfl rfl) rfl), o1, (fun s h => by simp at h), K⟩ ?_
     clear K o1
     rintro m _ w0 ⟨g, k, rfl, hk, rfl, o1, hall, K⟩
     refine wp_seq (wp_seq (c_reg (mvI rfl rfl rfl (s_fa fi53_2 rfl rfl rfl (s_ld1 (v := .slice _ _ _) on51 rfl rfl rfl (o1.get 3 rfl) (s_lenL Tryz.underlying51 rfl rfl rfl (s_lss rfl rfl rfl rfl rfl rfl (w_nil (then_n ?_)))))))))
     refine c_if rfl rfl ?_ ?_
     ·intro ht42
      (try simp only [Q1, Q2, Q3, Q4, Q5] at ht42)
      have hlt : k < l.length := by omega
      obtain ⟨p, hpA, _, hp0⟩ := hA.2 k _ (List.getElem?_eq_getElem hlt)
      subst hpA
      have hp := hp0.kp K (fun e => e)
      refine wp_skip (then_n (wp_seq (wp_block (wp_seq (c_reg (s_fa fi53_2 rfl rfl rfl (s_ld1 (v := .slice _ _ _) on51 rfl rfl rfl (o1.get 3 rfl) (mvI rfl rfl rfl (s_iaE el51 rfl rfl rfl rfl rfl rfl (by omega) ?_)))))))))
      refine s_fa fi50_0 rfl rfl rfl (s_ld1 (v := .int .u8 _) on5 rfl rfl rfl (hp 0 _ rfl) (s_call1 go48 rfl (c48 l[k].code _) rfl rfl ?_))
      rintro _ w3 ⟨rfl, kw3⟩
      replace o1 := o1.kp kw3 (fun e => e)
      replace hp := hp.kp kw3 (fun e => e)
      replace K := K.transN kw3
      refine ⟨_, rfl, ?_⟩
      refine s_not rfl rfl rfl (mvB rfl rfl rfl ?_)
      refine w_split (t := 53) rfl ?_ ?_
      ·intro hs53
       (try simp only [Q1, Q2, Q3, Q4, Q5] at hs53)
       refine st_skip rfl (st_skip rfl (st_skip rfl (st_skip rfl (st_skip rfl (st_skip rfl (st_skip rfl (st_skip rfl (pTB rfl rfl rfl rfl rfl (w_nil ?_)))))))))
       refine then_n (c_T rfl rfl (wp_seq (c_reg (asB rfl rfl rfl (w_nil (then_n (wp_ret (inb_r (then_r ?_)))))))))
       refine then_r (inb_r (then_r ?_))
       refine ret1 (t := 2) (v := .bool _) rfl rfl rfl ⟨_, rfl, fun hb => ?_, K⟩
       exact absurd hb (by simp)
      ·intro hs53
       (try simp only [Q1, Q2, Q3, Q4, Q5] at hs53)
       refine s_fa fi53_2 rfl rfl rfl (s_ld1 (v := .slice _ _ _) on51 rfl rfl rfl (o1.get 3 rfl) (mvI rfl rfl rfl (s_iaE el51 rfl rfl rfl rfl rfl rfl (by omega) (s_fa fi50_1 rfl rfl rfl (s_ld1 (v := .string _) on9 rfl rfl rfl (hp 1 _ rfl) (s_call1 go49 rfl (hv49 l[k].value _) rfl rfl ?_))))))
       rintro _ w4 ⟨b49, rfl, h49, kw4⟩
       replace o1 := o1.kp kw4 (fun e => e)
       replace hp := hp.kp kw4 (fun e => e)
       replace K := K.transN kw4
       refine ⟨_, rfl, ?_⟩
       refine s_not rfl rfl rfl (pFB rfl rfl rfl rfl rfl (w_nil (then_n ?_)))
       refine c_if rfl rfl ?_ ?_
       ·intro ht62
        (try simp only [Q1, Q2, Q3, Q4, Q5] at ht62)
        refine wp_seq (c_reg (asB rfl rfl rfl (w_nil (then_n (wp_ret (inb_r (then_r (then_r (inb_r ?_)))))))))
        refine then_r ?_
        refine ret1 (t := 2) (v := .bool _) rfl rfl rfl ⟨_, rfl, fun hb => ?_, K⟩
        exact absurd hb (by simp)
       ·intro ht62
        (try simp only [Q1, Q2, Q3, Q4, Q5] at ht62)
        refine wp_skip (inb_n (then_n (c_reg (mvI rfl rfl rfl (s_add rfl rfl rfl rfl rfl (w64 (by omega)) (asI rfl rfl rfl (w_nil (then_n ?_))))))))
        have hsv : VSub pt l[k] := ⟨by simp_all, by simp_all⟩
        exact ⟨l.length - (k + 1), _, by omega, rfl, _, k + 1, rfl, by omega, (upd_keep' (upd_keep' rfl rfl) rfl), o1, (fun s hs => by rw [List.take_succ_eq_append_getElem hlt, List.mem_append, List.mem_singleton] at hs; rcases hs with hs | rfl; exact hall s hs; exact hsv), K⟩
     ·intro ht42
      (try simp only [Q1, Q2, Q3, Q4, Q5] at ht42)
      refine wp_exit (then_x (then_x (inb_x (then_n (wp_seq (c_reg (asB rfl rfl rfl (w_nil (then_n ?_)))))))))
      refine wp_ret ?_
      refine ret1 (t := 2) (v := .bool _) rfl rfl rfl ⟨_, rfl, fun hb => ?_, K⟩
      have hke : k = l.length := by omega
      subst hke; rw [List.take_length] at hall
      exact ⟨by simp_all, hi0, hi1, by show 1 ≤ l.length; omega, by show l.length ≤ 20; omega, hall⟩
theorem c8 {G : Nat → Prop} (pt : ByteArray → Prop) (hv49 : C49 pt) (id : Int) (A : Option Addr) (cap : Nat) (l : List Fld) (w : World) (hA : FldsAt G w A l) : Calls Tryz.prog 8 #[.agg #[.int .i64 id, .slice A l.length cap]] w fun e w' => ∃ b, e = .returned (.bool b) ∧ (b = true → VRec pt id l) ∧ New w w' := by
 obtain ⟨W, hW⟩ : ∃ W, W = w := ⟨_, rfl⟩
 subst hW
 have K : New W W := Kp.refl _ _
 have hbig : l.length ≤ 140737488355328 := hA.1
 refine enter (n := 38) Tryz.func8 rfl rfl (by simp) ?_
 refine wp_seq (c_reg (s_box rfl rfl rfl rfl ?_))
 intro b1 w1 eb1 o1 kb1 zb1
 have gb1_K : W.heap.size ≤ b1 := by have := K.size; omega
 replace K := K.transN kb1
 refine asB rfl rfl rfl (w_nil (then_n (wp_seq (wp_seq (c_reg (s_fa fi24_0 rfl rfl rfl (s_ld1 (v := .int .i64 _) on3 rfl rfl rfl (o1.get 0 rfl) (s_lss rfl rfl rfl rfl rfl rfl (mvB rfl rfl rfl ?_)))))))))
 refine w_split (t := 7) rfl ?_ ?_
 ·intro hs7
  (try simp only [Q1, Q2, Q3, Q4, Q5] at hs7)
  refine st_skip rfl (st_skip rfl (st_skip rfl (pTB rfl rfl rfl rfl rfl (mvB rfl rfl rfl (st_skip rfl (st_skip rfl (st_skip rfl (st_skip rfl (pTB rfl rfl rfl rfl rfl ?_)))))))))
  refine mvB rfl rfl rfl (st_skip rfl (st_skip rfl (st_skip rfl (st_skip rfl (pTB rfl rfl rfl rfl rfl (w_nil (then_n (c_T rfl rfl (wp_seq ?_)))))))))
  refine c_reg (asB rfl rfl rfl (w_nil (then_n (wp_ret (then_r ?_)))))
  refine ret1 (t := 2) (v := .bool _) rfl rfl rfl ⟨_, rfl, fun hb => ?_, K⟩
  exact absurd hb (by simp)
 ·intro hs7
  (try simp only [Q1, Q2, Q3, Q4, Q5] at hs7)
  refine s_fa fi24_0 rfl rfl rfl (s_ld1 (v := .int .i64 _) on3 rfl rfl rfl (o1.get 0 rfl) (s_gtr rfl rfl rfl rfl rfl rfl (pFB rfl rfl rfl rfl rfl (mvB rfl rfl rfl ?_))))
  refine w_split (t := 12) rfl ?_ ?_
  ·intro hs12
   (try simp only [Q1, Q2, Q3, Q4, Q5] at hs12)
   refine st_skip rfl (st_skip rfl (st_skip rfl (st_skip rfl (pTB rfl rfl rfl rfl rfl (mvB rfl rfl rfl (st_skip rfl (st_skip rfl (st_skip rfl (st_skip rfl ?_)))))))))
   refine pTB rfl rfl rfl rfl rfl (w_nil (then_n (c_T rfl rfl (wp_seq (c_reg (asB rfl rfl rfl (w_nil (then_n (wp_ret ?_)))))))))
   refine then_r ?_
   refine ret1 (t := 2) (v := .bool _) rfl rfl rfl ⟨_, rfl, fun hb => ?_, K⟩
   exact absurd hb (by simp)
  ·intro hs12
   (try simp only [Q1, Q2, Q3, Q4, Q5] at hs12)
   refine s_fa fi24_1 rfl rfl rfl (s_ld1 (v := .slice _ _ _) on22 rfl rfl rfl (o1.get 1 rfl) (s_lenL Tryz.underlying22 rfl rfl rfl (s_lss rfl rfl rfl rfl rfl rfl (pFB rfl rfl rfl rfl rfl (mvB rfl rfl rfl ?_)))))
   refine w_split (t := 18) rfl ?_ ?_
   ·intro hs18
    (try simp only [Q1, Q2, Q3, Q4, Q5] at hs18)
    refine st_skip rfl (st_skip rfl (st_skip rfl (st_skip rfl (pTB rfl rfl rfl rfl rfl (w_nil (then_n (c_T rfl rfl (wp_seq (c_reg ?_)))))))))
    refine asB rfl rfl rfl (w_nil (then_n (wp_ret (then_r ?_))))
    refine ret1 (t := 2) (v := .bool _) rfl rfl rfl ⟨_, rfl, fun hb => ?_, K⟩
    exact absurd hb (by simp)
   ·intro hs18
    (try simp only [Q1, Q2, Q3, Q4, Q5] at hs18)
    refine s_fa fi24_1 rfl rfl rfl (s_ld1 (v := .slice _ _ _) on22 rfl rfl rfl (o1.get 1 rfl) (s_lenL Tryz.underlying22 rfl rfl rfl (s_gtr rfl rfl rfl rfl rfl rfl (pFB rfl rfl rfl rfl rfl (w_nil (then_n ?_))))))
    refine c_if rfl rfl ?_ ?_
    ·intro ht23
     (try simp only [Q1, Q2, Q3, Q4, Q5] at ht23)
     refine wp_seq (c_reg (asB rfl rfl rfl (w_nil (then_n (wp_ret (then_r ?_))))))
     refine ret1 (t := 2) (v := .bool _) rfl rfl rfl ⟨_, rfl, fun hb => ?_, K⟩
     exact absurd hb (by simp)
    ·intro ht23
     (try simp only [Q1, Q2, Q3, Q4, Q5] at ht23)
     refine wp_skip (then_n (wp_seq (wp_seq (c_reg (asI rfl rfl rfl (w_nil (then_n (wp_block ?_))))))))
     refine c_loop (fun m f w => ∃ g k, m = l.length - k ∧ k ≤ l.length ∧ f = (upd (upd g 1 (.pointer (some ⟨b1, 0, none⟩))) 3 (.int .i64 (k : Nat))) ∧ Own w b1 24 [.int .i64 id, .slice A l.length cap] ∧ (∀ x ∈ l.take k, VFld pt x) ∧ New W w) (l.length) ⟨_, 0, by omega, by omega, (upd_keep' (upd_keep' rfl rfl) rfl), o1, (fun s h => by simp at h), K⟩ ?_
     clear K o1
     rintro m _ w0 ⟨g, k, rfl, hk, rfl, o1, hall, K⟩
     refine wp_seq (wp_seq (c_reg (mvI rfl rfl rfl (s_fa fi24_1 rfl rfl rfl (s_ld1 (v := .slice _ _ _) on22 rfl rfl rfl (o1.get 1 rfl) (s_lenL Tryz.underlying22 rfl rfl rfl (s_lss rfl rfl rfl rfl rfl rfl (w_nil (then_n ?_)))))))))
     refine c_if rfl rfl ?_ ?_
     ·intro ht28
      (try simp only [Q1, Q2, Q3, Q4, Q5] at ht28)
      have hlt : k < l.length := by omega
      obtain ⟨p, vs, hpA, _, hp0, hs0⟩ := hA.2 k _ (List.getElem?_eq_getElem hlt)
      subst hpA
      refine wp_skip (then_n (wp_seq (wp_block (wp_seq (c_reg (s_fa fi24_1 rfl rfl rfl (s_ld1 (v := .slice _ _ _) on22 rfl rfl rfl (o1.get 1 rfl) (mvI rfl rfl rfl (s_iaE el22 rfl rfl rfl rfl rfl rfl (by omega) ?_)))))))))
      refine s_ldA ag53 rfl rfl rfl (hp0.kp K (fun e => e)) rfl (s_call1 go19 rfl (c19 pt hv49 l[k] vs _ (hs0.kp K (fun _ _ _ e => e))) rfl rfl ?_)
      rintro _ w2 ⟨b19, rfl, h19, kw2⟩
      replace o1 := o1.kp kw2 (fun e => e)
      replace K := K.transN kw2
      refine ⟨_, rfl, ?_⟩
      refine s_not rfl rfl rfl (w_nil (then_n ?_))
      refine c_if rfl rfl ?_ ?_
      ·intro ht37
       (try simp only [Q1, Q2, Q3, Q4, Q5] at ht37)
       refine wp_seq (c_reg (asB rfl rfl rfl (w_nil (then_n (wp_ret (inb_r (then_r (then_r (inb_r ?_)))))))))
       refine then_r ?_
       refine ret1 (t := 2) (v := .bool _) rfl rfl rfl ⟨_, rfl, fun hb => ?_, K⟩
       exact absurd hb (by simp)
      ·intro ht37
       (try simp only [Q1, Q2, Q3, Q4, Q5] at ht37)
       refine wp_skip (inb_n (then_n (c_reg (mvI rfl rfl rfl (s_add rfl rfl rfl rfl rfl (w64 (by omega)) (asI rfl rfl rfl (w_nil (then_n ?_))))))))
       have hsv : VFld pt l[k] := by simp_all
       exact ⟨l.length - (k + 1), _, by omega, rfl, _, k + 1, rfl, by omega, (upd_keep' (upd_keep' rfl rfl) rfl), o1, (fun s hs => by rw [List.take_succ_eq_append_getElem hlt, List.mem_append, List.mem_singleton] at hs; rcases hs with hs | rfl; exact hall s hs; exact hsv), K⟩
     ·intro ht28
      (try simp only [Q1, Q2, Q3, Q4, Q5] at ht28)
      refine wp_exit (then_x (then_x (inb_x (then_n (wp_seq (c_reg (asB rfl rfl rfl (w_nil (then_n ?_)))))))))
      refine wp_ret ?_
      refine ret1 (t := 2) (v := .bool _) rfl rfl rfl ⟨_, rfl, fun hb => ?_, K⟩
      have hke : k = l.length := by omega
      subst hke; rw [List.take_length] at hall
      exact ⟨by omega, by omega, by omega, by omega, hall⟩
theorem c7 {G : Nat → Prop} (id n : Int) (A : Option Addr) (cap : Nat) (l : List Fld) (w : World) (hA : FldsAt G w A l) : Calls Tryz.prog 7 #[.agg #[.int .i64 id, .slice A l.length cap], .int .i64 n] w fun e w' => ∃ b, e = .returned (.bool b) ∧ New w w' := by
 obtain ⟨W, hW⟩ : ∃ W, W = w := ⟨_, rfl⟩
 subst hW
 have K : New W W := Kp.refl _ _
 have hbig : l.length ≤ 140737488355328 := hA.1
 refine enter (n := 82) Tryz.func7 rfl rfl (by simp) ?_
 refine wp_seq (c_reg (s_box rfl rfl rfl rfl ?_))
 intro b2 w1 eb2 o2 kb2 zb2
 have gb2_K : W.heap.size ≤ b2 := by have := K.size; omega
 replace K := K.transN kb2
 refine asB rfl rfl rfl (w_nil (then_n (wp_seq (wp_seq (c_reg (asI rfl rfl rfl (w_nil (then_n (wp_block ?_)))))))))
 refine c_loop (fun m f w => ∃ g k, m = l.length - k ∧ k ≤ l.length ∧ f = (upd (upd (upd g 1 (.int .i64 n)) 2 (.pointer (some ⟨b2, 0, none⟩))) 5 (.int .i64 (k : Nat))) ∧ Own w b2 24 [.int .i64 id, .slice A l.length cap] ∧ New W w) (l.length) ⟨_, 0, by omega, by omega, (upd_keep' (upd_keep' (upd_keep' rfl rfl) rfl) rfl), o2, K⟩ ?_
 clear K o2
 rintro m _ w0 ⟨g, k, rfl, hk, rfl, o2, K⟩
 have hb2 := o2.lt
 refine wp_seq (wp_seq (c_reg (mvI rfl rfl rfl (s_fa fi24_1 rfl rfl rfl (s_ld1 (v := .slice _ _ _) on22 rfl rfl rfl (o2.get 1 rfl) (s_lenL Tryz.underlying22 rfl rfl rfl (s_lss rfl rfl rfl rfl rfl rfl (w_nil (then_n ?_)))))))))
 refine c_if rfl rfl ?_ ?_
 ·intro ht12
  (try simp only [Q1, Q2, Q3, Q4, Q5] at ht12)
  have hlt : k < l.length := by omega
  obtain ⟨p, vs, hpA, _, hp0, As, cs, rfl, hs0⟩ := hA.2 k _ (List.getElem?_eq_getElem hlt)
  subst hpA
  have hsb : l[k].subs.length ≤ 140737488355328 := hs0.1
  refine wp_skip (then_n (wp_seq (wp_block (wp_seq (c_reg (s_fa fi24_1 rfl rfl rfl (s_ld1 (v := .slice _ _ _) on22 rfl rfl rfl (o2.get 1 rfl) (mvI rfl rfl rfl (s_iaE el22 rfl rfl rfl rfl rfl rfl (by omega) ?_)))))))))
  refine s_ldA ag53 rfl rfl rfl (hp0.kp K (fun e => e)) rfl (s_alloc z53 rfl rfl ?_)
  intro b6 w2 eb6 o6 kb6 zb6
  have gb6_K : W.heap.size ≤ b6 := by have := K.size; omega
  replace o2 := o2.kp kb6 (fun e => e)
  replace K := K.transN kb6
  refine s_st 0 sz53 (v := .agg _) rfl rfl rfl rfl rfl rfl rfl o6 rfl rfl rfl ?_
  clear o6; intro w3 o6 ksw3 zsw3
  replace o2 := o2.kp ksw3 (show ¬ (_ = _) by omega)
  replace K := K.trans' ksw3 (fun i hi (e : i = b6) => by omega)
  refine w_nil (then_n (wp_seq (wp_seq (c_reg (s_fa fi53_2 rfl rfl rfl (s_ld1 (v := .slice _ _ _) on51 rfl rfl rfl (o6.get 3 rfl) (s_lenL Tryz.underlying51 rfl rfl rfl (s_gtr rfl rfl rfl rfl rfl rfl (mvB rfl rfl rfl ?_)))))))))
  refine w_split (t := 24) rfl ?_ ?_
  ·intro hs24
   (try simp only [Q1, Q2, Q3, Q4, Q5] at hs24)
   refine s_fa fi53_2 rfl rfl rfl (s_ld1 (v := .slice _ _ _) on51 rfl rfl rfl (o6.get 3 rfl) (s_lenL Tryz.underlying51 rfl rfl rfl (s_ne rfl rfl rfl rfl rfl rfl (pTB rfl rfl rfl rfl rfl (mvB rfl rfl rfl ?_)))))
   refine w_split (t := 30) rfl ?_ ?_
   ·intro hs30
    (try simp only [Q1, Q2, Q3, Q4, Q5] at hs30)
    refine s_fa fi53_2 rfl rfl rfl (s_ld1 (v := .slice _ _ _) on51 rfl rfl rfl (o6.get 3 rfl) (s_lenL Tryz.underlying51 rfl rfl rfl (s_ne rfl rfl rfl rfl rfl rfl (pTB rfl rfl rfl rfl rfl (mvB rfl rfl rfl ?_)))))
    refine w_split (t := 36) rfl ?_ ?_
    ·intro hs36
     (try simp only [Q1, Q2, Q3, Q4, Q5] at hs36)
     refine st_skip rfl (st_skip rfl (st_skip rfl (st_skip rfl (pTB rfl rfl rfl rfl rfl (w_nil (then_n (c_T rfl rfl (wp_seq (c_reg ?_)))))))))
     refine asB rfl rfl rfl (w_nil (then_n (wp_ret (then_r (inb_r (then_r (then_r (inb_r (then_r ?_)))))))))
     refine ret1 (t := 4) (v := .bool _) rfl rfl rfl ⟨_, rfl, K⟩
    ·intro hs36
     (try simp only [Q1, Q2, Q3, Q4, Q5] at hs36)
     refine s_fa fi53_0 rfl rfl rfl (s_ld1 (v := .string _) on9 rfl rfl rfl (o6.get 0 rfl) (s_lenS Tryz.underlying9 rfl rfl rfl (s_gtr rfl rfl rfl rfl rfl rfl (pFB rfl rfl rfl rfl rfl (w_nil (then_n ?_))))))
     refine c_if rfl rfl ?_ ?_
     ·intro ht41
      (try simp only [Q1, Q2, Q3, Q4, Q5] at ht41)
      refine wp_seq (c_reg (asB rfl rfl rfl (w_nil (then_n (wp_ret (then_r (inb_r (then_r (then_r ?_)))))))))
      refine inb_r (then_r ?_)
      refine ret1 (t := 4) (v := .bool _) rfl rfl rfl ⟨_, rfl, K⟩
     ·intro ht41
      (try simp only [Q1, Q2, Q3, Q4, Q5] at ht41)
      refine wp_skip (then_n (wp_seq (c_reg (asI rfl rfl rfl (w_nil (then_n (wp_block ?_)))))))
      refine c_loop (fun m f w => ∃ g j, m = l[k].subs.length - j ∧ j ≤ l[k].subs.length ∧ f = (upd (upd (upd (upd (upd g 1 (.int .i64 n)) 2 (.pointer (some ⟨b2, 0, none⟩))) 5 (.int .i64 (k : Nat))) 6 (.pointer (some ⟨b6, 0, none⟩))) 7 (.int .i64 (j : Nat))) ∧ Own w b2 24 [.int .i64 id, .slice (some p) l.length cap] ∧ Own w b6 53 [.string l[k].tag, .int .u8 l[k].i0, .int .u8 l[k].i1, .slice As l[k].subs.length cs] ∧ New W w) (l[k].subs.length) ⟨_, 0, by omega, by omega, (upd_keep' (upd_keep' (upd_keep' (upd_keep' (upd_keep' rfl rfl) rfl) rfl) rfl) rfl), o2, o6, K⟩ ?_
      clear K o2 o6
      rintro m _ w0 ⟨g, j, rfl, hj, rfl, o2, o6, K⟩
      refine wp_seq (wp_seq (c_reg (mvI rfl rfl rfl (s_fa fi53_2 rfl rfl rfl (s_ld1 (v := .slice _ _ _) on51 rfl rfl rfl (o6.get 3 rfl) (s_lenL Tryz.underlying51 rfl rfl rfl (s_lss rfl rfl rfl rfl rfl rfl (w_nil (then_n ?_)))))))))
      refine c_if rfl rfl ?_ ?_
      ·intro ht46
       (try simp only [Q1, Q2, Q3, Q4, Q5] at ht46)
       have hltj : j < l[k].subs.length := by omega
       obtain ⟨q, hqA, _, hq0⟩ := hs0.2 j _ (List.getElem?_eq_getElem hltj)
       subst hqA
       have hq := hq0.kp K (fun e => e)
       refine wp_skip (then_n (wp_seq (wp_block (wp_seq (c_reg (s_fa fi53_2 rfl rfl rfl (s_ld1 (v := .slice _ _ _) on51 rfl rfl rfl (o6.get 3 rfl) (mvI rfl rfl rfl (s_iaE el51 rfl rfl rfl rfl rfl rfl (by omega) ?_)))))))))
       refine s_fa fi50_1 rfl rfl rfl (s_ld1 (v := .string _) on9 rfl rfl rfl (hq 1 _ rfl) (s_lenS Tryz.underlying9 rfl rfl rfl (s_gtr rfl rfl rfl rfl rfl rfl (mvB rfl rfl rfl ?_))))
       refine w_split (t := 57) rfl ?_ ?_
       ·intro hs57
        (try simp only [Q1, Q2, Q3, Q4, Q5] at hs57)
        refine s_fa fi53_2 rfl rfl rfl (s_ld1 (v := .slice _ _ _) on51 rfl rfl rfl (o6.get 3 rfl) (mvI rfl rfl rfl (s_iaE el51 rfl rfl rfl rfl rfl rfl (by omega) (s_fa fi50_1 rfl rfl rfl (s_ld1 (v := .string _) on9 rfl rfl rfl (hq 1 _ rfl) (s_lenS Tryz.underlying9 rfl rfl rfl (s_lss rfl rfl rfl rfl rfl rfl (pTB rfl rfl rfl rfl rfl (mvB rfl rfl rfl ?_)))))))))
        refine w_split (t := 67) rfl ?_ ?_
        ·intro hs67
         (try simp only [Q1, Q2, Q3, Q4, Q5] at hs67)
         refine st_skip rfl (st_skip rfl (st_skip rfl (st_skip rfl (st_skip rfl (st_skip rfl (st_skip rfl (st_skip rfl (pTB rfl rfl rfl rfl rfl (w_nil ?_)))))))))
         refine then_n (c_T rfl rfl (wp_seq (c_reg (asB rfl rfl rfl (w_nil (then_n (wp_ret (inb_r (then_r ?_)))))))))
         refine then_r (inb_r (inb_r (then_r (then_r (inb_r (then_r ?_))))))
         refine ret1 (t := 4) (v := .bool _) rfl rfl rfl ⟨_, rfl, K⟩
        ·intro hs67
         (try simp only [Q1, Q2, Q3, Q4, Q5] at hs67)
         refine s_fa fi53_2 rfl rfl rfl (s_ld1 (v := .slice _ _ _) on51 rfl rfl rfl (o6.get 3 rfl) (mvI rfl rfl rfl (s_iaE el51 rfl rfl rfl rfl rfl rfl (by omega) (s_fa fi50_1 rfl rfl rfl (s_ld1 (v := .string _) on9 rfl rfl rfl (hq 1 _ rfl) (s_lenS Tryz.underlying9 rfl rfl rfl (s_gtr rfl rfl rfl rfl rfl rfl (pFB rfl rfl rfl rfl rfl (w_nil ?_)))))))))
         refine then_n ?_
         refine c_if rfl rfl ?_ ?_
         ·intro ht76
          (try simp only [Q1, Q2, Q3, Q4, Q5] at ht76)
          refine wp_seq (c_reg (asB rfl rfl rfl (w_nil (then_n (wp_ret (inb_r (then_r (then_r (inb_r ?_)))))))))
          refine inb_r (then_r (then_r (inb_r (then_r ?_))))
          refine ret1 (t := 4) (v := .bool _) rfl rfl rfl ⟨_, rfl, K⟩
         ·intro ht76
          (try simp only [Q1, Q2, Q3, Q4, Q5] at ht76)
          refine wp_skip (inb_n (then_n (c_reg (mvI rfl rfl rfl (s_add rfl rfl rfl rfl rfl (w64 (by omega)) (asI rfl rfl rfl (w_nil (then_n ?_))))))))
          exact ⟨l[k].subs.length - (j + 1), _, by omega, rfl, _, j + 1, rfl, by omega, (upd_keep' (upd_keep' (upd_keep' (upd_keep' (upd_keep' rfl rfl) rfl) rfl) rfl) rfl), o2, o6, K⟩
       ·intro hs57
        (try simp only [Q1, Q2, Q3, Q4, Q5] at hs57)
        refine st_skip rfl (st_skip rfl (st_skip rfl (st_skip rfl (st_skip rfl (st_skip rfl (st_skip rfl (st_skip rfl (pFB rfl rfl rfl rfl rfl (mvB rfl rfl rfl ?_)))))))))
        refine s_fa fi53_2 rfl rfl rfl (s_ld1 (v := .slice _ _ _) on51 rfl rfl rfl (o6.get 3 rfl) (mvI rfl rfl rfl (s_iaE el51 rfl rfl rfl rfl rfl rfl (by omega) (s_fa fi50_1 rfl rfl rfl (s_ld1 (v := .string _) on9 rfl rfl rfl (hq 1 _ rfl) (s_lenS Tryz.underlying9 rfl rfl rfl (s_gtr rfl rfl rfl rfl rfl rfl (pFB rfl rfl rfl rfl rfl (w_nil ?_)))))))))
        refine then_n ?_
        refine c_if rfl rfl ?_ ?_
        ·intro ht76
         (try simp only [Q1, Q2, Q3, Q4, Q5] at ht76)
         refine wp_seq (c_reg (asB rfl rfl rfl (w_nil (then_n (wp_ret (inb_r (then_r (then_r (inb_r ?_)))))))))
         refine inb_r (then_r (then_r (inb_r (then_r ?_))))
         refine ret1 (t := 4) (v := .bool _) rfl rfl rfl ⟨_, rfl, K⟩
        ·intro ht76
         (try simp only [Q1, Q2, Q3, Q4, Q5] at ht76)
         refine wp_skip (inb_n (then_n (c_reg (mvI rfl rfl rfl (s_add rfl rfl rfl rfl rfl (w64 (by omega)) (asI rfl rfl rfl (w_nil (then_n ?_))))))))
         exact ⟨l[k].subs.length - (j + 1), _, by omega, rfl, _, j + 1, rfl, by omega, (upd_keep' (upd_keep' (upd_keep' (upd_keep' (upd_keep' rfl rfl) rfl) rfl) rfl) rfl), o2, o6, K⟩
      ·intro ht46
       (try simp only [Q1, Q2, Q3, Q4, Q5] at ht46)
       refine wp_exit (then_x (then_x (inb_x (inb_n (then_n (c_reg (mvI rfl rfl rfl (s_add rfl rfl rfl rfl rfl (w64 (by omega)) (asI rfl rfl rfl ?_)))))))))
       refine w_nil (then_n ?_)
       exact ⟨l.length - (k + 1), _, by omega, rfl, _, k + 1, rfl, by omega, (upd_keep' (upd_keep' (upd_keep' rfl rfl) rfl) rfl), o2, K⟩
   ·intro hs30
    (try simp only [Q1, Q2, Q3, Q4, Q5] at hs30)
    refine st_skip rfl (st_skip rfl (st_skip rfl (st_skip rfl (pFB rfl rfl rfl rfl rfl (mvB rfl rfl rfl (s_fa fi53_0 rfl rfl rfl (s_ld1 (v := .string _) on9 rfl rfl rfl (o6.get 0 rfl) (s_lenS Tryz.underlying9 rfl rfl rfl (s_gtr rfl rfl rfl rfl rfl rfl ?_)))))))))
    refine pFB rfl rfl rfl rfl rfl (w_nil (then_n ?_))
    refine c_if rfl rfl ?_ ?_
    ·intro ht41
     (try simp only [Q1, Q2, Q3, Q4, Q5] at ht41)
     refine wp_seq (c_reg (asB rfl rfl rfl (w_nil (then_n (wp_ret (then_r (inb_r (then_r (then_r ?_)))))))))
     refine inb_r (then_r ?_)
     refine ret1 (t := 4) (v := .bool _) rfl rfl rfl ⟨_, rfl, K⟩
    ·intro ht41
     (try simp only [Q1, Q2, Q3, Q4, Q5] at ht41)
     refine wp_skip (then_n (wp_seq (c_reg (asI rfl rfl rfl (w_nil (then_n (wp_block ?_)))))))
     refine c_loop (fun m f w => ∃ g j, m = l[k].subs.length - j ∧ j ≤ l[k].subs.length ∧ f = (upd (upd (upd (upd (upd g 1 (.int .i64 n)) 2 (.pointer (some ⟨b2, 0, none⟩))) 5 (.int .i64 (k : Nat))) 6 (.pointer (some ⟨b6, 0, none⟩))) 7 (.int .i64 (j : Nat))) ∧ Own w b2 24 [.int .i64 id, .slice (some p) l.length cap] ∧ Own w b6 53 [.string l[k].tag, .int .u8 l[k].i0, .int .u8 l[k].i1, .slice As l[k].subs.length cs] ∧ New W w) (l[k].subs.length) ⟨_, 0, by omega, by omega, (upd_keep' (upd_keep' (upd_keep' (upd_keep' (upd_keep' rfl rfl) rfl) rfl) rfl) rfl), o2, o6, K⟩ ?_
     clear K o2 o6
     rintro m _ w0 ⟨g, j, rfl, hj, rfl, o2, o6, K⟩
     refine wp_seq (wp_seq (c_reg (mvI rfl rfl rfl (s_fa fi53_2 rfl rfl rfl (s_ld1 (v := .slice _ _ _) on51 rfl rfl rfl (o6.get 3 rfl) (s_lenL Tryz.underlying51 rfl rfl rfl (s_lss rfl rfl rfl rfl rfl rfl (w_nil (then_n ?_)))))))))
     refine c_if rfl rfl ?_ ?_
     ·intro ht46
      (try simp only [Q1, Q2, Q3, Q4, Q5] at ht46)
      have hltj : j < l[k].subs.length := by omega
      obtain ⟨q, hqA, _, hq0⟩ := hs0.2 j _ (List.getElem?_eq_getElem hltj)
      subst hqA
      have hq := hq0.kp K (fun e => e)
      refine wp_skip (then_n (wp_seq (wp_block (wp_seq (c_reg (s_fa fi53_2 rfl rfl rfl (s_ld1 (v := .slice _ _ _) on51 rfl rfl rfl (o6.get 3 rfl) (mvI rfl rfl rfl (s_iaE el51 rfl rfl rfl rfl rfl rfl (by omega) ?_)))))))))
      refine s_fa fi50_1 rfl rfl rfl (s_ld1 (v := .string _) on9 rfl rfl rfl (hq 1 _ rfl) (s_lenS Tryz.underlying9 rfl rfl rfl (s_gtr rfl rfl rfl rfl rfl rfl (mvB rfl rfl rfl ?_))))
      refine w_split (t := 57) rfl ?_ ?_
      ·intro hs57
       (try simp only [Q1, Q2, Q3, Q4, Q5] at hs57)
       refine s_fa fi53_2 rfl rfl rfl (s_ld1 (v := .slice _ _ _) on51 rfl rfl rfl (o6.get 3 rfl) (mvI rfl rfl rfl (s_iaE el51 rfl rfl rfl rfl rfl rfl (by omega) (s_fa fi50_1 rfl rfl rfl (s_ld1 (v := .string _) on9 rfl rfl rfl (hq 1 _ rfl) (s_lenS Tryz.underlying9 rfl rfl rfl (s_lss rfl rfl rfl rfl rfl rfl (pTB rfl rfl rfl rfl rfl (mvB rfl rfl rfl ?_)))))))))
       refine w_split (t := 67) rfl ?_ ?_
       ·intro hs67
        (try simp only [Q1, Q2, Q3, Q4, Q5] at hs67)
        refine st_skip rfl (st_skip rfl (st_skip rfl (st_skip rfl (st_skip rfl (st_skip rfl (st_skip rfl (st_skip rfl (pTB rfl rfl rfl rfl rfl (w_nil ?_)))))))))
        refine then_n (c_T rfl rfl (wp_seq (c_reg (asB rfl rfl rfl (w_nil (then_n (wp_ret (inb_r (then_r ?_)))))))))
        refine then_r (inb_r (inb_r (then_r (then_r (inb_r (then_r ?_))))))
        refine ret1 (t := 4) (v := .bool _) rfl rfl rfl ⟨_, rfl, K⟩
       ·intro hs67
        (try simp only [Q1, Q2, Q3, Q4, Q5] at hs67)
        refine s_fa fi53_2 rfl rfl rfl (s_ld1 (v := .slice _ _ _) on51 rfl rfl rfl (o6.get 3 rfl) (mvI rfl rfl rfl (s_iaE el51 rfl rfl rfl rfl rfl rfl (by omega) (s_fa fi50_1 rfl rfl rfl (s_ld1 (v := .string _) on9 rfl rfl rfl (hq 1 _ rfl) (s_lenS Tryz.underlying9 rfl rfl rfl (s_gtr rfl rfl rfl rfl rfl rfl (pFB rfl rfl rfl rfl rfl (w_nil ?_)))))))))
        refine then_n ?_
        refine c_if rfl rfl ?_ ?_
        ·intro ht76
         (try simp only [Q1, Q2, Q3, Q4, Q5] at ht76)
         refine wp_seq (c_reg (asB rfl rfl rfl (w_nil (then_n (wp_ret (inb_r (then_r (then_r (inb_r ?_)))))))))
         refine inb_r (then_r (then_r (inb_r (then_r ?_))))
         refine ret1 (t := 4) (v := .bool _) rfl rfl rfl ⟨_, rfl, K⟩
        ·intro ht76
         (try simp only [Q1, Q2, Q3, Q4, Q5] at ht76)
         refine wp_skip (inb_n (then_n (c_reg (mvI rfl rfl rfl (s_add rfl rfl rfl rfl rfl (w64 (by omega)) (asI rfl rfl rfl (w_nil (then_n ?_))))))))
         exact ⟨l[k].subs.length - (j + 1), _, by omega, rfl, _, j + 1, rfl, by omega, (upd_keep' (upd_keep' (upd_keep' (upd_keep' (upd_keep' rfl rfl) rfl) rfl) rfl) rfl), o2, o6, K⟩
      ·intro hs57
       (try simp only [Q1, Q2, Q3, Q4, Q5] at hs57)
       refine st_skip rfl (st_skip rfl (st_skip rfl (st_skip rfl (st_skip rfl (st_skip rfl (st_skip rfl (st_skip rfl (pFB rfl rfl rfl rfl rfl (mvB rfl rfl rfl ?_)))))))))
       refine s_fa fi53_2 rfl rfl rfl (s_ld1 (v := .slice _ _ _) on51 rfl rfl rfl (o6.get 3 rfl) (mvI rfl rfl rfl (s_iaE el51 rfl rfl rfl rfl rfl rfl (by omega) (s_fa fi50_1 rfl rfl rfl (s_ld1 (v := .string _) on9 rfl rfl rfl (hq 1 _ rfl) (s_lenS Tryz.underlying9 rfl rfl rfl (s_gtr rfl rfl rfl rfl rfl rfl (pFB rfl rfl rfl rfl rfl (w_nil ?_)))))))))
       refine then_n ?_
       refine c_if rfl rfl ?_ ?_
       ·intro ht76
        (try simp only [Q1, Q2, Q3, Q4, Q5] at ht76)
        refine wp_seq (c_reg (asB rfl rfl rfl (w_nil (then_n (wp_ret (inb_r (then_r (then_r (inb_r ?_)))))))))
        refine inb_r (then_r (then_r (inb_r (then_r ?_))))
        refine ret1 (t := 4) (v := .bool _) rfl rfl rfl ⟨_, rfl, K⟩
       ·intro ht76
        (try simp only [Q1, Q2, Q3, Q4, Q5] at ht76)
        refine wp_skip (inb_n (then_n (c_reg (mvI rfl rfl rfl (s_add rfl rfl rfl rfl rfl (w64 (by omega)) (asI rfl rfl rfl (w_nil (then_n ?_))))))))
        exact ⟨l[k].subs.length - (j + 1), _, by omega, rfl, _, j + 1, rfl, by omega, (upd_keep' (upd_keep' (upd_keep' (upd_keep' (upd_keep' rfl rfl) rfl) rfl) rfl) rfl), o2, o6, K⟩
     ·intro ht46
      (try simp only [Q1, Q2, Q3, Q4, Q5] at ht46)
      refine wp_exit (then_x (then_x (inb_x (inb_n (then_n (c_reg (mvI rfl rfl rfl (s_add rfl rfl rfl rfl rfl (w64 (by omega)) (asI rfl rfl rfl ?_)))))))))
      refine w_nil (then_n ?_)
      exact ⟨l.length - (k + 1), _, by omega, rfl, _, k + 1, rfl, by omega, (upd_keep' (upd_keep' (upd_keep' rfl rfl) rfl) rfl), o2, K⟩
  ·intro hs24
   (try simp only [Q1, Q2, Q3, Q4, Q5] at hs24)
   refine st_skip rfl (st_skip rfl (st_skip rfl (st_skip rfl (pFB rfl rfl rfl rfl rfl (mvB rfl rfl rfl (st_skip rfl (st_skip rfl (st_skip rfl (st_skip rfl ?_)))))))))
   refine pFB rfl rfl rfl rfl rfl (mvB rfl rfl rfl (s_fa fi53_0 rfl rfl rfl (s_ld1 (v := .string _) on9 rfl rfl rfl (o6.get 0 rfl) (s_lenS Tryz.underlying9 rfl rfl rfl (s_gtr rfl rfl rfl rfl rfl rfl (pFB rfl rfl rfl rfl rfl (w_nil (then_n ?_))))))))
   refine c_if rfl rfl ?_ ?_
   ·intro ht41
    (try simp only [Q1, Q2, Q3, Q4, Q5] at ht41)
    refine wp_seq (c_reg (asB rfl rfl rfl (w_nil (then_n (wp_ret (then_r (inb_r (then_r (then_r ?_)))))))))
    refine inb_r (then_r ?_)
    refine ret1 (t := 4) (v := .bool _) rfl rfl rfl ⟨_, rfl, K⟩
   ·intro ht41
    (try simp only [Q1, Q2, Q3, Q4, Q5] at ht41)
    refine wp_skip (then_n (wp_seq (c_reg (asI rfl rfl rfl (w_nil (then_n (wp_block ?_)))))))
    refine c_loop (fun m f w => ∃ g j, m = l[k].subs.length - j ∧ j ≤ l[k].subs.length ∧ f = (upd (upd (upd (upd (upd g 1 (.int .i64 n)) 2 (.pointer (some ⟨b2, 0, none⟩))) 5 (.int .i64 (k : Nat))) 6 (.pointer (some ⟨b6, 0, none⟩))) 7 (.int .i64 (j : Nat))) ∧ Own w b2 24 [.int .i64 id, .slice (some p) l.length cap] ∧ Own w b6 53 [.string l[k].tag, .int .u8 l[k].i0, .int .u8 l[k].i1, .slice As l[k].subs.length cs] ∧ New W w) (l[k].subs.length) ⟨_, 0, by omega, by omega, (upd_keep' (upd_keep' (upd_keep' (upd_keep' (upd_keep' rfl rfl) rfl) rfl) rfl) rfl), o2, o6, K⟩ ?_
    clear K o2 o6
    rintro m _ w0 ⟨g, j, rfl, hj, rfl, o2, o6, K⟩
    refine wp_seq (wp_seq (c_reg (mvI rfl rfl rfl (s_fa fi53_2 rfl rfl rfl (s_ld1 (v := .slice _ _ _) on51 rfl rfl rfl (o6.get 3 rfl) (s_lenL Tryz.underlying51 rfl rfl rfl (s_lss rfl rfl rfl rfl rfl rfl (w_nil (then_n ?_)))))))))
    refine c_if rfl rfl ?_ ?_
    ·intro ht46
     (try simp only [Q1, Q2, Q3, Q4, Q5] at ht46)
     have hltj : j < l[k].subs.length := by omega
     obtain ⟨q, hqA, _, hq0⟩ := hs0.2 j _ (List.getElem?_eq_getElem hltj)
     subst hqA
     have hq := hq0.kp K (fun e => e)
     refine wp_skip (then_n (wp_seq (wp_block (wp_seq (c_reg (s_fa fi53_2 rfl rfl rfl (s_ld1 (v := .slice _ _ _) on51 rfl rfl rfl (o6.get 3 rfl) (mvI rfl rfl rfl (s_iaE el51 rfl rfl rfl rfl rfl rfl (by omega) ?_)))))))))
     refine s_fa fi50_1 rfl rfl rfl (s_ld1 (v := .string _) on9 rfl rfl rfl (hq 1 _ rfl) (s_lenS Tryz.underlying9 rfl rfl rfl (s_gtr rfl rfl rfl rfl rfl rfl (mvB rfl rfl rfl ?_))))
     refine w_split (t := 57) rfl ?_ ?_
     ·intro hs57
      (try simp only [Q1, Q2, Q3, Q4, Q5] at hs57)
      refine s_fa fi53_2 rfl rfl rfl (s_ld1 (v := .slice _ _ _) on51 rfl rfl rfl (o6.get 3 rfl) (mvI rfl rfl rfl (s_iaE el51 rfl rfl rfl rfl rfl rfl (by omega) (s_fa fi50_1 rfl rfl rfl (s_ld1 (v := .string _) on9 rfl rfl rfl (hq 1 _ rfl) (s_lenS Tryz.underlying9 rfl rfl rfl (s_lss rfl rfl rfl rfl rfl rfl (pTB rfl rfl rfl rfl rfl (mvB rfl rfl rfl ?_)))))))))
      refine w_split (t := 67) rfl ?_ ?_
      ·intro hs67
       (try simp only [Q1, Q2, Q3, Q4, Q5] at hs67)
       refine st_skip rfl (st_skip rfl (st_skip rfl (st_skip rfl (st_skip rfl (st_skip rfl (st_skip rfl (st_skip rfl (pTB rfl rfl rfl rfl rfl (w_nil ?_)))))))))
       refine then_n (c_T rfl rfl (wp_seq (c_reg (asB rfl rfl rfl (w_nil (then_n (wp_ret (inb_r (then_r ?_)))))))))
       refine then_r (inb_r (inb_r (then_r (then_r (inb_r (then_r ?_))))))
       refine ret1 (t := 4) (v := .bool _) rfl rfl rfl ⟨_, rfl, K⟩
      ·intro hs67
       (try simp only [Q1, Q2, Q3, Q4, Q5] at hs67)
       refine s_fa fi53_2 rfl rfl rfl (s_ld1 (v := .slice _ _ _) on51 rfl rfl rfl (o6.get 3 rfl) (mvI rfl rfl rfl (s_iaE el51 rfl rfl rfl rfl rfl rfl (by omega) (s_fa fi50_1 rfl rfl rfl (s_ld1 (v := .string _) on9 rfl rfl rfl (hq 1 _ rfl) (s_lenS Tryz.underlying9 rfl rfl rfl (s_gtr rfl rfl rfl rfl rfl rfl (pFB rfl rfl rfl rfl rfl (w_nil ?_)))))))))
       refine then_n ?_
       refine c_if rfl rfl ?_ ?_
       ·intro ht76
        (try simp only [Q1, Q2, Q3, Q4, Q5] at ht76)
        refine wp_seq (c_reg (asB rfl rfl rfl (w_nil (then_n (wp_ret (inb_r (then_r (then_r (inb_r ?_)))))))))
        refine inb_r (then_r (then_r (inb_r (then_r ?_))))
        refine ret1 (t := 4) (v := .bool _) rfl rfl rfl ⟨_, rfl, K⟩
       ·intro ht76
        (try simp only [Q1, Q2, Q3, Q4, Q5] at ht76)
        refine wp_skip (inb_n (then_n (c_reg (mvI rfl rfl rfl (s_add rfl rfl rfl rfl rfl (w64 (by omega)) (asI rfl rfl rfl (w_nil (then_n ?_))))))))
        exact ⟨l[k].subs.length - (j + 1), _, by omega, rfl, _, j + 1, rfl, by omega, (upd_keep' (upd_keep' (upd_keep' (upd_keep' (upd_keep' rfl rfl) rfl) rfl) rfl) rfl), o2, o6, K⟩
     ·intro hs57
      (try simp only [Q1, Q2, Q3, Q4, Q5] at hs57)
      refine st_skip rfl (st_skip rfl (st_skip rfl (st_skip rfl (st_skip rfl (st_skip rfl (st_skip rfl (st_skip rfl (pFB rfl rfl rfl rfl rfl (mvB rfl rfl rfl ?_)))))))))
      refine s_fa fi53_2 rfl rfl rfl (s_ld1 (v := .slice _ _ _) on51 rfl rfl rfl (o6.get 3 rfl) (mvI rfl rfl rfl (s_iaE el51 rfl rfl rfl rfl rfl rfl (by omega) (s_fa fi50_1 rfl rfl rfl (s_ld1 (v := .string _) on9 rfl rfl rfl (hq 1 _ rfl) (s_lenS Tryz.underlying9 rfl rfl rfl (s_gtr rfl rfl rfl rfl rfl rfl (pFB rfl rfl rfl rfl rfl (w_nil ?_)))))))))
      refine then_n ?_
      refine c_if rfl rfl ?_ ?_
      ·intro ht76
       (try simp only [Q1, Q2, Q3, Q4, Q5] at ht76)
       refine wp_seq (c_reg (asB rfl rfl rfl (w_nil (then_n (wp_ret (inb_r (then_r (then_r (inb_r ?_)))))))))
       refine inb_r (then_r (then_r (inb_r (then_r ?_))))
       refine ret1 (t := 4) (v := .bool _) rfl rfl rfl ⟨_, rfl, K⟩
      ·intro ht76
       (try simp only [Q1, Q2, Q3, Q4, Q5] at ht76)
       refine wp_skip (inb_n (then_n (c_reg (mvI rfl rfl rfl (s_add rfl rfl rfl rfl rfl (w64 (by omega)) (asI rfl rfl rfl (w_nil (then_n ?_))))))))
       exact ⟨l[k].subs.length - (j + 1), _, by omega, rfl, _, j + 1, rfl, by omega, (upd_keep' (upd_keep' (upd_keep' (upd_keep' (upd_keep' rfl rfl) rfl) rfl) rfl) rfl), o2, o6, K⟩
    ·intro ht46
     (try simp only [Q1, Q2, Q3, Q4, Q5] at ht46)
     refine wp_exit (then_x (then_x (inb_x (inb_n (then_n (c_reg (mvI rfl rfl rfl (s_add rfl rfl rfl rfl rfl (w64 (by omega)) (asI rfl rfl rfl ?_)))))))))
     refine w_nil (then_n ?_)
     exact ⟨l.length - (k + 1), _, by omega, rfl, _, k + 1, rfl, by omega, (upd_keep' (upd_keep' (upd_keep' rfl rfl) rfl) rfl), o2, K⟩
 ·intro ht12
  (try simp only [Q1, Q2, Q3, Q4, Q5] at ht12)
  refine wp_exit (then_x (then_x (inb_x (then_n (wp_seq (c_reg (s_fa fi24_1 rfl rfl rfl (s_ld1 (v := .slice _ _ _) on22 rfl rfl rfl (o2.get 1 rfl) (s_lenL Tryz.underlying22 rfl rfl rfl ?_)))))))))
  refine mvI rfl rfl rfl (s_leq rfl rfl rfl rfl rfl rfl (asB rfl rfl rfl (w_nil (then_n (wp_ret ?_)))))
  refine ret1 (t := 4) (v := .bool _) rfl rfl rfl ⟨_, rfl, K⟩
end
end Go.Proofs.YtkabfelhicohnaaGreatDoor.V
