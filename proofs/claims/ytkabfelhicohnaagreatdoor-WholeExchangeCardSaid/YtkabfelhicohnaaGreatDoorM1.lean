/- Rules of the walk. No condition. -/
import Derived.WalkKit
import Derived.RangeFuncCalls
import Derived.OwnWalkIn
import Derived.TacticsInMore
import Derived.KernelRfl
import Derived.Great.BuildSlice
import Derived.Test.YtkabfelhicohnaaGreatDoorProg
import Derived.Laws.StructEq
import Derived.Lib.AppendStr
import Derived.Laws.Tables
import Derived.RangeFuncRecord
import Derived.RangeFuncSeq
import Derived.Scope
set_option linter.unusedSimpArgs false
set_option linter.unusedVariables false
namespace Go.Proofs.YtkabfelhicohnaaGreatDoor.V
open Go.RowKit
section
def upd (f : Nat → Value) (d : Nat) (v : Value) : Nat → Value := fun i => bif Nat.beq i d then v else f i
def Fr (n : Nat) (ds : List Deferred) (f : Nat → Value) : Act := { tmps := Array.ofFn (fun i : Fin n => f i.val), defers := ds }
def ev (f : Nat → Value) : Operand → Value
  | .tmp t => f t
  | .const v => v
  | .global g => .pointer (some ⟨g, 0, none⟩)
  | .func g => .func (.func g) #[] #[]
def inb (n : Nat) : Operand → Bool
  | .tmp t => Nat.blt t n
  | _ => true
theorem upd_same (f : Nat → Value) (d : Nat) (v : Value) : upd f d v d = v := by simp [upd]
theorem upd_ne (f : Nat → Value) {d i : Nat} (v : Value) (h : i ≠ d) : upd f d v i = f i := by
  have hb : Nat.beq i d = false := by rw [Bool.eq_false_iff]; simpa using h
  simp only [upd, hb, cond_false]
theorem upd_keep {f : Nat → Value} {d : Nat} {v : Value} (h : f d = v) : f = upd f d v := by
  funext i; by_cases e : i = d
  · subst e; rw [upd_same, h]
  · rw [upd_ne _ _ e]
theorem Fr_getD (n : Nat) (ds : List Deferred) (f : Nat → Value) (t : Nat) (h : t < n) : (Fr n ds f).tmps.getD t undef = f t := by
  simp [Fr, Array.getD, h]
theorem Fr_get (n : Nat) (ds : List Deferred) (f : Nat → Value) (t : Nat) (h : t < n) : (Fr n ds f).tmps[t]? = some (f t) := by
  simp [Fr, h]
theorem Fr_put (n : Nat) (ds : List Deferred) (f : Nat → Value) (d : Nat) (v : Value) : (Fr n ds f).put (some d) v = Fr n ds (upd f d v) := by
  simp only [Fr, Act.put, Act.mk.injEq, and_true]
  apply Array.ext
  · simp
  · intro i h1 h2
    simp only [Array.size_setIfInBounds, Array.size_ofFn] at h1
    rw [Array.getElem_setIfInBounds, Array.getElem_ofFn]
    by_cases e : d = i
    · subst e; rw [if_pos rfl, Array.getElem_ofFn, upd_same]
    · rw [if_neg e, Array.getElem_ofFn, upd_ne f v (fun h => e h.symm)]
    · simpa using h1
theorem Fr_eval {n : Nat} {ds : List Deferred} {f : Nat → Value} {x : Operand} (h : inb n x = true) : (Fr n ds f).eval x = ev f x := by
  cases x with
  | tmp t => exact Fr_getD n ds f t (by simpa [inb] using h)
  | const v => rfl
  | global g => rfl
  | func g => rfl
def Gd (n : Nat) (ops : Array Oper) (f : Nat → Value) : Option (Nat × Bool) → Option Bool
  | none => some true
  | some (j, want) => match ops[j]? with
    | some o => match o.dst with
      | some g => bif Nat.blt g n then (match f g with | .bool b => some (b == want) | _ => some false) else none
      | none => none
    | none => none
theorem wanted_of {n : Nat} {ds : List Deferred} {ops : Array Oper} {f : Nat → Value} {o : Oper} {b : Bool} (h : Gd n ops f o.guard = some b) :
    Region.wanted o (yielded ops (Fr n ds f).tmps) = b := by
  obtain ⟨dst, op, ty, pos, af, g⟩ := o
  cases g with
  | none => simp [Gd] at h; subst h; rfl
  | some jw =>
    obtain ⟨j, want⟩ := jw
    simp only [Gd] at h
    simp only [Region.wanted, yielded]
    cases ho : ops[j]? with
    | none => simp [ho] at h
    | some o' =>
      simp only [ho] at h
      cases hd : o'.dst with
      | none => simp [hd] at h
      | some g =>
        simp only [hd] at h
        by_cases hlt : g < n
        · have hb : Nat.blt g n = true := by simpa using hlt
          rw [hb] at h
          simp only [cond_true] at h
          simp only [Option.bind_some, hd, Fr_get n ds f g hlt]
          cases hf : f g <;> simp [hf] at h <;> subst h <;> first | rfl | simp
        · have hb : Nat.blt g n = false := by
            rw [Bool.eq_false_iff]; simpa using hlt
          rw [hb] at h
          simp at h
inductive Md where
  | plain
  | fen (r : Option Nat)
def Fc (r : Option Nat) : Fence := { Fence.wide with round := r }
def wpM (md : Md) (P : Program) (ops : Array Oper) (Q : Exit → Act → World → Prop) : List Oper → Act → World → Prop :=
  match md with
  | .plain => wpList P ops Q
  | .fen r => wpListIn (Fc r) 0 P ops Q
structure WL (md : Md) (P : Program) (ops : Array Oper) (Q : Exit → Act → World → Prop) (l : List Oper) (n : Nat) (ds : List Deferred) (f : Nat → Value) (w : World) : Prop where
  out : wpM md P ops Q l (Fr n ds f) w
section steps
variable {md : Md} {P : Program} {ops : Array Oper} {Q : Exit → Act → World → Prop} {n : Nat} {ds : List Deferred} {f : Nat → Value} {w w' : World} {rest : List Oper}
  {d : Nat} {op : Op} {ty : TypeId} {pos : String} {af : Array Edge} {g : Option (Nat × Bool)} {v : Value}
theorem sem_eq (r : Option Nat) (ρ : Operand → Value) (o : Oper) {x : Next} {w w' : World} (h : (execOp ρ o).run P w = .ok x w') (hx : ∀ d, x ≠ .defer d) : Oper.semAt r ρ o = execOp ρ o := by
  refine Oper.semAt_eq r ρ o fun c hc => ?_
  obtain ⟨dst, op, ty, pos, af, g⟩ := o
  simp only at hc; subst hc
  simp only [execOp, Sem.run_bind] at h
  generalize (resolve ρ c ty).run P w = q at h
  cases q with
  | ok d w1 => simp only [Result.andThen_ok, Sem.run_pure, Result.ok.injEq] at h; exact hx d h.1.symm
  | halt e w1 => simp [Result.andThen] at h
theorem st_run (hg : Gd n ops f g = some true) (hr : (execOp (Fr n ds f).eval ⟨some d, op, ty, pos, af, g⟩).run P w = .ok (.value v) w')
    (k : WL md P ops Q rest n ds (upd f d v) w') : WL md P ops Q (⟨some d, op, ty, pos, af, g⟩ :: rest) n ds f w := by
  constructor
  have k := k.out
  cases md with
  | plain =>
    simp only [wpM] at k ⊢
    unfold wpList
    rw [if_pos (wanted_of hg)]
    refine .inl ?_
    unfold Oper.wp
    rw [hr]
    simp only [Oper.upon, Fr_put]
    exact k
  | fen r =>
    simp only [wpM] at k ⊢
    unfold wpListIn
    rw [if_pos (wanted_of hg)]
    refine ⟨fun _ _ => trivial, ?_⟩
    rw [sem_eq _ _ _ hr (by intro d h; cases h), hr]
    simp only [Oper.uponIn, Fr_put]
    exact k
theorem st_skip (hg : Gd n ops f g = some false) (k : WL md P ops Q rest n ds (upd f d undef) w) :
    WL md P ops Q (⟨some d, op, ty, pos, af, g⟩ :: rest) n ds f w := by
  constructor
  have k := k.out
  cases md with
  | plain =>
    simp only [wpM] at k ⊢
    unfold wpList
    rw [if_neg (by rw [wanted_of (o := ⟨some d, op, ty, pos, af, g⟩) hg]; simp), Fr_put]
    exact k
  | fen r =>
    simp only [wpM] at k ⊢
    unfold wpListIn
    rw [if_neg (by rw [wanted_of (o := ⟨some d, op, ty, pos, af, g⟩) hg]; simp), Fr_put]
    exact ⟨fun _ _ => trivial, k⟩
theorem st_unit (hg : Gd n ops f g = some true) (hr : (execOp (Fr n ds f).eval ⟨none, op, ty, pos, af, g⟩).run P w = .ok .skip w')
    (k : WL md P ops Q rest n ds f w') : WL md P ops Q (⟨none, op, ty, pos, af, g⟩ :: rest) n ds f w := by
  constructor
  have k := k.out
  cases md with
  | plain =>
    simp only [wpM] at k ⊢
    unfold wpList
    rw [if_pos (wanted_of hg)]
    refine .inl ?_
    unfold Oper.wp
    rw [hr]
    exact k
  | fen r =>
    simp only [wpM] at k ⊢
    unfold wpListIn
    rw [if_pos (wanted_of hg)]
    refine ⟨fun _ _ => trivial, ?_⟩
    rw [sem_eq _ _ _ hr (by intro d h; cases h), hr]
    exact k
theorem calls_fc {r : Option Nat} {k : Nat} {F : FuncId} {args : Array Value} {R : Ending → World → Prop} (h : Calls P F args w R) : CallsIn (Fc r) k P F args w R := by
  have h1 : CallsIn Fence.wide k P F args w R := callsIn_wide.2 h
  cases r with
  | none => exact h1
  | some l => exact CallsIn.inRound l h1
theorem st_enter {F : FuncId} {args : Array Value} (hg : Gd n ops f g = some true) (hr : (execOp (Fr n ds f).eval ⟨some d, op, ty, pos, af, g⟩).run P w = .ok (.enter F args) w')
    (hc : Calls P F args w' fun e w'' => ∃ v, e = .returned v ∧ WL md P ops Q rest n ds (upd f d v) w'') :
    WL md P ops Q (⟨some d, op, ty, pos, af, g⟩ :: rest) n ds f w := by
  constructor
  cases md with
  | plain =>
    simp only [wpM]
    unfold wpList
    rw [if_pos (wanted_of hg)]
    refine .inl ?_
    unfold Oper.wp
    rw [hr]
    simp only [Oper.upon]
    refine hc.mono ?_
    rintro e w'' ⟨v, rfl, hk⟩
    simp only [Fr_put]
    exact hk.out
  | fen r =>
    simp only [wpM]
    unfold wpListIn
    rw [if_pos (wanted_of hg)]
    refine ⟨fun _ _ => trivial, ?_⟩
    rw [sem_eq _ _ _ hr (by intro d h; cases h), hr]
    simp only [Oper.uponIn]
    refine ⟨fun h => (by cases h), calls_fc (hc.mono ?_)⟩
    rintro e w'' ⟨v, rfl, hk⟩
    simp only [Fr_put]
    exact hk.out
theorem w_nil (h : Q .normal (Fr n ds f) w) : WL md P ops Q [] n ds f w := by
  constructor; cases md <;> exact h
theorem c_reg {id : Nat} (h : WL .plain P ops Q ops.toList n ds f w) : (Code.region id ops false).wp P Q (Fr n ds f) w := wp_region_list h.out
theorem c_regF {id : Nat} (h : WL (.fen none) P ops Q ops.toList n ds f w) : (Code.region id ops false).wp P Q (Fr n ds f) w :=
  (wpIn_wide (n := 0)).1 (wpIn_region_list h.out)
theorem c_regR {id l : Nat} (h : WL (.fen (some l)) P ops Q ops.toList n ds f w) : (Code.region id ops false).wpIn (Fence.wide.inRound l) 0 P Q (Fr n ds f) w := wpIn_region_list h.out
theorem st_round {l : Nat} {fn : FuncId} {tmps : Array Value} {assign body : Code} (hg : Gd n ops f g = some true) (hr : (execOp (Fr n ds f).eval ⟨some d, op, ty, pos, af, g⟩).run P w = .ok (.round l fn tmps assign body) w')
    (hc : RoundIn Fence.wide 0 P l fn tmps assign body w' fun e w'' => ∃ v, e = .returned v ∧ WL (.fen none) P ops Q rest n ds (upd f d v) w'') :
    WL (.fen none) P ops Q (⟨some d, op, ty, pos, af, g⟩ :: rest) n ds f w := by
  constructor
  simp only [wpM]
  unfold wpListIn
  rw [if_pos (wanted_of hg)]
  refine ⟨fun _ _ => trivial, ?_⟩
  rw [sem_eq _ _ _ hr (by intro d h; cases h), hr]
  simp only [Oper.uponIn]
  refine ⟨fun h => (by cases h), RoundIn.mono (F := Fence.wide) hc ?_⟩
  rintro e w'' ⟨v, rfl, hk⟩
  simp only [Fr_put]
  exact hk.out
end steps
end
section
section steps
variable {md : Md} {P : Program} {ops : Array Oper} {Q : Exit → Act → World → Prop} {n : Nat} {ds : List Deferred} {f : Nat → Value} {w w' : World} {rest : List Oper}
  {d : Nat} {ty : TypeId} {pos : String} {af : Array Edge} {g : Option (Nat × Bool)} {v : Value} {x y z : Operand} {tx ty' : TypeId} {kk : IntKind} {a b c : Int}
theorem s_mv (hg : Gd n ops f g = some true) (hb : inb n x = true) (hx : ev f x = v) (k : WL md P ops Q rest n ds (upd f d v) w) :
    WL md P ops Q (⟨some d, .move x, ty, pos, af, g⟩ :: rest) n ds f w :=
  st_run hg (by simp only [execOp, Fr_eval hb, hx]; rfl) k
theorem s_as (hg : Gd n ops f g = some true) (hb : inb n x = true) (hx : ev f x = v) (k : WL md P ops Q rest n ds (upd f d v) w) :
    WL md P ops Q (⟨some d, .assign x, ty, pos, af, g⟩ :: rest) n ds f w :=
  st_run hg (by simp only [execOp, Fr_eval hb, hx]; rfl) k
theorem s_pkT (hg : Gd n ops f g = some true) (hb : inb n x = true) (hb' : inb n y = true) (hc : ev f x = .bool true) (hx : ev f y = v) (k : WL md P ops Q rest n ds (upd f d v) w) :
    WL md P ops Q (⟨some d, .pick x y z, ty, pos, af, g⟩ :: rest) n ds f w :=
  st_run hg (by simp only [execOp, Fr_eval hb, Fr_eval hb', hc, hx]; simp [asBool, go_sem]) k
theorem s_pkF (hg : Gd n ops f g = some true) (hb : inb n x = true) (hb' : inb n z = true) (hc : ev f x = .bool false) (hx : ev f z = v) (k : WL md P ops Q rest n ds (upd f d v) w) :
    WL md P ops Q (⟨some d, .pick x y z, ty, pos, af, g⟩ :: rest) n ds f w :=
  st_run hg (by simp only [execOp, Fr_eval hb, Fr_eval hb', hc, hx]; simp [asBool, go_sem]) k
theorem s_lss (hg : Gd n ops f g = some true) (hb : inb n x = true) (hb' : inb n y = true) (hx : ev f x = .int kk a) (hy : ev f y = .int kk b)
    {t : Bool} (ht : decide (a < b) = t) (k : WL md P ops Q rest n ds (upd f d (.bool t)) w) : WL md P ops Q (⟨some d, .binOp .lss tx x y ty', ty, pos, af, g⟩ :: rest) n ds f w :=
  st_run hg (by subst ht; simp only [execOp, Fr_eval hb, Fr_eval hb', hx, hy]; simp [binOp, eqGuard, Op.intCmp, go_sem]) k
theorem s_leq (hg : Gd n ops f g = some true) (hb : inb n x = true) (hb' : inb n y = true) (hx : ev f x = .int kk a) (hy : ev f y = .int kk b)
    {t : Bool} (ht : decide (a ≤ b) = t) (k : WL md P ops Q rest n ds (upd f d (.bool t)) w) : WL md P ops Q (⟨some d, .binOp .leq tx x y ty', ty, pos, af, g⟩ :: rest) n ds f w :=
  st_run hg (by subst ht; simp only [execOp, Fr_eval hb, Fr_eval hb', hx, hy]; simp [binOp, eqGuard, Op.intCmp, go_sem]) k
theorem s_gtr (hg : Gd n ops f g = some true) (hb : inb n x = true) (hb' : inb n y = true) (hx : ev f x = .int kk a) (hy : ev f y = .int kk b)
    {t : Bool} (ht : decide (b < a) = t) (k : WL md P ops Q rest n ds (upd f d (.bool t)) w) : WL md P ops Q (⟨some d, .binOp .gtr tx x y ty', ty, pos, af, g⟩ :: rest) n ds f w :=
  st_run hg (by subst ht; simp only [execOp, Fr_eval hb, Fr_eval hb', hx, hy]; simp [binOp, eqGuard, Op.intCmp, go_sem]) k
theorem s_geq (hg : Gd n ops f g = some true) (hb : inb n x = true) (hb' : inb n y = true) (hx : ev f x = .int kk a) (hy : ev f y = .int kk b)
    {t : Bool} (ht : decide (b ≤ a) = t) (k : WL md P ops Q rest n ds (upd f d (.bool t)) w) : WL md P ops Q (⟨some d, .binOp .geq tx x y ty', ty, pos, af, g⟩ :: rest) n ds f w :=
  st_run hg (by subst ht; simp only [execOp, Fr_eval hb, Fr_eval hb', hx, hy]; simp [binOp, eqGuard, Op.intCmp, go_sem]) k
theorem s_eq (hg : Gd n ops f g = some true) (hb : inb n x = true) (hb' : inb n y = true) (hx : ev f x = .int kk a) (hy : ev f y = .int kk b)
    {t : Bool} (ht : decide (a = b) = t) (k : WL md P ops Q rest n ds (upd f d (.bool t)) w) : WL md P ops Q (⟨some d, .binOp .eql tx x y ty', ty, pos, af, g⟩ :: rest) n ds f w :=
  st_run hg (by subst ht; simp only [execOp, Fr_eval hb, Fr_eval hb', hx, hy]; simp [binOp, eqGuard, Op.intCmp, go_sem] <;> rfl) k
theorem s_ne (hg : Gd n ops f g = some true) (hb : inb n x = true) (hb' : inb n y = true) (hx : ev f x = .int kk a) (hy : ev f y = .int kk b)
    {t : Bool} (ht : (!decide (a = b)) = t) (k : WL md P ops Q rest n ds (upd f d (.bool t)) w) : WL md P ops Q (⟨some d, .binOp .neq tx x y ty', ty, pos, af, g⟩ :: rest) n ds f w :=
  st_run hg (by subst ht; simp only [execOp, Fr_eval hb, Fr_eval hb', hx, hy]; simp [binOp, eqGuard, Op.intCmp, go_sem] <;> rfl) k
theorem s_add (hg : Gd n ops f g = some true) (hb : inb n x = true) (hb' : inb n y = true) (hx : ev f x = .int kk a) (hy : ev f y = .int kk b) (hc : kk.wrap (a + b) = c)
    (k : WL md P ops Q rest n ds (upd f d (.int kk c)) w) : WL md P ops Q (⟨some d, .binOp .add tx x y ty', ty, pos, af, g⟩ :: rest) n ds f w :=
  st_run hg (by simp only [execOp, Fr_eval hb, Fr_eval hb', hx, hy]; simp [binOp, eqGuard, Op.intArith, go_sem, hc]) k
theorem s_sub (hg : Gd n ops f g = some true) (hb : inb n x = true) (hb' : inb n y = true) (hx : ev f x = .int kk a) (hy : ev f y = .int kk b) (hc : kk.wrap (a - b) = c)
    (k : WL md P ops Q rest n ds (upd f d (.int kk c)) w) : WL md P ops Q (⟨some d, .binOp .sub tx x y ty', ty, pos, af, g⟩ :: rest) n ds f w :=
  st_run hg (by simp only [execOp, Fr_eval hb, Fr_eval hb', hx, hy]; simp [binOp, eqGuard, Op.intArith, go_sem, hc]) k
theorem s_mul (hg : Gd n ops f g = some true) (hb : inb n x = true) (hb' : inb n y = true) (hx : ev f x = .int kk a) (hy : ev f y = .int kk b) (hc : kk.wrap (a * b) = c)
    (k : WL md P ops Q rest n ds (upd f d (.int kk c)) w) : WL md P ops Q (⟨some d, .binOp .mul tx x y ty', ty, pos, af, g⟩ :: rest) n ds f w :=
  st_run hg (by simp only [execOp, Fr_eval hb, Fr_eval hb', hx, hy]; simp [binOp, eqGuard, Op.intArith, go_sem, hc]) k
theorem s_bin {o : BinOp} (hg : Gd n ops f g = some true) (hb : inb n x = true) (hb' : inb n y = true) {u u' : Value} (hx : ev f x = u) (hy : ev f y = u')
    (hr : (do eqGuard o tx x y u u'; binOp o tx u u' : Sem Value).run P w = .ok v w')
    (k : WL md P ops Q rest n ds (upd f d v) w') : WL md P ops Q (⟨some d, .binOp o tx x y ty', ty, pos, af, g⟩ :: rest) n ds f w :=
  st_run hg (by simp only [execOp, Fr_eval hb, Fr_eval hb', hx, hy]; generalize hX : (do eqGuard o tx x y u u'; binOp o tx u u' : Sem Value) = X at hr ⊢; simp [hr]) k
theorem s_not (hg : Gd n ops f g = some true) (hb : inb n x = true) {t : Bool} (hx : ev f x = .bool t)
    (k : WL md P ops Q rest n ds (upd f d (.bool (!t))) w) : WL md P ops Q (⟨some d, .unOp .not tx x, ty, pos, af, g⟩ :: rest) n ds f w :=
  st_run hg (by simp only [execOp, Fr_eval hb, hx]; simp [Op.unary, go_sem]) k
theorem str_beq (s t : ByteArray) : (s.toList == t.toList) = decide (s = t) := by
  rw [Bool.eq_iff_iff]
  simp only [beq_iff_eq, decide_eq_true_eq]
  exact ⟨fun h => by rw [ByteArray.toList_eq, ByteArray.toList_eq] at h; exact ByteArray.ext (Array.toList_inj.1 h), fun h => by rw [h]⟩
theorem s_seq {s t : ByteArray} (hg : Gd n ops f g = some true) (hb : inb n x = true) (hb' : inb n y = true) (hx : ev f x = .string s) (hy : ev f y = .string t)
    {t' : Bool} (ht : decide (s = t) = t') (k : WL md P ops Q rest n ds (upd f d (.bool t')) w) : WL md P ops Q (⟨some d, .binOp .eql tx x y ty', ty, pos, af, g⟩ :: rest) n ds f w :=
  st_run hg (by subst ht; simp only [execOp, Fr_eval hb, Fr_eval hb', hx, hy]; simp [binOp, eqGuard, Op.stringOp, str_beq, go_sem]) k
theorem s_sne {s t : ByteArray} (hg : Gd n ops f g = some true) (hb : inb n x = true) (hb' : inb n y = true) (hx : ev f x = .string s) (hy : ev f y = .string t)
    {t' : Bool} (ht : (!decide (s = t)) = t') (k : WL md P ops Q rest n ds (upd f d (.bool t')) w) : WL md P ops Q (⟨some d, .binOp .neq tx x y ty', ty, pos, af, g⟩ :: rest) n ds f w :=
  st_run hg (by subst ht; simp only [execOp, Fr_eval hb, Fr_eval hb', hx, hy]; simp [binOp, eqGuard, Op.stringOp, str_beq, go_sem]) k
theorem s_sadd {s t : ByteArray} (hg : Gd n ops f g = some true) (hb : inb n x = true) (hb' : inb n y = true) (hx : ev f x = .string s) (hy : ev f y = .string t) (hl : s.size + t.size ≤ 9223372036854775807)
    (k : WL md P ops Q rest n ds (upd f d (.string (s ++ t))) w) : WL md P ops Q (⟨some d, .binOp .add tx x y ty', ty, pos, af, g⟩ :: rest) n ds f w :=
  st_run hg (by simp only [execOp, Fr_eval hb, Fr_eval hb', hx, hy]; simp [binOp, eqGuard, Op.stringOp, go_sem]; omega) k
theorem s_ext {vs : Array Value} {i : Nat} (hg : Gd n ops f g = some true) (hb : inb n x = true) (hx : ev f x = .tuple vs) (hv : vs[i]? = some v)
    (k : WL md P ops Q rest n ds (upd f d v) w) : WL md P ops Q (⟨some d, .extract x i, ty, pos, af, g⟩ :: rest) n ds f w :=
  st_run hg (by simp only [execOp, Fr_eval hb, hx]; simp [Instr.extract, hv, go_sem]) k
theorem s_lenS {s : ByteArray} {t' : TypeId} (hT : P.underlying t' = some .string) (hg : Gd n ops f g = some true) (hb : inb n x = true) (hx : ev f x = .string s)
    (k : WL md P ops Q rest n ds (upd f d (.int .i64 s.size)) w) : WL md P ops Q (⟨some d, .call ⟨.builtin .len, #[x], #[t']⟩, ty, pos, af, g⟩ :: rest) n ds f w :=
  st_run hg (by simp only [execOp, resolve, List.map_toArray, List.map_cons, List.map_nil, Fr_eval hb, hx]; simp [invoke, builtin, Builtin.len_, run_underlying hT, go_sem]) k
theorem s_lenL {A : Option Addr} {l m : Nat} {t' e : TypeId} (hT : P.underlying t' = some (.slice e)) (hg : Gd n ops f g = some true) (hb : inb n x = true) (hx : ev f x = .slice A l m)
    (k : WL md P ops Q rest n ds (upd f d (.int .i64 l)) w) : WL md P ops Q (⟨some d, .call ⟨.builtin .len, #[x], #[t']⟩, ty, pos, af, g⟩ :: rest) n ds f w :=
  st_run hg (by simp only [execOp, resolve, List.map_toArray, List.map_cons, List.map_nil, Fr_eval hb, hx]; simp [invoke, builtin, Builtin.len_, run_underlying hT, go_sem]) k
theorem s_ixS {s : ByteArray} {i : Int} {u : UInt8} (hT : P.underlying tx = some .string) (hg : Gd n ops f g = some true) (hb : inb n x = true) (hb' : inb n y = true) (hx : ev f x = .string s) (hy : ev f y = .int .i64 i)
    (h0 : 0 ≤ i) (hu : s[i.toNat]? = some u)
    (k : WL md P ops Q rest n ds (upd f d (.int .u8 u.toNat)) w) : WL md P ops Q (⟨some d, .index tx x y, ty, pos, af, g⟩ :: rest) n ds f w :=
  st_run hg (by simp only [execOp, Fr_eval hb, Fr_eval hb', hx, hy]; simp [Instr.index, asIntOf, run_underlying hT, h0, hu, go_sem]) k
end steps
section code
variable {P : Program} {Q : Exit → Act → World → Prop} {n : Nat} {ds : List Deferred} {f : Nat → Value} {w : World} {x y : Code} {c : Operand}
theorem c_if {t : Bool} (hb : inb n c = true) (hc : ev f c = .bool t) (h1 : t = true → x.wp P Q (Fr n ds f) w) (h2 : t = false → y.wp P Q (Fr n ds f) w) : (Code.cond c x y).wp P Q (Fr n ds f) w := by
  refine wp_cond (t := t) ((Fr_eval hb).trans hc) ?_
  cases t
  · exact h2 rfl
  · exact h1 rfl
theorem c_T (hb : inb n c = true) (hc : ev f c = .bool true) (h : x.wp P Q (Fr n ds f) w) : (Code.cond c x y).wp P Q (Fr n ds f) w := wp_cond_true ((Fr_eval hb).trans hc) h
theorem c_F (hb : inb n c = true) (hc : ev f c = .bool false) (h : y.wp P Q (Fr n ds f) w) : (Code.cond c x y).wp P Q (Fr n ds f) w := wp_cond_false ((Fr_eval hb).trans hc) h
theorem enter {F : FuncId} {fn : Func} {c : Code} {args : Array Value} {R : Ending → World → Prop} {n : Nat} (hf : P.funcs[F]? = some fn) (hb : fn.body = some c) (hn : fn.ntmps = n) (ha : args.size ≤ n)
    (h : c.wp P (bodyPost P fn R) (Fr n [] (fun i => args.getD i undef)) w) : Calls P F args w R := by
  refine calls_of_wp hf hb ?_
  have e : ({ tmps := args ++ Array.replicate (fn.ntmps - args.size) undef, defers := [] } : Act) = Fr n [] (fun i => args.getD i undef) := by
    simp only [Fr, Act.mk.injEq, and_true]
    apply Array.ext
    · simp; omega
    · intro i h1 h2
      simp only [Array.getElem_ofFn]
      by_cases hi : i < args.size
      · rw [Array.getElem_append_left hi]; simp [Array.getD, hi]
      · rw [Array.getElem_append_right (by omega)]; simp [Array.getD, hi]
  rw [e]; exact h
theorem then_n {K : Act → World → Prop} {a : Act} (h : K a w) : Exit.then K Q .normal a w := h
theorem then_x {K : Act → World → Prop} {a : Act} {i : Nat} (h : Q (.exit i) a w) : Exit.then K Q (.exit i) a w := h
theorem then_r {K : Act → World → Prop} {a : Act} (h : Q .ret a w) : Exit.then K Q .ret a w := h
theorem inb_n {a : Act} {i : Nat} (h : Q .normal a w) : Exit.inBlock i Q .normal a w := h
theorem inb_r {a : Act} {i : Nat} (h : Q .ret a w) : Exit.inBlock i Q .ret a w := h
theorem inb_x {a : Act} {i : Nat} (h : Q .normal a w) : Exit.inBlock i Q (.exit i) a w := by simpa [Exit.inBlock] using h
theorem inb_y {a : Act} {i j : Nat} (hne : j ≠ i) (h : Q (.exit j) a w) : Exit.inBlock i Q (.exit j) a w := by simpa [Exit.inBlock, hne] using h
theorem upd_keep' {f g : Nat → Value} {d : Nat} {v : Value} (e : f = g) (h : f d = v) : f = upd g d v := by subst e; exact upd_keep h
theorem w64 {x : Int} (h : -9223372036854775808 ≤ x ∧ x ≤ 9223372036854775807) : IntKind.i64.wrap x = x := IntWalk.i64_in x h
theorem ret1 {fn : Func} {R : Ending → World → Prop} {t : Nat} {v : Value} (hr : fn.results = #[.tmp t]) (hb : Nat.blt t n = true) (hv : f t = v) (h : R (.returned v) w) :
    bodyPost P fn R .ret (Fr n [] f) w := by
  refine bodyPost_ret (results_tmp hr _ P w) rfl ?_
  rw [Fr_getD _ _ _ _ (by simpa using hb), hv]; exact h
theorem nor1 {fn : Func} {R : Ending → World → Prop} {t : Nat} {v : Value} (hr : fn.results = #[.tmp t]) (hb : Nat.blt t n = true) (hv : f t = v) (h : R (.returned v) w) :
    bodyPost P fn R .normal (Fr n [] f) w := by
  refine bodyPost_end (results_tmp hr _ P w) rfl ?_
  rw [Fr_getD _ _ _ _ (by simpa using hb), hv]; exact h
theorem ret3 {fn : Func} {R : Ending → World → Prop} {t u s : Nat} {v v' v'' : Value} (hr : fn.results = #[.tmp t, .tmp u, .tmp s]) (hb : Nat.blt t n = true) (hb' : Nat.blt u n = true) (hb'' : Nat.blt s n = true)
    (hv : f t = v) (hv' : f u = v') (hv'' : f s = v'') (h : R (.returned (.tuple #[v, v', v''])) w) :
    bodyPost P fn R .ret (Fr n [] f) w := by
  refine bodyPost_ret ?_ rfl h
  rw [← hv, ← hv', ← hv'', ← Fr_getD n [] f t (by simpa using hb), ← Fr_getD n [] f u (by simpa using hb'), ← Fr_getD n [] f s (by simpa using hb'')]
  simp [results, hr]
theorem ret2 {fn : Func} {R : Ending → World → Prop} {t u : Nat} {v v' : Value} (hr : fn.results = #[.tmp t, .tmp u]) (hb : Nat.blt t n = true) (hb' : Nat.blt u n = true) (hv : f t = v) (hv' : f u = v') (h : R (.returned (.tuple #[v, v'])) w) :
    bodyPost P fn R .ret (Fr n [] f) w := by
  refine bodyPost_ret (results_tmp2 hr _ P w) rfl ?_
  rw [Fr_getD _ _ _ _ (by simpa using hb), Fr_getD _ _ _ _ (by simpa using hb'), hv, hv']; exact h
end code
end
section
variable {md : Md} {P : Program} {ops : Array Oper} {Q : Exit → Act → World → Prop} {n : Nat} {ds : List Deferred} {f : Nat → Value} {w : World} {rest : List Oper}
 {d : Nat} {ty : TypeId} {pos : String} {af : Array Edge} {g : Option (Nat × Bool)} {x y z : Operand} {a : Int} {b : Bool}
theorem mvI (hg : Gd n ops f g = some true) (hb : inb n x = true) (hx : ev f x = .int .i64 a) (k : WL md P ops Q rest n ds (upd f d (.int .i64 a)) w) : WL md P ops Q (⟨some d, .move x, ty, pos, af, g⟩ :: rest) n ds f w := s_mv hg hb hx k
theorem mvB (hg : Gd n ops f g = some true) (hb : inb n x = true) (hx : ev f x = .bool b) (k : WL md P ops Q rest n ds (upd f d (.bool b)) w) : WL md P ops Q (⟨some d, .move x, ty, pos, af, g⟩ :: rest) n ds f w := s_mv hg hb hx k
theorem asI (hg : Gd n ops f g = some true) (hb : inb n x = true) (hx : ev f x = .int .i64 a) (k : WL md P ops Q rest n ds (upd f d (.int .i64 a)) w) : WL md P ops Q (⟨some d, .assign x, ty, pos, af, g⟩ :: rest) n ds f w := s_as hg hb hx k
theorem asB (hg : Gd n ops f g = some true) (hb : inb n x = true) (hx : ev f x = .bool b) (k : WL md P ops Q rest n ds (upd f d (.bool b)) w) : WL md P ops Q (⟨some d, .assign x, ty, pos, af, g⟩ :: rest) n ds f w := s_as hg hb hx k
theorem pTB (hg : Gd n ops f g = some true) (hb : inb n x = true) (hb' : inb n y = true) (hc : ev f x = .bool true) (hx : ev f y = .bool b) (k : WL md P ops Q rest n ds (upd f d (.bool b)) w) : WL md P ops Q (⟨some d, .pick x y z, ty, pos, af, g⟩ :: rest) n ds f w := s_pkT hg hb hb' hc hx k
theorem pFB (hg : Gd n ops f g = some true) (hb : inb n x = true) (hb' : inb n z = true) (hc : ev f x = .bool false) (hx : ev f z = .bool b) (k : WL md P ops Q rest n ds (upd f d (.bool b)) w) : WL md P ops Q (⟨some d, .pick x y z, ty, pos, af, g⟩ :: rest) n ds f w := s_pkF hg hb hb' hc hx k
theorem Q1 {p : Prop} [Decidable p] : (decide p = true) = p := decide_eq_true_eq
theorem Q2 {p : Prop} {_ : Decidable p} : decide p = false ↔ ¬p := decide_eq_false_iff_not
theorem Q3 {a b : Bool} : (!a) = b ↔ a = !b := Bool.not_eq_eq_eq_not
theorem Q4 : (!true) = false := Bool.not_true
theorem Q5 : (!false) = true := Bool.not_false
theorem Q9 {S : Nat → Bool} {a b : Nat} (hS : S a = false) (h : S b = true → S a = true) : S b = false := by
 cases hb : S b with
 | false => rfl
 | true => exact absurd (h hb) (by rw [hS]; simp)
end
section
structure Kp (M : Nat → Prop) (w w' : World) : Prop where
  os : w'.os = w.os
  tape : w'.tape = w.tape
  output : w'.output = w.output
  size : w.heap.size ≤ w'.heap.size
  block : ∀ k, k < w.heap.size → ¬ M k → w'.heap[k]? = w.heap[k]?
theorem Kp.refl (M : Nat → Prop) (w : World) : Kp M w w := ⟨rfl, rfl, rfl, Nat.le_refl _, fun _ _ _ => rfl⟩
theorem Kp.trans {M : Nat → Prop} {a b c : World} (h : Kp M a b) (k : Kp M b c) : Kp M a c :=
  ⟨k.os.trans h.os, k.tape.trans h.tape, k.output.trans h.output, Nat.le_trans h.size k.size,
    fun i hi hm => (k.block i (Nat.lt_of_lt_of_le hi h.size) hm).trans (h.block i hi hm)⟩
theorem Kp.transN {M : Nat → Prop} {a b c : World} (h : Kp M a b) (k : Kp (fun _ => False) b c) : Kp M a c :=
  ⟨k.os.trans h.os, k.tape.trans h.tape, k.output.trans h.output, Nat.le_trans h.size k.size, fun i hi hm => (k.block i (Nat.lt_of_lt_of_le hi h.size) (fun e => e)).trans (h.block i hi hm)⟩
theorem Kp.trans' {M M' : Nat → Prop} {a b c : World} (h : Kp M a b) (k : Kp M' b c) (hm : ∀ i, i < a.heap.size → M' i → M i) : Kp M a c :=
  ⟨k.os.trans h.os, k.tape.trans h.tape, k.output.trans h.output, Nat.le_trans h.size k.size,
    fun i hi hn => (k.block i (Nat.lt_of_lt_of_le hi h.size) (fun e => hn (hm i hi e))).trans (h.block i hi hn)⟩
theorem Kp.mono {M M' : Nat → Prop} {w w' : World} (h : Kp M w w') (hm : ∀ i, i < w.heap.size → M i → M' i) : Kp M' w w' :=
  ⟨h.os, h.tape, h.output, h.size, fun i hi hn => h.block i hi (fun e => hn (hm i hi e))⟩
theorem Kp.below {M : Nat → Prop} {B : Nat} {w w' : World} (h : Kp M w w') (hB : B ≤ w.heap.size) (hm : ∀ i, i < w.heap.size → M i → B ≤ i) : Below B w w' :=
  ⟨h.os, h.tape, h.output, h.size, fun i hi => h.block i (by omega) (fun e => by have := hm i (by omega) e; omega)⟩
theorem Kp.of_below {B : Nat} {w w' : World} (h : Below B w w') : Kp (fun k => B ≤ k) w w' :=
  ⟨h.os, h.tape, h.output, h.size, fun i _ hn => h.block i (by omega)⟩
theorem Kp.of_new {w w' : World} (h : Below w.heap.size w w') : Kp (fun _ => False) w w' :=
  ⟨h.os, h.tape, h.output, h.size, fun i hi _ => h.block i hi⟩
theorem Kp.of_grown {w w' : World} {row : Option Nat} (h : w.grownBy w' row) : Kp (fun k => some k = row) w w' :=
  ⟨h.os, h.tape, h.output, h.size, fun i hi hn => h.block i hi hn⟩
theorem Kp.drew {M : Nat → Prop} {w w' : World} (h : Kp M w w') : Kp M w w'.drew := ⟨h.os, h.tape, h.output, h.size, h.block⟩
theorem Kp.cell {M : Nat → Prop} {w w' : World} (h : Kp M w w') {p : Addr} {v : Value} (hc : w.cell? p = some v) (hm : ¬ M p.block) : w'.cell? p = some v :=
  (World.cell?_of_block (h.block p.block (World.block_lt_of_cell? w p hc) hm)).trans hc
def CellsAt (w : World) (p : Addr) (cs : List Value) : Prop := ∀ j v, cs[j]? = some v → w.cell? (p.add j) = some v
def Own (w : World) (b : Nat) (T : TypeId) (cs : List Value) : Prop := w.heap[b]? = some (.cells cs.toArray T (0, 0))
theorem add_block (p : Addr) (j : Nat) : (p.add j).block = p.block := by unfold Addr.add; split <;> rfl
theorem add_add (p : Addr) (i j : Nat) : (p.add i).add j = p.add (i + j) := by
  unfold Addr.add
  by_cases hi : i = 0
  · subst hi; simp
  · by_cases hj : j = 0
    · subst hj; simp
    · rw [if_neg hi, if_neg hj, if_neg (by omega)]; simp [Nat.add_assoc]
theorem add_lit (b j : Nat) : Addr.add ⟨b, 0, none⟩ j = ⟨b, j, none⟩ := by unfold Addr.add; split <;> simp_all
theorem CellsAt.kp {M : Nat → Prop} {w w' : World} {p : Addr} {cs : List Value} (h : CellsAt w p cs) (k : Kp M w w') (hm : ¬ M p.block) : CellsAt w' p cs :=
  fun j v hv => k.cell (h j v hv) (by rw [add_block]; exact hm)
theorem CellsAt.sub {w : World} {p : Addr} {cs : List Value} (h : CellsAt w p cs) (i : Nat) (cs' : List Value) (hs : ∀ j v, cs'[j]? = some v → cs[i + j]? = some v) : CellsAt w (p.add i) cs' :=
  fun j v hv => by rw [add_add]; exact h _ _ (hs j v hv)
theorem Own.kp {M : Nat → Prop} {w w' : World} {b : Nat} {T : TypeId} {cs : List Value} (h : Own w b T cs) (k : Kp M w w') (hm : ¬ M b) : Own w' b T cs := by
  have hlt : b < w.heap.size := (Array.getElem?_eq_some_iff.1 h).1
  exact (k.block b hlt hm).trans h
theorem Own.lt {w : World} {b : Nat} {T : TypeId} {cs : List Value} (h : Own w b T cs) : b < w.heap.size := (Array.getElem?_eq_some_iff.1 h).1
theorem Own.cells {w : World} {b : Nat} {T : TypeId} {cs : List Value} (h : Own w b T cs) : CellsAt w ⟨b, 0, none⟩ cs := by
  intro j v hv
  rw [add_lit]
  simp only [World.cell?]
  rw [show w.heap[b]? = _ from h]
  simpa using hv
theorem Own.get {w : World} {b : Nat} {T : TypeId} {cs : List Value} (h : Own w b T cs) (j : Nat) {v : Value} (hv : cs[j]? = some v) : w.cell? (Addr.add ⟨b, 0, none⟩ j) = some v := h.cells j v hv
theorem kp_alloc (w : World) (o : Obj) : Kp (fun _ => False) w (w.alloc o) := ⟨rfl, rfl, rfl, by simp, fun k hk _ => Below.heap_alloc w o k hk⟩
theorem own_alloc (w : World) (T : TypeId) (cs : List Value) : Own (w.alloc (.cells cs.toArray T)) w.heap.size T cs := heap_alloc_new w _
theorem size_alloc (w : World) (o : Obj) : (w.alloc o).heap.size = w.heap.size + 1 := by simp
def spl (cs : List Value) (off : Nat) (new : List Value) : List Value := cs.take off ++ new ++ cs.drop (off + new.length)
def agB : TypeDesc → Bool | .struct _ => true | .array _ _ => true | _ => false
def isOne (P : Program) (T : TypeId) : Prop := ∃ d, P.underlying T = some d ∧ agB d = false
def isAg (P : Program) (T : TypeId) (k : Nat) : Prop := ∃ d i, P.underlying T = some d ∧ agB d = true ∧ P.info? T = some i ∧ i.size = k
def sizeIs (P : Program) (T : TypeId) (k : Nat) : Prop := ∃ i, P.info? T = some i ∧ i.size = k
def fieldIs (P : Program) (T : TypeId) (fi off : Nat) : Prop := ∃ fs fld i, P.underlying T = some (.struct fs) ∧ fs[fi]? = some fld ∧ fld.offset = off ∧ P.info? fld.type = some i ∧ i.size ≠ 0
def isGo (P : Program) (F : FuncId) : Prop := ∃ fn, P.funcs[F]? = some fn ∧ fn.name ≠ "runtime.NumGoroutine" ∧ ¬ fn.body = none
theorem isGo_of {P : Program} {F : FuncId} {fn : Func} (h : P.funcs[F]? = some fn) (hn : (fn.name == "runtime.NumGoroutine") = false) (hb : fn.body.isNone = false) : isGo P F :=
  ⟨fn, h, by simpa using hn, by intro e; rw [e] at hb; simp at hb⟩
section steps
variable {md : Md} {P : Program} {ops : Array Oper} {Q : Exit → Act → World → Prop} {n : Nat} {ds : List Deferred} {f : Nat → Value} {w w' : World} {rest : List Oper}
  {d : Nat} {ty : TypeId} {pos : String} {af : Array Edge} {g : Option (Nat × Bool)} {v : Value} {x y z : Operand} {T T0 : TypeId}
theorem s_box {cs : List Value} (hg : Gd n ops f g = some true) (hb : inb n x = true) (hx : ev f x = v) (hv : v.cells = cs.toArray)
    (k : ∀ b w', b = w.heap.size → Own w' b T cs → Kp (fun _ => False) w w' → w'.heap.size = w.heap.size + 1 → WL md P ops Q rest n ds (upd f d (.pointer (some ⟨b, 0, none⟩))) w') :
    WL md P ops Q (⟨some d, .box T x, ty, pos, af, g⟩ :: rest) n ds f w :=
  st_run hg (w' := w.alloc (.cells cs.toArray T)) (by simp only [execOp, Fr_eval hb, hx]; simp [Instr.box, newVar, newRow, go_sem]; exact congrArg (fun c => w.alloc (.cells c T)) hv) (k _ _ rfl (own_alloc w T cs) (kp_alloc w _) (size_alloc w _))
theorem s_alloc {cs : List Value} (hz : (P.info? T).bind (·.zero) = some v) (hg : Gd n ops f g = some true) (hv : v.cells = cs.toArray)
    (k : ∀ b w', b = w.heap.size → Own w' b T cs → Kp (fun _ => False) w w' → w'.heap.size = w.heap.size + 1 → WL md P ops Q rest n ds (upd f d (.pointer (some ⟨b, 0, none⟩))) w') :
    WL md P ops Q (⟨some d, .alloc T, ty, pos, af, g⟩ :: rest) n ds f w := by
  obtain ⟨i, hi, hzi⟩ : ∃ i, P.info? T = some i ∧ i.zero = some v := by
    cases hi : P.info? T with
    | none => simp [hi] at hz
    | some i => exact ⟨i, rfl, by simpa [hi] using hz⟩
  exact st_run hg (w' := w.alloc (.cells cs.toArray T)) (by simp only [execOp]; simp [Instr.alloc, zeroValue, typeInfo, hi, hzi, newVar, newRow, go_sem]; exact congrArg (fun c => w.alloc (.cells c T)) hv) (k _ _ rfl (own_alloc w T cs) (kp_alloc w _) (size_alloc w _))
theorem run_val {s : Sem Value} (h : s.run P w = .ok v w') : (do pure (Next.value (← s)) : Sem Next).run P w = .ok (.value v) w' := by simp [h, go_sem]
theorem run_unit {s : Sem Unit} (h : s.run P w = .ok () w') : (do s; pure Next.skip : Sem Next).run P w = .ok .skip w' := by simp [h, go_sem]
theorem run_load1 {q : Addr} (hT : isOne P T) (hc : w.cell? q = some v) : (loadVar T q).run P w = .ok v w := by
  obtain ⟨d, hd, hm⟩ := hT
  cases d <;> simp [agB] at hm <;> simp [loadVar, isAgg, run_underlying hd, hc, go_sem]
theorem run_loadA {q : Addr} {sz : Nat} {cs : List Value} (hT : isAg P T sz) (hl : cs.length = sz) (hc : CellsAt w q cs) : (loadVar T q).run P w = .ok (.agg cs.toArray) w := by
  subst hl
  obtain ⟨d, i, hd, hm, hi, hs⟩ := hT
  have this : (loadCellsFrom q 0 cs.length #[]).run P w = .ok cs.toArray w := run_loadCells_list (P := P) w q cs hc
  cases d <;> simp [agB] at hm <;> simp [loadVar, isAgg, run_underlying hd, sizeOf, typeInfo, hi, hs, this, go_sem]
theorem s_ld1 {q : Addr} (hT : isOne P T) (hg : Gd n ops f g = some true) (hb : inb n x = true) (hx : ev f x = .pointer (some q)) (hc : w.cell? q = some v)
    (k : WL md P ops Q rest n ds (upd f d v) w) : WL md P ops Q (⟨some d, .load T x, ty, pos, af, g⟩ :: rest) n ds f w :=
  st_run hg (by simp only [execOp, Fr_eval hb, hx]; exact run_val (show (loadVar T q).run P w = _ from run_load1 hT hc)) k
theorem s_ldA {q : Addr} {sz : Nat} {cs : List Value} (hT : isAg P T sz) (hg : Gd n ops f g = some true) (hb : inb n x = true) (hx : ev f x = .pointer (some q)) (hc : CellsAt w q cs) (hl : cs.length = sz)
    (k : WL md P ops Q rest n ds (upd f d (.agg cs.toArray)) w) : WL md P ops Q (⟨some d, .load T x, ty, pos, af, g⟩ :: rest) n ds f w :=
  st_run hg (by simp only [execOp, Fr_eval hb, hx]; exact run_val (show (loadVar T q).run P w = _ from run_loadA hT hl hc)) k
theorem s_st {b sz : Nat} (off : Nat) {cs cs' new : List Value} (hT : sizeIs P T sz) (hg : Gd n ops f g = some true) (hb : inb n x = true) (hb' : inb n y = true)
    (hx : ev f x = .pointer (some (Addr.add ⟨b, 0, none⟩ off))) (hy : ev f y = v) (hv : v.cells = new.toArray) (h1 : new.all (·.oneCell') = true) (ho : Own w b T0 cs) (hsz : new.length = sz) (hl : Nat.ble (off + new.length) cs.length = true) (hs : spl cs off new = cs')
    (k : ∀ w', Own w' b T0 cs' → Kp (fun k => k = b) w w' → w'.heap.size = w.heap.size → WL md P ops Q rest n ds f w') :
    WL md P ops Q (⟨none, .store T x y, ty, pos, af, g⟩ :: rest) n ds f w := by
  subst hsz
  obtain ⟨i, hi, hsz⟩ := hT
  replace hl : off + new.length ≤ cs.length := Nat.le_of_ble_eq_true hl
  have hst := run_storeCells_at P b off T0 new 0 cs.toArray w ho (by simpa using hl) (fun u hu => by rw [List.all_eq_true] at h1; exact h1 u hu)
  simp only [Nat.add_zero] at hst
  refine st_unit hg (w' := w.setRow b (cs.take off ++ new ++ cs.drop (off + new.length)).toArray) ?_ (k _ ?_ ?_ ?_)
  · simp only [execOp, Fr_eval hb, Fr_eval hb', hx, hy, add_lit]
    refine run_unit (show (storeVar T ⟨b, off, none⟩ v).run P w = _ from ?_)
    unfold storeVar
    rw [hv]
    simp only [sizeOf, typeInfo, Sem.run_bind, run_program, Result.andThen_ok, hi, Sem.run_pure, hsz, List.size_toArray, ne_eq, not_true_eq_false, if_false]
    exact hst
  · subst hs
    exact setRow_heap w b _ _ T0 _ ho
  · exact ⟨rfl, rfl, rfl, by simp [World.setRow], fun j hj hn => setRow_other w b j _ hn⟩
  · simp [World.setRow]
theorem s_fa {q : Addr} {fi off : Nat} (hF : fieldIs P T fi off) (hg : Gd n ops f g = some true) (hb : inb n x = true) (hx : ev f x = .pointer (some q))
    (k : WL md P ops Q rest n ds (upd f d (.pointer (some (q.add off)))) w) : WL md P ops Q (⟨some d, .fieldAddr T x fi, ty, pos, af, g⟩ :: rest) n ds f w := by
  obtain ⟨fs, fld, i, hu, hf, ho, hi, hs⟩ := hF
  exact st_run hg (by simp only [execOp, Fr_eval hb, hx]; simp [Instr.fieldAt, Instr.sureAddr, run_underlying hu, hf, fieldPlace, sizeOf, typeInfo, hi, hs, ho, go_sem]) k
theorem s_ia {q : Addr} {l m j size : Nat} {e : TypeId} {i : Int} (hu : P.underlying T = some (.slice e)) (hsz : sizeIs P e size) (hg : Gd n ops f g = some true) (hb : inb n x = true) (hb' : inb n y = true)
    (hx : ev f x = .slice (some q) l m) (hy : ev f y = .int .i64 i) (hi : i = (j : Int)) (hl : j < l)
    (k : WL md P ops Q rest n ds (upd f d (.pointer (some (q.add (j * size))))) w) : WL md P ops Q (⟨some d, .indexAddr T x y, ty, pos, af, g⟩ :: rest) n ds f w := by
  obtain ⟨ie, hie, hs⟩ := hsz
  subst hi
  exact st_run hg (by simp only [execOp, Fr_eval hb, Fr_eval hb', hx, hy]; simp [Instr.indexAt, asIntOf, run_underlying hu, sizeOf, typeInfo, hie, hs, hl, go_sem]) k
theorem s_iaA {q : Addr} {l j size : Nat} {e : TypeId} {i : Int} (hu : P.underlying T = some (.array l e)) (hsz : sizeIs P e size) (hg : Gd n ops f g = some true) (hb : inb n x = true) (hb' : inb n y = true)
    (hx : ev f x = .pointer (some q)) (hy : ev f y = .int .i64 i) (hi : i = (j : Int)) (hl : j < l)
    (k : WL md P ops Q rest n ds (upd f d (.pointer (some (q.add (j * size))))) w) : WL md P ops Q (⟨some d, .indexAddr T x y, ty, pos, af, g⟩ :: rest) n ds f w := by
  obtain ⟨ie, hie, hs⟩ := hsz
  subst hi
  exact st_run hg (by simp only [execOp, Fr_eval hb, Fr_eval hb', hx, hy]; simp [Instr.indexAt, Instr.sureAddr, asIntOf, run_underlying hu, sizeOf, typeInfo, hie, hs, hl, go_sem]) k
theorem s_bs1 {cs : List Value} {e : TypeId} {ie : TypeInfo} {z : Value} (hu : P.underlying T = some (.slice e)) (hie : P.info? e = some ie) (hz : ie.zero = some z) (hsz : ie.size = cs.length) (hzs : z.cells.size = cs.length) (hpos : 0 < cs.length ∧ cs.length ≤ 100)
    (hg : Gd n ops f g = some true) (hb : inb n x = true) (hx : ev f x = v) (hv : v.cells = cs.toArray)
    (k : ∀ b w', b = w.heap.size → Own w' b e cs → Kp (fun _ => False) w w' → w'.heap.size = w.heap.size + 1 → WL md P ops Q rest n ds (upd f d (.slice (some ⟨b, 0, none⟩) 1 1)) w') :
    WL md P ops Q (⟨some d, .buildSlice T 1 #[(0, x)], ty, pos, af, g⟩ :: rest) n ds f w := by
  refine st_run hg (w' := w.alloc (.cells cs.toArray e)) (v := .slice (some ⟨w.heap.size, 0, none⟩) 1 1) ?_ (k _ _ rfl (own_alloc w e cs) (kp_alloc w _) (size_alloc w _))
  have hfold : ∀ (L : List Value) (A : Array Value), A.size = L.length → ((L.toArray.zipIdx).foldl (fun cs (c, j) => cs.setIfInBounds (0 + j) c) A) = L.toArray := by
    intro L A hA
    have key : ∀ (R : List Value) (i : Nat) (B : Array Value), i + R.length = B.size → ((R.zipIdx i).foldl (fun (cs : Array Value) (x : Value × Nat) => cs.setIfInBounds x.2 x.1) B) = (B.toList.take i ++ R).toArray := by
      intro R
      induction R with
      | nil => intro i B hB; simp at hB; subst hB; rw [← Array.length_toList, List.take_length]; simp
      | cons r R ih =>
        intro i B hB
        simp only [List.zipIdx_cons, List.foldl_cons]
        rw [ih (i + 1) _ (by simp at hB ⊢; omega)]
        congr 1
        have hi : i < B.toList.length := by simp at hB ⊢; omega
        simp only [Array.toList_setIfInBounds, List.take_set]
        rw [List.take_succ_eq_append_getElem hi, List.set_append_right _ _ (by simp; omega)]
        simp
        have : i - min i B.size = 0 := by simp at hi; omega
        simp [this]
    have := key L 0 A (by simpa using hA.symm)
    simpa using this
  have hfill : Instr.fill (fun i => some (i * cs.length, cs.length)) ((Array.range (1 * cs.length)).map (z.cells[· % z.cells.size]!)) [(0, v)] = some cs.toArray := by
    simp only [Instr.fill, hv, Nat.zero_mul]
    rw [if_neg (by simp)]
    congr 1
    have := hfold cs ((Array.range (1 * cs.length)).map (z.cells[· % z.cells.size]!)) (by simp)
    simpa using this
  simp only [execOp, List.map_toArray, List.map_cons, List.map_nil, Fr_eval hb, hx]
  rw [← hsz] at hfill
  exact run_val (run_buildSlice w T e 1 _ cs.toArray ie z hu hie hz (by rw [hsz]; omega) (by rw [hsz]; omega) hfill)
theorem s_app {base m c l size bytes : Nat} {e : TypeId} {i : TypeInfo} {z v0 : Value} {xs news : List Value} {a : Addr} (ht : P.underlying T = some (.slice e)) (hi : P.info? e = some i) (hz : i.zero = some z)
    (hsize : i.size = size) (hby : i.bytes = bytes) (hzs : z.cells.size = size) (hsz : 0 < size)
    (hg : Gd n ops f g = some true) (hb : inb n x = true) (hb' : inb n y = true) (hx : ev f x = v0) (hy : ev f y = .slice (some a) m c)
    (hown : w.ownsRow base e size v0 l xs) (hl : news.length = m * size) (hnews : CellsAt w a news) (h1 : news.all (·.oneCell') = true)
    (hbytes : (l + m) * bytes ≤ 140737488355328) (hm : l + m ≤ 1000000) (hbase : base ≤ w.heap.size)
    (k : ∀ v' w', w'.ownsRow base e size v' (l + m) (xs ++ news) → w.grownBy w' v0.ownBlock → WL md P ops Q rest n ds (upd f d v') w') :
    WL md P ops Q (⟨some d, .call ⟨.builtin .append, #[x, y], #[T, T]⟩, ty, pos, af, g⟩ :: rest) n ds f w := by
  obtain ⟨v', w', hr, ho, hgr, _⟩ := run_append_own (P := P) w base T ty e i z size bytes ht hi hz hsize hby hzs hsz v0 l xs hown a m c news hl hnews (fun u hu => by rw [List.all_eq_true] at h1; exact h1 u hu) (by unfold maxLen; omega) hbytes hbase
  exact st_run hg (v := v') (w' := w') (by simp only [execOp, resolve, List.map_toArray, List.map_cons, List.map_nil, Fr_eval hb, Fr_eval hb', hx, hy]; simp only [Sem.run_bind, Sem.run_pure, Result.andThen_ok, invoke, builtin, hr]) (k v' w' ho hgr)
theorem s_call {F : FuncId} {xs : Array Operand} {vs : Array Value} {at' : Array TypeId} {R : Ending → World → Prop} (hF : isGo P F)
    (hg : Gd n ops f g = some true) (hc : Calls P F vs w R) (hb : xs.all (inb n) = true) (hx : xs.map (ev f) = vs)
    (k : ∀ e w', R e w' → ∃ v, e = .returned v ∧ WL md P ops Q rest n ds (upd f d v) w') :
    WL md P ops Q (⟨some d, .call ⟨.value (.func F), xs, at'⟩, ty, pos, af, g⟩ :: rest) n ds f w := by
  obtain ⟨fn, hF, hn, hbd⟩ := hF
  have he : xs.map (Fr n ds f).eval = xs.map (ev f) := by
    apply Array.map_congr_left
    intro a ha
    exact Fr_eval (by rw [Array.all_eq_true_iff_forall_mem] at hb; exact hb a ha)
  refine st_enter hg (F := F) (args := vs) (w' := w) ?_ (hc.mono k)
  simp only [execOp, resolve, he, hx]
  rw [show (Fr n ds f).eval (.func F) = .func (.func F) #[] #[] from rfl]
  simp [Deferred.ofValue, invoke, callFunc, hF, hn, hbd, go_sem]
theorem s_callv {F : FuncId} {xs : Array Operand} {vs fi ca : Array Value} {at' : Array TypeId} {R : Ending → World → Prop} (hF : isGo P F)
    (hg : Gd n ops f g = some true) (hbx : inb n x = true) (hxf : ev f x = .func (.func F) fi ca) (hc : Calls P F (fi ++ vs ++ ca) w R) (hb : xs.all (inb n) = true) (hx : xs.map (ev f) = vs)
    (k : ∀ e w', R e w' → ∃ v, e = .returned v ∧ WL md P ops Q rest n ds (upd f d v) w') :
    WL md P ops Q (⟨some d, .call ⟨.value x, xs, at'⟩, ty, pos, af, g⟩ :: rest) n ds f w := by
  obtain ⟨fn, hF, hn, hbd⟩ := hF
  have he : xs.map (Fr n ds f).eval = xs.map (ev f) := by
    apply Array.map_congr_left
    intro a ha
    exact Fr_eval (by rw [Array.all_eq_true_iff_forall_mem] at hb; exact hb a ha)
  refine st_enter hg (F := F) (args := fi ++ vs ++ ca) (w' := w) ?_ (hc.mono k)
  simp only [execOp, resolve, he, hx, Fr_eval hbx, hxf]
  simp [Deferred.ofValue, invoke, callFunc, hF, hn, hbd, go_sem]
end steps
end
section
theorem upon_mono {P : Program} {o : Oper} {a : Act} {nx nx' : Act → World → Prop} {Q Q' : Exit → Act → World → Prop} (hn : ∀ a w, nx a w → nx' a w) (hq : ∀ e a w, e ≠ .normal → Q e a w → Q' e a w) :
    ∀ r, o.upon P a nx Q r → o.upon P a nx' Q' r := by
  intro r h
  have hl : LetsOut Q → LetsOut Q' := fun ⟨a, w, h⟩ => ⟨a, w, hq _ _ _ (by simp) h⟩
  cases r with
  | ok x w =>
    cases x <;> simp only [Oper.upon] at h ⊢ <;> first
      | exact hn _ _ h
      | exact h.elim
      | (refine h.mono ?_
         intro e w' he
         cases e with
         | returned v => exact hn _ _ he
         | panicked c => exact hq _ _ _ (by simp) he
         | outgrown => exact hl he)
      | exact h.mono fun v w' he => hn _ _ he
  | halt x w =>
    cases x <;> simp only [Oper.upon] at h ⊢ <;> first
      | exact hq _ _ _ (by simp) h
      | exact h
def alw (e : Edge) : Bool := match e.ground with | .textOnly _ => false | .gcOnly _ => false | _ => true
theorem binds_alw {m : Region.Mode} {e : Edge} (h : alw e = true) : Region.binds m e = true := by
  unfold alw at h; unfold Region.binds; split <;> simp_all
def ins (S : Nat → Bool) (i : Nat) : Nat → Bool := fun j => j == i || S j
def Aft (n : Nat) (ds : List Deferred) (I : (Nat → Bool) → (Nat → Value) → World → Prop) (Q : Exit → Act → World → Prop) (S : Nat → Bool) : Exit → Act → World → Prop
  | .normal, a, w => ∃ f, a = Fr n ds f ∧ I S f w
  | e, a, w => Q e a w
theorem gDs (l : Array Bool) (i j : Nat) (d : Bool) (h : j < l.size) : (l.setIfInBounds i true).getD j d = (j == i || l.getD j d) := by
  rw [Array.getD_eq_getD_getElem?, Array.getD_eq_getD_getElem?, Array.getElem?_setIfInBounds]
  by_cases e : i = j
  · subst e; simp [h]
  · have e' : (j == i) = false := by simpa using fun h => e h.symm
    simp [e, e']
theorem gDx (l : Array Bool) (i : Nat) (h : i < l.size) : l.getD i true = l.getD i false := by
  rw [Array.getD_eq_getD_getElem?, Array.getD_eq_getD_getElem?]; simp [h]
theorem gDo (l : Array Bool) (i : Nat) (h : ¬ i < l.size) : l.getD i false = false := by
  rw [Array.getD_eq_getD_getElem?, Array.getElem?_eq_none (by omega)]; rfl
section draw
variable {P : Program} {ops : Array Oper} {Q : Exit → Act → World → Prop} {n : Nat} {ds : List Deferred}
theorem go_acc (m : Region.Mode) (ops : Array Oper) : ∀ (k t : Nat) (l : Array Bool) (acc : List Nat), Region.linearise.go m ops k t l acc = acc.reverse ++ Region.linearise.go m ops k t l [] := by
  intro k
  induction k with
  | zero => intro t l acc; simp [Region.linearise.go]
  | succ k ih =>
    intro t l acc
    simp only [Region.linearise.go]
    split
    · rw [ih _ _ (_ :: acc), ih _ _ [_]]; simp
    · simp
theorem wp_orders (I : (Nat → Bool) → (Nat → Value) → World → Prop) (m : Region.Mode) (rk : Nat → Nat)
    (hrk : ∀ i o, ops[i]? = some o → ∀ e ∈ o.after, Region.binds m e = true → e.on < ops.size ∧ rk e.on < rk i)
    (hstep : ∀ i o, ops[i]? = some o → ∀ S f w, S i = false → (∀ e ∈ o.after, alw e = true → S e.on = true) → I S f w → WL .plain P ops (Aft n ds I Q (ins S i)) [o] n ds f w)
    (hend : ∀ S f w, (∀ i, i < ops.size → S i = true) → I S f w → Q .normal (Fr n ds f) w) :
    ∀ (k t : Nat) (l : Array Bool) (f : Nat → Value) (w : World), l.size = ops.size → ((List.range ops.size).filter fun i => !l.getD i true).length = k →
      I (fun i => l.getD i false) f w → wpOps P ops Q (Region.linearise.go m ops k t l []) (Fr n ds f) w := by
  intro k
  induction k with
  | zero =>
    intro t l f w hl hk hI
    simp only [Region.linearise.go, List.reverse_nil, wpOps]
    refine hend _ _ _ ?_ hI
    intro i hi
    rw [List.length_eq_zero_iff, List.filter_eq_nil_iff] at hk
    have := hk i (by simpa using hi)
    rw [gDx l i (by omega)] at this
    simpa using this
  | succ k ih =>
    intro t l f w hl hk hI
    simp only [Region.linearise.go]
    have hne : ((List.range ops.size).filter fun i => !l.getD i true && ((ops[i]?).map (·.after.all fun e => !Region.binds m e || l.getD e.on false)).getD false) ≠ [] := by
      obtain ⟨i0, hi0⟩ : ∃ i, i ∈ ((List.range ops.size).filter fun i => !l.getD i true) := by
        cases hc : ((List.range ops.size).filter fun i => !l.getD i true) with
        | nil => rw [hc] at hk; simp at hk
        | cons a b => exact ⟨a, by simp⟩
      have key : ∀ r i, rk i = r → i ∈ ((List.range ops.size).filter fun i => !l.getD i true) →
          ∃ j, j ∈ ((List.range ops.size).filter fun i => !l.getD i true && ((ops[i]?).map (·.after.all fun e => !Region.binds m e || l.getD e.on false)).getD false) := by
        intro r
        induction r using Nat.strongRecOn with
        | ind r ihr =>
          intro i hr hi
          simp only [List.mem_filter, List.mem_range] at hi
          obtain ⟨hlt, hu⟩ := hi
          obtain ⟨o, ho⟩ : ∃ o, ops[i]? = some o := ⟨ops[i], by simp [hlt]⟩
          by_cases hall : (o.after.all fun e => !Region.binds m e || l.getD e.on false) = true
          · exact ⟨i, by simp only [List.mem_filter, List.mem_range, ho, Option.map_some, Option.getD_some, hu, hall, Bool.and_self, and_true]; exact hlt⟩
          · obtain ⟨e, he, hbe⟩ : ∃ e ∈ o.after, ¬ ((!Region.binds m e || l.getD e.on false) = true) := by
              rw [Array.all_eq_true_iff_forall_mem] at hall
              apply Classical.byContradiction
              intro hn
              exact hall fun x hx => Classical.byContradiction fun hx' => hn ⟨x, hx, hx'⟩
            simp only [Bool.or_eq_true, Bool.not_eq_true', not_or, Bool.not_eq_false, Bool.not_eq_true] at hbe
            obtain ⟨h1, h2⟩ := hrk i o ho e he hbe.1
            refine ihr (rk e.on) (by omega) e.on rfl ?_
            simp only [List.mem_filter, List.mem_range]
            refine ⟨h1, ?_⟩
            rw [gDx l _ (by omega), hbe.2]; rfl
      obtain ⟨j, hj⟩ := key _ i0 rfl hi0
      intro e; rw [e] at hj; simp at hj
    generalize hrs : ((List.range ops.size).filter fun i => !l.getD i true && ((ops[i]?).map (·.after.all fun e => !Region.binds m e || l.getD e.on false)).getD false) = rs at hne
    have hlen : t % rs.length < rs.length := Nat.mod_lt _ (List.length_pos_iff.2 hne)
    rw [List.getElem?_eq_getElem hlen]
    simp only
    rw [go_acc]
    have hmem : rs[t % rs.length] ∈ rs := List.getElem_mem hlen
    generalize rs[t % rs.length] = i at hmem
    rw [← hrs] at hmem
    simp only [List.mem_filter, List.mem_range, Bool.and_eq_true] at hmem
    obtain ⟨hlt, hu, hr⟩ := hmem
    obtain ⟨o, ho⟩ : ∃ o, ops[i]? = some o := ⟨ops[i], by simp [hlt]⟩
    have hSi : l.getD i false = false := by
      rw [gDx l _ (by omega)] at hu
      simpa using hu
    have hdeps : ∀ e ∈ o.after, alw e = true → l.getD e.on false = true := by
      intro e he hal
      rw [ho] at hr
      simp only [Option.map_some, Option.getD_some, Array.all_eq_true_iff_forall_mem] at hr
      have := hr e he
      rw [binds_alw hal] at this
      simpa using this
    have hs := hstep i o ho (fun i => l.getD i false) f w hSi hdeps hI
    have hnext : ∀ f w, I (ins (fun i => l.getD i false) i) f w → wpOps P ops Q (Region.linearise.go m ops k (t / rs.length) (l.setIfInBounds i true) []) (Fr n ds f) w := by
      intro f w hI
      refine ih _ _ _ _ (by simpa using hl) ?_ ?_
      · have e1 : ((List.range ops.size).filter fun j => !(l.setIfInBounds i true).getD j true) = ((List.range ops.size).filter fun j => !l.getD j true).filter fun j => !(j == i) := by
          rw [List.filter_filter]
          apply List.filter_congr
          intro j hj
          simp only [List.mem_range] at hj
          rw [gDs l i j true (by omega)]
          cases j == i <;> simp
        rw [e1]
        have hnd : ((List.range ops.size).filter fun j => !l.getD j true).Nodup := List.Pairwise.filter _ List.nodup_range
        have hin : i ∈ ((List.range ops.size).filter fun j => !l.getD j true) := by simp only [List.mem_filter, List.mem_range]; exact ⟨hlt, hu⟩
        have e2 : (((List.range ops.size).filter fun j => !l.getD j true).filter fun j => !(j == i)) = ((List.range ops.size).filter fun j => !l.getD j true).erase i := by
          rw [hnd.erase_eq_filter]; apply List.filter_congr; intro j _; rfl
        rw [e2, List.length_erase_of_mem hin, hk]; rfl
      · have : (fun j => (l.setIfInBounds i true).getD j false) = ins (fun i => l.getD i false) i := by
          funext j
          simp only [ins]
          by_cases hj : j < ops.size
          · exact gDs l i j false (by omega)
          · have e' : (j == i) = false := by simp; omega
            rw [gDo _ _ (by simpa [hl] using hj), e', gDo _ _ (by omega)]; rfl
        rw [this]; exact hI
    simp only [List.reverse_cons, List.reverse_nil, List.nil_append, List.singleton_append, wpOps, ho]
    replace hs := hs.out
    simp only [wpM] at hs
    unfold wpList at hs
    split
    · rename_i hw
      rw [if_pos hw] at hs
      rcases hs with hs | ⟨ha, hl⟩
      · refine .inl ?_
        unfold Oper.wp at hs ⊢
        refine upon_mono ?_ ?_ _ hs
        · rintro a w ⟨f', rfl, hI'⟩; exact hnext f' w hI'
        · intro e a w hne' h; cases e <;> first | exact absurd rfl hne' | exact h
      · exact .inr ⟨ha, by obtain ⟨a, w, h⟩ := hl; exact ⟨a, w, h⟩⟩
    · rename_i hw
      rw [if_neg hw] at hs
      obtain ⟨f', he, hI'⟩ := hs
      rw [he]; exact hnext f' w hI'
theorem c_draw {id : Nat} {f : Nat → Value} {w : World} (I : (Nat → Bool) → (Nat → Value) → World → Prop) (rk : Nat → Nat)
    (hrk : ∀ m, ∀ i o, ops[i]? = some o → ∀ e ∈ o.after, Region.binds m e = true → e.on < ops.size ∧ (if m = .gc then rk else fun i => i) e.on < (if m = .gc then rk else fun i => i) i)
    (h0 : I (fun _ => false) f w.drew)
    (hstep : ∀ i o, ops[i]? = some o → ∀ S f w, S i = false → (∀ e ∈ o.after, alw e = true → S e.on = true) → I S f w → WL .plain P ops (Aft n ds I Q (ins S i)) [o] n ds f w)
    (hend : ∀ S f w, (∀ i, i < ops.size → S i = true) → I S f w → Q .normal (Fr n ds f) w) :
    (Code.region id ops true).wp P Q (Fr n ds f) w := by
  refine wp_region_draw fun t => ?_
  have hall : ∀ m t, wpOps P ops Q (Region.linearise m ops t) (Fr n ds f) { w with drawn := w.drawn + 1 } := by
    intro m t
    unfold Region.linearise
    refine wp_orders I m _ (hrk m) hstep hend ops.size t _ f _ (by simp) ?_ ?_
    · have : ((List.range ops.size).filter fun i => !(Array.replicate ops.size false).getD i true) = List.range ops.size := by
        rw [List.filter_eq_self]
        intro i hi
        simp only [List.mem_range] at hi
        rw [gDx _ _ (by simpa using hi)]
        simp [hi]
      rw [this]; simp
    · have : (fun i => (Array.replicate ops.size false).getD i false) = fun _ => false := by
        funext i; rw [Array.getD_eq_getD_getElem?]; by_cases hi : i < ops.size <;> simp [hi]
      rw [this]; exact h0
  unfold Region.schedule
  split
  · exact hall _ _
  · exact hall _ _
end draw
section loop
variable {P : Program} {Q : Exit → Act → World → Prop} {n : Nat} {ds : List Deferred} {f : Nat → Value} {w : World}
theorem c_loop {c : Code} (I : Nat → (Nat → Value) → World → Prop) (m0 : Nat) (h0 : I m0 f w)
    (h : ∀ m f w, I m f w → c.wp P (Exit.then (fun a' w' => ∃ m' f', m' < m ∧ a' = Fr n ds f' ∧ I m' f' w') Q) (Fr n ds f) w) : (Code.loop c).wp P Q (Fr n ds f) w := by
  intro b k cs
  have key : ∀ m f w, I m f w → ∃ e a' w', Q e a' w' ∧ Arrives P (lone (b.at (Fr n ds f) (.code c :: .inLoop c :: k)) cs w) b k cs e a' w' := by
    intro m
    induction m using Nat.strongRecOn with
    | _ m ih =>
      intro f w hI
      obtain ⟨e, a₁, w₁, hq, harr⟩ := h m f w hI b (.inLoop c :: k) cs
      cases e with
      | normal =>
        obtain ⟨m', f', hlt, rfl, hI'⟩ := hq
        obtain ⟨e₂, a₂, w₂, hq₂, harr₂⟩ := ih m' hlt f' w₁ hI'
        exact ⟨e₂, a₂, w₂, hq₂, .of_steps (Steps.trans harr (.one step_inLoop)) harr₂⟩
      | exit id => exact ⟨_, a₁, w₁, hq, .pass (x := .inLoop c) rfl (fun _ _ => .inl (by simp)) harr⟩
      | goto l => exact ⟨_, a₁, w₁, hq, .pass (x := .inLoop c) rfl (fun _ _ => .inl (by simp)) harr⟩
      | ret => exact ⟨_, a₁, w₁, hq, .pass (x := .inLoop c) rfl (fun _ _ => .inl (by simp)) harr⟩
      | panic ch => exact ⟨_, a₁, w₁, hq, .pass (x := .inLoop c) rfl (fun _ _ => .inl (by simp)) harr⟩
      | outgrown => exact ⟨_, a₁, w₁, hq, .pass (x := .inLoop c) rfl (fun _ _ => .inl (by simp)) harr⟩
  obtain ⟨e, a', w', hq, harr⟩ := key _ _ _ h0
  exact ⟨e, a', w', hq, .of_steps (.one step_loop) harr⟩
end loop
end
section
theorem isOne_of {P : Program} {T : TypeId} {d : TypeDesc} (h : P.underlying T = some d) (hm : agB d = false) : isOne P T := ⟨d, h, hm⟩
theorem size_of {P : Program} {T k : Nat} (h : (P.info? T).map (·.size) = some k) : sizeIs P T k := by
  cases hi : P.info? T with
  | none => simp [hi] at h
  | some i => exact ⟨i, hi, by simpa [hi] using h⟩
theorem isAg_of {P : Program} {T : TypeId} {d : TypeDesc} {k : Nat} (h : P.underlying T = some d) (hm : agB d = true) (hs : (P.info? T).map (·.size) = some k) : isAg P T k := by
  obtain ⟨i, hi, hk⟩ := size_of hs
  exact ⟨d, i, h, hm, hi, hk⟩
theorem fieldIs_of {P : Program} {T : TypeId} {fs : Array Field} {fld : Field} {fi off k : Nat} (h : P.underlying T = some (.struct fs)) (hf : fs[fi]? = some fld) (ho : fld.offset = off) (hs : (P.info? fld.type).map (·.size) = some (k + 1)) : fieldIs P T fi off := by
  obtain ⟨i, hi, hk⟩ := size_of hs
  exact ⟨fs, fld, i, h, hf, ho, hi, by omega⟩
def elIs (P : Program) (T e size bytes : Nat) : Prop := P.underlying T = some (.slice e) ∧ ∃ i z, P.info? e = some i ∧ i.zero = some z ∧ i.size = size ∧ i.bytes = bytes ∧ z.cells.size = size ∧ 0 < size
theorem elIs_of {P : Program} {T e size bytes : Nat} (h : P.underlying T = some (.slice e)) (hi : (P.info? e).map (fun i => (i.zero.map (·.cells.size), i.size, i.bytes)) = some (some size, size, bytes)) (hp : 0 < size) : elIs P T e size bytes := by
  cases hh : P.info? e with
  | none => simp [hh] at hi
  | some i =>
    simp only [hh, Option.map_some, Option.some.injEq, Prod.mk.injEq] at hi
    obtain ⟨hz, hs, hb⟩ := hi
    cases hzz : i.zero with
    | none => simp [hzz] at hz
    | some z => exact ⟨h, i, z, hh, hzz, hs, hb, by simpa [hzz] using hz, hp⟩
theorem fi24_0 : fieldIs Tryz.prog 24 0 0 := fieldIs_of (k := 0) Tryz.underlying24 rfl rfl (by kernel_rfl)
theorem fi24_1 : fieldIs Tryz.prog 24 1 1 := fieldIs_of (k := 0) Tryz.underlying24 rfl rfl (by kernel_rfl)
theorem fi53_0 : fieldIs Tryz.prog 53 0 0 := fieldIs_of (k := 0) Tryz.underlying53 rfl rfl (by kernel_rfl)
theorem fi53_1 : fieldIs Tryz.prog 53 1 1 := fieldIs_of (k := 1) Tryz.underlying53 rfl rfl (by kernel_rfl)
theorem fi53_2 : fieldIs Tryz.prog 53 2 3 := fieldIs_of (k := 0) Tryz.underlying53 rfl rfl (by kernel_rfl)
theorem fi50_0 : fieldIs Tryz.prog 50 0 0 := fieldIs_of (k := 0) Tryz.underlying50 rfl rfl (by kernel_rfl)
theorem fi50_1 : fieldIs Tryz.prog 50 1 1 := fieldIs_of (k := 0) Tryz.underlying50 rfl rfl (by kernel_rfl)
theorem fi60_0 : fieldIs Tryz.prog 60 0 0 := fieldIs_of (k := 0) Tryz.underlying60 rfl rfl (by kernel_rfl)
theorem fi60_1 : fieldIs Tryz.prog 60 1 1 := fieldIs_of (k := 0) Tryz.underlying60 rfl rfl (by kernel_rfl)
theorem fi60_2 : fieldIs Tryz.prog 60 2 2 := fieldIs_of (k := 0) Tryz.underlying60 rfl rfl (by kernel_rfl)
theorem fi107_0 : fieldIs Tryz.prog 107 0 0 := fieldIs_of (k := 0) Tryz.underlying107 rfl rfl (by kernel_rfl)
theorem fi107_1 : fieldIs Tryz.prog 107 1 1 := fieldIs_of (k := 0) Tryz.underlying107 rfl rfl (by kernel_rfl)
theorem fi109_0 : fieldIs Tryz.prog 109 0 0 := fieldIs_of (k := 1) Tryz.underlying109 rfl rfl (by kernel_rfl)
theorem fi116_0 : fieldIs Tryz.prog 116 0 0 := fieldIs_of (k := 0) Tryz.underlying116 rfl rfl (by kernel_rfl)
theorem fi116_1 : fieldIs Tryz.prog 116 1 1 := fieldIs_of (k := 0) Tryz.underlying116 rfl rfl (by kernel_rfl)
theorem fi128_0 : fieldIs Tryz.prog 128 0 0 := fieldIs_of (k := 0) Tryz.underlying128 rfl rfl (by kernel_rfl)
theorem fi128_1 : fieldIs Tryz.prog 128 1 1 := fieldIs_of (k := 0) Tryz.underlying128 rfl rfl (by kernel_rfl)
theorem fi128_2 : fieldIs Tryz.prog 128 2 2 := fieldIs_of (k := 0) Tryz.underlying128 rfl rfl (by kernel_rfl)
theorem ag24 : isAg Tryz.prog 24 2 := isAg_of Tryz.underlying24 rfl (by kernel_rfl)
theorem ag53 : isAg Tryz.prog 53 4 := isAg_of Tryz.underlying53 rfl (by kernel_rfl)
theorem ag50 : isAg Tryz.prog 50 2 := isAg_of Tryz.underlying50 rfl (by kernel_rfl)
theorem ag60 : isAg Tryz.prog 60 3 := isAg_of Tryz.underlying60 rfl (by kernel_rfl)
theorem ag107 : isAg Tryz.prog 107 2 := isAg_of Tryz.underlying107 rfl (by kernel_rfl)
theorem ag109 : isAg Tryz.prog 109 2 := isAg_of Tryz.underlying109 rfl (by kernel_rfl)
theorem ag116 : isAg Tryz.prog 116 2 := isAg_of Tryz.underlying116 rfl (by kernel_rfl)
theorem ag128 : isAg Tryz.prog 128 3 := isAg_of Tryz.underlying128 rfl (by kernel_rfl)
theorem ag48 : isAg Tryz.prog 48 2 := isAg_of Tryz.underlying48 rfl (by kernel_rfl)
theorem on3 : isOne Tryz.prog 3 := isOne_of Tryz.underlying3 rfl
theorem on4 : isOne Tryz.prog 4 := isOne_of Tryz.underlying4 rfl
theorem on5 : isOne Tryz.prog 5 := isOne_of Tryz.underlying5 rfl
theorem on9 : isOne Tryz.prog 9 := isOne_of Tryz.underlying9 rfl
theorem on22 : isOne Tryz.prog 22 := isOne_of Tryz.underlying22 rfl
theorem on31 : isOne Tryz.prog 31 := isOne_of Tryz.underlying31 rfl
theorem on32 : isOne Tryz.prog 32 := isOne_of Tryz.underlying32 rfl
theorem on38 : isOne Tryz.prog 38 := isOne_of Tryz.underlying38 rfl
theorem on51 : isOne Tryz.prog 51 := isOne_of Tryz.underlying51 rfl
theorem on92 : isOne Tryz.prog 92 := isOne_of Tryz.underlying92 rfl
theorem on94 : isOne Tryz.prog 94 := isOne_of Tryz.underlying94 rfl
theorem on100 : isOne Tryz.prog 100 := isOne_of Tryz.underlying100 rfl
theorem on140 : isOne Tryz.prog 140 := isOne_of Tryz.underlying140 rfl
theorem on145 : isOne Tryz.prog 145 := isOne_of Tryz.underlying145 rfl
theorem sz24 : sizeIs Tryz.prog 24 2 := size_of (by kernel_rfl)
theorem sz53 : sizeIs Tryz.prog 53 4 := size_of (by kernel_rfl)
theorem sz50 : sizeIs Tryz.prog 50 2 := size_of (by kernel_rfl)
theorem sz60 : sizeIs Tryz.prog 60 3 := size_of (by kernel_rfl)
theorem sz107 : sizeIs Tryz.prog 107 2 := size_of (by kernel_rfl)
theorem sz109 : sizeIs Tryz.prog 109 2 := size_of (by kernel_rfl)
theorem sz116 : sizeIs Tryz.prog 116 2 := size_of (by kernel_rfl)
theorem sz128 : sizeIs Tryz.prog 128 3 := size_of (by kernel_rfl)
theorem sz48 : sizeIs Tryz.prog 48 2 := size_of (by kernel_rfl)
theorem sz3 : sizeIs Tryz.prog 3 1 := size_of (by kernel_rfl)
theorem sz4 : sizeIs Tryz.prog 4 1 := size_of (by kernel_rfl)
theorem sz5 : sizeIs Tryz.prog 5 1 := size_of (by kernel_rfl)
theorem sz9 : sizeIs Tryz.prog 9 1 := size_of (by kernel_rfl)
theorem sz22 : sizeIs Tryz.prog 22 1 := size_of (by kernel_rfl)
theorem sz31 : sizeIs Tryz.prog 31 1 := size_of (by kernel_rfl)
theorem sz32 : sizeIs Tryz.prog 32 1 := size_of (by kernel_rfl)
theorem sz38 : sizeIs Tryz.prog 38 1 := size_of (by kernel_rfl)
theorem sz51 : sizeIs Tryz.prog 51 1 := size_of (by kernel_rfl)
theorem sz92 : sizeIs Tryz.prog 92 1 := size_of (by kernel_rfl)
theorem sz94 : sizeIs Tryz.prog 94 1 := size_of (by kernel_rfl)
theorem sz100 : sizeIs Tryz.prog 100 1 := size_of (by kernel_rfl)
theorem sz140 : sizeIs Tryz.prog 140 1 := size_of (by kernel_rfl)
theorem sz145 : sizeIs Tryz.prog 145 1 := size_of (by kernel_rfl)
theorem el22 : elIs Tryz.prog 22 53 4 48 := elIs_of Tryz.underlying22 (by kernel_rfl) (by decide)
theorem el31 : elIs Tryz.prog 31 60 3 56 := elIs_of Tryz.underlying31 (by kernel_rfl) (by decide)
theorem el38 : elIs Tryz.prog 38 5 1 1 := elIs_of Tryz.underlying38 (by kernel_rfl) (by decide)
theorem el51 : elIs Tryz.prog 51 50 2 24 := elIs_of Tryz.underlying51 (by kernel_rfl) (by decide)
theorem el92 : elIs Tryz.prog 92 94 1 24 := elIs_of Tryz.underlying92 (by kernel_rfl) (by decide)
theorem el94 : elIs Tryz.prog 94 3 1 8 := elIs_of Tryz.underlying94 (by kernel_rfl) (by decide)
theorem el100 : elIs Tryz.prog 100 38 1 24 := elIs_of Tryz.underlying100 (by kernel_rfl) (by decide)
theorem z94 : (Tryz.prog.info? 94).bind (·.zero) = some (.slice none 0 0) := by kernel_rfl
theorem z53 : (Tryz.prog.info? 53).bind (·.zero) = some (.agg #[.string ⟨#[]⟩, .int .u8 0, .int .u8 0, .slice none 0 0]) := by kernel_rfl
theorem z24 : (Tryz.prog.info? 24).bind (·.zero) = some (.agg #[.int .i64 0, .slice none 0 0]) := by kernel_rfl
theorem z60 : (Tryz.prog.info? 60).bind (·.zero) = some (.agg #[.int .i64 0, .slice none 0 0, .slice none 0 0]) := by kernel_rfl
theorem z50 : (Tryz.prog.info? 50).bind (·.zero) = some (.agg #[.int .u8 0, .string ⟨#[]⟩]) := by kernel_rfl
theorem z31 : (Tryz.prog.info? 31).bind (·.zero) = some (.slice none 0 0) := by kernel_rfl
theorem z22 : (Tryz.prog.info? 22).bind (·.zero) = some (.slice none 0 0) := by kernel_rfl
theorem z3 : (Tryz.prog.info? 3).bind (·.zero) = some (.int .i64 0) := by kernel_rfl
theorem z4 : (Tryz.prog.info? 4).bind (·.zero) = some (.bool false) := by kernel_rfl
theorem z144 : (Tryz.prog.info? 144).bind (·.zero) = some (.agg #[.int .u8 0, .int .u8 0, .int .u8 0, .int .u8 0, .int .u8 0, .int .u8 0, .int .u8 0, .int .u8 0, .int .u8 0, .int .u8 0]) := by kernel_rfl
theorem z116 : (Tryz.prog.info? 116).bind (·.zero) = some (.agg #[.pointer none, .slice none 0 0]) := by kernel_rfl
theorem z107 : (Tryz.prog.info? 107).bind (·.zero) = some (.agg #[.slice none 0 0, .int .i64 0]) := by kernel_rfl
theorem z128 : (Tryz.prog.info? 128).bind (·.zero) = some (.agg #[.slice none 0 0, .int .i64 0, .bool false]) := by kernel_rfl
theorem go3 : isGo Tryz.prog 3 := isGo_of Tryz.func3 (by kernel_rfl) (by kernel_rfl)
theorem go4 : isGo Tryz.prog 4 := isGo_of Tryz.func4 (by kernel_rfl) (by kernel_rfl)
theorem go5 : isGo Tryz.prog 5 := isGo_of Tryz.func5 (by kernel_rfl) (by kernel_rfl)
theorem go6 : isGo Tryz.prog 6 := isGo_of Tryz.func6 (by kernel_rfl) (by kernel_rfl)
theorem go7 : isGo Tryz.prog 7 := isGo_of Tryz.func7 (by kernel_rfl) (by kernel_rfl)
theorem go8 : isGo Tryz.prog 8 := isGo_of Tryz.func8 (by kernel_rfl) (by kernel_rfl)
theorem go9 : isGo Tryz.prog 9 := isGo_of Tryz.func9 (by kernel_rfl) (by kernel_rfl)
theorem go10 : isGo Tryz.prog 10 := isGo_of Tryz.func10 (by kernel_rfl) (by kernel_rfl)
theorem go11 : isGo Tryz.prog 11 := isGo_of Tryz.func11 (by kernel_rfl) (by kernel_rfl)
theorem go12 : isGo Tryz.prog 12 := isGo_of Tryz.func12 (by kernel_rfl) (by kernel_rfl)
theorem go13 : isGo Tryz.prog 13 := isGo_of Tryz.func13 (by kernel_rfl) (by kernel_rfl)
theorem go14 : isGo Tryz.prog 14 := isGo_of Tryz.func14 (by kernel_rfl) (by kernel_rfl)
theorem go15 : isGo Tryz.prog 15 := isGo_of Tryz.func15 (by kernel_rfl) (by kernel_rfl)
theorem go16 : isGo Tryz.prog 16 := isGo_of Tryz.func16 (by kernel_rfl) (by kernel_rfl)
theorem go17 : isGo Tryz.prog 17 := isGo_of Tryz.func17 (by kernel_rfl) (by kernel_rfl)
theorem go18 : isGo Tryz.prog 18 := isGo_of Tryz.func18 (by kernel_rfl) (by kernel_rfl)
theorem go19 : isGo Tryz.prog 19 := isGo_of Tryz.func19 (by kernel_rfl) (by kernel_rfl)
theorem go20 : isGo Tryz.prog 20 := isGo_of Tryz.func20 (by kernel_rfl) (by kernel_rfl)
theorem go21 : isGo Tryz.prog 21 := isGo_of Tryz.func21 (by kernel_rfl) (by kernel_rfl)
theorem go22 : isGo Tryz.prog 22 := isGo_of Tryz.func22 (by kernel_rfl) (by kernel_rfl)
theorem go23 : isGo Tryz.prog 23 := isGo_of Tryz.func23 (by kernel_rfl) (by kernel_rfl)
theorem go24 : isGo Tryz.prog 24 := isGo_of Tryz.func24 (by kernel_rfl) (by kernel_rfl)
theorem go25 : isGo Tryz.prog 25 := isGo_of Tryz.func25 (by kernel_rfl) (by kernel_rfl)
theorem go26 : isGo Tryz.prog 26 := isGo_of Tryz.func26 (by kernel_rfl) (by kernel_rfl)
theorem go27 : isGo Tryz.prog 27 := isGo_of Tryz.func27 (by kernel_rfl) (by kernel_rfl)
theorem go28 : isGo Tryz.prog 28 := isGo_of Tryz.func28 (by kernel_rfl) (by kernel_rfl)
theorem go29 : isGo Tryz.prog 29 := isGo_of Tryz.func29 (by kernel_rfl) (by kernel_rfl)
theorem go30 : isGo Tryz.prog 30 := isGo_of Tryz.func30 (by kernel_rfl) (by kernel_rfl)
theorem go31 : isGo Tryz.prog 31 := isGo_of Tryz.func31 (by kernel_rfl) (by kernel_rfl)
theorem go32 : isGo Tryz.prog 32 := isGo_of Tryz.func32 (by kernel_rfl) (by kernel_rfl)
theorem go33 : isGo Tryz.prog 33 := isGo_of Tryz.func33 (by kernel_rfl) (by kernel_rfl)
theorem go34 : isGo Tryz.prog 34 := isGo_of Tryz.func34 (by kernel_rfl) (by kernel_rfl)
theorem go35 : isGo Tryz.prog 35 := isGo_of Tryz.func35 (by kernel_rfl) (by kernel_rfl)
theorem go36 : isGo Tryz.prog 36 := isGo_of Tryz.func36 (by kernel_rfl) (by kernel_rfl)
theorem go37 : isGo Tryz.prog 37 := isGo_of Tryz.func37 (by kernel_rfl) (by kernel_rfl)
theorem go38 : isGo Tryz.prog 38 := isGo_of Tryz.func38 (by kernel_rfl) (by kernel_rfl)
theorem go39 : isGo Tryz.prog 39 := isGo_of Tryz.func39 (by kernel_rfl) (by kernel_rfl)
theorem go40 : isGo Tryz.prog 40 := isGo_of Tryz.func40 (by kernel_rfl) (by kernel_rfl)
theorem go41 : isGo Tryz.prog 41 := isGo_of Tryz.func41 (by kernel_rfl) (by kernel_rfl)
theorem go42 : isGo Tryz.prog 42 := isGo_of Tryz.func42 (by kernel_rfl) (by kernel_rfl)
theorem go43 : isGo Tryz.prog 43 := isGo_of Tryz.func43 (by kernel_rfl) (by kernel_rfl)
theorem go44 : isGo Tryz.prog 44 := isGo_of Tryz.func44 (by kernel_rfl) (by kernel_rfl)
theorem go45 : isGo Tryz.prog 45 := isGo_of Tryz.func45 (by kernel_rfl) (by kernel_rfl)
theorem go46 : isGo Tryz.prog 46 := isGo_of Tryz.func46 (by kernel_rfl) (by kernel_rfl)
theorem go47 : isGo Tryz.prog 47 := isGo_of Tryz.func47 (by kernel_rfl) (by kernel_rfl)
theorem go48 : isGo Tryz.prog 48 := isGo_of Tryz.func48 (by kernel_rfl) (by kernel_rfl)
theorem go49 : isGo Tryz.prog 49 := isGo_of Tryz.func49 (by kernel_rfl) (by kernel_rfl)
theorem go50 : isGo Tryz.prog 50 := isGo_of Tryz.func50 (by kernel_rfl) (by kernel_rfl)
theorem go51 : isGo Tryz.prog 51 := isGo_of Tryz.func51 (by kernel_rfl) (by kernel_rfl)
theorem go52 : isGo Tryz.prog 52 := isGo_of Tryz.func52 (by kernel_rfl) (by kernel_rfl)
theorem go53 : isGo Tryz.prog 53 := isGo_of Tryz.func53 (by kernel_rfl) (by kernel_rfl)
theorem go54 : isGo Tryz.prog 54 := isGo_of Tryz.func54 (by kernel_rfl) (by kernel_rfl)
theorem go55 : isGo Tryz.prog 55 := isGo_of Tryz.func55 (by kernel_rfl) (by kernel_rfl)
theorem go56 : isGo Tryz.prog 56 := isGo_of Tryz.func56 (by kernel_rfl) (by kernel_rfl)
theorem go57 : isGo Tryz.prog 57 := isGo_of Tryz.func57 (by kernel_rfl) (by kernel_rfl)
theorem go58 : isGo Tryz.prog 58 := isGo_of Tryz.func58 (by kernel_rfl) (by kernel_rfl)
theorem go59 : isGo Tryz.prog 59 := isGo_of Tryz.func59 (by kernel_rfl) (by kernel_rfl)
theorem go60 : isGo Tryz.prog 60 := isGo_of Tryz.func60 (by kernel_rfl) (by kernel_rfl)
theorem go61 : isGo Tryz.prog 61 := isGo_of Tryz.func61 (by kernel_rfl) (by kernel_rfl)
theorem go62 : isGo Tryz.prog 62 := isGo_of Tryz.func62 (by kernel_rfl) (by kernel_rfl)
theorem go63 : isGo Tryz.prog 63 := isGo_of Tryz.func63 (by kernel_rfl) (by kernel_rfl)
theorem go64 : isGo Tryz.prog 64 := isGo_of Tryz.func64 (by kernel_rfl) (by kernel_rfl)
theorem go65 : isGo Tryz.prog 65 := isGo_of Tryz.func65 (by kernel_rfl) (by kernel_rfl)
theorem go66 : isGo Tryz.prog 66 := isGo_of Tryz.func66 (by kernel_rfl) (by kernel_rfl)
theorem go67 : isGo Tryz.prog 67 := isGo_of Tryz.func67 (by kernel_rfl) (by kernel_rfl)
theorem go68 : isGo Tryz.prog 68 := isGo_of Tryz.func68 (by kernel_rfl) (by kernel_rfl)
theorem go69 : isGo Tryz.prog 69 := isGo_of Tryz.func69 (by kernel_rfl) (by kernel_rfl)
theorem go70 : isGo Tryz.prog 70 := isGo_of Tryz.func70 (by kernel_rfl) (by kernel_rfl)
theorem go71 : isGo Tryz.prog 71 := isGo_of Tryz.func71 (by kernel_rfl) (by kernel_rfl)
theorem go72 : isGo Tryz.prog 72 := isGo_of Tryz.func72 (by kernel_rfl) (by kernel_rfl)
theorem go73 : isGo Tryz.prog 73 := isGo_of Tryz.func73 (by kernel_rfl) (by kernel_rfl)
theorem go74 : isGo Tryz.prog 74 := isGo_of Tryz.func74 (by kernel_rfl) (by kernel_rfl)
theorem go75 : isGo Tryz.prog 75 := isGo_of Tryz.func75 (by kernel_rfl) (by kernel_rfl)
theorem go76 : isGo Tryz.prog 76 := isGo_of Tryz.func76 (by kernel_rfl) (by kernel_rfl)
theorem go77 : isGo Tryz.prog 77 := isGo_of Tryz.func77 (by kernel_rfl) (by kernel_rfl)
theorem go78 : isGo Tryz.prog 78 := isGo_of Tryz.func78 (by kernel_rfl) (by kernel_rfl)
theorem go79 : isGo Tryz.prog 79 := isGo_of Tryz.func79 (by kernel_rfl) (by kernel_rfl)
theorem go80 : isGo Tryz.prog 80 := isGo_of Tryz.func80 (by kernel_rfl) (by kernel_rfl)
theorem go81 : isGo Tryz.prog 81 := isGo_of Tryz.func81 (by kernel_rfl) (by kernel_rfl)
theorem go82 : isGo Tryz.prog 82 := isGo_of Tryz.func82 (by kernel_rfl) (by kernel_rfl)
theorem go83 : isGo Tryz.prog 83 := isGo_of Tryz.func83 (by kernel_rfl) (by kernel_rfl)
theorem go84 : isGo Tryz.prog 84 := isGo_of Tryz.func84 (by kernel_rfl) (by kernel_rfl)
theorem go85 : isGo Tryz.prog 85 := isGo_of Tryz.func85 (by kernel_rfl) (by kernel_rfl)
theorem go86 : isGo Tryz.prog 86 := isGo_of Tryz.func86 (by kernel_rfl) (by kernel_rfl)
theorem go87 : isGo Tryz.prog 87 := isGo_of Tryz.func87 (by kernel_rfl) (by kernel_rfl)
theorem go88 : isGo Tryz.prog 88 := isGo_of Tryz.func88 (by kernel_rfl) (by kernel_rfl)
theorem go89 : isGo Tryz.prog 89 := isGo_of Tryz.func89 (by kernel_rfl) (by kernel_rfl)
theorem go90 : isGo Tryz.prog 90 := isGo_of Tryz.func90 (by kernel_rfl) (by kernel_rfl)
theorem go91 : isGo Tryz.prog 91 := isGo_of Tryz.func91 (by kernel_rfl) (by kernel_rfl)
theorem go92 : isGo Tryz.prog 92 := isGo_of Tryz.func92 (by kernel_rfl) (by kernel_rfl)
theorem go93 : isGo Tryz.prog 93 := isGo_of Tryz.func93 (by kernel_rfl) (by kernel_rfl)
theorem go94 : isGo Tryz.prog 94 := isGo_of Tryz.func94 (by kernel_rfl) (by kernel_rfl)
theorem go95 : isGo Tryz.prog 95 := isGo_of Tryz.func95 (by kernel_rfl) (by kernel_rfl)
theorem go96 : isGo Tryz.prog 96 := isGo_of Tryz.func96 (by kernel_rfl) (by kernel_rfl)
theorem go97 : isGo Tryz.prog 97 := isGo_of Tryz.func97 (by kernel_rfl) (by kernel_rfl)
theorem go98 : isGo Tryz.prog 98 := isGo_of Tryz.func98 (by kernel_rfl) (by kernel_rfl)
theorem go99 : isGo Tryz.prog 99 := isGo_of Tryz.func99 (by kernel_rfl) (by kernel_rfl)
theorem go100 : isGo Tryz.prog 100 := isGo_of Tryz.func100 (by kernel_rfl) (by kernel_rfl)
theorem go101 : isGo Tryz.prog 101 := isGo_of Tryz.func101 (by kernel_rfl) (by kernel_rfl)
theorem go102 : isGo Tryz.prog 102 := isGo_of Tryz.func102 (by kernel_rfl) (by kernel_rfl)
theorem go103 : isGo Tryz.prog 103 := isGo_of Tryz.func103 (by kernel_rfl) (by kernel_rfl)
theorem go104 : isGo Tryz.prog 104 := isGo_of Tryz.func104 (by kernel_rfl) (by kernel_rfl)
theorem go105 : isGo Tryz.prog 105 := isGo_of Tryz.func105 (by kernel_rfl) (by kernel_rfl)
theorem go106 : isGo Tryz.prog 106 := isGo_of Tryz.func106 (by kernel_rfl) (by kernel_rfl)
theorem go107 : isGo Tryz.prog 107 := isGo_of Tryz.func107 (by kernel_rfl) (by kernel_rfl)
theorem go108 : isGo Tryz.prog 108 := isGo_of Tryz.func108 (by kernel_rfl) (by kernel_rfl)
theorem go109 : isGo Tryz.prog 109 := isGo_of Tryz.func109 (by kernel_rfl) (by kernel_rfl)
theorem go110 : isGo Tryz.prog 110 := isGo_of Tryz.func110 (by kernel_rfl) (by kernel_rfl)
theorem go111 : isGo Tryz.prog 111 := isGo_of Tryz.func111 (by kernel_rfl) (by kernel_rfl)
theorem go112 : isGo Tryz.prog 112 := isGo_of Tryz.func112 (by kernel_rfl) (by kernel_rfl)
theorem go113 : isGo Tryz.prog 113 := isGo_of Tryz.func113 (by kernel_rfl) (by kernel_rfl)
theorem go114 : isGo Tryz.prog 114 := isGo_of Tryz.func114 (by kernel_rfl) (by kernel_rfl)
theorem go115 : isGo Tryz.prog 115 := isGo_of Tryz.func115 (by kernel_rfl) (by kernel_rfl)
theorem go116 : isGo Tryz.prog 116 := isGo_of Tryz.func116 (by kernel_rfl) (by kernel_rfl)
theorem go117 : isGo Tryz.prog 117 := isGo_of Tryz.func117 (by kernel_rfl) (by kernel_rfl)
theorem go118 : isGo Tryz.prog 118 := isGo_of Tryz.func118 (by kernel_rfl) (by kernel_rfl)
theorem go120 : isGo Tryz.prog 120 := isGo_of Tryz.func120 (by kernel_rfl) (by kernel_rfl)
theorem go122 : isGo Tryz.prog 122 := isGo_of Tryz.func122 (by kernel_rfl) (by kernel_rfl)
theorem go123 : isGo Tryz.prog 123 := isGo_of Tryz.func123 (by kernel_rfl) (by kernel_rfl)
theorem go124 : isGo Tryz.prog 124 := isGo_of Tryz.func124 (by kernel_rfl) (by kernel_rfl)
theorem go125 : isGo Tryz.prog 125 := isGo_of Tryz.func125 (by kernel_rfl) (by kernel_rfl)
theorem go126 : isGo Tryz.prog 126 := isGo_of Tryz.func126 (by kernel_rfl) (by kernel_rfl)
theorem go127 : isGo Tryz.prog 127 := isGo_of Tryz.func127 (by kernel_rfl) (by kernel_rfl)
theorem go128 : isGo Tryz.prog 128 := isGo_of Tryz.func128 (by kernel_rfl) (by kernel_rfl)
theorem go129 : isGo Tryz.prog 129 := isGo_of Tryz.func129 (by kernel_rfl) (by kernel_rfl)
theorem go130 : isGo Tryz.prog 130 := isGo_of Tryz.func130 (by kernel_rfl) (by kernel_rfl)
theorem go131 : isGo Tryz.prog 131 := isGo_of Tryz.func131 (by kernel_rfl) (by kernel_rfl)
theorem go132 : isGo Tryz.prog 132 := isGo_of Tryz.func132 (by kernel_rfl) (by kernel_rfl)
theorem go133 : isGo Tryz.prog 133 := isGo_of Tryz.func133 (by kernel_rfl) (by kernel_rfl)
theorem go134 : isGo Tryz.prog 134 := isGo_of Tryz.func134 (by kernel_rfl) (by kernel_rfl)
theorem go135 : isGo Tryz.prog 135 := isGo_of Tryz.func135 (by kernel_rfl) (by kernel_rfl)
theorem go136 : isGo Tryz.prog 136 := isGo_of Tryz.func136 (by kernel_rfl) (by kernel_rfl)
theorem go137 : isGo Tryz.prog 137 := isGo_of Tryz.func137 (by kernel_rfl) (by kernel_rfl)
theorem go138 : isGo Tryz.prog 138 := isGo_of Tryz.func138 (by kernel_rfl) (by kernel_rfl)
theorem go139 : isGo Tryz.prog 139 := isGo_of Tryz.func139 (by kernel_rfl) (by kernel_rfl)
theorem go140 : isGo Tryz.prog 140 := isGo_of Tryz.func140 (by kernel_rfl) (by kernel_rfl)
theorem go141 : isGo Tryz.prog 141 := isGo_of Tryz.func141 (by kernel_rfl) (by kernel_rfl)
theorem go142 : isGo Tryz.prog 142 := isGo_of Tryz.func142 (by kernel_rfl) (by kernel_rfl)
theorem go143 : isGo Tryz.prog 143 := isGo_of Tryz.func143 (by kernel_rfl) (by kernel_rfl)
theorem go145 : isGo Tryz.prog 145 := isGo_of Tryz.func145 (by kernel_rfl) (by kernel_rfl)
theorem go146 : isGo Tryz.prog 146 := isGo_of Tryz.func146 (by kernel_rfl) (by kernel_rfl)
theorem go147 : isGo Tryz.prog 147 := isGo_of Tryz.func147 (by kernel_rfl) (by kernel_rfl)
theorem go148 : isGo Tryz.prog 148 := isGo_of Tryz.func148 (by kernel_rfl) (by kernel_rfl)
theorem go149 : isGo Tryz.prog 149 := isGo_of Tryz.func149 (by kernel_rfl) (by kernel_rfl)
theorem go150 : isGo Tryz.prog 150 := isGo_of Tryz.func150 (by kernel_rfl) (by kernel_rfl)
theorem go151 : isGo Tryz.prog 151 := isGo_of Tryz.func151 (by kernel_rfl) (by kernel_rfl)
theorem go152 : isGo Tryz.prog 152 := isGo_of Tryz.func152 (by kernel_rfl) (by kernel_rfl)
theorem go153 : isGo Tryz.prog 153 := isGo_of Tryz.func153 (by kernel_rfl) (by kernel_rfl)
theorem go154 : isGo Tryz.prog 154 := isGo_of Tryz.func154 (by kernel_rfl) (by kernel_rfl)
theorem go155 : isGo Tryz.prog 155 := isGo_of Tryz.func155 (by kernel_rfl) (by kernel_rfl)
theorem go156 : isGo Tryz.prog 156 := isGo_of Tryz.func156 (by kernel_rfl) (by kernel_rfl)
theorem go157 : isGo Tryz.prog 157 := isGo_of Tryz.func157 (by kernel_rfl) (by kernel_rfl)
theorem go158 : isGo Tryz.prog 158 := isGo_of Tryz.func158 (by kernel_rfl) (by kernel_rfl)
theorem go160 : isGo Tryz.prog 160 := isGo_of Tryz.func160 (by kernel_rfl) (by kernel_rfl)
theorem go162 : isGo Tryz.prog 162 := isGo_of Tryz.func162 (by kernel_rfl) (by kernel_rfl)
theorem go163 : isGo Tryz.prog 163 := isGo_of Tryz.func163 (by kernel_rfl) (by kernel_rfl)
theorem go164 : isGo Tryz.prog 164 := isGo_of Tryz.func164 (by kernel_rfl) (by kernel_rfl)
theorem go165 : isGo Tryz.prog 165 := isGo_of Tryz.func165 (by kernel_rfl) (by kernel_rfl)
theorem go166 : isGo Tryz.prog 166 := isGo_of Tryz.func166 (by kernel_rfl) (by kernel_rfl)
theorem go167 : isGo Tryz.prog 167 := isGo_of Tryz.func167 (by kernel_rfl) (by kernel_rfl)
theorem go168 : isGo Tryz.prog 168 := isGo_of Tryz.func168 (by kernel_rfl) (by kernel_rfl)
theorem go169 : isGo Tryz.prog 169 := isGo_of Tryz.func169 (by kernel_rfl) (by kernel_rfl)
theorem go170 : isGo Tryz.prog 170 := isGo_of Tryz.func170 (by kernel_rfl) (by kernel_rfl)
theorem go172 : isGo Tryz.prog 172 := isGo_of Tryz.func172 (by kernel_rfl) (by kernel_rfl)
end
section
section steps
variable {md : Md} {P : Program} {ops : Array Oper} {Q : Exit → Act → World → Prop} {n : Nat} {ds : List Deferred} {f : Nat → Value} {w w' : World} {rest : List Oper}
  {d : Nat} {ty : TypeId} {pos : String} {af : Array Edge} {g : Option (Nat × Bool)} {v : Value} {x y z : Operand} {T T0 : TypeId}
theorem s_call1 {F : FuncId} {v1 : Value} {at' : Array TypeId} {R : Ending → World → Prop} (hF : isGo P F) (hg : Gd n ops f g = some true) (hc : Calls P F #[v1] w R) (hb : inb n x = true) (h1 : ev f x = v1)
    (k : ∀ e w', R e w' → ∃ v, e = .returned v ∧ WL md P ops Q rest n ds (upd f d v) w') :
    WL md P ops Q (⟨some d, .call ⟨.value (.func F), #[x], at'⟩, ty, pos, af, g⟩ :: rest) n ds f w :=
  s_call hF hg hc (by simp [hb]) (by simp [h1]) k
theorem s_call2 {F : FuncId} {v1 v2 : Value} {at' : Array TypeId} {R : Ending → World → Prop} (hF : isGo P F) (hg : Gd n ops f g = some true) (hc : Calls P F #[v1, v2] w R) (hb : inb n x = true) (hb' : inb n y = true) (h1 : ev f x = v1) (h2 : ev f y = v2)
    (k : ∀ e w', R e w' → ∃ v, e = .returned v ∧ WL md P ops Q rest n ds (upd f d v) w') :
    WL md P ops Q (⟨some d, .call ⟨.value (.func F), #[x, y], at'⟩, ty, pos, af, g⟩ :: rest) n ds f w :=
  s_call hF hg hc (by simp [hb, hb']) (by simp [h1, h2]) k
theorem s_call3 {F : FuncId} {v1 v2 v3 : Value} {at' : Array TypeId} {R : Ending → World → Prop} (hF : isGo P F) (hg : Gd n ops f g = some true) (hc : Calls P F #[v1, v2, v3] w R) (hb : inb n x = true) (hb' : inb n y = true) (hb'' : inb n z = true) (h1 : ev f x = v1) (h2 : ev f y = v2) (h3 : ev f z = v3)
    (k : ∀ e w', R e w' → ∃ v, e = .returned v ∧ WL md P ops Q rest n ds (upd f d v) w') :
    WL md P ops Q (⟨some d, .call ⟨.value (.func F), #[x, y, z], at'⟩, ty, pos, af, g⟩ :: rest) n ds f w :=
  s_call hF hg hc (by simp [hb, hb', hb'']) (by simp [h1, h2, h3]) k
theorem s_callv1 {F : FuncId} {v1 : Value} {ca : Array Value} {at' : Array TypeId} {R : Ending → World → Prop} (hF : isGo P F) (hg : Gd n ops f g = some true) (hbx : inb n x = true) (hxf : ev f x = .func (.func F) #[] ca) (hc : Calls P F (#[v1] ++ ca) w R) (hb : inb n y = true) (h1 : ev f y = v1)
    (k : ∀ e w', R e w' → ∃ v, e = .returned v ∧ WL md P ops Q rest n ds (upd f d v) w') :
    WL md P ops Q (⟨some d, .call ⟨.value x, #[y], at'⟩, ty, pos, af, g⟩ :: rest) n ds f w :=
  s_callv hF hg hbx hxf (vs := #[v1]) (by simpa using hc) (by simp [hb]) (by simp [h1]) k
theorem s_callv2 {F : FuncId} {v1 v2 : Value} {ca : Array Value} {at' : Array TypeId} {R : Ending → World → Prop} (hF : isGo P F) (hg : Gd n ops f g = some true) (hbx : inb n x = true) (hxf : ev f x = .func (.func F) #[] ca) (hc : Calls P F (#[v1, v2] ++ ca) w R) (hb : inb n y = true) (hb' : inb n z = true) (h1 : ev f y = v1) (h2 : ev f z = v2)
    (k : ∀ e w', R e w' → ∃ v, e = .returned v ∧ WL md P ops Q rest n ds (upd f d v) w') :
    WL md P ops Q (⟨some d, .call ⟨.value x, #[y, z], at'⟩, ty, pos, af, g⟩ :: rest) n ds f w :=
  s_callv hF hg hbx hxf (vs := #[v1, v2]) (by simpa using hc) (by simp [hb, hb']) (by simp [h1, h2]) k
theorem s_iaE {q : Addr} {l m j size bytes : Nat} {e : TypeId} {i : Int} (hE : elIs P T e size bytes) (hg : Gd n ops f g = some true) (hb : inb n x = true) (hb' : inb n y = true)
    (hx : ev f x = .slice (some q) l m) (hy : ev f y = .int .i64 i) (hi : i = (j : Int)) (hl : j < l)
    (k : WL md P ops Q rest n ds (upd f d (.pointer (some (q.add (j * size))))) w) : WL md P ops Q (⟨some d, .indexAddr T x y, ty, pos, af, g⟩ :: rest) n ds f w := by
  obtain ⟨hu, i', z, hi', _, hs, _⟩ := hE
  exact s_ia hu ⟨i', hi', hs⟩ hg hb hb' hx hy hi hl k
theorem s_bs1E {cs : List Value} {e size bytes : Nat} (hE : elIs P T e size bytes) (hl : cs.length = size) (h100 : size ≤ 100)
    (hg : Gd n ops f g = some true) (hb : inb n x = true) (hx : ev f x = v) (hv : v.cells = cs.toArray)
    (k : ∀ b w', b = w.heap.size → Own w' b e cs → Kp (fun _ => False) w w' → w'.heap.size = w.heap.size + 1 → WL md P ops Q rest n ds (upd f d (.slice (some ⟨b, 0, none⟩) 1 1)) w') :
    WL md P ops Q (⟨some d, .buildSlice T 1 #[(0, x)], ty, pos, af, g⟩ :: rest) n ds f w := by
  obtain ⟨hu, i', z, hi', hz, hs, _, hzs, hp⟩ := hE
  exact s_bs1 hu hi' hz (by omega) (by omega) (by omega) hg hb hx hv k
theorem s_appE {base m c l size bytes : Nat} {e : TypeId} {v0 : Value} {xs news : List Value} {a : Addr} (hE : elIs P T e size bytes) (h100 : bytes ≤ 100)
    (hg : Gd n ops f g = some true) (hb : inb n x = true) (hb' : inb n y = true) (hx : ev f x = v0) (hy : ev f y = .slice (some a) m c)
    (hown : w.ownsRow base e size v0 l xs) (hl : news.length = m * size) (hnews : CellsAt w a news) (h1 : news.all (·.oneCell') = true)
    (hm : l + m ≤ 1000000) (hbase : base ≤ w.heap.size)
    (k : ∀ v' w', w'.ownsRow base e size v' (l + m) (xs ++ news) → w.grownBy w' v0.ownBlock → WL md P ops Q rest n ds (upd f d v') w') :
    WL md P ops Q (⟨some d, .call ⟨.builtin .append, #[x, y], #[T, T]⟩, ty, pos, af, g⟩ :: rest) n ds f w := by
  obtain ⟨hu, i', z, hi', hz, hs, hby, hzs, hp⟩ := hE
  refine s_app hu hi' hz hs hby hzs hp hg hb hb' hx hy hown hl hnews h1 ?_ hm hbase k
  exact Nat.le_trans (Nat.mul_le_mul hm h100) (by omega)
theorem s_lenR {l size base : Nat} {xs : List Value} {t' e e' : TypeId} (hT : P.underlying t' = some (.slice e)) (hg : Gd n ops f g = some true) (hb : inb n x = true) (hx : ev f x = v) (ho : w.ownsRow base e' size v l xs)
    (k : WL md P ops Q rest n ds (upd f d (.int .i64 l)) w) : WL md P ops Q (⟨some d, .call ⟨.builtin .len, #[x], #[t']⟩, ty, pos, af, g⟩ :: rest) n ds f w := by
  rcases ho.2 with ⟨rfl, rfl⟩ | ⟨g', cap, cur, rfl, _⟩
  · exact s_lenL hT hg hb hx k
  · exact s_lenL hT hg hb hx k
end steps
theorem w_split {md : Md} {P : Program} {ops : Array Oper} {l : List Oper} {Q : Exit → Act → World → Prop} {n : Nat} {ds : List Deferred} {f : Nat → Value} {w : World} {t : Nat} {b : Bool} (hv : f t = .bool b)
    (h1 : b = true → WL md P ops Q l n ds (upd f t (.bool true)) w) (h2 : b = false → WL md P ops Q l n ds (upd f t (.bool false)) w) : WL md P ops Q l n ds f w := by
  cases b
  · have := h2 rfl; rwa [← upd_keep hv] at this
  · have := h1 rfl; rwa [← upd_keep hv] at this
theorem iv {k : IntKind} {a b : Int} (h : a = b) : Value.int k a = Value.int k b := by rw [h]
theorem ne_T {a b : Int} (h : ¬ a = b) : (!decide (a = b)) = true := by simp [h]
theorem ne_F {a b : Int} (h : a = b) : (!decide (a = b)) = false := by simp [h]
section rets
variable {P : Program} {n : Nat} {f : Nat → Value} {w : World}
theorem retC {fn : Func} {R : Ending → World → Prop} {t T : Nat} {q : Addr} {cs : List Value} {sz : Nat} (hT : isAg P T sz) (hr : fn.results = #[.cell t T]) (hb : Nat.blt t n = true) (hv : f t = .pointer (some q)) (hc : CellsAt w q cs) (hl : cs.length = sz)
    (h : R (.returned (.agg cs.toArray)) w) : bodyPost P fn R .ret (Fr n [] f) w := by
  refine bodyPost_ret ?_ rfl h
  have := Fr_getD n [] f t (by simpa using hb)
  simp only [results, hr, List.mapM_toArray, List.mapM_cons, List.mapM_nil, this, hv]
  simp [asAddr, run_loadA hT hl hc]
theorem retC2 {fn : Func} {R : Ending → World → Prop} {t u T : Nat} {q : Addr} {v : Value} {cs : List Value} {sz : Nat} (hT : isAg P T sz) (hr : fn.results = #[.cell t T, .tmp u]) (hb : Nat.blt t n = true) (hb' : Nat.blt u n = true) (hv : f t = .pointer (some q)) (hu : f u = v) (hc : CellsAt w q cs) (hl : cs.length = sz)
    (h : R (.returned (.tuple #[.agg cs.toArray, v])) w) : bodyPost P fn R .ret (Fr n [] f) w := by
  refine bodyPost_ret ?_ rfl h
  have h1 := Fr_getD n [] f t (by simpa using hb)
  have h2 := Fr_getD n [] f u (by simpa using hb')
  simp only [results, hr, List.mapM_toArray, List.mapM_cons, List.mapM_nil, h1, h2, hv, hu]
  simp [asAddr, run_loadA hT hl hc]
theorem retC3 {fn : Func} {R : Ending → World → Prop} {t u s T : Nat} {q : Addr} {v v' : Value} {cs : List Value} {sz : Nat} (hT : isAg P T sz) (hr : fn.results = #[.cell t T, .tmp u, .tmp s]) (hb : Nat.blt t n = true) (hb' : Nat.blt u n = true) (hb'' : Nat.blt s n = true) (hv : f t = .pointer (some q)) (hu : f u = v) (hs : f s = v') (hc : CellsAt w q cs) (hl : cs.length = sz)
    (h : R (.returned (.tuple #[.agg cs.toArray, v, v'])) w) : bodyPost P fn R .ret (Fr n [] f) w := by
  refine bodyPost_ret ?_ rfl h
  have h1 := Fr_getD n [] f t (by simpa using hb)
  have h2 := Fr_getD n [] f u (by simpa using hb')
  have h3 := Fr_getD n [] f s (by simpa using hb'')
  simp only [results, hr, List.mapM_toArray, List.mapM_cons, List.mapM_nil, h1, h2, h3, hv, hu, hs]
  simp [asAddr, run_loadA hT hl hc]
end rets
end
section
structure Sub where
  code : Int
  value : ByteArray
  deriving DecidableEq
structure Fld where
  tag : ByteArray
  i0 : Int
  i1 : Int
  subs : List Sub
  deriving DecidableEq
structure Rec where
  id : Int
  fields : List Fld
  deriving DecidableEq
structure Edt where
  pos : Int
  old : List Fld
  new : List Fld
abbrev New (w w' : World) : Prop := Kp (fun _ => False) w w'
def Sub.cells (s : Sub) : List Value := [.int .u8 s.code, .string s.value]
def Sub.val (s : Sub) : Value := .agg #[.int .u8 s.code, .string s.value]
abbrev big : Nat := 140737488355328
def SubsAt (G : Nat → Prop) (w : World) (A : Option Addr) (l : List Sub) : Prop :=
  l.length ≤ big ∧ ∀ i s, l[i]? = some s → ∃ p, A = some p ∧ G p.block ∧ CellsAt w (p.add (i * 2)) s.cells
def RSubs (G : Nat → Prop) (w : World) (v : Value) (l : List Sub) : Prop := ∃ A cap, v = .slice A l.length cap ∧ SubsAt G w A l
def Fld.cells (f : Fld) (vs : Value) : List Value := [.string f.tag, .int .u8 f.i0, .int .u8 f.i1, vs]
def FldsAt (G : Nat → Prop) (w : World) (A : Option Addr) (l : List Fld) : Prop :=
  l.length ≤ big ∧ ∀ i f, l[i]? = some f → ∃ p vs, A = some p ∧ G p.block ∧ CellsAt w (p.add (i * 4)) (f.cells vs) ∧ RSubs G w vs f.subs
def RFlds (G : Nat → Prop) (w : World) (v : Value) (l : List Fld) : Prop := ∃ A cap, v = .slice A l.length cap ∧ FldsAt G w A l
def Edt.cells (e : Edt) (vo vn : Value) : List Value := [.int .i64 e.pos, vo, vn]
def EdtsAt (G : Nat → Prop) (w : World) (A : Option Addr) (l : List Edt) : Prop :=
  l.length ≤ big ∧ ∀ i e, l[i]? = some e → ∃ p vo vn, A = some p ∧ G p.block ∧ CellsAt w (p.add (i * 3)) (e.cells vo vn) ∧ RFlds G w vo e.old ∧ RFlds G w vn e.new
def REdts (G : Nat → Prop) (w : World) (v : Value) (l : List Edt) : Prop := ∃ A cap, v = .slice A l.length cap ∧ EdtsAt G w A l
def BytesAt (G : Nat → Prop) (w : World) (A : Option Addr) (s : List UInt8) : Prop :=
  s.length ≤ big ∧ ∀ i u, s[i]? = some u → ∃ p, A = some p ∧ G p.block ∧ w.cell? (p.add i) = some (.int .u8 u.toNat)
def RBytes (G : Nat → Prop) (w : World) (v : Value) (s : List UInt8) : Prop := ∃ A cap, v = .slice A s.length cap ∧ s.length ≤ cap ∧ BytesAt G w A s
theorem CellsAt.lt {w : World} {p : Addr} {cs : List Value} (h : CellsAt w p cs) (v : Value) (hc : cs[0]? = some v) : p.block < w.heap.size := by
  have := World.block_lt_of_cell? _ _ (h 0 v hc); rwa [add_block] at this
section
variable {G G' M : Nat → Prop} {w w' : World} {v : Value} {A : Option Addr}
theorem SubsAt.kp {l : List Sub} (h : SubsAt G w A l) (k : Kp M w w') (hm : ∀ i, i < w.heap.size → G i → ¬ M i) : SubsAt G w' A l := by
  refine ⟨h.1, fun i s hs => ?_⟩
  obtain ⟨p, hA, hG, hc⟩ := h.2 i s hs
  exact ⟨p, hA, hG, hc.kp k (by rw [add_block]; exact hm _ (by have := hc.lt _ rfl; rwa [add_block] at this) hG)⟩
theorem RSubs.kp {l : List Sub} (h : RSubs G w v l) (k : Kp M w w') (hm : ∀ i, i < w.heap.size → G i → ¬ M i) : RSubs G w' v l := by
  obtain ⟨A, cap, hv, h⟩ := h; exact ⟨A, cap, hv, h.kp k hm⟩
theorem SubsAt.weak {l : List Sub} (h : SubsAt G w A l) (hg : ∀ i, G i → G' i) : SubsAt G' w A l := by
  refine ⟨h.1, fun i s hs => ?_⟩
  obtain ⟨p, hA, hG, hc⟩ := h.2 i s hs
  exact ⟨p, hA, hg _ hG, hc⟩
theorem RSubs.weak {l : List Sub} (h : RSubs G w v l) (hg : ∀ i, G i → G' i) : RSubs G' w v l := by
  obtain ⟨A, cap, hv, h⟩ := h; exact ⟨A, cap, hv, h.weak hg⟩
theorem FldsAt.kp {l : List Fld} (h : FldsAt G w A l) (k : Kp M w w') (hm : ∀ i, i < w.heap.size → G i → ¬ M i) : FldsAt G w' A l := by
  refine ⟨h.1, fun i f hf => ?_⟩
  obtain ⟨p, vs, hA, hG, hc, hs⟩ := h.2 i f hf
  exact ⟨p, vs, hA, hG, hc.kp k (by rw [add_block]; exact hm _ (by have := hc.lt _ rfl; rwa [add_block] at this) hG), hs.kp k hm⟩
theorem RFlds.kp {l : List Fld} (h : RFlds G w v l) (k : Kp M w w') (hm : ∀ i, i < w.heap.size → G i → ¬ M i) : RFlds G w' v l := by
  obtain ⟨A, cap, hv, h⟩ := h; exact ⟨A, cap, hv, h.kp k hm⟩
theorem FldsAt.weak {l : List Fld} (h : FldsAt G w A l) (hg : ∀ i, G i → G' i) : FldsAt G' w A l := by
  refine ⟨h.1, fun i f hf => ?_⟩
  obtain ⟨p, vs, hA, hG, hc, hs⟩ := h.2 i f hf
  exact ⟨p, vs, hA, hg _ hG, hc, hs.weak hg⟩
theorem RFlds.weak {l : List Fld} (h : RFlds G w v l) (hg : ∀ i, G i → G' i) : RFlds G' w v l := by
  obtain ⟨A, cap, hv, h⟩ := h; exact ⟨A, cap, hv, h.weak hg⟩
theorem EdtsAt.kp {l : List Edt} (h : EdtsAt G w A l) (k : Kp M w w') (hm : ∀ i, i < w.heap.size → G i → ¬ M i) : EdtsAt G w' A l := by
  refine ⟨h.1, fun i f hf => ?_⟩
  obtain ⟨p, vo, vn, hA, hG, hc, ho, hn⟩ := h.2 i f hf
  exact ⟨p, vo, vn, hA, hG, hc.kp k (by rw [add_block]; exact hm _ (by have := hc.lt _ rfl; rwa [add_block] at this) hG), ho.kp k hm, hn.kp k hm⟩
theorem REdts.kp {l : List Edt} (h : REdts G w v l) (k : Kp M w w') (hm : ∀ i, i < w.heap.size → G i → ¬ M i) : REdts G w' v l := by
  obtain ⟨A, cap, hv, h⟩ := h; exact ⟨A, cap, hv, h.kp k hm⟩
theorem EdtsAt.weak {l : List Edt} (h : EdtsAt G w A l) (hg : ∀ i, G i → G' i) : EdtsAt G' w A l := by
  refine ⟨h.1, fun i f hf => ?_⟩
  obtain ⟨p, vo, vn, hA, hG, hc, ho, hn⟩ := h.2 i f hf
  exact ⟨p, vo, vn, hA, hg _ hG, hc, ho.weak hg, hn.weak hg⟩
theorem REdts.weak {l : List Edt} (h : REdts G w v l) (hg : ∀ i, G i → G' i) : REdts G' w v l := by
  obtain ⟨A, cap, hv, h⟩ := h; exact ⟨A, cap, hv, h.weak hg⟩
theorem BytesAt.kp {s : List UInt8} (h : BytesAt G w A s) (k : Kp M w w') (hm : ∀ i, i < w.heap.size → G i → ¬ M i) : BytesAt G w' A s := by
  refine ⟨h.1, fun i u hu => ?_⟩
  obtain ⟨p, hA, hG, hc⟩ := h.2 i u hu
  exact ⟨p, hA, hG, k.cell hc (by rw [add_block]; exact hm _ (by have := World.block_lt_of_cell? _ _ hc; rwa [add_block] at this) hG)⟩
theorem RBytes.kp {s : List UInt8} (h : RBytes G w v s) (k : Kp M w w') (hm : ∀ i, i < w.heap.size → G i → ¬ M i) : RBytes G w' v s := by
  obtain ⟨A, cap, hv, hc, h⟩ := h; exact ⟨A, cap, hv, hc, h.kp k hm⟩
theorem BytesAt.weak {s : List UInt8} (h : BytesAt G w A s) (hg : ∀ i, G i → G' i) : BytesAt G' w A s := by
  refine ⟨h.1, fun i u hu => ?_⟩
  obtain ⟨p, hA, hG, hc⟩ := h.2 i u hu
  exact ⟨p, hA, hg _ hG, hc⟩
theorem SubsAt.bound {l : List Sub} (h : SubsAt G w A l) : SubsAt (fun i => G i ∧ i < w.heap.size) w A l := by
  refine ⟨h.1, fun i s hs => ?_⟩
  obtain ⟨p, hA, hG, hc⟩ := h.2 i s hs
  exact ⟨p, hA, ⟨hG, by have := hc.lt _ rfl; rwa [add_block] at this⟩, hc⟩
theorem RSubs.bound {l : List Sub} (h : RSubs G w v l) : RSubs (fun i => G i ∧ i < w.heap.size) w v l := by
  obtain ⟨A, cap, hv, h⟩ := h; exact ⟨A, cap, hv, h.bound⟩
theorem FldsAt.bound {l : List Fld} (h : FldsAt G w A l) : FldsAt (fun i => G i ∧ i < w.heap.size) w A l := by
  refine ⟨h.1, fun i f hf => ?_⟩
  obtain ⟨p, vs, hA, hG, hc, hs⟩ := h.2 i f hf
  exact ⟨p, vs, hA, ⟨hG, by have := hc.lt _ rfl; rwa [add_block] at this⟩, hc, hs.bound⟩
theorem RFlds.bound {l : List Fld} (h : RFlds G w v l) : RFlds (fun i => G i ∧ i < w.heap.size) w v l := by
  obtain ⟨A, cap, hv, h⟩ := h; exact ⟨A, cap, hv, h.bound⟩
end
theorem CellsAt.part {w : World} {p : Addr} {cs cs' : List Value} (h : CellsAt w p cs) (i k : Nat) (he : (cs.drop i).take k = cs') : CellsAt w (p.add i) cs' := by
  subst he
  refine h.sub i _ fun j v hv => ?_
  rw [List.getElem?_take] at hv
  split at hv
  · simpa using hv
  · cases hv
def backEdges (ops : Array Oper) : Bool := ops.toList.zipIdx.all fun x => x.1.after.all fun e => Nat.blt e.on x.2
theorem rank_back {ops : Array Oper} (h : backEdges ops = true) : ∀ m, ∀ i o, ops[i]? = some o → ∀ e ∈ o.after, Region.binds m e = true →
    e.on < ops.size ∧ (if m = .gc then (fun i => i) else fun i => i) e.on < (if m = .gc then (fun i => i) else fun i => i) i := by
  intro m i o ho e he _
  have hi : i < ops.size := by
    rcases Nat.lt_or_ge i ops.size with h | h
    · exact h
    · rw [Array.getElem?_eq_none h] at ho; cases ho
  unfold backEdges at h
  rw [List.all_eq_true] at h
  have h1 := h (o, i) (by rw [List.mem_zipIdx_iff_getElem?]; simpa using ho)
  rw [Array.all_eq_true_iff_forall_mem] at h1
  have h2 : e.on < i := by simpa using h1 e he
  refine ⟨by omega, ?_⟩
  split <;> exact h2
theorem ite_id : (fun i : Nat => i) = id := rfl
theorem c_draw' {P : Program} {ops : Array Oper} {Q : Exit → Act → World → Prop} {n : Nat} {ds : List Deferred} {id : Nat} {f : Nat → Value} {w : World} (I : (Nat → Bool) → (Nat → Value) → World → Prop)
    (hb : backEdges ops = true) (h0 : I (fun _ => false) f w.drew)
    (hstep : ∀ i o, ops[i]? = some o → ∀ S f w, (∀ e ∈ o.after, alw e = true → S e.on = true) → I S f w → WL .plain P ops (Aft n ds I Q (ins S i)) [o] n ds f w)
    (hend : ∀ S f w, (∀ i, i < ops.size → S i = true) → I S f w → Q .normal (Fr n ds f) w) :
    (Code.region id ops true).wp P Q (Fr n ds f) w :=
  c_draw I (fun i => i) (rank_back hb) h0 (fun i o ho S f w _ hd hI => hstep i o ho S f w hd hI) hend
def Dc (ops : Array Oper) (S : Nat → Bool) : Prop := ∀ i o, ops[i]? = some o → S i = true → ∀ e ∈ o.after, alw e = true → S e.on = true
theorem c_drawS {P : Program} {ops : Array Oper} {Q : Exit → Act → World → Prop} {n : Nat} {ds : List Deferred} {id : Nat} {f : Nat → Value} {w : World} (I : (Nat → Bool) → (Nat → Value) → World → Prop) (rk : Nat → Nat)
    (hb : ∀ m, ∀ i o, ops[i]? = some o → ∀ e ∈ o.after, Region.binds m e = true → e.on < ops.size ∧ (if m = .gc then rk else fun i => i) e.on < (if m = .gc then rk else fun i => i) i) (h0 : I (fun _ => false) f w.drew)
    (hstep : ∀ i o, ops[i]? = some o → ∀ S f w, S i = false → Dc ops S → (∀ e ∈ o.after, alw e = true → S e.on = true) → I S f w → WL .plain P ops (Aft n ds I Q (ins S i)) [o] n ds f w)
    (hend : ∀ S f w, (∀ i, i < ops.size → S i = true) → I S f w → Q .normal (Fr n ds f) w) :
    (Code.region id ops true).wp P Q (Fr n ds f) w := by
  refine c_draw (fun S f w => I S f w ∧ Dc ops S) rk hb ⟨h0, fun i o _ h => by cases h⟩ ?_ (fun S f w hS hI => hend S f w hS hI.1)
  intro i o ho S f w hS hd ⟨hI, hD⟩
  have hD' : Dc ops (ins S i) := by
    intro j o' ho' hj e he hal
    by_cases hji : j = i
    · subst hji
      rw [ho] at ho'; cases ho'
      simp only [ins, hd e he hal, Bool.or_true]
    · have hj' : S j = true := by
        simp only [ins] at hj
        have : (j == i) = false := by simpa using hji
        rw [this, Bool.false_or] at hj; exact hj
      simp only [ins, hD j o' ho' hj' e he hal, Bool.or_true]
  have h := (hstep i o ho S f w hS hD hd hI).out
  refine ⟨?_⟩
  simp only [wpM] at h ⊢
  unfold wpList at h ⊢
  split
  · rename_i hw
    rw [if_pos hw] at h
    rcases h with h | ⟨ha, hl⟩
    · refine .inl ?_
      unfold Oper.wp at h ⊢
      refine upon_mono ?_ ?_ _ h
      · rintro a w ⟨f', rfl, hI'⟩; exact ⟨f', rfl, hI', hD'⟩
      · intro e a w hne hq; cases e <;> first | exact absurd rfl hne | exact hq
    · exact .inr ⟨ha, by obtain ⟨a, w, h⟩ := hl; exact ⟨a, w, h⟩⟩
  · rename_i hw
    rw [if_neg hw] at h
    obtain ⟨f', he, hI'⟩ := h
    exact ⟨f', he, hI', hD'⟩
def gcEdges (ops : Array Oper) (rk : Nat → Nat) : Bool := ops.toList.zipIdx.all fun x => x.1.after.all fun e =>
  match e.ground with
  | .gcOnly _ => Nat.blt e.on ops.size && Nat.blt (rk e.on) (rk x.2)
  | .textOnly _ => Nat.blt e.on x.2
  | _ => Nat.blt e.on x.2 && Nat.blt (rk e.on) (rk x.2)
theorem rank_gc {ops : Array Oper} {rk : Nat → Nat} (h : gcEdges ops rk = true) : ∀ m, ∀ i o, ops[i]? = some o → ∀ e ∈ o.after, Region.binds m e = true →
    e.on < ops.size ∧ (if m = .gc then rk else fun i => i) e.on < (if m = .gc then rk else fun i => i) i := by
  intro m i o ho e he hb
  have hi : i < ops.size := by
    rcases Nat.lt_or_ge i ops.size with h | h
    · exact h
    · rw [Array.getElem?_eq_none h] at ho; cases ho
  unfold gcEdges at h
  rw [List.all_eq_true] at h
  have h1 := h (o, i) (by rw [List.mem_zipIdx_iff_getElem?]; simpa using ho)
  rw [Array.all_eq_true_iff_forall_mem] at h1
  have h2 := h1 e he
  obtain ⟨on, gr⟩ := e
  cases gr <;> simp [Region.binds] at h2 hb ⊢
  all_goals (cases m <;> simp at hb ⊢ <;> omega)
end
section
theorem hp50 : Tryz.prog.stoodInHeld 50 = false := by kernel_rfl
theorem hq50 : Tryz.prog.eqGuardType Tryz.prog.depth 50 = false := by kernel_rfl
theorem hq48 : Tryz.prog.eqGuardType Tryz.prog.depth 48 = false := by kernel_rfl
theorem hf50 : Tryz.prog.underlying 50 = some (.struct (Tryz.prog.fieldsOf 50)) := by kernel_rfl
theorem run_part {P : Program} {T : TypeId} {cs : Array Value} {i : Nat} {v : Value} {w : World} (hT : isOne P T) (h : cs[i]? = some v) : (part T cs i).run P w = .ok v w := by
  obtain ⟨d, hd, hm⟩ := hT
  cases d <;> simp [agB] at hm <;> simp [part, isAgg, run_underlying hd, h, go_sem]
theorem run_eqInt {P : Program} {T : TypeId} {k : IntKind} {a b : Int} {d : Nat} {w : World} (h : P.underlying T = some (.int k)) : (Op.equalIn (d + 1) T (.int k a) (.int k b)).run P w = .ok (decide (a = b)) w := by
  simp only [Op.equalIn, Sem.run_bind, run_underlying h, Result.andThen_ok, if_true]
  rfl
theorem run_eqStr {P : Program} {T : TypeId} {a b : ByteArray} {d : Nat} {w : World} (h : P.underlying T = some .string) : (Op.equalIn (d + 1) T (.string a) (.string b)).run P w = .ok (decide (a = b)) w := by
  simp only [Op.equalIn, Sem.run_bind, run_underlying h, Result.andThen_ok]
  rw [beq_toListBytes, str_beq]; rfl
theorem fl50 : (Tryz.prog.fieldsOf 50).toList = [{ name := "Code", type := 5, offset := 0, embedded := false, tag := "", pkgPath := "", byteOffset := 0 }, { name := "Value", type := 9, offset := 1, embedded := false, tag := "", pkgPath := "", byteOffset := 8 }] := by kernel_rfl
theorem ef_cons {P : Program} {d : Nat} {xs ys : Array Value} {f : Field} {fs : List Field} {a b : Value} {r t : Bool} {w : World} (hn : (f.name == "_") = false) (ha : (part f.type xs f.offset).run P w = .ok a w) (hb : (part f.type ys f.offset).run P w = .ok b w)
    (he : (Op.equalIn d f.type a b).run P w = .ok r w) (hr : (Op.eqFields d xs ys fs).run P w = .ok t w) : (Op.eqFields d xs ys (f :: fs)).run P w = .ok (r && t) w := by
  have hn' : f.name ≠ "_" := by simpa using hn
  rw [Op.eqFields]
  simp only [if_pos hn', Sem.run_bind, ha, hb, he, Result.andThen_ok]
  cases r
  · simp
  · simpa using hr
theorem run_eq50 (c c' : Int) (s s' : ByteArray) (d : Nat) (w : World) : (Op.equalIn (d + 2) 50 (.agg #[.int .u8 c, .string s]) (.agg #[.int .u8 c', .string s'])).run Tryz.prog w = .ok (decide (c = c') && (decide (s = s') && true)) w := by
  rw [run_equalIn_struct w _ 50 _ _ hf50 hp50, fl50]
  exact ef_cons (by decide) (run_part on5 rfl) (run_part on5 rfl) (run_eqInt Tryz.underlying5) (ef_cons (by decide) (run_part on9 rfl) (run_part on9 rfl) (run_eqStr Tryz.underlying9) rfl)
theorem sizeOf_run {P : Program} {T k : Nat} (h : sizeIs P T k) (w : World) : (sizeOf T).run P w = .ok k w := by
  obtain ⟨i, hi, hs⟩ := h; simp [sizeOf, typeInfo, hi, hs]
theorem run_eq48 (a b a' b' : Int) (d : Nat) (w : World) : (Op.equalIn (d + 2) 48 (.agg #[.int .u8 a, .int .u8 b]) (.agg #[.int .u8 a', .int .u8 b'])).run Tryz.prog w = .ok (decide (a = a') && decide (b = b')) w := by
  rw [Op.equalIn]
  simp only [Sem.run_bind, run_underlying Tryz.underlying48, Result.andThen_ok, sizeOf_run sz5]
  have p0 : ∀ w, (part 5 #[Value.int .u8 a, .int .u8 b] 0).run Tryz.prog w = .ok (.int .u8 a) w := fun w => run_part on5 rfl
  have p1 : ∀ w, (part 5 #[Value.int .u8 a, .int .u8 b] 1).run Tryz.prog w = .ok (.int .u8 b) w := fun w => run_part on5 rfl
  have q0 : ∀ w, (part 5 #[Value.int .u8 a', .int .u8 b'] 0).run Tryz.prog w = .ok (.int .u8 a') w := fun w => run_part on5 rfl
  have q1 : ∀ w, (part 5 #[Value.int .u8 a', .int .u8 b'] 1).run Tryz.prog w = .ok (.int .u8 b') w := fun w => run_part on5 rfl
  have e : ∀ (x y : Int) w, (Op.equalIn (d + 1) 5 (.int .u8 x) (.int .u8 y)).run Tryz.prog w = .ok (decide (x = y)) w := fun x y w => run_eqInt Tryz.underlying5
  simp only [Std.Legacy.Range.forIn_eq_forIn_range', Std.Legacy.Range.size, Nat.sub_zero, Nat.add_sub_cancel, Nat.div_one, List.range'_succ, List.forIn_cons, List.forIn_nil, Sem.run_bind, Nat.zero_mul, Nat.zero_add, Nat.one_mul, p0, p1, q0, q1, e, Result.andThen_ok]
  generalize decide (a = a') = r1
  cases r1
  · simp
  · simp only [Bool.not_true, Bool.false_eq_true, if_false, Sem.run_bind, Sem.run_pure, Result.andThen_ok, p1, q1, e]
    generalize decide (b = b') = r2
    cases r2 <;> simp
theorem run_guard {P : Program} {o : BinOp} {T : TypeId} {x y : Operand} {xs ys : Array Value} {w : World} (h : P.eqGuardType P.depth T = false) : (eqGuard o T x y (.agg xs) (.agg ys)).run P w = .ok () w := by
  unfold eqGuard
  cases o <;> simp [h]
section steps
variable {md : Md} {ops : Array Oper} {Q : Exit → Act → World → Prop} {n : Nat} {ds : List Deferred} {f : Nat → Value} {w w' : World} {rest : List Oper}
  {d : Nat} {ty : TypeId} {pos : String} {af : Array Edge} {g : Option (Nat × Bool)} {v : Value} {x y z : Operand} {ty' : TypeId} {t : Bool}
theorem s_ne50 {c c' : Int} {s s' : ByteArray} (hg : Gd n ops f g = some true) (hb : inb n x = true) (hb' : inb n y = true) (hx : ev f x = .agg #[.int .u8 c, .string s]) (hy : ev f y = .agg #[.int .u8 c', .string s'])
    (ht : (!(decide (c = c') && (decide (s = s') && true))) = t) (k : WL md Tryz.prog ops Q rest n ds (upd f d (.bool t)) w) : WL md Tryz.prog ops Q (⟨some d, .binOp .neq 50 x y ty', ty, pos, af, g⟩ :: rest) n ds f w := by
  refine s_bin hg hb hb' hx hy ?_ k
  rw [Sem.run_bind, run_guard hq50]
  simp only [Result.andThen_ok, binOp, Sem.run_bind, Op.equal, Op.maxDepth, run_eq50 _ _ _ _ 9998, ht, Sem.run_pure]
theorem s_eq48 {a b a' b' : Int} (hg : Gd n ops f g = some true) (hb : inb n x = true) (hb' : inb n y = true) (hx : ev f x = .agg #[.int .u8 a, .int .u8 b]) (hy : ev f y = .agg #[.int .u8 a', .int .u8 b'])
    (ht : (decide (a = a') && decide (b = b')) = t) (k : WL md Tryz.prog ops Q rest n ds (upd f d (.bool t)) w) : WL md Tryz.prog ops Q (⟨some d, .binOp .eql 48 x y ty', ty, pos, af, g⟩ :: rest) n ds f w := by
  refine s_bin hg hb hb' hx hy ?_ k
  rw [Sem.run_bind, run_guard hq48]
  simp only [Result.andThen_ok, binOp, Sem.run_bind, Op.equal, Op.maxDepth, run_eq48 _ _ _ _ 9998, ht, Sem.run_pure]
theorem s_ne48 {a b a' b' : Int} (hg : Gd n ops f g = some true) (hb : inb n x = true) (hb' : inb n y = true) (hx : ev f x = .agg #[.int .u8 a, .int .u8 b]) (hy : ev f y = .agg #[.int .u8 a', .int .u8 b'])
    (ht : (!(decide (a = a') && decide (b = b'))) = t) (k : WL md Tryz.prog ops Q rest n ds (upd f d (.bool t)) w) : WL md Tryz.prog ops Q (⟨some d, .binOp .neq 48 x y ty', ty, pos, af, g⟩ :: rest) n ds f w := by
  refine s_bin hg hb hb' hx hy ?_ k
  rw [Sem.run_bind, run_guard hq48]
  simp only [Result.andThen_ok, binOp, Sem.run_bind, Op.equal, Op.maxDepth, run_eq48 _ _ _ _ 9998, ht, Sem.run_pure]
end steps
end
section
def Row (w : World) (v : Value) (e size n : Nat) (xs : List Value) (g : Option Nat) : Prop :=
  xs.length = n * size ∧ ((v = .slice none 0 0 ∧ n = 0 ∧ g = none) ∨
    ∃ b cap cur, g = some b ∧ v = .slice (some ⟨b, 0, none⟩) n cap ∧ w.heap[b]? = some (.cells cur e (0, 0)) ∧ n ≤ cap ∧ cap ≤ maxLen ∧ cur.size = cap * size ∧ cur.toList.take (n * size) = xs)
theorem Row.nil (w : World) (e size : Nat) : Row w (.slice none 0 0) e size 0 [] none := ⟨by simp, .inl ⟨rfl, rfl, rfl⟩⟩
theorem Row.kp {M : Nat → Prop} {w w' : World} {v : Value} {e size n : Nat} {xs : List Value} {g : Option Nat} (h : Row w v e size n xs g) (k : Kp M w w') (hm : ∀ b, g = some b → ¬ M b) : Row w' v e size n xs g := by
  refine ⟨h.1, ?_⟩
  rcases h.2 with h2 | ⟨b, cap, cur, hg, hv, hh, r⟩
  · exact .inl h2
  · exact .inr ⟨b, cap, cur, hg, hv, (k.block b (Array.getElem?_eq_some_iff.1 hh).1 (hm b hg)).trans hh, r⟩
theorem Row.lt {w : World} {v : Value} {e size n : Nat} {xs : List Value} {g : Option Nat} (h : Row w v e size n xs g) : ∀ b, g = some b → b < w.heap.size := by
  intro b hb
  rcases h.2 with ⟨_, _, h2⟩ | ⟨b', cap, cur, hg, hv, hh, r⟩
  · rw [h2] at hb; cases hb
  · rw [hg] at hb; cases hb; exact (Array.getElem?_eq_some_iff.1 hh).1
theorem Row.cells {w : World} {v : Value} {e size n : Nat} {xs : List Value} {b : Nat} (h : Row w v e size n xs (some b)) : CellsAt w ⟨b, 0, none⟩ xs := by
  rcases h.2 with ⟨_, _, h2⟩ | ⟨b', cap, cur, hg, hv, hh, _, _, hcs, ht⟩
  · cases h2
  · cases hg
    intro j u hu
    rw [add_lit, cell_of_row w b j cur e (0, 0) hh]
    rw [← ht, List.getElem?_take] at hu
    split at hu
    · simpa using hu
    · cases hu
theorem Row.shape {w : World} {v : Value} {e size n : Nat} {xs : List Value} {g : Option Nat} (h : Row w v e size n xs g) : ∃ A cap, v = .slice A n cap ∧ n ≤ cap ∧ (A = none → n = 0) ∧ (∀ p, A = some p → ∃ b, g = some b ∧ p = ⟨b, 0, none⟩) := by
  rcases h.2 with ⟨rfl, rfl, _⟩ | ⟨b, cap, cur, hg, rfl, _, hc, _⟩
  · exact ⟨none, 0, rfl, Nat.le_refl _, (fun _ => rfl), (fun p hp => by cases hp)⟩
  · exact ⟨_, cap, rfl, hc, (fun h => by cases h), (fun p hp => by cases hp; exact ⟨b, hg, rfl⟩)⟩
section
variable {P : Program} {w : World} {t ty e size bytes n m c : Nat} {v : Value} {xs news : List Value} {g : Option Nat}
theorem row_grown (hsz : 0 < size) {z : Value} (hzs : z.cells.size = size) (old : Nat) (hlx : xs.length = n * size) (hln : news.length = m * size) (hm : n + m ≤ 1000000) :
    Row (w.drew.alloc (.cells (xs.toArray ++ news.toArray ++ Builtin.zeroCells z.cells (grownCap w (n + m) old e - (n + m))) e)) (.slice (some ⟨w.heap.size, 0, none⟩) (n + m) (grownCap w (n + m) old e)) e size (n + m) (xs ++ news) (some w.heap.size) := by
  have hge := grownCap_ge w (n + m) old e
  have hcm : grownCap w (n + m) old e ≤ maxLen := grownCap_le_maxLen w (n + m) old e (by unfold maxLen; omega)
  have hlen : (xs ++ news).length = (n + m) * size := by rw [List.length_append, hlx, hln, Nat.add_mul]
  refine ⟨hlen, .inr ⟨w.heap.size, _, _, rfl, rfl, heap_alloc_new w.drew _, hge, hcm, ?_, ?_⟩⟩
  · simp only [Array.size_append, List.size_toArray, size_zeroCells, hzs, hlx, hln, ← Nat.add_mul]
    congr 1; omega
  · rw [Array.toList_append, Array.toList_append, ← hlen]
    exact List.take_left
theorem kp_grown (M : Nat → Prop) (w : World) (o : Obj) : Kp M w (w.drew.alloc o) := ⟨rfl, rfl, rfl, by simp, fun k hk _ => Below.heap_alloc w o k hk⟩
theorem run_app (hE : elIs P t e size bytes) (h100 : bytes ≤ 100) (hrow : Row w v e size n xs g) {a : Addr} (hl : news.length = m * size) (hnews : CellsAt w a news) (h1 : news.all (·.oneCell') = true) (hm : n + m ≤ 1000000) :
    ∃ v' w' g', (Builtin.append_ #[t, t] ty #[v, .slice (some a) m c]).run P w = .ok v' w' ∧ Row w' v' e size (n + m) (xs ++ news) g' ∧ Kp (fun k => some k = g) w w' ∧ (g' = g ∨ g' = some w.heap.size) := by
  obtain ⟨hu, i, z, hi, hz, hs, hby, hzs, hp⟩ := hE
  have hb : (n + m) * bytes ≤ 140737488355328 := Nat.le_trans (Nat.mul_le_mul hm h100) (by omega)
  have h1' : ∀ u ∈ news, u.oneCell' = true := fun u hu => by rw [List.all_eq_true] at h1; exact h1 u hu
  subst hs; subst hby
  rcases hrow.2 with ⟨rfl, rfl, rfl⟩ | ⟨b, cap, cur, rfl, rfl, hh, hnc, hcm, hcs, ht⟩
  · have hx : xs = [] := List.eq_nil_of_length_eq_zero (by simpa using hrow.1)
    subst hx
    by_cases hm0 : m = 0
    · subst hm0
      have hn : news = [] := List.eq_nil_of_length_eq_zero (by simpa using hl)
      subst hn
      refine ⟨.slice none 0 0, w, none, ?_, Row.nil w e i.size, Kp.refl _ _, .inl rfl⟩
      simp [Builtin.append_, run_underlying hu, sizeOf, typeInfo, hi, Builtin.lenOf, Builtin.firstCells, loadCells, loadCellsFrom]
    · have hr := run_append_nil (P := P) w t ty e i z hu hi hz a m c news hl hnews (by omega) (by omega) (by simp only [Nat.zero_add] at hb; omega)
      have hg := row_grown (w := w) (e := e) (n := 0) (m := m) (xs := []) hp hzs 0 (by simp) hl hm
      simp only [Nat.zero_add, List.nil_append, Array.empty_append] at hg ⊢
      exact ⟨_, _, _, hr, hg, kp_grown _ _ _, .inr rfl⟩
  · by_cases hroom : n + m ≤ cap
    · have hfit : n * i.size + news.length ≤ cur.size := by rw [hl, hcs, ← Nat.add_mul]; exact Nat.mul_le_mul_right _ hroom
      have hr := run_append_room (P := P) w t ty e i hu hi b n cap cur hh a m c news hl hnews h1' hroom hfit
      have hlen : (xs ++ news).length = (n + m) * i.size := by rw [List.length_append, hrow.1, hl, Nat.add_mul]
      refine ⟨_, _, some b, hr, ⟨hlen, .inr ⟨b, cap, _, rfl, rfl, setRow_heap w b cur _ e _ hh, hroom, hcm, ?_, ?_⟩⟩, ⟨rfl, rfl, rfl, by simp, fun k _ hk => setRow_other w b k _ (fun e => hk (by rw [e]))⟩, .inl rfl⟩
      · simp only [List.size_toArray, List.length_append, List.length_take, List.length_drop, Array.length_toList]
        omega
      · rw [ht, ← hlen]; exact List.take_left
    · have hr := run_append_grow (P := P) w t ty e i z hu hi hz ⟨b, 0, none⟩ n cap xs hrow.1 hrow.cells a m c news hl hnews (by omega) (by omega) (growslice_fits (by omega) hb)
      exact ⟨_, _, _, hr, row_grown hp hzs cap hrow.1 hl hm, kp_grown _ _ _, .inr rfl⟩
theorem run_appS {u : Nat} (hE : elIs P t e 1 1) (hz8 : (P.info? e).bind (·.zero) = some (.int .u8 0)) (hU : P.underlying u = some .string) (hrow : Row w v e 1 n xs g) (s : ByteArray) (hm : n + s.size ≤ 1000000) :
    ∃ v' w' g', (Builtin.append_ #[t, u] ty #[v, .string s]).run P w = .ok v' w' ∧ Row w' v' e 1 (n + s.size) (xs ++ Lib.strCells s) g' ∧ Kp (fun k => some k = g) w w' ∧ (g' = g ∨ g' = some w.heap.size) := by
  obtain ⟨hu, i, z, hi, hz, hs, hby, hzs, hp⟩ := hE
  have hl : (Lib.strCells s).length = s.size * 1 := by rw [Lib.strCells_length]; omega
  rcases hrow.2 with ⟨rfl, rfl, rfl⟩ | ⟨b, cap, cur, rfl, rfl, hh, hnc, hcm, hcs, ht⟩
  · have hx : xs = [] := List.eq_nil_of_length_eq_zero (by simpa using hrow.1)
    subst hx
    by_cases hm0 : s.size = 0
    · have hn : Lib.strCells s = [] := List.eq_nil_of_length_eq_zero (by rw [Lib.strCells_length]; exact hm0)
      rw [hn, hm0]
      refine ⟨.slice none 0 0, w, none, ?_, Row.nil w e 1, Kp.refl _ _, .inl rfl⟩
      have hd : s.data = #[] := by
        apply Array.eq_empty_of_size_eq_zero; exact hm0
      simp [Builtin.append_, run_underlying hu, run_underlying hU, sizeOf, typeInfo, hi, Builtin.lenOf, Builtin.firstCells, hm0]
    · have hr := run_append_nil_string (P := P) w t u ty e i z hu hU hi hz s (by omega) (by omega) (by rw [hby]; omega)
      have hg := row_grown (w := w) (e := e) (n := 0) (m := s.size) (xs := []) hp hzs 0 (by simp) hl hm
      simp only [Nat.zero_add, List.nil_append, Array.empty_append] at hg ⊢
      have he : s.data.map (fun b => Value.int .u8 b.toNat) = (Lib.strCells s).toArray := by
        unfold Lib.strCells; apply Array.ext'; simp
      rw [he] at hr
      exact ⟨_, _, _, hr, hg, kp_grown _ _ _, .inr rfl⟩
  · by_cases hroom : n + s.size ≤ cap
    · have hr := Lib.run_append_room_string (P := P) w t u ty e i hu hU hi hs b n cap cur hh s hroom (by omega)
      have hlen : (xs ++ Lib.strCells s).length = (n + s.size) * 1 := by rw [List.length_append, hrow.1, hl, Nat.add_mul]
      refine ⟨_, _, some b, hr, ⟨hlen, .inr ⟨b, cap, _, rfl, rfl, setRow_heap w b cur _ e _ hh, hroom, hcm, ?_, ?_⟩⟩, ⟨rfl, rfl, rfl, by simp, fun k _ hk => setRow_other w b k _ (fun e => hk (by rw [e]))⟩, .inl rfl⟩
      · simp only [List.size_toArray, List.length_append, List.length_take, List.length_drop, Array.length_toList, Lib.strCells_length]
        omega
      · rw [Nat.mul_one] at ht; rw [ht, ← hlen]; exact List.take_left
    · have hr := Lib.run_append_grow_string (P := P) w t u ty e i z hu hU hi hz ⟨b, 0, none⟩ n cap xs (by rw [hs]; exact hrow.1) hrow.cells s (by omega) (by omega) (growslice_fits (by omega) (by rw [hby]; omega))
      exact ⟨_, _, _, hr, row_grown hp hzs cap hrow.1 hl hm, kp_grown _ _ _, .inr rfl⟩
end
section steps
variable {md : Md} {P : Program} {ops : Array Oper} {Q : Exit → Act → World → Prop} {n : Nat} {ds : List Deferred} {f : Nat → Value} {w w' : World} {rest : List Oper}
  {d : Nat} {ty : TypeId} {pos : String} {af : Array Edge} {g : Option (Nat × Bool)} {v : Value} {x y z : Operand} {T U : TypeId}
theorem s_appR {e size bytes l m c : Nat} {v0 : Value} {xs news : List Value} {a : Addr} {r : Option Nat} (hE : elIs P T e size bytes) (h100 : Nat.ble bytes 100 = true)
    (hg : Gd n ops f g = some true) (hb : inb n x = true) (hb' : inb n y = true) (hx : ev f x = v0) (hy : ev f y = .slice (some a) m c)
    (hrow : Row w v0 e size l xs r) (hnews : CellsAt w a news) (hl : news.length = m * size) (h1 : news.all (·.oneCell') = true) (hm : l + m ≤ 1000000)
    (k : ∀ v' w' r', Row w' v' e size (l + m) (xs ++ news) r' → Kp (fun k => some k = r) w w' → (r' = r ∨ r' = some w.heap.size) → WL md P ops Q rest n ds (upd f d v') w') :
    WL md P ops Q (⟨some d, .call ⟨.builtin .append, #[x, y], #[T, T]⟩, ty, pos, af, g⟩ :: rest) n ds f w := by
  obtain ⟨v', w', r', hr, ho, hk, hor⟩ := run_app (P := P) (ty := ty) (c := c) hE (Nat.le_of_ble_eq_true h100) hrow hl hnews h1 hm
  exact st_run hg (v := v') (w' := w') (by simp only [execOp, resolve, List.map_toArray, List.map_cons, List.map_nil, Fr_eval hb, Fr_eval hb', hx, hy]; simp only [Sem.run_bind, Sem.run_pure, Result.andThen_ok, invoke, builtin, hr]) (k v' w' r' ho hk hor)
theorem s_appStr {l : Nat} {v0 : Value} {e : Nat} {xs : List Value} {s : ByteArray} {r : Option Nat} (hE : elIs P T e 1 1) (hz8 : (P.info? e).bind (·.zero) = some (.int .u8 0)) (hU : P.underlying U = some .string)
    (hg : Gd n ops f g = some true) (hb : inb n x = true) (hb' : inb n y = true) (hx : ev f x = v0) (hy : ev f y = .string s)
    (hrow : Row w v0 e 1 l xs r) (hm : l + s.size ≤ 1000000)
    (k : ∀ v' w' r', Row w' v' e 1 (l + s.size) (xs ++ Lib.strCells s) r' → Kp (fun k => some k = r) w w' → (r' = r ∨ r' = some w.heap.size) → WL md P ops Q rest n ds (upd f d v') w') :
    WL md P ops Q (⟨some d, .call ⟨.builtin .append, #[x, y], #[T, U]⟩, ty, pos, af, g⟩ :: rest) n ds f w := by
  obtain ⟨v', w', r', hr, ho, hk, hor⟩ := run_appS (P := P) (ty := ty) hE hz8 hU hrow s hm
  exact st_run hg (v := v') (w' := w') (by simp only [execOp, resolve, List.map_toArray, List.map_cons, List.map_nil, Fr_eval hb, Fr_eval hb', hx, hy]; simp only [Sem.run_bind, Sem.run_pure, Result.andThen_ok, invoke, builtin, hr]) (k v' w' r' ho hk hor)
theorem run_eqnil {A : Option Addr} {l m : Nat} {e : TypeId} (hT : P.underlying T = some (.slice e)) (d' : Nat) : (Op.equalIn (d' + 1) T (.slice A l m) (.slice none 0 0)).run P w = .ok A.isNone w := by
  rw [Op.equalIn]
  cases A <;> simp only [Sem.run_bind, run_underlying hT, Result.andThen_ok] <;> rfl
theorem s_eqnil {A : Option Addr} {l m : Nat} {e : TypeId} {t : Bool} (hT : P.underlying T = some (.slice e)) (hg : Gd n ops f g = some true) (hb : inb n x = true) (hb' : inb n y = true) (hx : ev f x = .slice A l m) (hy : ev f y = .slice none 0 0)
    {ty' : TypeId} (ht : A.isNone = t) (k : WL md P ops Q rest n ds (upd f d (.bool t)) w) : WL md P ops Q (⟨some d, .binOp .eql T x y ty', ty, pos, af, g⟩ :: rest) n ds f w := by
  refine s_bin hg hb hb' hx hy ?_ k
  subst ht
  have h1 : (eqGuard .eql T x y (.slice A l m) (.slice none 0 0)).run P w = .ok () w := by unfold eqGuard; simp
  rw [Sem.run_bind, h1]
  simp only [Result.andThen_ok, binOp, Sem.run_bind, Op.equal, Op.maxDepth, run_eqnil hT 9999, Sem.run_pure]
theorem s_bs0 {e size bytes : Nat} (hE : elIs P T e size bytes) (hg : Gd n ops f g = some true)
    (k : ∀ b w', b = w.heap.size → Row w' (.slice (some ⟨b, 0, none⟩) 0 0) e size 0 [] (some b) → Kp (fun _ => False) w w' → w'.heap.size = w.heap.size + 1 → WL md P ops Q rest n ds (upd f d (.slice (some ⟨b, 0, none⟩) 0 0)) w') :
    WL md P ops Q (⟨some d, .buildSlice T 0 #[], ty, pos, af, g⟩ :: rest) n ds f w := by
  obtain ⟨hu, i', z, hi', hz, hs, _, hzs, hp⟩ := hE
  refine st_run hg (w' := w.alloc (.cells #[] e)) (v := .slice (some ⟨w.heap.size, 0, none⟩) 0 0) ?_ (k _ _ rfl ⟨by simp, .inr ⟨_, 0, #[], rfl, rfl, heap_alloc_new w _, Nat.le_refl _, by unfold maxLen; omega, by simp, by simp⟩⟩ (kp_alloc w _) (size_alloc w _))
  simp only [execOp]
  have hb : (Instr.buildSlice T 0 #[]).run P w = .ok (.slice (some ⟨w.heap.size, 0, none⟩) 0 0) (w.alloc (.cells #[] e)) := by
    simp [Instr.buildSlice, run_underlying hu, sizeOf, typeInfo, hi', Instr.fill, newRow]
    rw [show Array.range 0 = #[] from rfl, Array.map_empty]
  exact run_val (by rw [Array.map_empty]; exact hb)
end steps
end
section
theorem flat_get {α : Type} (c : α → List Value) (k : Nat) (hc : ∀ x, (c x).length = k) : ∀ (l : List α) (i j : Nat) (x : α), l[i]? = some x → j < k → (l.flatMap c)[i * k + j]? = (c x)[j]? := by
  intro l
  induction l with
  | nil => intro i j x h; simp at h
  | cons a l ih =>
    intro i j x h hj
    rw [List.flatMap_cons]
    cases i with
    | zero =>
      simp at h; subst h
      rw [Nat.zero_mul, Nat.zero_add, List.getElem?_append_left (by rw [hc]; exact hj)]
    | succ i =>
      simp at h
      rw [List.getElem?_append_right (by rw [hc, Nat.succ_mul]; omega), hc]
      have : (i + 1) * k + j - k = i * k + j := by rw [Nat.succ_mul]; omega
      rw [this]; exact ih i j x h hj
theorem flat_len {α : Type} (c : α → List Value) (k : Nat) (hc : ∀ x, (c x).length = k) (l : List α) : (l.flatMap c).length = l.length * k := by
  induction l with
  | nil => simp
  | cons a l ih => rw [List.flatMap_cons, List.length_append, hc, ih, List.length_cons, Nat.succ_mul]; omega
theorem cells_of_flat {α : Type} (c : α → List Value) (k : Nat) (hc : ∀ x, (c x).length = k) {w : World} {a : Addr} {l : List α} (h : CellsAt w a (l.flatMap c)) {i : Nat} {x : α} (hx : l[i]? = some x) : CellsAt w (a.add (i * k)) (c x) := by
  intro j v hv
  rw [add_add]
  refine h _ _ ?_
  have hj : j < k := by
    have := (List.getElem?_eq_some_iff.1 hv).1; rwa [hc] at this
  rw [flat_get c k hc l i j x hx hj]; exact hv
theorem flat_of_cells {α : Type} (c : α → List Value) (k : Nat) (hk : 0 < k) (hc : ∀ x, (c x).length = k) {w : World} {a : Addr} {l : List α} (h : ∀ i x, l[i]? = some x → CellsAt w (a.add (i * k)) (c x)) : CellsAt w a (l.flatMap c) := by
  intro j v hv
  have hlen := flat_len c k hc l
  have hj : j < l.length * k := by
    have := (List.getElem?_eq_some_iff.1 hv).1; rwa [hlen] at this
  have hi : j / k < l.length := Nat.div_lt_of_lt_mul (by rw [Nat.mul_comm]; exact hj)
  have hm : j % k < k := Nat.mod_lt _ hk
  have he : j / k * k + j % k = j := Nat.div_add_mod' j k
  have hg := flat_get c k hc l (j / k) (j % k) l[j / k] (List.getElem?_eq_getElem hi) hm
  rw [he, hv] at hg
  have := h (j / k) _ (List.getElem?_eq_getElem hi) (j % k) v hg.symm
  rwa [add_add, he] at this
theorem Sub.len (s : Sub) : s.cells.length = 2 := rfl
def flatF (ps : List (Fld × Value)) : List Value := ps.flatMap fun p => p.1.cells p.2
theorem flatF_len (ps : List (Fld × Value)) : (flatF ps).length = ps.length * 4 := flat_len _ 4 (fun _ => rfl) ps
theorem rsubs_of_row {w : World} {v : Value} {l : List Sub} {r : Option Nat} (h : Row w v 50 2 l.length (l.flatMap Sub.cells) r) (hb : l.length ≤ 1000000) : RSubs (fun i => some i = r) w v l := by
  obtain ⟨A, cap, hv, hc, hn, hs⟩ := h.shape
  refine ⟨A, cap, hv, by unfold big; omega, fun i s hi => ?_⟩
  cases A with
  | none => have := hn rfl; have := (List.getElem?_eq_some_iff.1 hi).1; omega
  | some p =>
    obtain ⟨b, hr, hp⟩ := hs p rfl
    subst hr hp
    exact ⟨_, rfl, rfl, cells_of_flat Sub.cells 2 Sub.len h.cells hi⟩
theorem subs_all1 (l : List Sub) : (l.flatMap Sub.cells).all (·.oneCell') = true := by
  rw [List.all_eq_true]; intro x hx
  rw [List.mem_flatMap] at hx
  obtain ⟨s, _, hs⟩ := hx
  simp only [Sub.cells, List.mem_cons, List.not_mem_nil, or_false] at hs
  rcases hs with rfl | rfl <;> rfl
theorem flat_of_subs {G : Nat → Prop} {w : World} {a : Addr} {l : List Sub} (h : SubsAt G w (some a) l) : CellsAt w a (l.flatMap Sub.cells) :=
  flat_of_cells Sub.cells 2 (by omega) Sub.len fun i x hx => by
    obtain ⟨p, hp, _, hc⟩ := h.2 i x hx
    cases hp; exact hc
def FRow (B : Nat) (w : World) (v : Value) (l : List Fld) (r : Option Nat) : Prop :=
  ∃ ps : List (Fld × Value), ps.map (·.1) = l ∧ Row w v 53 4 l.length (flatF ps) r ∧ (∀ p ∈ ps, RSubs (fun i => B ≤ i ∧ some i ≠ r) w p.2 p.1.subs) ∧ ∀ b, r = some b → B ≤ b
theorem FRow.nil (B : Nat) (w : World) : FRow B w (.slice none 0 0) [] none := ⟨[], rfl, Row.nil w 53 4, by simp, by simp⟩
theorem FRow.kp {B : Nat} {M : Nat → Prop} {w w' : World} {v : Value} {l : List Fld} {r : Option Nat} (h : FRow B w v l r) (k : Kp M w w') (hm : ∀ i, i < w.heap.size → B ≤ i → ¬ M i) : FRow B w' v l r := by
  obtain ⟨ps, hps, hrow, hs, hB⟩ := h
  refine ⟨ps, hps, hrow.kp k (fun b hb => hm b (hrow.lt b hb) (hB b hb)), fun p hp => (hs p hp).kp k (fun i hi hg => hm i hi hg.1), hB⟩
theorem FRow.rlt {B : Nat} {w : World} {v : Value} {l : List Fld} {r : Option Nat} (h : FRow B w v l r) : ∀ b, r = some b → b < w.heap.size := by
  obtain ⟨ps, hps, hrow, hs, hB⟩ := h; exact hrow.lt
theorem FRow.rge {B : Nat} {w : World} {v : Value} {l : List Fld} {r : Option Nat} (h : FRow B w v l r) : ∀ b, r = some b → B ≤ b := by
  obtain ⟨ps, hps, hrow, hs, hB⟩ := h; exact hB
theorem FRow.kp' {B : Nat} {M : Nat → Prop} {w w' : World} {v : Value} {l : List Fld} {r : Option Nat} (h : FRow B w v l r) (k : Kp M w w') (hm : ∀ i, i < w.heap.size → B ≤ i → M i → False) : FRow B w' v l r := h.kp k hm
theorem RSubs.one {G : Nat → Prop} {w : World} {v : Value} {l : List Sub} (h : RSubs G w v l) : v.oneCell' = true := by
  obtain ⟨A, cap, rfl, _⟩ := h; rfl
theorem FRow.rflds {B : Nat} {w : World} {v : Value} {l : List Fld} {r : Option Nat} (h : FRow B w v l r) (hl : l.length ≤ 1000000) : RFlds (fun i => B ≤ i) w v l := by
  obtain ⟨ps, hps, hrow, hs, hB⟩ := h
  obtain ⟨A, cap, hv, hc, hn, hsh⟩ := hrow.shape
  refine ⟨A, cap, hv, by unfold big; omega, fun i f hi => ?_⟩
  cases A with
  | none => have := hn rfl; have := (List.getElem?_eq_some_iff.1 hi).1; omega
  | some p =>
    obtain ⟨b, hr, hp⟩ := hsh p rfl
    subst hr hp
    rw [← hps, List.getElem?_map] at hi
    cases hq : ps[i]? with
    | none => rw [hq] at hi; simp at hi
    | some q =>
      rw [hq] at hi; simp at hi; subst hi
      exact ⟨_, q.2, rfl, hB b rfl, cells_of_flat (fun p : Fld × Value => p.1.cells p.2) 4 (fun _ => rfl) hrow.cells hq, (hs q (List.mem_of_getElem? hq)).weak (fun i h => h.1)⟩
theorem flatF_all1 {w : World} {G : (Fld × Value) → Nat → Prop} {ps : List (Fld × Value)} (h : ∀ p ∈ ps, RSubs (G p) w p.2 p.1.subs) : (flatF ps).all (·.oneCell') = true := by
  rw [List.all_eq_true]; intro x hx
  unfold flatF at hx
  rw [List.mem_flatMap] at hx
  obtain ⟨p, hp, hs⟩ := hx
  simp only [Fld.cells, List.mem_cons, List.not_mem_nil, or_false] at hs
  rcases hs with rfl | rfl | rfl | rfl
  · rfl
  · rfl
  · rfl
  · exact (h p hp).one
theorem FRow.parts {B : Nat} {w : World} {v : Value} {l : List Fld} {r : Option Nat} (h : FRow B w v l r) (hBw : B ≤ w.heap.size) :
    ∃ xs, Row w v 53 4 l.length xs r ∧ ∀ (qs : List (Fld × Value)) (w' : World) (v' : Value) (r' : Option Nat), Row w' v' 53 4 (l.length + qs.length) (xs ++ flatF qs) r' → Kp (fun k => some k = r) w w' → (r' = r ∨ r' = some w.heap.size) →
      (∀ p ∈ qs, RSubs (fun i => B ≤ i ∧ some i ≠ r) w p.2 p.1.subs) → FRow B w' v' (l ++ qs.map (·.1)) r' := by
  obtain ⟨ps, hps, hrow, hs, hB⟩ := h
  refine ⟨flatF ps, hrow, fun qs w' v' r' hrow' k hr hq => ⟨ps ++ qs, by simp [hps], ?_, ?_, ?_⟩⟩
  · have e1 : flatF (ps ++ qs) = flatF ps ++ flatF qs := by simp [flatF]
    rw [e1, List.length_append, List.length_map]; exact hrow'
  · intro p hp
    have hall : RSubs (fun i => B ≤ i ∧ some i ≠ r) w p.2 p.1.subs := by
      rcases List.mem_append.1 hp with hp | hp
      · exact hs p hp
      · exact hq p hp
    have h2 := hall.bound.kp k (fun i hi hg => hg.1.2)
    refine h2.weak (fun i hg => ⟨hg.1.1, ?_⟩)
    rcases hr with rfl | rfl
    · exact hg.1.2
    · intro e; have := Option.some.inj e; omega
  · intro b hb
    rcases hr with rfl | rfl
    · exact hB b hb
    · have := Option.some.inj hb; omega
end
section
section steps
variable {md : Md} {P : Program} {ops : Array Oper} {Q : Exit → Act → World → Prop} {n : Nat} {ds : List Deferred} {f : Nat → Value} {w w' : World} {rest : List Oper}
  {d : Nat} {ty : TypeId} {pos : String} {af : Array Edge} {g : Option (Nat × Bool)} {v : Value} {x y z : Operand} {T U T0 : TypeId}
theorem made_rep (z : Value) (k : Nat) : madeCells #[z] k = (List.replicate k z).toArray := by
  unfold madeCells
  apply Array.ext
  · simp
  · intro j h1 h2; simp [Nat.mod_one]
theorem run_mk {e bytes : Nat} {z0 : Value} {l c : Nat} (hE : elIs P T e 1 bytes) (hz : (P.info? e).bind (·.zero) = some z0) (hz1 : z0.cells = #[z0]) (h100 : bytes ≤ 100) (hlc : l ≤ c) (hc : c ≤ 1000000) :
    (Instr.makeSlice T (.int .i64 l) (.int .i64 c)).run P w = .ok (.slice (some ⟨w.heap.size, 0, none⟩) l c) (w.alloc (.cells (List.replicate c z0).toArray e)) := by
  obtain ⟨hu, i, z, hi, hzz, hs, hby, hzs, hp⟩ := hE
  have e1 : z = z0 := by simpa [hi, hzz] using hz
  subst e1
  have hb : (i.bytes : Int) * (c : Int) ≤ 281474976710656 := by
    have : i.bytes * c ≤ 100 * 1000000 := Nat.mul_le_mul (by omega) hc
    have h2 : ((i.bytes * c : Nat) : Int) ≤ 281474976710656 := by omega
    rwa [Int.natCast_mul] at h2
  have hr := run_make (P := P) w T e i z hu hi hzz .i64 .i64 l c (by omega) (by omega) hb (by omega)
  simp only [Int.toNat_natCast, hs, Nat.mul_one, hz1] at hr
  rw [made_rep] at hr
  exact hr
theorem s_mk {e bytes : Nat} {z0 : Value} {l c : Nat} (hE : elIs P T e 1 bytes) (hz : (P.info? e).bind (·.zero) = some z0) (h100 : Nat.ble bytes 100 = true) (hg : Gd n ops f g = some true) (hb : inb n x = true) (hb' : inb n y = true)
    (hz1 : z0.cells = #[z0]) (hx : ev f x = .int .i64 (l : Int)) (hy : ev f y = .int .i64 (c : Int)) (hlc : l ≤ c) (hc : c ≤ 1000000)
    (k : ∀ b w', b = w.heap.size → Own w' b e (List.replicate c z0) → Kp (fun _ => False) w w' → w'.heap.size = w.heap.size + 1 → WL md P ops Q rest n ds (upd f d (.slice (some ⟨b, 0, none⟩) l c)) w') :
    WL md P ops Q (⟨some d, .makeSlice T x y, ty, pos, af, g⟩ :: rest) n ds f w :=
  st_run hg (w' := w.alloc (.cells (List.replicate c z0).toArray e)) (by simp only [execOp, Fr_eval hb, Fr_eval hb', hx, hy]; exact run_val (run_mk hE hz hz1 (Nat.le_of_ble_eq_true h100) hlc hc)) (k _ _ rfl (own_alloc w e _) (kp_alloc w _) (size_alloc w _))
theorem s_max {k : IntKind} {a b c : Int} {at' : Array TypeId} (hg : Gd n ops f g = some true) (hb : inb n x = true) (hb' : inb n y = true) (hx : ev f x = .int k a) (hy : ev f y = .int k b) (hc : max a b = c)
    (kk : WL md P ops Q rest n ds (upd f d (.int k c)) w) : WL md P ops Q (⟨some d, .call ⟨.builtin .max, #[x, y], at'⟩, ty, pos, af, g⟩ :: rest) n ds f w := by
  have hr : (Builtin.max_ at' ty #[.int k a, .int k b]).run P w = .ok (.int k c) w := by
    subst hc
    simp only [Builtin.max_, List.foldlM_cons, List.foldlM_nil, Builtin.max2]
    simp
    omega
  exact st_run hg (by simp only [execOp, resolve, List.map_toArray, List.map_cons, List.map_nil, Fr_eval hb, Fr_eval hb', hx, hy]; simp only [Sem.run_bind, Sem.run_pure, Result.andThen_ok, invoke, builtin, hr]) kk
theorem s_min {k : IntKind} {a b c : Int} {at' : Array TypeId} (hg : Gd n ops f g = some true) (hb : inb n x = true) (hb' : inb n y = true) (hx : ev f x = .int k a) (hy : ev f y = .int k b) (hc : min a b = c)
    (kk : WL md P ops Q rest n ds (upd f d (.int k c)) w) : WL md P ops Q (⟨some d, .call ⟨.builtin .min, #[x, y], at'⟩, ty, pos, af, g⟩ :: rest) n ds f w := by
  have hr : (Builtin.min_ at' ty #[.int k a, .int k b]).run P w = .ok (.int k c) w := by
    subst hc
    simp only [Builtin.min_, List.foldlM_cons, List.foldlM_nil, Builtin.min2]
    simp
    omega
  exact st_run hg (by simp only [execOp, resolve, List.map_toArray, List.map_cons, List.map_nil, Fr_eval hb, Fr_eval hb', hx, hy]; simp only [Sem.run_bind, Sem.run_pure, Result.andThen_ok, invoke, builtin, hr]) kk
theorem s_set {b off : Nat} {cs : List Value} (hT : sizeIs P T 1) (hg : Gd n ops f g = some true) (hb : inb n x = true) (hb' : inb n y = true)
    (hx : ev f x = .pointer (some (Addr.add ⟨b, 0, none⟩ off))) (hy : ev f y = v) (hv : v.cells = #[v]) (h1 : v.oneCell' = true) (ho : Own w b T0 cs) (hl : off < cs.length)
    (k : ∀ w', Own w' b T0 (cs.set off v) → Kp (fun k => k = b) w w' → w'.heap.size = w.heap.size → WL md P ops Q rest n ds f w') :
    WL md P ops Q (⟨none, .store T x y, ty, pos, af, g⟩ :: rest) n ds f w := by
  refine s_st (new := [v]) off hT hg hb hb' hx hy hv (by simp [h1]) ho rfl ?_ ?_ k
  · simp only [List.length_cons, List.length_nil]; rw [Nat.ble_eq]; omega
  · simp only [spl, List.length_cons, List.length_nil, Nat.zero_add]
    rw [List.set_eq_take_append_cons_drop, if_pos hl]; simp
end steps
def ints (xs : List Int) : List Value := xs.map (Value.int .i64)
theorem ints_get {xs : List Int} {k : Nat} (h : k < xs.length) : (ints xs)[k]? = some (.int .i64 xs[k]) := by simp [ints, h]
theorem ints_len (xs : List Int) : (ints xs).length = xs.length := by simp [ints]
theorem ints_set (xs : List Int) (k : Nat) (x : Int) : (ints xs).set k (.int .i64 x) = ints (xs.set k x) := by simp [ints, List.map_set]
theorem ints_rep (n : Nat) : List.replicate n (Value.int .i64 0) = ints (List.replicate n 0) := by simp [ints]
def TRow (B : Nat) (H : Nat → Prop) (w : World) (os : List Value) (j nb : Nat) (bd : Int) : Prop :=
  ∃ rb xs, os[j]? = some (.slice (some ⟨rb, 0, none⟩) (nb + 1) (nb + 1)) ∧ Own w rb 3 (ints xs) ∧ xs.length = nb + 1 ∧ (∀ x ∈ xs, 0 ≤ x ∧ x ≤ bd) ∧ B ≤ rb ∧ H rb
theorem TRow.kp {B : Nat} {M H : Nat → Prop} {w w' : World} {os : List Value} {j nb : Nat} {bd : Int} (h : TRow B H w os j nb bd) (k : Kp M w w') (hm : ∀ i, i < w.heap.size → B ≤ i → H i → ¬ M i) : TRow B H w' os j nb bd := by
  obtain ⟨rb, xs, h1, h2, h3, h4, h5, h6⟩ := h
  exact ⟨rb, xs, h1, h2.kp k (hm rb h2.lt h5 h6), h3, h4, h5, h6⟩
theorem TRow.set {B : Nat} {H : Nat → Prop} {w : World} {os : List Value} {j nb i : Nat} {bd : Int} {v : Value} (h : TRow B H w os j nb bd) (hne : i ≠ j) : TRow B H w (os.set i v) j nb bd := by
  obtain ⟨rb, xs, h1, r⟩ := h
  exact ⟨rb, xs, by rw [List.getElem?_set_ne hne]; exact h1, r⟩
theorem TRow.weak {B : Nat} {H H' : Nat → Prop} {w : World} {os : List Value} {j nb : Nat} {bd : Int} (h : TRow B H w os j nb bd) (hh : ∀ q, q < w.heap.size → H q → H' q) : TRow B H' w os j nb bd := by
  obtain ⟨rb, xs, h1, h2, h3, h4, h5, h6⟩ := h
  exact ⟨rb, xs, h1, h2, h3, h4, h5, hh rb h2.lt h6⟩
def Tab (B : Nat) (w : World) (v : Value) (na nb : Nat) : Prop :=
  ∃ bo os, v = .slice (some ⟨bo, 0, none⟩) (na + 1) (na + 1) ∧ Own w bo 94 os ∧ os.length = na + 1 ∧ B ≤ bo ∧ ∀ j, j ≤ na → TRow B (fun q => q ≠ bo) w os j nb ((na : Int) - j)
theorem Tab.kp {B : Nat} {M : Nat → Prop} {w w' : World} {v : Value} {na nb : Nat} (h : Tab B w v na nb) (k : Kp M w w') (hm : ∀ i, i < w.heap.size → B ≤ i → ¬ M i) : Tab B w' v na nb := by
  obtain ⟨bo, os, h1, h2, h3, h4, h5⟩ := h
  exact ⟨bo, os, h1, h2.kp k (hm bo h2.lt h4), h3, h4, fun j hj => (h5 j hj).kp k (fun i hi hB _ => hm i hi hB)⟩
end
section
section steps
variable {md : Md} {P : Program} {ops : Array Oper} {Q : Exit → Act → World → Prop} {n : Nat} {ds : List Deferred} {f : Nat → Value} {w w' : World} {rest : List Oper}
  {d : Nat} {ty : TypeId} {pos : String} {af : Array Edge} {g : Option (Nat × Bool)} {v : Value} {x y z : Operand} {T U T0 : TypeId}
theorem s_mf1 {F : FuncId} (hg : Gd n ops f g = some true) (hb : inb n x = true) (hx : ev f x = v)
    (k : WL md P ops Q rest n ds (upd f d (.func (.func F) #[] #[v])) w) : WL md P ops Q (⟨some d, .makeFunc (.func F) #[] #[x], ty, pos, af, g⟩ :: rest) n ds f w :=
  st_run hg (by simp only [execOp, List.map_toArray, List.map_cons, List.map_nil, Fr_eval hb, hx]; rfl) k
theorem s_mf2 {F : FuncId} {u : Value} (hg : Gd n ops f g = some true) (hb : inb n x = true) (hb' : inb n y = true) (hx : ev f x = v) (hy : ev f y = u)
    (k : WL md P ops Q rest n ds (upd f d (.func (.func F) #[] #[v, u])) w) : WL md P ops Q (⟨some d, .makeFunc (.func F) #[] #[x, y], ty, pos, af, g⟩ :: rest) n ds f w :=
  st_run hg (by simp only [execOp, List.map_toArray, List.map_cons, List.map_nil, Fr_eval hb, Fr_eval hb', hx, hy]; rfl) k
theorem elem_of {t e : TypeId} (h : P.underlying t = some (.slice e)) : P.elem t = e := by
  unfold Program.elem; simp [h]
def part (A : Option Addr) (lo cap size : Nat) : Option Addr := if cap = lo then A else A.map (·.add (lo * size))
theorem s_slLH {A : Option Addr} {len cap lo hi m size bytes : Nat} {i j : Int} {e : TypeId} (hE : elIs P T e size bytes) (hg : Gd n ops f g = some true) (hb : inb n x = true) (hb1 : inb n y = true) (hb2 : inb n z = true)
    (hx : ev f x = .slice A len cap) (hy : ev f y = .int .i64 i) (hz : ev f z = .int .i64 j) (hi' : i = (lo : Int)) (hj : j = (hi : Int)) (h1 : lo ≤ hi) (h2 : hi ≤ cap) (hm : hi - lo = m)
    (k : WL md P ops Q rest n ds (upd f d (.slice (part A lo cap size) m (cap - lo))) w) : WL md P ops Q (⟨some d, .slice T x (some y) (some z) none, ty, pos, af, g⟩ :: rest) n ds f w := by
  obtain ⟨hu, ii, zz, hii, _, hs, _⟩ := hE
  have he := elem_of hu
  have ht : P.underlying T = some (.slice (P.elem T)) := by rw [he]; exact hu
  subst hi'; subst hj; subst hm
  refine st_run hg (v := .slice (part A lo cap size) (hi - lo) (cap - lo)) (w' := w) ?_ k
  simp only [execOp, Fr_eval hb, Option.map_some, Option.map_none, Fr_eval hb1, Fr_eval hb2, hx, hy, hz]
  refine run_val ?_
  rw [run_sliceAt_slice w T _ _ _ _ ht, run_slice_lh w T A len cap ht .i64 .i64 lo hi (by omega) (by omega) (by omega)]
  simp [sizeOf, typeInfo, he, hii, hs, sliced, part, Result.andThen]
theorem s_slL {A : Option Addr} {len cap lo m size bytes : Nat} {i : Int} {e : TypeId} (hE : elIs P T e size bytes) (hg : Gd n ops f g = some true) (hb : inb n x = true) (hb1 : inb n y = true)
    (hx : ev f x = .slice A len cap) (hy : ev f y = .int .i64 i) (hi' : i = (lo : Int)) (h1 : lo ≤ len) (hm : len - lo = m)
    (k : WL md P ops Q rest n ds (upd f d (.slice (part A lo cap size) m (cap - lo))) w) : WL md P ops Q (⟨some d, .slice T x (some y) none none, ty, pos, af, g⟩ :: rest) n ds f w := by
  obtain ⟨hu, ii, zz, hii, _, hs, _⟩ := hE
  have he := elem_of hu
  have ht : P.underlying T = some (.slice (P.elem T)) := by rw [he]; exact hu
  subst hi'; subst hm
  refine st_run hg (v := .slice (part A lo cap size) (len - lo) (cap - lo)) (w' := w) ?_ k
  simp only [execOp, Fr_eval hb, Option.map_some, Option.map_none, Fr_eval hb1, hx, hy]
  refine run_val ?_
  rw [run_sliceAt_slice w T _ _ _ _ ht, run_slice_l w T A len cap ht .i64 lo (by omega) (by omega)]
  simp [sizeOf, typeInfo, he, hii, hs, sliced, part, Result.andThen]
theorem s_slH {A : Option Addr} {len cap hi size bytes : Nat} {j : Int} {e : TypeId} (hE : elIs P T e size bytes) (hg : Gd n ops f g = some true) (hb : inb n x = true) (hb2 : inb n z = true)
    (hx : ev f x = .slice A len cap) (hz : ev f z = .int .i64 j) (hj : j = (hi : Int)) (h2 : hi ≤ cap)
    (k : WL md P ops Q rest n ds (upd f d (.slice (part A 0 cap size) hi cap)) w) : WL md P ops Q (⟨some d, .slice T x none (some z) none, ty, pos, af, g⟩ :: rest) n ds f w := by
  obtain ⟨hu, ii, zz, hii, _, hs, _⟩ := hE
  have he := elem_of hu
  have ht : P.underlying T = some (.slice (P.elem T)) := by rw [he]; exact hu
  subst hj
  refine st_run hg (v := .slice (part A 0 cap size) hi cap) (w' := w) ?_ k
  simp only [execOp, Fr_eval hb, Option.map_some, Option.map_none, Fr_eval hb2, hx, hz]
  refine run_val ?_
  rw [run_sliceAt_slice w T _ _ _ _ ht, run_slice_h w T A len cap ht .i64 hi (by omega) (by omega)]
  simp [sizeOf, typeInfo, he, hii, hs, sliced, part, Result.andThen]
theorem run_app0 {t ty e size bytes l c : Nat} {xs : List Value} {A : Option Addr} {r : Option Nat} (hE : elIs P t e size bytes) (h100 : bytes ≤ 100) (hrow : Row w v e size l xs r) (hm : l ≤ 1000000) :
    ∃ v' w' r', (Builtin.append_ #[t, t] ty #[v, .slice A 0 c]).run P w = .ok v' w' ∧ Row w' v' e size l xs r' ∧ Kp (fun k => some k = r) w w' ∧ (r' = r ∨ r' = some w.heap.size) := by
  cases A with
  | some a => have := run_app (ty := ty) (m := 0) (c := c) (a := a) (news := []) hE h100 hrow (by simp) (fun j v h => by simp at h) (by simp) (by omega); simpa using this
  | none =>
    have h1 : (Builtin.append_ #[t, t] ty #[v, .slice none 0 c]).run P w = (Builtin.append_ #[t, t] ty #[v, .slice (some ⟨0, 0, none⟩) 0 c]).run P w := by
      obtain ⟨hu, i, z, hi, hz, hs, hby, hzs, hp⟩ := hE
      rcases hrow.2 with ⟨rfl, rfl, rfl⟩ | ⟨b, cap, cur, rfl, rfl, _⟩
      · simp [Builtin.append_, run_underlying hu, sizeOf, typeInfo, hi, Builtin.lenOf, Builtin.firstCells, loadCells, loadCellsFrom]
      · rename_i hh
        obtain ⟨_, hle, _⟩ := hh
        simp [Builtin.append_, run_underlying hu, sizeOf, typeInfo, hi, Builtin.lenOf, Builtin.firstCells, loadCells, loadCellsFrom, hle]
    rw [h1]
    have := run_app (ty := ty) (m := 0) (c := c) (a := ⟨0, 0, none⟩) (news := []) hE h100 hrow (by simp) (fun j v h => by simp at h) (by simp) (by omega); simpa using this
theorem s_app0 {e size bytes l c : Nat} {v0 : Value} {xs : List Value} {A : Option Addr} {r : Option Nat} (hE : elIs P T e size bytes) (h100 : Nat.ble bytes 100 = true)
    (hg : Gd n ops f g = some true) (hb : inb n x = true) (hb' : inb n y = true) (hx : ev f x = v0) (hy : ev f y = .slice A 0 c)
    (hrow : Row w v0 e size l xs r) (hm : l ≤ 1000000)
    (k : ∀ v' w' r', Row w' v' e size l xs r' → Kp (fun k => some k = r) w w' → (r' = r ∨ r' = some w.heap.size) → WL md P ops Q rest n ds (upd f d v') w') :
    WL md P ops Q (⟨some d, .call ⟨.builtin .append, #[x, y], #[T, T]⟩, ty, pos, af, g⟩ :: rest) n ds f w := by
  obtain ⟨v', w', r', hr, ho, hk, hor⟩ := run_app0 (P := P) (ty := ty) (c := c) (A := A) hE (Nat.le_of_ble_eq_true h100) hrow hm
  exact st_run hg (v := v') (w' := w') (by simp only [execOp, resolve, List.map_toArray, List.map_cons, List.map_nil, Fr_eval hb, Fr_eval hb', hx, hy]; simp only [Sem.run_bind, Sem.run_pure, Result.andThen_ok, invoke, builtin, hr]) (k v' w' r' ho hk hor)
theorem s_appF {B B2 : Nat} {v1 v2 : Value} {l1 l2 : List Fld} {r1 r2 : Option Nat} {bytes : Nat} (hE : elIs P T 53 4 bytes) (h100 : Nat.ble bytes 100 = true)
    (hg : Gd n ops f g = some true) (hb : inb n x = true) (hb' : inb n y = true) (hx : ev f x = v1) (hy : ev f y = v2)
    (h1 : FRow B w v1 l1 r1) (h2 : FRow B2 w v2 l2 r2) (hB : B ≤ B2) (hr1 : ∀ b, r1 = some b → b < B2) (hBw : B ≤ w.heap.size) (hm : l1.length + l2.length ≤ 1000000)
    (k : ∀ v' w' r', FRow B w' v' (l1 ++ l2) r' → Kp (fun k => some k = r1) w w' → (r' = r1 ∨ r' = some w.heap.size) → WL md P ops Q rest n ds (upd f d v') w') :
    WL md P ops Q (⟨some d, .call ⟨.builtin .append, #[x, y], #[T, T]⟩, ty, pos, af, g⟩ :: rest) n ds f w := by
  obtain ⟨xs, hxs, hnx⟩ := h1.parts hBw
  obtain ⟨ps, hps, hrow2, hs2, hB2⟩ := h2
  have hmap : ps.length = l2.length := by rw [← hps]; simp
  obtain ⟨A, cap, hv, hc, hn, hsh⟩ := hrow2.shape
  have hq : ∀ p ∈ ps, RSubs (fun i => B ≤ i ∧ some i ≠ r1) w p.2 p.1.subs := fun p hp => (hs2 p hp).weak (fun i hi => ⟨by have := hi.1; omega, fun e => by have := hr1 i e.symm; have := hi.1; omega⟩)
  subst hx; subst hy
  cases A with
  | none =>
    have h0 := hn rfl
    have hp0 : ps = [] := List.eq_nil_of_length_eq_zero (by omega)
    have hl0 : l2 = [] := List.eq_nil_of_length_eq_zero (by omega)
    subst hp0 hl0
    rw [h0] at hv
    refine s_app0 (A := none) (c := cap) hE h100 hg hb hb' rfl hv hxs (by omega) fun v' w' r' hr hk ho => k v' w' r' ?_ hk ho
    have := hnx [] w' v' r' (by simpa [flatF] using hr) hk ho (by simp)
    simpa using this
  | some p =>
    obtain ⟨b, hrb, hpb⟩ := hsh p rfl
    subst hrb hpb
    refine s_appR (news := flatF ps) hE h100 hg hb hb' rfl hv hxs hrow2.cells (by rw [flatF_len, hmap]) (flatF_all1 (G := fun _ => _) hs2) hm fun v' w' r' hr hk ho => k v' w' r' ?_ hk ho
    have := hnx ps w' v' r' (by rw [hmap]; exact hr) hk ho hq
    rwa [hps] at this
end steps
theorem part_at {A : Option Addr} {p : Addr} {lo cap size : Nat} (hA : A = some p) (hne : cap ≠ lo) : part A lo cap size = some (p.add (lo * size)) := by
  subst hA; simp [part, hne]
theorem FldsAt.part {G : Nat → Prop} {w : World} {A : Option Addr} {l : List Fld} {cap lo hi : Nat} (h : FldsAt G w A l) (h1 : lo ≤ hi) (h2 : hi ≤ l.length) (h3 : l.length ≤ cap) :
    FldsAt G w (V.part A lo cap 4) ((l.drop lo).take (hi - lo)) := by
  refine ⟨by have := h.1; simp only [List.length_take, List.length_drop]; omega, fun i f hf => ?_⟩
  rw [List.getElem?_take] at hf
  split at hf
  · rename_i hlt
    rw [List.getElem?_drop] at hf
    obtain ⟨p, vs, hA, hG, hc, hs⟩ := h.2 _ f hf
    refine ⟨p.add (lo * 4), vs, part_at hA (by omega), by rw [add_block]; exact hG, ?_, hs⟩
    rw [add_add, ← Nat.add_mul]; exact hc
  · cases hf
theorem take_drop_len {α : Type} {l : List α} {lo hi : Nat} (h2 : hi ≤ l.length) : ((l.drop lo).take (hi - lo)).length = hi - lo := by
  simp only [List.length_take, List.length_drop]; omega
end
section
def VE (l : List Edt) : Prop := l.length ≤ 1000 ∧ ∀ (i : Nat) (e : Edt), l[i]? = some e → (0 : Int) ≤ e.pos ∧ e.old.length + e.new.length ≠ 0 ∧ e.pos ≤ 1000 ∧ e.old.length ≤ 1000 ∧ e.new.length ≤ 1000 ∧
  ∀ e' : Edt, 0 < i → l[i - 1]? = some e' → e'.pos + (e'.old.length : Int) < e.pos
def Fits (a : List Fld) (l : List Edt) : Prop := ∀ e ∈ l, 0 ≤ e.pos ∧ e.pos + e.old.length ≤ a.length ∧ (a.drop e.pos.toNat).take e.old.length = e.old
def app (a : List Fld) : Nat → List Edt → List Fld
  | at', [] => a.drop at'
  | at', e :: l => (a.drop at').take (e.pos.toNat - at') ++ e.new ++ app a (e.pos.toNat + e.old.length) l
def inv (sh : Int) : List Edt → List Edt
  | [] => []
  | e :: l => ⟨e.pos + sh, e.new, e.old⟩ :: inv (sh + e.new.length - e.old.length) l
inductive Chain (f : Nat) : Nat → Nat → List Fld → List Fld → List Edt → Prop
  | nil (m p : Nat) (c : List Fld) : min m f ≤ c.length → Chain f m p c c []
  | cons (m p : Nat) (c o n a b : List Fld) (l : List Edt) : m ≤ c.length → o.length + n.length ≠ 0 → Chain f 1 (p + c.length + o.length) a b l →
      Chain f m p (c ++ (o ++ a)) (c ++ (n ++ b)) (⟨((p + c.length : Nat) : Int), o, n⟩ :: l)
end
section
section steps
variable {md : Md} {P : Program} {ops : Array Oper} {Q : Exit → Act → World → Prop} {n : Nat} {ds : List Deferred} {f : Nat → Value} {w w' : World} {rest : List Oper}
  {d : Nat} {ty : TypeId} {pos : String} {af : Array Edge} {g : Option (Nat × Bool)} {v v1 v2 v3 : Value} {x y z : Operand} {T : TypeId} {i j k : Nat}
def isBd (P : Program) (T : TypeId) (pl : Nat → Option (Nat × Nat)) (zc : Array Value) : Prop := ∀ parts, P.built T parts = Instr.fill pl zc parts
theorem s_bd0 {pl : Nat → Option (Nat × Nat)} {zc : Array Value} (hB : isBd P T pl zc) (hg : Gd n ops f g = some true)
    (kk : WL md P ops Q rest n ds (upd f d (.agg zc)) w) : WL md P ops Q (⟨some d, .build T #[], ty, pos, af, g⟩ :: rest) n ds f w :=
  st_run hg (by
    have h := run_build (P := P) w T #[] zc (by rw [hB]; rfl)
    simp only [execOp, List.map_toArray, List.map_nil]; exact run_val h) kk
theorem s_bd1 {pl : Nat → Option (Nat × Nat)} {zc cells : Array Value} (hB : isBd P T pl zc) (hg : Gd n ops f g = some true) (hb : inb n x = true) (hx : ev f x = v1) (hf : Instr.fill pl zc [(i, v1)] = some cells)
    (kk : WL md P ops Q rest n ds (upd f d (.agg cells)) w) : WL md P ops Q (⟨some d, .build T #[(i, x)], ty, pos, af, g⟩ :: rest) n ds f w :=
  st_run hg (by
    have h := run_build (P := P) w T #[(i, v1)] cells (by rw [hB]; exact hf)
    simp only [execOp, List.map_toArray, List.map_cons, List.map_nil, Fr_eval hb, hx]; exact run_val h) kk
theorem s_bd2 {pl : Nat → Option (Nat × Nat)} {zc cells : Array Value} (hB : isBd P T pl zc) (hg : Gd n ops f g = some true) (hb : inb n x = true) (hb' : inb n y = true) (hx : ev f x = v1) (hy : ev f y = v2) (hf : Instr.fill pl zc [(i, v1), (j, v2)] = some cells)
    (kk : WL md P ops Q rest n ds (upd f d (.agg cells)) w) : WL md P ops Q (⟨some d, .build T #[(i, x), (j, y)], ty, pos, af, g⟩ :: rest) n ds f w :=
  st_run hg (by
    have h := run_build (P := P) w T #[(i, v1), (j, v2)] cells (by rw [hB]; exact hf)
    simp only [execOp, List.map_toArray, List.map_cons, List.map_nil, Fr_eval hb, Fr_eval hb', hx, hy]; exact run_val h) kk
theorem s_bd3 {pl : Nat → Option (Nat × Nat)} {zc cells : Array Value} (hB : isBd P T pl zc) (hg : Gd n ops f g = some true) (hb : inb n x = true) (hb' : inb n y = true) (hb'' : inb n z = true) (hx : ev f x = v1) (hy : ev f y = v2) (hz : ev f z = v3)
    (hf : Instr.fill pl zc [(i, v1), (j, v2), (k, v3)] = some cells)
    (kk : WL md P ops Q rest n ds (upd f d (.agg cells)) w) : WL md P ops Q (⟨some d, .build T #[(i, x), (j, y), (k, z)], ty, pos, af, g⟩ :: rest) n ds f w :=
  st_run hg (by
    have h := run_build (P := P) w T #[(i, v1), (j, v2), (k, v3)] cells (by rw [hB]; exact hf)
    simp only [execOp, List.map_toArray, List.map_cons, List.map_nil, Fr_eval hb, Fr_eval hb', Fr_eval hb'', hx, hy, hz]; exact run_val h) kk
end steps
def pl2 : Nat → Option (Nat × Nat) := (#[(0, 1), (1, 1)][·]?)
def pl60 : Nat → Option (Nat × Nat) := (#[(0, 1), (1, 1), (2, 1)][·]?)
def pl53 : Nat → Option (Nat × Nat) := (#[(0, 1), (1, 2), (3, 1)][·]?)
def plA : Nat → Option (Nat × Nat) := fun i => some (i * 1, 1)
theorem bd24 : isBd Tryz.prog 24 pl2 #[.int .i64 0, .slice none 0 0] := fun parts => by kernel_rfl
theorem bd50 : isBd Tryz.prog 50 pl2 #[.int .u8 0, .string ⟨#[]⟩] := fun parts => by kernel_rfl
theorem bd107 : isBd Tryz.prog 107 pl2 #[.slice none 0 0, .int .i64 0] := fun parts => by kernel_rfl
theorem bd60 : isBd Tryz.prog 60 pl60 #[.int .i64 0, .slice none 0 0, .slice none 0 0] := fun parts => by kernel_rfl
theorem bd53 : isBd Tryz.prog 53 pl53 #[.string ⟨#[]⟩, .int .u8 0, .int .u8 0, .slice none 0 0] := fun parts => by kernel_rfl
theorem bd48 : isBd Tryz.prog 48 plA #[.int .u8 0, .int .u8 0] := fun parts => by kernel_rfl
theorem bd128 : isBd Tryz.prog 128 pl60 #[.slice none 0 0, .int .i64 0, .bool false] := fun parts => by kernel_rfl
example (x y z : Nat) (A : Option Addr) : Instr.fill pl2 #[.int .i64 0, .slice none 0 0] [(0, .int .i64 x), (1, .slice A y z)] = some #[.int .i64 x, .slice A y z] := rfl
example (x y z : Nat) (A : Option Addr) : ∃ a b, Instr.fill pl2 #[.int .i64 0, .slice none 0 0] [(0, .int .i64 x), (1, .slice A y z)] = some #[a, b] ∧ a = .int .i64 x := ⟨_, _, rfl, rfl⟩
example (s : ByteArray) (a b y z : Nat) (A : Option Addr) : Instr.fill pl53 #[.string ⟨#[]⟩, .int .u8 0, .int .u8 0, .slice none 0 0] [(0, .string s), (1, .agg #[.int .u8 a, .int .u8 b]), (2, .slice A y z)] = some #[.string s, .int .u8 a, .int .u8 b, .slice A y z] := rfl
end
section
abbrev EVal := Edt × Value × Value
def flatE (ps : List EVal) : List Value := ps.flatMap fun p => p.1.cells p.2.1 p.2.2
theorem flatE_len (ps : List EVal) : (flatE ps).length = ps.length * 3 := flat_len _ 3 (fun _ => rfl) ps
def ERow (G : Nat → Prop) (w : World) (v : Value) (l : List Edt) (r : Option Nat) : Prop :=
  ∃ ps : List EVal, ps.map (·.1) = l ∧ Row w v 60 3 l.length (flatE ps) r ∧
    (∀ p ∈ ps, RFlds (fun i => G i ∧ some i ≠ r) w p.2.1 p.1.old ∧ RFlds (fun i => G i ∧ some i ≠ r) w p.2.2 p.1.new) ∧ (∀ b, r = some b → G b)
theorem ERow.nil (G : Nat → Prop) (w : World) : ERow G w (.slice none 0 0) [] none := ⟨[], rfl, Row.nil w 60 3, by simp, by simp⟩
theorem ERow.kp {G M : Nat → Prop} {w w' : World} {v : Value} {l : List Edt} {r : Option Nat} (h : ERow G w v l r) (k : Kp M w w') (hm : ∀ i, i < w.heap.size → G i → ¬ M i) : ERow G w' v l r := by
  obtain ⟨ps, hps, hrow, hs, hB⟩ := h
  exact ⟨ps, hps, hrow.kp k (fun b hb => hm b (hrow.lt b hb) (hB b hb)), fun p hp => ⟨(hs p hp).1.kp k (fun i hi hg => hm i hi hg.1), (hs p hp).2.kp k (fun i hi hg => hm i hi hg.1)⟩, hB⟩
theorem ERow.rlt {G : Nat → Prop} {w : World} {v : Value} {l : List Edt} {r : Option Nat} (h : ERow G w v l r) : ∀ b, r = some b → b < w.heap.size := by
  obtain ⟨ps, hps, hrow, hs, hB⟩ := h; exact hrow.lt
theorem ERow.rge {G : Nat → Prop} {w : World} {v : Value} {l : List Edt} {r : Option Nat} (h : ERow G w v l r) : ∀ b, r = some b → G b := by
  obtain ⟨ps, hps, hrow, hs, hB⟩ := h; exact hB
theorem ERow.weak {G G' : Nat → Prop} {w : World} {v : Value} {l : List Edt} {r : Option Nat} (h : ERow G w v l r) (hg : ∀ i, i < w.heap.size → G i → G' i) : ERow G' w v l r := by
  obtain ⟨ps, hps, hrow, hs, hB⟩ := h
  exact ⟨ps, hps, hrow, fun p hp => ⟨(hs p hp).1.bound.weak (fun i hi => ⟨hg i hi.2 hi.1.1, hi.1.2⟩), (hs p hp).2.bound.weak (fun i hi => ⟨hg i hi.2 hi.1.1, hi.1.2⟩)⟩, fun b hb => hg b (hrow.lt b hb) (hB b hb)⟩
theorem RFlds.one {G : Nat → Prop} {w : World} {v : Value} {l : List Fld} (h : RFlds G w v l) : v.oneCell' = true := by
  obtain ⟨A, cap, rfl, _⟩ := h; rfl
theorem ERow.redts {G : Nat → Prop} {w : World} {v : Value} {l : List Edt} {r : Option Nat} (h : ERow G w v l r) (hl : l.length ≤ 1000000) : REdts G w v l := by
  obtain ⟨ps, hps, hrow, hs, hB⟩ := h
  obtain ⟨A, cap, hv, hc, hn, hsh⟩ := hrow.shape
  refine ⟨A, cap, hv, by unfold big; omega, fun i f hi => ?_⟩
  cases A with
  | none => have := hn rfl; have := (List.getElem?_eq_some_iff.1 hi).1; omega
  | some p =>
    obtain ⟨b, hr, hp⟩ := hsh p rfl
    subst hr hp
    rw [← hps, List.getElem?_map] at hi
    cases hq : ps[i]? with
    | none => rw [hq] at hi; simp at hi
    | some q =>
      rw [hq] at hi; simp at hi; subst hi
      have h1 := hs q (List.mem_of_getElem? hq)
      exact ⟨_, q.2.1, q.2.2, rfl, hB b rfl, cells_of_flat (fun p : EVal => p.1.cells p.2.1 p.2.2) 3 (fun _ => rfl) hrow.cells hq, h1.1.weak (fun i h => h.1), h1.2.weak (fun i h => h.1)⟩
section steps
variable {md : Md} {P : Program} {ops : Array Oper} {Q : Exit → Act → World → Prop} {n : Nat} {ds : List Deferred} {f : Nat → Value} {w w' : World} {rest : List Oper}
  {d : Nat} {ty : TypeId} {pos : String} {af : Array Edge} {g : Option (Nat × Bool)} {v : Value} {x y z : Operand} {T U T0 : TypeId}
theorem s_appE1 {G : Nat → Prop} {v1 vo vn : Value} {l : List Edt} {e : Edt} {r : Option Nat} {a : Addr} {c bytes : Nat} (hE : elIs P T 60 3 bytes) (h100 : Nat.ble bytes 100 = true)
    (hg : Gd n ops f g = some true) (hb : inb n x = true) (hb' : inb n y = true) (hx : ev f x = v1) (hy : ev f y = .slice (some a) 1 c)
    (h1 : ERow G w v1 l r) (hc : CellsAt w a (e.cells vo vn)) (ho : RFlds (fun i => G i ∧ some i ≠ r) w vo e.old) (hn : RFlds (fun i => G i ∧ some i ≠ r) w vn e.new) (hG : ∀ i, w.heap.size ≤ i → G i) (hm : l.length + 1 ≤ 1000000)
    (k : ∀ v' w' r', ERow G w' v' (l ++ [e]) r' → Kp (fun k => some k = r) w w' → (r' = r ∨ r' = some w.heap.size) → WL md P ops Q rest n ds (upd f d v') w') :
    WL md P ops Q (⟨some d, .call ⟨.builtin .append, #[x, y], #[T, T]⟩, ty, pos, af, g⟩ :: rest) n ds f w := by
  obtain ⟨ps, hps, hrow, hs, hB⟩ := h1
  refine s_appR (news := e.cells vo vn) hE h100 hg hb hb' hx hy hrow hc rfl (by simp [Edt.cells, ho.one, hn.one]; rfl) hm fun v' w' r' hr hk hor => k v' w' r' ?_ hk hor
  refine ⟨ps ++ [(e, vo, vn)], by simp [hps], ?_, ?_, ?_⟩
  · have e1 : flatE (ps ++ [(e, vo, vn)]) = flatE ps ++ e.cells vo vn := by simp [flatE]
    rw [e1, List.length_append]; exact hr
  · intro p hp
    have hall : RFlds (fun i => G i ∧ some i ≠ r) w p.2.1 p.1.old ∧ RFlds (fun i => G i ∧ some i ≠ r) w p.2.2 p.1.new := by
      rcases List.mem_append.1 hp with hp | hp
      · exact hs p hp
      · simp only [List.mem_singleton] at hp; subst hp; exact ⟨ho, hn⟩
    have hw : ∀ i, (G i ∧ some i ≠ r) ∧ i < w.heap.size → G i ∧ some i ≠ r' := by
      intro i hi
      refine ⟨hi.1.1, ?_⟩
      rcases hor with rfl | rfl
      · exact hi.1.2
      · intro e; have := Option.some.inj e; omega
    exact ⟨(hall.1.bound.kp hk (fun i hi hg => hg.1.2)).weak hw, (hall.2.bound.kp hk (fun i hi hg => hg.1.2)).weak hw⟩
  · intro b hb
    rcases hor with rfl | rfl
    · exact hB b hb
    · exact hG b (by have := Option.some.inj hb; omega)
end steps
end
section
def FRowG (G : Nat → Prop) (w : World) (v : Value) (l : List Fld) (r : Option Nat) : Prop :=
  ∃ ps : List (Fld × Value), ps.map (·.1) = l ∧ Row w v 53 4 l.length (flatF ps) r ∧ (∀ p ∈ ps, RSubs (fun i => G i ∧ some i ≠ r) w p.2 p.1.subs) ∧ (∀ b, r = some b → G b)
theorem frow_iff {B : Nat} {w : World} {v : Value} {l : List Fld} {r : Option Nat} : FRow B w v l r ↔ FRowG (fun i => B ≤ i) w v l r := Iff.rfl
theorem FRowG.nil (G : Nat → Prop) (w : World) : FRowG G w (.slice none 0 0) [] none := ⟨[], rfl, Row.nil w 53 4, by simp, by simp⟩
theorem FRowG.kp {G M : Nat → Prop} {w w' : World} {v : Value} {l : List Fld} {r : Option Nat} (h : FRowG G w v l r) (k : Kp M w w') (hm : ∀ i, i < w.heap.size → G i → ¬ M i) : FRowG G w' v l r := by
  obtain ⟨ps, hps, hrow, hs, hB⟩ := h
  exact ⟨ps, hps, hrow.kp k (fun b hb => hm b (hrow.lt b hb) (hB b hb)), fun p hp => (hs p hp).kp k (fun i hi hg => hm i hi hg.1), hB⟩
theorem FRowG.rlt {G : Nat → Prop} {w : World} {v : Value} {l : List Fld} {r : Option Nat} (h : FRowG G w v l r) : ∀ b, r = some b → b < w.heap.size := by
  obtain ⟨ps, hps, hrow, hs, hB⟩ := h; exact hrow.lt
theorem FRowG.rge {G : Nat → Prop} {w : World} {v : Value} {l : List Fld} {r : Option Nat} (h : FRowG G w v l r) : ∀ b, r = some b → G b := by
  obtain ⟨ps, hps, hrow, hs, hB⟩ := h; exact hB
theorem FRowG.weak {G G' : Nat → Prop} {w : World} {v : Value} {l : List Fld} {r : Option Nat} (h : FRowG G w v l r) (hg : ∀ i, i < w.heap.size → G i → G' i) : FRowG G' w v l r := by
  obtain ⟨ps, hps, hrow, hs, hB⟩ := h
  exact ⟨ps, hps, hrow, fun p hp => (hs p hp).bound.weak (fun i hi => ⟨hg i hi.2 hi.1.1, hi.1.2⟩), fun b hb => hg b (hrow.lt b hb) (hB b hb)⟩
theorem FRowG.rflds {G : Nat → Prop} {w : World} {v : Value} {l : List Fld} {r : Option Nat} (h : FRowG G w v l r) (hl : l.length ≤ 1000000) : RFlds G w v l := by
  obtain ⟨ps, hps, hrow, hs, hB⟩ := h
  obtain ⟨A, cap, hv, hc, hn, hsh⟩ := hrow.shape
  refine ⟨A, cap, hv, by unfold big; omega, fun i f hi => ?_⟩
  cases A with
  | none => have := hn rfl; have := (List.getElem?_eq_some_iff.1 hi).1; omega
  | some p =>
    obtain ⟨b, hr, hp⟩ := hsh p rfl
    subst hr hp
    rw [← hps, List.getElem?_map] at hi
    cases hq : ps[i]? with
    | none => rw [hq] at hi; simp at hi
    | some q =>
      rw [hq] at hi; simp at hi; subst hi
      exact ⟨_, q.2, rfl, hB b rfl, cells_of_flat (fun p : Fld × Value => p.1.cells p.2) 4 (fun _ => rfl) hrow.cells hq, (hs q (List.mem_of_getElem? hq)).weak (fun i h => h.1)⟩
theorem FRowG.shape {G : Nat → Prop} {w : World} {v : Value} {l : List Fld} {r : Option Nat} (h : FRowG G w v l r) : ∃ A cap, v = .slice A l.length cap ∧ l.length ≤ cap := by
  obtain ⟨ps, hps, hrow, hs, hB⟩ := h
  obtain ⟨A, cap, hv, hc, _⟩ := hrow.shape
  exact ⟨A, cap, hv, hc⟩
section steps
variable {md : Md} {P : Program} {ops : Array Oper} {Q : Exit → Act → World → Prop} {n : Nat} {ds : List Deferred} {f : Nat → Value} {w w' : World} {rest : List Oper}
  {d : Nat} {ty : TypeId} {pos : String} {af : Array Edge} {g : Option (Nat × Bool)} {v : Value} {x y z : Operand} {T U T0 : TypeId}
theorem s_appFG {G : Nat → Prop} {B2 : Nat} {v1 v2 : Value} {l1 l2 : List Fld} {r1 r2 : Option Nat} {bytes : Nat} (hE : elIs P T 53 4 bytes) (h100 : Nat.ble bytes 100 = true)
    (hg : Gd n ops f g = some true) (hb : inb n x = true) (hb' : inb n y = true) (hx : ev f x = v1) (hy : ev f y = v2)
    (h1 : FRowG G w v1 l1 r1) (h2 : FRow B2 w v2 l2 r2) (hG : ∀ i, B2 ≤ i → G i) (hr1 : ∀ b, r1 = some b → b < B2) (hBw : B2 ≤ w.heap.size) (hm : l1.length + l2.length ≤ 1000000)
    (k : ∀ v' w' r', FRowG G w' v' (l1 ++ l2) r' → Kp (fun k => some k = r1) w w' → (r' = r1 ∨ r' = some w.heap.size) → WL md P ops Q rest n ds (upd f d v') w') :
    WL md P ops Q (⟨some d, .call ⟨.builtin .append, #[x, y], #[T, T]⟩, ty, pos, af, g⟩ :: rest) n ds f w := by
  obtain ⟨ps1, hps1, hrow1, hs1, hB1⟩ := h1
  obtain ⟨ps, hps, hrow2, hs2, hB2⟩ := h2
  have hmap : ps.length = l2.length := by rw [← hps]; simp
  obtain ⟨A, cap, hv, hc, hn, hsh⟩ := hrow2.shape
  have hq : ∀ p ∈ ps, RSubs (fun i => G i ∧ some i ≠ r1) w p.2 p.1.subs := fun p hp => (hs2 p hp).weak (fun i hi => ⟨hG i hi.1, fun e => by have := hr1 i e.symm; have := hi.1; omega⟩)
  have fin : ∀ (w' : World) (v' : Value) (r' : Option Nat), Row w' v' 53 4 (l1.length + ps.length) (flatF ps1 ++ flatF ps) r' → Kp (fun k => some k = r1) w w' → (r' = r1 ∨ r' = some w.heap.size) → FRowG G w' v' (l1 ++ l2) r' := by
    intro w' v' r' hr hk ho
    refine ⟨ps1 ++ ps, by simp [hps1, hps], ?_, ?_, ?_⟩
    · have e1 : flatF (ps1 ++ ps) = flatF ps1 ++ flatF ps := by simp [flatF]
      rw [e1, List.length_append, ← hmap]; exact hr
    · intro p hp
      have hall : RSubs (fun i => G i ∧ some i ≠ r1) w p.2 p.1.subs := by
        rcases List.mem_append.1 hp with hp | hp
        · exact hs1 p hp
        · exact hq p hp
      refine (hall.bound.kp hk (fun i hi hg => hg.1.2)).weak (fun i hi => ⟨hi.1.1, ?_⟩)
      rcases ho with rfl | rfl
      · exact hi.1.2
      · intro e; have := Option.some.inj e; have := hi.2; omega
    · intro b hb
      rcases ho with rfl | rfl
      · exact hB1 b hb
      · exact hG b (by have := Option.some.inj hb; omega)
  subst hx; subst hy
  cases A with
  | none =>
    have h0 := hn rfl
    have hp0 : ps = [] := List.eq_nil_of_length_eq_zero (by omega)
    have hl0 : l2 = [] := List.eq_nil_of_length_eq_zero (by omega)
    rw [h0] at hv
    refine s_app0 (A := none) (c := cap) hE h100 hg hb hb' rfl hv hrow1 (by omega) fun v' w' r' hr hk ho => k v' w' r' (fin w' v' r' ?_ hk ho) hk ho
    subst hp0; simpa [flatF] using hr
  | some p =>
    obtain ⟨b, hrb, hpb⟩ := hsh p rfl
    subst hrb hpb
    refine s_appR (news := flatF ps) hE h100 hg hb hb' rfl hv hrow1 hrow2.cells (by rw [flatF_len, hmap]) (flatF_all1 (G := fun _ => _) hs2) hm fun v' w' r' hr hk ho => k v' w' r' (fin w' v' r' ?_ hk ho) hk ho
    rw [hmap]; exact hr
theorem s_yield {l : Nat} {xv : Value} {at' : Array TypeId} {R : Ending → World → Prop} (hg : Gd n ops f g = some true) (hbx : inb n x = true) (hb : inb n y = true) (hx : ev f x = .func (.yield l) #[] #[]) (hy : ev f y = xv)
    (hY : YieldAt Fence.wide 0 P l #[xv] w R) (k : ∀ e w', R e w' → ∃ v, e = .returned v ∧ WL (.fen none) P ops Q rest n ds (upd f d v) w') :
    WL (.fen none) P ops Q (⟨some d, .call ⟨.value x, #[y], at'⟩, ty, pos, af, g⟩ :: rest) n ds f w := by
  obtain ⟨fn, tmps, assign, body, hr, hR⟩ := hY
  refine st_round hg (w' := w) (l := l) (fn := fn) (tmps := tmps) (assign := assign) (body := body) ?_ (RoundIn.mono (F := Fence.wide) hR k)
  simp only [execOp, resolve, List.map_toArray, List.map_cons, List.map_nil, Fr_eval hb, Fr_eval hbx, hx, hy]
  simp only [Deferred.ofValue, invoke, Sem.run_bind, Sem.run_pure, Result.andThen_ok]
  simpa [go_sem] using hr
end steps
def JJ (rec : Loop) (lr D b6 : Nat) (G : Nat → Prop) (w : World) (es : List Edt) (r : Option Nat) : Prop :=
  w.heap[lr]? = some (.loop rec) ∧ w.heap[D]? = some (.deferred (some [])) ∧ ∃ v, Own w b6 31 [v] ∧ ERow G w v es r
theorem kp_heap {M : Nat → Prop} {w w' : World} (k : Kp M w w') {b : Nat} {o : Obj} (h : w.heap[b]? = some o) (hm : ¬ M b) : w'.heap[b]? = some o :=
  (k.block b (Array.getElem?_eq_some_iff.1 h).1 hm).trans h
theorem JJ.kp {rec : Loop} {lr D b6 : Nat} {G M : Nat → Prop} {w w' : World} {es : List Edt} {r : Option Nat} (h : JJ rec lr D b6 G w es r) (k : Kp M w w') (h1 : ¬ M lr) (h2 : ¬ M D) (h3 : ¬ M b6)
    (hm : ∀ i, i < w.heap.size → G i → ¬ M i) : JJ rec lr D b6 G w' es r := by
  obtain ⟨a, b, v, c, d⟩ := h
  exact ⟨kp_heap k a h1, kp_heap k b h2, v, c.kp k h3, d.kp k hm⟩
theorem JJ.weak {rec : Loop} {lr D b6 : Nat} {G G' : Nat → Prop} {w : World} {es : List Edt} {r : Option Nat} (h : JJ rec lr D b6 G w es r) (hg : ∀ i, i < w.heap.size → G i → G' i) : JJ rec lr D b6 G' w es r := by
  obtain ⟨a, b, v, c, d⟩ := h
  exact ⟨a, b, v, c, d.weak hg⟩
theorem JJ.rlt {rec : Loop} {lr D b6 : Nat} {G : Nat → Prop} {w : World} {es : List Edt} {r : Option Nat} (h : JJ rec lr D b6 G w es r) : ∀ b, r = some b → b < w.heap.size := by
  obtain ⟨a, b, v, c, d⟩ := h; exact d.rlt
theorem JJ.rge {rec : Loop} {lr D b6 : Nat} {G : Nat → Prop} {w : World} {es : List Edt} {r : Option Nat} (h : JJ rec lr D b6 G w es r) : ∀ b, r = some b → G b := by
  obtain ⟨a, b, v, c, d⟩ := h; exact d.rge
def YD (rec : Loop) (lr D b6 : Nat) : Prop := ∀ (B : Nat) (w : World) (es : List Edt) (r : Option Nat) (e : Edt) (vo vn : Value), lr < B → D < B → b6 < B → B ≤ w.heap.size → JJ rec lr D b6 (fun i => B ≤ i) w es r → es.length ≤ 1000 →
  RFlds (fun i => B ≤ i ∧ some i ≠ r) w vo e.old → RFlds (fun i => B ≤ i ∧ some i ≠ r) w vn e.new →
  YieldAt Fence.wide 0 Tryz.prog lr #[.agg #[.int .i64 e.pos, vo, vn]] w fun q w' => q = .returned (.bool true) ∧ ∃ r', JJ rec lr D b6 (fun i => B ≤ i) w' (es ++ [e]) r' ∧ Kp (fun k => k = lr ∨ k = b6 ∨ some k = r) w w' ∧ (r' = r ∨ ∃ b, r' = some b ∧ w.heap.size ≤ b)
end
section
theorem Chain.ext {m p : Nat} {a b : List Fld} {es : List Edt} (h : Chain 1 m p a b es) (c : List Fld) : Chain 1 m p (a ++ c) (b ++ c) es := by
  induction h with
  | nil m p c0 h => exact .nil m p (c0 ++ c) (by rw [List.length_append]; omega)
  | cons m p c0 o n a b l h1 h2 _ ih =>
    rw [List.append_assoc, List.append_assoc, List.append_assoc, List.append_assoc]
    exact .cons m p c0 o n (a ++ c) (b ++ c) l h1 h2 ih
theorem Chain.snoc {m p : Nat} {a b : List Fld} {es : List Edt} (h : Chain 1 m p a b es) {f : Nat} {o n c : List Fld} (hm : m ≤ 1) (hf : min 1 f ≤ c.length) (hne : o.length + n.length ≠ 0) :
    Chain f m p (a ++ (o ++ c)) (b ++ (n ++ c)) (es ++ [⟨((p + a.length : Nat) : Int), o, n⟩]) := by
  induction h with
  | nil m p c0 h => exact .cons m p c0 o n c c [] (by omega) hne (.nil 1 _ c hf)
  | cons m p c0 o0 n0 a b l h1 h2 _ ih =>
    rw [List.append_assoc, List.append_assoc, List.append_assoc, List.append_assoc]
    have e : p + (c0 ++ (o0 ++ a)).length = p + c0.length + o0.length + a.length := by simp only [List.length_append]; omega
    rw [e]
    exact .cons m p c0 o0 n0 _ _ _ h1 h2 (ih (Nat.le_refl _))
theorem Chain.weak0 {f m p : Nat} {a b : List Fld} {es : List Edt} (h : Chain f m p a b es) : Chain 0 m p a b es := by
  induction h with
  | nil m p c0 h => exact .nil m p c0 (by omega)
  | cons m p c0 o0 n0 a b l h1 h2 _ ih => exact .cons m p c0 o0 n0 a b l h1 h2 ih
def TabG (G : Nat → Prop) (w : World) (v : Value) (na nb : Nat) : Prop :=
  ∃ bo os, v = .slice (some ⟨bo, 0, none⟩) (na + 1) (na + 1) ∧ Own w bo 94 os ∧ os.length = na + 1 ∧ G bo ∧ ∀ j, j ≤ na → TRow 0 G w os j nb ((na : Int) - j)
theorem TabG.kp {G M : Nat → Prop} {w w' : World} {v : Value} {na nb : Nat} (h : TabG G w v na nb) (k : Kp M w w') (hm : ∀ i, i < w.heap.size → G i → ¬ M i) : TabG G w' v na nb := by
  obtain ⟨bo, os, h1, h2, h3, h4, h5⟩ := h
  exact ⟨bo, os, h1, h2.kp k (hm bo h2.lt h4), h3, h4, fun j hj => (h5 j hj).kp k (fun i hi _ hg => hm i hi hg)⟩
theorem Tab.tabG {B : Nat} {w : World} {v : Value} {na nb : Nat} (h : Tab B w v na nb) : TabG (fun i => B ≤ i ∧ i < w.heap.size) w v na nb := by
  obtain ⟨bo, os, h1, h2, h3, h4, h5⟩ := h
  refine ⟨bo, os, h1, h2, h3, ⟨h4, h2.lt⟩, fun j hj => ?_⟩
  obtain ⟨rb, xs, g1, g2, g3, g4, g5, g6⟩ := h5 j hj
  exact ⟨rb, xs, g1, g2, g3, g4, Nat.zero_le _, g5, g2.lt⟩
theorem nor0 {P : Program} {n : Nat} {f : Nat → Value} {w : World} {fn : Func} {R : Ending → World → Prop} (hr : fn.results = #[]) (h : R (.returned (.tuple #[])) w) : bodyPost P fn R .normal (Fr n [] f) w :=
  bodyPost_end (results_none hr _ P w) rfl h
theorem ret0 {P : Program} {n : Nat} {f : Nat → Value} {w : World} {fn : Func} {R : Ending → World → Prop} (hr : fn.results = #[]) (h : R (.returned (.tuple #[])) w) : bodyPost P fn R .ret (Fr n [] f) w :=
  bodyPost_ret (results_none hr _ P w) rfl h
def Gx (b5 : Nat) (a b : Option Nat) : Nat → Prop := fun i => b5 < i ∧ some i ≠ a ∧ some i ≠ b
theorem JJ.kpN {rec : Loop} {lr D b6 : Nat} {G : Nat → Prop} {w w' : World} {es : List Edt} {r : Option Nat} (h : JJ rec lr D b6 G w es r) (k : New w w') : JJ rec lr D b6 G w' es r :=
  h.kp k (fun e => e) (fun e => e) (fun e => e) (fun _ _ _ e => e)
theorem drop_take_succ {α : Type} {l : List α} {a b : Nat} (h1 : a ≤ b) (h2 : b < l.length) : (l.drop a).take (b + 1 - a) = (l.drop a).take (b - a) ++ [l[b]] := by
  have e : b + 1 - a = b - a + 1 := by omega
  rw [e, List.take_succ_eq_append_getElem (by rw [List.length_drop]; omega), List.getElem_drop]
  congr 2
  have : a + (b - a) = b := by omega
  simp [this]
theorem take_seg {α : Type} {l : List α} {a b : Nat} (h1 : a ≤ b) : l.take a ++ (l.drop a).take (b - a) = l.take b := by
  have h := List.take_append_drop a (l.take b)
  rwa [List.take_take, Nat.min_eq_left h1, List.drop_take] at h
theorem FRowG.mv {b5 : Nat} {a a' c : Option Nat} {w w' : World} {v : Value} {l : List Fld} {r : Option Nat} (h : FRowG (Gx b5 a c) w v l r) (k : Kp (fun k => some k = a) w w') (ho : a' = a ∨ a' = some w.heap.size) : FRowG (Gx b5 a' c) w' v l r :=
  (h.weak (G' := fun j => Gx b5 a c j ∧ some j ≠ a') (fun j hj hg => ⟨hg, fun e => by rcases ho with rfl | rfl; exact hg.2.1 e; have := Option.some.inj e; omega⟩)).kp k (fun j _ hg => hg.1.2.1) |>.weak (fun j _ hg => ⟨hg.1.1, hg.2, hg.1.2.2⟩)
theorem JJ.mv1 {rec : Loop} {lr D b6 b5 : Nat} {a a' c : Option Nat} {w w' : World} {es : List Edt} {r : Option Nat} (h : JJ rec lr D b6 (Gx b5 a c) w es r) (k : Kp (fun k => some k = a) w w') (ho : a' = a ∨ a' = some w.heap.size)
    (h1 : ¬ some lr = a) (h2 : ¬ some D = a) (h3 : ¬ some b6 = a) : JJ rec lr D b6 (Gx b5 a' c) w' es r :=
  (h.weak (G' := fun j => Gx b5 a c j ∧ some j ≠ a') (fun j hj hg => ⟨hg, fun e => by rcases ho with rfl | rfl; exact hg.2.1 e; have := Option.some.inj e; omega⟩)).kp k h1 h2 h3 (fun j _ hg => hg.1.2.1) |>.weak (fun j _ hg => ⟨hg.1.1, hg.2, hg.1.2.2⟩)
theorem Gx.sym {b5 : Nat} {a c : Option Nat} {j : Nat} (h : Gx b5 a c j) : Gx b5 c a j := ⟨h.1, h.2.2, h.2.1⟩
theorem JJ.mv2 {rec : Loop} {lr D b6 b5 : Nat} {a a' c : Option Nat} {w w' : World} {es : List Edt} {r : Option Nat} (h : JJ rec lr D b6 (Gx b5 c a) w es r) (k : Kp (fun k => some k = a) w w') (ho : a' = a ∨ a' = some w.heap.size)
    (h1 : ¬ some lr = a) (h2 : ¬ some D = a) (h3 : ¬ some b6 = a) : JJ rec lr D b6 (Gx b5 c a') w' es r :=
  ((h.weak (fun _ _ hg => hg.sym)).mv1 k ho h1 h2 h3).weak (fun _ _ hg => hg.sym)
theorem seg_one {G : Nat → Prop} {w : World} {A : Option Addr} {l : List Fld} {cap i : Nat} (h : FldsAt G w A l) (hi : i < l.length) (hc : l.length ≤ cap) : FldsAt G w (V.part A i cap 4) [l[i]] := by
  have h1 := h.part (lo := i) (hi := i + 1) (by omega) (by omega) hc
  rw [drop_take_succ (Nat.le_refl i) hi] at h1
  simpa using h1
section chains
variable {la lb old new : List Fld} {i k i0 k0 : Nat} {es : List Edt}
theorem ch_yield (hch : Chain 1 0 0 (la.take i0) (lb.take k0) es) (hold : old = (la.drop i0).take (i - i0)) (hnew : new = (lb.drop k0).take (k - k0)) (hi0 : i0 ≤ i) (hk0 : k0 ≤ k) (hi : i < la.length) (hk : k < lb.length) (heq : la[i] = lb[k])
    (hne : old.length + new.length ≠ 0) : Chain 1 0 0 (la.take (i + 1)) (lb.take (k + 1)) (es ++ [⟨(i0 : Nat), old, new⟩]) := by
  have h := hch.snoc (f := 1) (o := old) (n := new) (c := [la[i]]) (by omega) (by simp) hne
  have e1 : la.take i0 ++ (old ++ [la[i]]) = la.take (i + 1) := by rw [← List.append_assoc, hold, take_seg hi0, List.take_succ_eq_append_getElem hi]
  have e2 : lb.take k0 ++ (new ++ [la[i]]) = lb.take (k + 1) := by rw [← List.append_assoc, hnew, take_seg hk0, heq, List.take_succ_eq_append_getElem hk]
  rw [e1, e2] at h
  have e3 : 0 + (la.take i0).length = i0 := by rw [List.length_take]; omega
  rwa [e3] at h
theorem ch_skip (hch : Chain 1 0 0 (la.take i0) (lb.take k0) es) (hi0 : i0 = i) (hk0 : k0 = k) (hi : i < la.length) (hk : k < lb.length) (heq : la[i] = lb[k]) : Chain 1 0 0 (la.take (i + 1)) (lb.take (k + 1)) es := by
  subst hi0 hk0
  have h := hch.ext [la[i0]]
  rw [List.take_succ_eq_append_getElem hi, List.take_succ_eq_append_getElem hk, ← heq]; exact h
theorem ch_fin (hch : Chain 1 0 0 (la.take i0) (lb.take k0) es) (hold : old = (la.drop i0).take (la.length - i0)) (hnew : new = (lb.drop k0).take (lb.length - k0)) (hi0 : i0 ≤ la.length) (hk0 : k0 ≤ lb.length)
    (hne : old.length + new.length ≠ 0) : Chain 0 0 0 la lb (es ++ [⟨(i0 : Nat), old, new⟩]) := by
  have h := hch.snoc (f := 0) (o := old) (n := new) (c := []) (by omega) (by simp) hne
  rw [List.append_nil, List.append_nil, hold, hnew, take_seg hi0, take_seg hk0, List.take_length, List.take_length] at h
  have e3 : 0 + (la.take i0).length = i0 := by rw [List.length_take]; omega
  rw [e3] at h
  rwa [← hold, ← hnew] at h
theorem ch_fin0 (hch : Chain 1 0 0 (la.take i0) (lb.take k0) es) (hi0 : i0 = la.length) (hk0 : k0 = lb.length) : Chain 0 0 0 la lb es := by
  subst hi0 hk0
  rw [List.take_length, List.take_length] at hch
  exact hch.weak0
end chains
end
section
section
variable {P : Program} {Q : Exit → Act → World → Prop} {n : Nat} {f : Nat → Value} {w : World}
theorem enterM {F : FuncId} {fn : Func} {c : Code} {args : Array Value} {R : Ending → World → Prop} {n : Nat} (hf : P.funcs[F]? = some fn) (hb : fn.body = some c) (hn : fn.ntmps = n) (ha : args.size ≤ n)
    (h : c.wp P (bodyPostM Fence.wide 0 P fn R) (Fr n [] (fun i => args.getD i undef)) w) : Calls P F args w R := by
  refine callsIn_wide.1 (callsIn_of_wp_marks (F := Fence.wide) (n := 0) hf hb trivial (wpIn_wide.2 ?_))
  have e : ({ tmps := args ++ Array.replicate (fn.ntmps - args.size) undef, defers := [] } : Act) = Fr n [] (fun i => args.getD i undef) := by
    simp only [Fr, Act.mk.injEq, and_true]
    apply Array.ext
    · simp; omega
    · intro i h1 h2
      simp only [Array.getElem_ofFn]
      by_cases hi : i < args.size
      · rw [Array.getElem_append_left hi]; simp [Array.getD, hi]
      · rw [Array.getElem_append_right (by omega)]; simp [Array.getD, hi]
  rw [e]; exact h
theorem retM2 {fn : Func} {R : Ending → World → Prop} {t u D : Nat} {v v' : Value} (hr : fn.results = #[.tmp t, .tmp u]) (hb : Nat.blt t n = true) (hb' : Nat.blt u n = true) (hv : f t = v) (hv' : f u = v')
    (hD : w.heap[D]? = some (.deferred (some []))) (h : R (.returned (.tuple #[v, v'])) (w.putObj D (.deferred none))) : bodyPostM Fence.wide 0 P fn R .ret (Fr n [⟨.collected D, #[]⟩] f) w := by
  refine ⟨by simp, .inl ⟨D, _, rfl, run_takeDeferred hD, _, results_tmp2 hr _ P _, ?_⟩⟩
  rw [show (Fr n [⟨.collected D, #[]⟩] f).tmps = (Fr n [] f).tmps from rfl, Fr_getD _ _ _ _ (by simpa using hb), Fr_getD _ _ _ _ (by simpa using hb'), hv, hv']; exact h
theorem kp_put {b : Nat} (w : World) (o : Obj) : Kp (fun k => k = b) w (w.putObj b o) := ⟨rfl, rfl, rfl, by simp, fun k _ hk => World.putObj_heap_other hk⟩
theorem Fr_set (n : Nat) (f : Nat → Value) (d : Nat) (v : Value) : (Fr n [] f).tmps.setIfInBounds d v = (Fr n [] (upd f d v)).tmps := congrArg Act.tmps (Fr_put n [] f d v)
theorem c_range {t p F : Nat} {ca : Array Value} {assign body : Code} (hb : Nat.blt t n = true) (hg : f t = .func (.func F) #[] ca) (hF : isGo P F)
    (h : ∀ fn W1, W1.heap[w.heap.size + 1]? = some (.loop ⟨.ready, none, fn, (Fr n [] f).tmps, #[p], assign, body, w.heap.size⟩) → W1.heap[w.heap.size]? = some (.deferred (some [])) → New w W1 → W1.heap.size = w.heap.size + 2 →
      Calls P F (#[.func (.yield (w.heap.size + 1)) #[] #[]] ++ ca) W1 fun e w3 => ∃ v r, e = .returned v ∧ w3.heap[w.heap.size + 1]? = some (.loop r) ∧ r.state ≠ .busy ∧ r.pending = none ∧
        ∀ w4, Kp (fun k => k = w.heap.size + 1) w3 w4 → w4.heap.size = w3.heap.size → Q .normal (Fr n [⟨.collected w.heap.size, #[]⟩] f) w4) :
    (Code.rangeFunc (.tmp t) #[p] assign body).wp P Q (Fr n [] f) w := by
  obtain ⟨gfn, hF, hn, hbd⟩ := hF
  have he : (Fr n [] f).eval (.tmp t) = .func (.func F) #[] ca := by rw [Fr_eval (x := .tmp t) hb]; exact hg
  refine (wpIn_wide (n := 0)).1 (wpIn_rangeFunc fun fn _ => ⟨w.heap.size + 1, _, _, { target := .fn (.func F) ca, args := #[.func (.yield (w.heap.size + 1)) #[] #[]] }, (w.alloc (.deferred (some []))).alloc (.loop ⟨.ready, none, fn, (Fr n [] f).tmps, #[p], assign, body, w.heap.size⟩), F, #[.func (.yield (w.heap.size + 1)) #[] #[]] ++ ca, (w.alloc (.deferred (some []))).alloc (.loop ⟨.ready, none, fn, (Fr n [] f).tmps, #[p], assign, body, w.heap.size⟩), run_enterLoop_outer fn _ _ _ _, ?_, ?_, ?_, ?_, ?_⟩)
  · simp only [resolve, he]; simp [go_sem]
  · intro _ _; trivial
  · simp [invoke, callFunc, hF, hn, hbd, go_sem]
  · intro h; cases h
  · refine callsIn_wide.2 ((h fn _ ?_ ?_ ((kp_alloc _ _).trans (kp_alloc _ _)) (by simp)).mono ?_)
    · have := World.alloc_heap_new (w.alloc (.deferred (some []))) (.loop ⟨.ready, none, fn, (Fr n [] f).tmps, #[p], assign, body, w.heap.size⟩); rwa [World.size_alloc] at this
    · exact (Below.heap_alloc _ _ _ (by simp)).trans (World.alloc_heap_new w _)
    · rintro e w3 ⟨v, r, rfl, hr, hb, hp, hQ⟩
      obtain ⟨st, pe, fn', tm, ps, asg, bo, de⟩ := r
      cases hp
      exact ⟨none, _, run_endLoop hr hb, hQ _ (kp_put _ _) (by simp)⟩
theorem yield_at {lr p D : Nat} {fn : FuncId} {assign body : Code} {x : Value} {R : Ending → World → Prop} (h : w.heap[lr]? = some (.loop ⟨.ready, none, fn, (Fr n [] f).tmps, #[p], assign, body, D⟩))
    (hw : assign.wpIn (Fence.wide.inRound lr) 0 P (Exit.then (fun a₁ w₁ => ∃ fn' tm as' bo', w₁.heap[lr]? = some (.loop ⟨.ready, none, fn', tm, #[p], as', bo', D⟩) ∧ ∀ w₂, w₂.heap[lr]? = some (.loop ⟨.busy, none, fn', tm, #[p], as', bo', D⟩) → Kp (fun k => k = lr) w₁ w₂ → w₂.heap.size = w₁.heap.size →
      body.wpIn (Fence.wide.inRound lr) 0 P (roundPost P lr R) a₁ w₂) (fun _ _ _ => False)) (Fr n [] (upd f p x)) w) :
    YieldAt Fence.wide 0 P lr #[x] w R := by
  refine ⟨fn, (Fr n [] (upd f p x)).tmps, assign, body, ?_, roundIn_of_wpIn trivial (wpIn_mono hw ?_)⟩
  · have := run_yield (P := P) (args := #[x]) h rfl
    simpa [Fr_set] using this
  · intro e a w1 he
    cases e with
    | normal =>
      obtain ⟨fn', tm, as', bo', hl, hk⟩ := he
      exact ⟨_, run_beginRound hl rfl, hk _ (World.putObj_heap_same (Array.getElem?_eq_some_iff.1 hl).1) (kp_put _ _) (by simp)⟩
    | _ => exact he
theorem rnd_end {l D p : Nat} {fn' : FuncId} {tm : Array Value} {as' bo' : Code} {R : Ending → World → Prop} {a : Act} (h : w.heap[l]? = some (.loop ⟨.busy, none, fn', tm, #[p], as', bo', D⟩))
    (k : ∀ w', w'.heap[l]? = some (.loop ⟨.ready, none, fn', tm, #[p], as', bo', D⟩) → Kp (fun k => k = l) w w' → w'.heap.size = w.heap.size → R (.returned (.bool true)) w') : roundPost P l R .normal a w :=
  ⟨_, _, run_endRound none h, k _ (World.putObj_heap_same (Array.getElem?_eq_some_iff.1 h).1) (kp_put _ _) (by simp)⟩
end
theorem ERow.sh {G : Nat → Prop} {w : World} {v : Value} {l : List Edt} {r : Option Nat} (h : ERow G w v l r) : ∃ A cap, v = .slice A l.length cap := by
  obtain ⟨ps, hps, hrow, hs, hB⟩ := h
  obtain ⟨A, cap, hv, _⟩ := hrow.shape
  exact ⟨A, cap, hv⟩
end
section
def dg (c : Int) : Bool := decide (48 ≤ c) && decide (c ≤ 57)
def sm (c : Int) : Bool := decide (97 ≤ c) && decide (c ≤ 122)
def cd (c : Int) : Bool := dg c || sm c
def ind (c : Int) : Bool := decide (c = 32) || cd c
def VTag (t : ByteArray) : Prop := ∃ a b c : UInt8, t = ⟨#[a, b, c]⟩ ∧ dg a.toNat = true ∧ dg b.toNat = true ∧ dg c.toNat = true ∧ t ≠ ⟨#[48, 48, 48]⟩
def VSub (pt : ByteArray → Prop) (s : Sub) : Prop := cd s.code = true ∧ pt s.value
def VFld (pt : ByteArray → Prop) (f : Fld) : Prop := VTag f.tag ∧ ind f.i0 = true ∧ ind f.i1 = true ∧ 1 ≤ f.subs.length ∧ f.subs.length ≤ 20 ∧ ∀ s ∈ f.subs, VSub pt s
def VRec (pt : ByteArray → Prop) (id : Int) (l : List Fld) : Prop := 1 ≤ id ∧ id ≤ 1000000000 ∧ 1 ≤ l.length ∧ l.length ≤ 60 ∧ ∀ f ∈ l, VFld pt f
end
section
section steps
variable {md : Md} {P : Program} {ops : Array Oper} {Q : Exit → Act → World → Prop} {n : Nat} {ds : List Deferred} {f : Nat → Value} {w w' : World} {rest : List Oper}
  {d : Nat} {ty : TypeId} {pos : String} {af : Array Edge} {g : Option (Nat × Bool)} {v : Value} {x y z : Operand} {T U tx ty' : TypeId} {kk k1 k2 : IntKind} {a b c : Int}
theorem run_cv (hs : (P.underlying T).isSome = true) (hd : P.underlying U = some (.int k2)) : (convert T U (.int k1 a)).run P w = .ok (.int k2 (k2.wrap a)) w := by
  obtain ⟨d, hd'⟩ := Option.isSome_iff_exists.mp hs
  simp [convert, run_underlying hd', run_underlying hd, Conv.intToInt]
theorem s_conv (hs : (P.underlying T).isSome = true) (hd : P.underlying U = some (.int k2)) (hg : Gd n ops f g = some true) (hb : inb n x = true) (hx : ev f x = .int k1 a) (hc : k2.wrap a = c)
    (k : WL md P ops Q rest n ds (upd f d (.int k2 c)) w) : WL md P ops Q (⟨some d, .convert T U x, ty, pos, af, g⟩ :: rest) n ds f w :=
  st_run hg (by subst hc; simp only [execOp, Fr_eval hb, hx]; exact run_val (run_cv hs hd)) k
theorem s_shr (hg : Gd n ops f g = some true) (hb : inb n x = true) (hb' : inb n y = true) (hx : ev f x = .int k1 a) (hy : ev f y = .int k2 b) (h0 : 0 ≤ b) (h1 : b ≤ k1.bits) (hc : a / 2 ^ b.toNat = c)
    (k : WL md P ops Q rest n ds (upd f d (.int k1 c)) w) : WL md P ops Q (⟨some d, .binOp .shr tx x y ty', ty, pos, af, g⟩ :: rest) n ds f w := by
  subst hc
  exact st_run hg (by simp only [execOp, Fr_eval hb, Fr_eval hb', hx, hy]; simp [binOp_shr, shift_shr _ _ _ _ h0 h1, go_sem]) k
theorem s_slS {s : ByteArray} {i : Int} {lo : Nat} (hT : P.underlying T = some .string) (hg : Gd n ops f g = some true) (hb : inb n x = true) (hb1 : inb n y = true) (hx : ev f x = .string s) (hy : ev f y = .int .i64 i) (hi : i = (lo : Int)) (h1 : lo ≤ s.size)
    (k : WL md P ops Q rest n ds (upd f d (.string (s.extract lo s.size))) w) : WL md P ops Q (⟨some d, .slice T x (some y) none none, ty, pos, af, g⟩ :: rest) n ds f w := by
  subst hi
  refine st_run hg (v := .string (s.extract lo s.size)) (w' := w) ?_ k
  simp only [execOp, Fr_eval hb, Option.map_some, Option.map_none, Fr_eval hb1, hx, hy]
  refine run_val ?_
  rw [run_sliceAt_string w T _ _ _ _ hT]
  simp [Instr.slice, run_underlying hT, Instr.sliceBounds, run_sliceBound, h1]
end steps
end
section
theorem w8 {x : Int} (h : 0 ≤ x ∧ x ≤ 255) : IntKind.u8.wrap x = x := by
  unfold IntKind.wrap; simp [IntKind.signed, IntKind.bits]; omega
theorem w32 {x : Int} (h : -2147483648 ≤ x ∧ x ≤ 2147483647) : IntKind.i32.wrap x = x := by
  unfold IntKind.wrap; simp [IntKind.signed, IntKind.bits]; omega
def bt (s : ByteArray) (i : Nat) : Int := match s[i]? with | some u => u.toNat | none => 0
def atF (s : ByteArray) (i : Nat) : Int × Int :=
  if bt s i < 128 then (bt s i, 1) else
  if 194 ≤ bt s i ∧ bt s i < 224 ∧ i + 1 < s.size ∧ bt s (i + 1) / 64 = 2 then ((bt s i - 192) * 64 + (bt s (i + 1) - 128), 2) else
  if 224 ≤ bt s i ∧ bt s i < 240 ∧ i + 2 < s.size ∧ bt s (i + 1) / 64 = 2 ∧ bt s (i + 2) / 64 = 2 ∧ 2048 ≤ (bt s i - 224) * 4096 + (bt s (i + 1) - 128) * 64 + (bt s (i + 2) - 128) then
    ((bt s i - 224) * 4096 + (bt s (i + 1) - 128) * 64 + (bt s (i + 2) - 128), 3) else (0, 0)
theorem bt_get {s : ByteArray} {i : Nat} (h : i < s.size) : ∃ u : UInt8, s[i]? = some u ∧ bt s i = u.toNat ∧ 0 ≤ bt s i ∧ bt s i ≤ 255 := by
  have hu : s[i]? = some s[i] := by simp [h]
  refine ⟨s[i], hu, by simp [bt, hu], by simp [bt, hu], ?_⟩
  simp only [bt, hu]; have := s[i].toNat_lt; omega
inductive Bd (s : ByteArray) : Nat → List Int → Prop
  | nil : Bd s s.size []
  | cons (i n : Nat) (c : Int) (l : List Int) : i < s.size → atF s i = (c, (n : Int)) → 1 ≤ n → n ≤ 3 → i + n ≤ s.size → Bd s (i + n) l → Bd s i (c :: l)
def decl (s : ByteArray) : Nat → Nat → Option (List Int)
  | 0, i => if i = s.size then some [] else none
  | k + 1, i => if i = s.size then some [] else
    if i < s.size ∧ 1 ≤ (atF s i).2 ∧ (atF s i).2 ≤ 3 ∧ i + (atF s i).2.toNat ≤ s.size then (decl s k (i + (atF s i).2.toNat)).map ((atF s i).1 :: ·) else none
theorem decl_bd {s : ByteArray} : ∀ (k i : Nat) (L : List Int), decl s k i = some L → Bd s i L := by
  intro k
  induction k with
  | zero =>
    intro i L h
    simp only [decl] at h
    split at h
    · rename_i e; cases h; rw [e]; exact .nil
    · cases h
  | succ k ih =>
    intro i L h
    simp only [decl] at h
    split at h
    · rename_i e; cases h; rw [e]; exact .nil
    · split at h
      · rename_i hc
        obtain ⟨h1, h2, h3, h4⟩ := hc
        cases hd : decl s k (i + (atF s i).2.toNat) with
        | none => rw [hd] at h; cases h
        | some L' =>
          rw [hd] at h
          simp only [Option.map_some, Option.some.injEq] at h
          subst h
          exact .cons i _ _ _ h1 (Prod.ext rfl (by show (atF s i).2 = ((atF s i).2.toNat : Int); omega)) (by omega) (by omega) h4 (ih _ _ hd)
      · cases h
def isL (s : ByteArray) (L : List Int) : Bool := decide (s.size ≤ 1000) && decide (decl s 1000 0 = some L)
theorem isL_of {s : ByteArray} {L : List Int} (h : isL s L = true) : s.size ≤ 1000 ∧ Bd s 0 L := by
  simp only [isL, Bool.and_eq_true, decide_eq_true_eq] at h
  exact ⟨h.1, decl_bd _ _ _ h.2⟩
end
section
def noL (l : Nat) (Q : Exit → Act → World → Prop) : Exit → Act → World → Prop
  | .goto l', a, w => l' ≠ l ∧ Q (.goto l') a w
  | e, a, w => Q e a w
def jmp (l : Nat) (J : Act → World → Prop) (Q : Exit → Act → World → Prop) : Exit → Act → World → Prop
  | .goto l', a, w => (l' = l ∧ J a w) ∨ (l' ≠ l ∧ Q (.goto l') a w)
  | e, a, w => Q e a w
theorem wp_scope_fwd {P : Program} {a : Act} {w : World} {Q : Exit → Act → World → Prop} {c rest : Code} (l : Nat) (hf : findLabel c l = some rest) (hn : ∀ l', l' ≠ l → findLabel c l' = none)
    (first : c.wp P (jmp l (fun a' w' => rest.wp P (noL l Q) a' w') Q) a w) : (Code.scope c).wp P Q a w := by
  intro b k cs
  have hg : gotoIn l (.inScope c :: k) = some (.code rest :: .inScope c :: k) := by simp [gotoIn, hf]
  have ho : ∀ l', l' ≠ l → gotoIn l' (.inScope c :: k) = gotoIn l' k := fun l' h => by simp [gotoIn, hn l' h]
  have second : ∀ a₁ w₁, rest.wp P (noL l Q) a₁ w₁ → ∃ e a' w', Q e a' w' ∧ Arrives P (lone (b.at a₁ (.code rest :: .inScope c :: k)) cs w₁) b k cs e a' w' := by
    intro a₁ w₁ h
    obtain ⟨e, a₂, w₂, hq, harr⟩ := h b (.inScope c :: k) cs
    cases e with
    | normal => exact ⟨.normal, a₂, w₂, hq, Steps.trans harr (.one step_inScope)⟩
    | exit id => exact ⟨.exit id, a₂, w₂, hq, fun k' hk => harr k' (by simp [exitTo, hk])⟩
    | goto l' => exact ⟨.goto l', a₂, w₂, hq.2, fun k' hk => harr k' (by rw [ho l' hq.1]; exact hk)⟩
    | ret => exact ⟨_, a₂, w₂, hq, harr⟩
    | panic ch => exact ⟨_, a₂, w₂, hq, harr⟩
    | outgrown => exact ⟨_, a₂, w₂, hq, harr⟩
  obtain ⟨e, a₁, w₁, hq, harr⟩ := first b (.inScope c :: k) cs
  cases e with
  | normal => exact ⟨.normal, a₁, w₁, hq, .head step_scope (Steps.trans harr (.one step_inScope))⟩
  | exit id => exact ⟨.exit id, a₁, w₁, hq, fun k' hk => .head step_scope (harr k' (by simp [exitTo, hk]))⟩
  | goto l' =>
    rcases hq with ⟨rfl, hJ⟩ | ⟨hne, hq⟩
    · obtain ⟨e₂, a₂, w₂, hq₂, harr₂⟩ := second a₁ w₁ hJ
      exact ⟨e₂, a₂, w₂, hq₂, .of_steps (.head step_scope (harr _ hg)) harr₂⟩
    · exact ⟨.goto l', a₁, w₁, hq, fun k' hk => .head step_scope (harr k' (by rw [ho l' hne]; exact hk))⟩
  | ret => exact ⟨_, a₁, w₁, hq, .of_steps (.one step_scope) harr⟩
  | panic ch => exact ⟨_, a₁, w₁, hq, .of_steps (.one step_scope) harr⟩
  | outgrown => exact ⟨_, a₁, w₁, hq, .of_steps (.one step_scope) harr⟩
end
end Go.Proofs.YtkabfelhicohnaaGreatDoor.V
