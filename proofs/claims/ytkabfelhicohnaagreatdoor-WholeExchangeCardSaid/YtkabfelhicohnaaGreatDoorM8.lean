/- Walks: the printed form, the whole. No condition. -/
import Derived.Test.YtkabfelhicohnaaGreatDoorM7
import Derived.Lib.Builder
import Derived.Laws.Externs
import Derived.Lib.Atoi
import Derived.Lib.ItoaMem
set_option linter.unusedSimpArgs false
set_option linter.unusedVariables false
set_option maxRecDepth 4000
set_option maxHeartbeats 2000000
namespace Go.Proofs.YtkabfelhicohnaaGreatDoor.V
open Go.RowKit
section
section steps
variable {md : Md} {P : Program} {ops : Array Oper} {Q : Exit → Act → World → Prop} {n : Nat} {ds : List Deferred} {f : Nat → Value} {w w' : World} {rest : List Oper}
  {d : Nat} {ty : TypeId} {pos : String} {af : Array Edge} {g : Option (Nat × Bool)} {v : Value} {x y z : Operand} {T U tx ty' : TypeId}
theorem s_pne {q : Addr} {e : TypeId} {j : TypeInfo} (hT : P.underlying tx = some (.pointer e)) (hj : P.info? e = some j) (hg : Gd n ops f g = some true) (hb : inb n x = true) (hb' : inb n y = true) (hx : ev f x = .pointer (some q)) (hy : ev f y = .pointer (some q))
    (k : WL md P ops Q rest n ds (upd f d (.bool false)) w) : WL md P ops Q (⟨some d, .binOp .neq tx x y ty', ty, pos, af, g⟩ :: rest) n ds f w :=
  st_run hg (by simp only [execOp, Fr_eval hb, Fr_eval hb', hx, hy]; exact run_val (Lib.run_neq_ptr_same w q hT hj)) k
theorem own_shape {b : Nat} {T0 : TypeId} {cs : List Value} (h : Own w b T0 cs) : w.shape? b = some (T0, cs.length) := by
  simp only [World.shape?, show w.heap[b]? = _ from h]; simp
theorem s_toU {b e T0 : Nat} {j : TypeInfo} {cs : List Value} (hs : P.underlying T = some (.pointer e)) (hd : P.underlying U = some .unsafePointer) (hj : P.info? e = some j) (hj0 : j.size ≠ 0) (hg : Gd n ops f g = some true) (hb : inb n x = true) (hx : ev f x = .pointer (some ⟨b, 0, none⟩))
    (ho : Own w b T0 cs) (hc : 0 < cs.length) (k : WL md P ops Q rest n ds (upd f d (.pointer (some ⟨b, 0, none⟩))) w) : WL md P ops Q (⟨some d, .convert T U x, ty, pos, af, g⟩ :: rest) n ds f w :=
  st_run hg (by simp only [execOp, Fr_eval hb, hx]; exact run_val (Lib.run_to_unsafe w _ hs hd hj hj0 (own_shape ho) hc)) k
theorem s_fromU {b e T0 : Nat} {j : TypeInfo} {cs : List Value} (hs : P.underlying T = some .unsafePointer) (hd : P.underlying U = some (.pointer e)) (hj : P.info? e = some j) (hg : Gd n ops f g = some true) (hb : inb n x = true) (hx : ev f x = .pointer (some ⟨b, 0, none⟩))
    (ho : Own w b T0 cs) (hl : liesAt P P.depth T0 (cs.length / P.cellsOf T0) 0 e 1 = true) (k : WL md P ops Q rest n ds (upd f d (.pointer (some ⟨b, 0, none⟩))) w) : WL md P ops Q (⟨some d, .convert T U x, ty, pos, af, g⟩ :: rest) n ds f w :=
  st_run hg (by simp only [execOp, Fr_eval hb, hx]; exact run_val (Lib.run_from_unsafe w _ hs hd hj (own_shape ho) hl)) k
theorem s_ext1 {F : FuncId} {fn : Func} {e : Array Value → Sem Value} {at' : Array TypeId} {v1 : Value} (hf : P.funcs[F]? = some fn) (hname : (fn.name == "runtime.NumGoroutine") = false) (hbd : fn.body.isNone = true) (hn : Extern.findNext fn = none) (he : Extern.find fn = some e)
    (hg : Gd n ops f g = some true) (hb : inb n x = true) (h1 : ev f x = v1) (hr : (e #[v1]).run P w = .ok v w) (k : WL md P ops Q rest n ds (upd f d v) w) :
    WL md P ops Q (⟨some d, .call ⟨.value (.func F), #[x], at'⟩, ty, pos, af, g⟩ :: rest) n ds f w := by
  refine st_run hg ?_ k
  simp only [execOp, resolve, List.map_toArray, List.map_cons, List.map_nil, Fr_eval hb, h1]
  rw [show (Fr n ds f).eval (.func F) = .func (.func F) #[] #[] from rfl]
  have h2 := run_callFunc_extern (P := P) hf hname hbd hn he #[v1] w
  rw [hr] at h2
  simpa [Deferred.ofValue, invoke, go_sem, Result.andThen] using h2
end steps
def Bld (w : World) (b : Nat) (t : List UInt8) (r : Option Nat) : Prop :=
  ∃ p v, Own w b 116 [p, v] ∧ (p = .pointer none ∨ p = .pointer (some ⟨b, 0, none⟩)) ∧ BRow w v t r ∧ r ≠ some b
theorem Bld.kp {M : Nat → Prop} {w w' : World} {b : Nat} {t : List UInt8} {r : Option Nat} (h : Bld w b t r) (k : Kp M w w') (hb : ¬ M b) (hm : ∀ i, r = some i → ¬ M i) : Bld w' b t r := by
  obtain ⟨p, v, h1, h2, h3, h4⟩ := h
  exact ⟨p, v, h1.kp k hb, h2, h3.kp k hm, h4⟩
theorem Bld.lt {w : World} {b : Nat} {t : List UInt8} {r : Option Nat} (h : Bld w b t r) : b < w.heap.size ∧ ∀ i, r = some i → i < w.heap.size := by
  obtain ⟨p, v, h1, h2, h3, h4⟩ := h
  exact ⟨h1.lt, h3.lt⟩
theorem Bld.lib {w : World} {B b : Nat} {t : List UInt8} {r : Option Nat} (h : Bld w b t r) (hB : B ≤ b) (hr : ∀ i, r = some i → B ≤ i) : Lib.IsBuilder 116 5 B b (Lib.byteCells t) w := by
  obtain ⟨p, v, h1, h2, h3, h4⟩ := h
  have hrow : w.ownsRow B 5 1 v t.length (bc t) ∧ v.ownBlock ≠ some b := by
    obtain ⟨hl, ⟨rfl, hn, hg⟩ | ⟨b', cap, cur, hg, rfl, hh, r1, r2, r3, r4⟩⟩ := h3
    · exact ⟨⟨hl, .inl ⟨rfl, hn⟩⟩, by simp [Value.ownBlock]⟩
    · exact ⟨⟨hl, .inr ⟨b', cap, cur, rfl, hr b' hg, hh, r1, r2, r3, r4⟩⟩, by simp only [Value.ownBlock]; rw [← hg]; exact h4⟩
  have e : (Lib.byteCells t).length = t.length := Lib.byteCells_length t
  rcases h2 with rfl | rfl
  · exact .inl ⟨hB, v, h1, by rw [e]; exact hrow.1, hrow.2⟩
  · exact .inr ⟨hB, v, h1, by rw [e]; exact hrow.1, hrow.2⟩
theorem on114 : isOne Tryz.prog 114 := isOne_of Tryz.underlying114 rfl
end
section
theorem c95a (b : Nat) (v : Value) (w : World) (oP : Own w b 116 [.pointer none, v]) : Calls Tryz.prog 95 #[.pointer (some ⟨b, 0, none⟩)] w fun e w' => e = .returned (.tuple #[]) ∧ Own w' b 116 [.pointer (some ⟨b, 0, none⟩), v] ∧ Kp (fun k => k = b) w w' ∧ w'.heap.size = w.heap.size := by
 obtain ⟨W, hW⟩ : ∃ W, W = w := ⟨_, rfl⟩
 subst hW
 have KP : Kp (fun k => k = b) W W := Kp.refl _ _
 refine enter (n := 20) Tryz.func95 rfl rfl (by simp) ?_
 refine wp_seq (c_reg (s_mv (v := .pointer (some _)) rfl rfl rfl (s_nc rfl rfl rfl (s_fa fi116_0 rfl rfl rfl (s_ld1 (v := .pointer none) on114 rfl rfl rfl (oP.get 0 rfl) (s_pnil Tryz.underlying114 rfl rfl rfl rfl rfl rfl (w_nil (then_n (c_T rfl rfl ?_)))))))))
 refine c_reg (s_mv (v := .pointer (some _)) rfl rfl rfl (s_mv (v := .pointer (some _)) rfl rfl rfl ?_))
 refine s_toU (j := _) Tryz.underlying114 Tryz.underlying165 rfl (by decide) rfl rfl rfl oP (by simp) ?_
 refine s_ext1 (e := Extern.AbiNoEscape.same) Tryz.func119 (by kernel_rfl) (by kernel_rfl) (by kernel_rfl) (by kernel_rfl) rfl rfl rfl rfl (s_fromU (j := _) Tryz.underlying165 Tryz.underlying114 rfl rfl rfl rfl oP (by kernel_rfl) (s_nc rfl rfl rfl (s_fa fi116_0 rfl rfl rfl ?_)))
 refine s_st (b := b) 0 (sz := 1) (size_of (by kernel_rfl)) (v := .pointer (some ⟨b, 0, none⟩)) (new := [.pointer (some ⟨b, 0, none⟩)]) (cs' := [.pointer (some ⟨b, 0, none⟩), v]) rfl rfl rfl rfl rfl rfl rfl oP rfl rfl rfl ?_
 clear oP; intro w1 oP ks zs
 replace KP := KP.trans ks
 have hz := zs
 refine w_nil ?_
 exact nor0 rfl ⟨rfl, oP, KP, hz⟩
theorem c95b (b : Nat) (v : Value) (w : World) (oP : Own w b 116 [.pointer (some ⟨b, 0, none⟩), v]) : Calls Tryz.prog 95 #[.pointer (some ⟨b, 0, none⟩)] w fun e w' => e = .returned (.tuple #[]) ∧ Own w' b 116 [.pointer (some ⟨b, 0, none⟩), v] ∧ Kp (fun k => k = b) w w' ∧ w'.heap.size = w.heap.size := by
 obtain ⟨W, hW⟩ : ∃ W, W = w := ⟨_, rfl⟩
 subst hW
 have KP : Kp (fun k => k = b) W W := Kp.refl _ _
 refine enter (n := 20) Tryz.func95 rfl rfl (by simp) ?_
 refine wp_seq (c_reg (s_mv (v := .pointer (some _)) rfl rfl rfl (s_nc rfl rfl rfl (s_fa fi116_0 rfl rfl rfl ?_))))
 refine s_ld1 (v := .pointer (some ⟨b, 0, none⟩)) on114 rfl rfl rfl (oP.get 0 rfl) ?_
 refine s_pnil Tryz.underlying114 rfl rfl rfl rfl rfl rfl (w_nil (then_n (c_F rfl rfl (wp_seq (c_reg (s_mv (v := .pointer (some _)) rfl rfl rfl (s_nc rfl rfl rfl (s_fa fi116_0 rfl rfl rfl ?_))))))))
 refine s_ld1 (v := .pointer (some ⟨b, 0, none⟩)) on114 rfl rfl rfl (oP.get 0 rfl) ?_
 refine s_mv (v := .pointer (some _)) rfl rfl rfl (s_pne (j := _) Tryz.underlying114 rfl rfl rfl rfl rfl rfl (w_nil (then_n (c_F rfl rfl (wp_skip ?_)))))
 exact nor0 rfl ⟨rfl, oP, KP, rfl⟩
theorem c95 (b : Nat) (p v : Value) (w : World) (oP : Own w b 116 [p, v]) (hp : p = .pointer none ∨ p = .pointer (some ⟨b, 0, none⟩)) : Calls Tryz.prog 95 #[.pointer (some ⟨b, 0, none⟩)] w fun e w' => e = .returned (.tuple #[]) ∧ Own w' b 116 [.pointer (some ⟨b, 0, none⟩), v] ∧ Kp (fun k => k = b) w w' ∧ w'.heap.size = w.heap.size := by
 rcases hp with rfl | rfl
 ·exact c95a b v w oP
 ·exact c95b b v w oP
theorem c71 {r : Option Nat} (b : Nat) (t : List UInt8) (s : ByteArray) (w : World) (hb : Bld w b t r) (hl : t.length + s.size ≤ 1000000) : Calls Tryz.prog 71 #[.pointer (some ⟨b, 0, none⟩), .string s] w fun e w' => ∃ v r', e = .returned v ∧ Bld w' b (t ++ s.data.toList) r' ∧ Kp (fun k => k = b ∨ some k = r) w w' ∧ (r' = r ∨ ∀ i, r' = some i → w.heap.size ≤ i) := by
 obtain ⟨W, hW⟩ : ∃ W, W = w := ⟨_, rfl⟩
 subst hW
 obtain ⟨p, v, oP, hp, h3, h4⟩ := hb
 have KP : Kp (fun k => k = b) W W := Kp.refl _ _
 refine enter (n := 19) Tryz.func71 rfl rfl (by simp) ?_
 refine wp_seq (c_reg (asI rfl rfl rfl (s_as (v := _) rfl rfl rfl (w_nil (then_n (wp_seq (c_reg (s_mv (v := .pointer (some _)) rfl rfl rfl (s_call1 go95 rfl (c95 b p v _ oP hp) rfl rfl ?_)))))))))
 clear oP; rintro _ w1 ⟨rfl, oP, k7, z7⟩
 have hr := h3.kp k7 (fun i hi (e : i = b) => h4 (e ▸ hi))
 replace KP := KP.trans k7
 refine ⟨_, rfl, ?_⟩
 refine w_nil (then_n (wp_seq (c_reg (s_mv (v := .pointer (some _)) rfl rfl rfl (s_mv (v := .pointer (some _)) rfl rfl rfl (s_nc rfl rfl rfl (s_fa fi116_1 rfl rfl rfl (s_ld1 (v := v) on38 rfl rfl rfl (oP.get 1 rfl) (s_mv (v := .string _) rfl rfl rfl ?_)))))))))
 have hbl := oP.lt
 refine s_appBS (s := t) (t := s) el38 z5 Tryz.underlying9 rfl rfl rfl rfl rfl hr hl ?_
 intro vn wA rn hrn kA hor
 replace oP := oP.kp kA (fun e => h4 e.symm)
 have hKA := kA.size
 have KA : Kp (fun k => k = b ∨ some k = r) W wA := (KP.mono (fun _ _ h => .inl h)).trans' kA (fun _ _ h => .inr h)
 have hn4 : rn ≠ some b := by intro e; rcases hor with h | h; (exact h4 (h ▸ e)); (have := Option.some.inj (h.symm.trans e); omega)
 refine s_nc rfl rfl rfl (s_fa fi116_1 rfl rfl rfl ?_)
 have h1z : vn.cells = #[vn] ∧ vn.oneCell' = true := by obtain ⟨_, _, e⟩ := hrn.shape; rw [e]; exact ⟨rfl, rfl⟩
 refine s_st (b := b) 1 (sz := 1) (size_of (by kernel_rfl)) (v := vn) (new := [vn]) (cs' := [.pointer (some ⟨b, 0, none⟩), vn]) rfl rfl rfl rfl rfl h1z.1 (by simp [h1z.2]) oP rfl rfl rfl ?_
 clear oP; intro w2 oP ks zs
 replace hrn := hrn.kp ks (fun i hi (e : i = b) => hn4 (e ▸ hi))
 replace KA := KA.trans' ks (fun _ _ h => .inl h)
 refine w_nil (then_n (wp_seq (c_reg (s_mv (v := .string _) rfl rfl rfl (s_lenS Tryz.underlying9 rfl rfl rfl (asI rfl rfl rfl (s_as (v := _) rfl rfl rfl (w_nil (then_n ?_)))))))))
 refine wp_ret ?_
 exact ret2 (t := 4) (u := 5) rfl rfl rfl rfl rfl ⟨_, rn, rfl, ⟨_, vn, oP, .inr rfl, hrn, hn4⟩, KA, (by rcases hor with h | h; exact .inl h; exact .inr fun i hi => by rw [h] at hi; cases hi; omega)⟩
theorem c72 {r : Option Nat} (b : Nat) (t : List UInt8) (c : UInt8) (w : World) (hb : Bld w b t r) (hl : t.length + 1 ≤ 1000000) : Calls Tryz.prog 72 #[.pointer (some ⟨b, 0, none⟩), .int .u8 c.toNat] w fun e w' => ∃ v r', e = .returned v ∧ Bld w' b (t ++ [c]) r' ∧ Kp (fun k => k = b ∨ some k = r) w w' ∧ (r' = r ∨ ∀ i, r' = some i → w.heap.size ≤ i) := by
 obtain ⟨W, hW⟩ : ∃ W, W = w := ⟨_, rfl⟩
 subst hW
 obtain ⟨p, v, oP, hp, h3, h4⟩ := hb
 have KP : Kp (fun k => k = b) W W := Kp.refl _ _
 refine enter (n := 17) Tryz.func72 rfl rfl (by simp) ?_
 refine wp_seq (c_reg (s_as (v := _) rfl rfl rfl (w_nil (then_n (wp_seq (c_reg (s_mv (v := .pointer (some _)) rfl rfl rfl (s_call1 go95 rfl (c95 b p v _ oP hp) rfl rfl ?_))))))))
 clear oP; rintro _ w1 ⟨rfl, oP, k7, z7⟩
 have hr := h3.kp k7 (fun i hi (e : i = b) => h4 (e ▸ hi))
 replace KP := KP.trans k7
 refine ⟨_, rfl, ?_⟩
 refine w_nil (then_n (wp_seq (c_reg (s_mv (v := .pointer (some _)) rfl rfl rfl (s_mv (v := .pointer (some _)) rfl rfl rfl (s_nc rfl rfl rfl (s_fa fi116_1 rfl rfl rfl (s_ld1 (v := v) on38 rfl rfl rfl (oP.get 1 rfl) (s_mv (v := .int .u8 _) rfl rfl rfl ?_)))))))))
 refine s_bs1E (cs := [.int .u8 c.toNat]) el38 rfl (by decide) rfl rfl rfl rfl ?_
 intro b13 w2 eb13 o13 k13 z13
 replace oP := oP.kp k13 (fun e => e)
 replace hr := hr.kp k13 (fun _ _ e => e)
 replace KP := KP.transN k13
 have hk13 := k13.size
 have hbl := oP.lt
 refine s_appB (s := t) (t := [c]) el38 rfl rfl rfl rfl rfl hr (rb_own (s := [c]) o13 (by simp)) (by simpa using hl) ?_
 intro vn wA rn hrn kA hor
 replace oP := oP.kp kA (fun e => h4 e.symm)
 have hKA := kA.size
 have KA : Kp (fun k => k = b ∨ some k = r) W wA := (KP.mono (fun _ _ h => .inl h)).trans' kA (fun _ _ h => .inr h)
 have hn4 : rn ≠ some b := by intro e; rcases hor with h | h; (exact h4 (h ▸ e)); (have := Option.some.inj (h.symm.trans e); omega)
 refine s_nc rfl rfl rfl (s_fa fi116_1 rfl rfl rfl ?_)
 have h1z : vn.cells = #[vn] ∧ vn.oneCell' = true := by obtain ⟨_, _, e⟩ := hrn.shape; rw [e]; exact ⟨rfl, rfl⟩
 refine s_st (b := b) 1 (sz := 1) (size_of (by kernel_rfl)) (v := vn) (new := [vn]) (cs' := [.pointer (some ⟨b, 0, none⟩), vn]) rfl rfl rfl rfl rfl h1z.1 (by simp [h1z.2]) oP rfl rfl rfl ?_
 clear oP; intro w3 oP ks zs
 replace hrn := hrn.kp ks (fun i hi (e : i = b) => hn4 (e ▸ hi))
 replace KA := KA.trans' ks (fun _ _ h => .inl h)
 refine w_nil (then_n (wp_seq (c_reg (s_as (v := _) rfl rfl rfl (w_nil (then_n (wp_ret ?_)))))))
 exact ret1 (t := 4) rfl rfl rfl ⟨_, rn, rfl, ⟨_, vn, oP, .inr rfl, hrn, hn4⟩, KA, (by rcases hor with h | h; exact .inl h; exact .inr fun i hi => by rw [h] at hi; cases hi; omega)⟩
end
section
def shb (u : UInt8) : UInt8 := if u = 32 then 95 else u
def rdb (u : UInt8) : UInt8 := if u = 95 then 32 else if u = 32 then 95 else u
def esc1 (u : UInt8) : List UInt8 := if u = 36 ∨ u = 92 then [92, u] else [u]
def esc (l : List UInt8) : List UInt8 := l.flatMap esc1
def b8 (x : Int) : UInt8 := UInt8.ofNat x.toNat
def sln (s : Sub) : List UInt8 := [32, 36, b8 s.code, 32] ++ esc s.value.data.toList
def hln (f : Fld) : List UInt8 := f.tag.data.toList ++ [32, shb (b8 f.i0), shb (b8 f.i1)]
def ln (f : Fld) : List UInt8 := hln f ++ f.subs.flatMap sln
theorem esc_len (l : List UInt8) : (esc l).length ≤ 2 * l.length := by
  refine fm_bd fun x _ => ?_
  unfold esc1; split <;> simp
theorem sln_len {s : Sub} (h : VSub VText s) : (sln s).length ≤ 804 := by
  have h1 := esc_len s.value.data.toList
  rw [tl_len] at h1
  have h2 := h.2.2.1
  simp only [sln, List.length_append, List.length_cons, List.length_nil]; omega
theorem hln_len {f : Fld} (h : VFld VText f) : (hln f).length = 6 := by
  simp [hln, (tag_len h.1).1]
theorem ln_len {f : Fld} (h : VFld VText f) : (ln f).length ≤ 16086 := by
  have h2 := fm_bd (f := sln) fun s hs => sln_len (h.2.2.2.2.2 s hs)
  have h3 := h.2.2.2.2.1
  have h4 := hln_len h
  have : 804 * f.subs.length ≤ 804 * 20 := Nat.mul_le_mul_left _ h3
  simp only [ln, List.length_append]; omega
theorem esc_snoc (l : List UInt8) (u : UInt8) : esc (l ++ [u]) = esc l ++ esc1 u := by simp [esc]
theorem u8eq {u : UInt8} {n : Nat} (h : n < 256) : (((u.toNat : Nat) : Int) = (n : Int)) ↔ u = UInt8.ofNat n := by
  constructor
  · intro e
    have : u.toNat = n := by omega
    rw [← this]; simp
  · rintro rfl; simp; omega
end
section
theorem c73 (u : UInt8) (w : World) : Calls Tryz.prog 73 #[.int .u8 u.toNat] w fun e w' => e = .returned (.int .u8 (shb u).toNat) ∧ w' = w := by
 refine enter (n := 6) Tryz.func73 rfl rfl (by simp) ?_
 refine wp_seq (c_reg (s_as (v := .int .u8 _) rfl rfl rfl (w_nil (then_n (wp_seq (wp_seq (c_reg (s_mv (v := .int .u8 _) rfl rfl rfl (s_eq rfl rfl rfl rfl rfl rfl ?_)))))))))
 refine w_nil (then_n ?_)
 refine c_if rfl rfl ?_ ?_
 ·intro ht4
  (try simp only [Q1, Q2, Q3, Q4, Q5] at ht4)
  refine wp_seq (c_reg (s_as (v := .int .u8 _) rfl rfl rfl (w_nil (then_n (wp_ret (then_r ?_))))))
  refine ret1 (t := 2) (v := .int .u8 (shb u).toNat) rfl rfl (by obtain rfl : u = 32 := (u8eq (n := 32) (by decide)).1 ht4; rfl) ⟨rfl, rfl⟩
 ·intro ht4
  (try simp only [Q1, Q2, Q3, Q4, Q5] at ht4)
  refine wp_skip (then_n (wp_seq (c_reg (s_mv (v := .int .u8 _) rfl rfl rfl (s_as (v := .int .u8 _) rfl rfl rfl (w_nil (then_n (wp_ret ?_))))))))
  refine ret1 (t := 2) (v := .int .u8 (shb u).toNat) rfl rfl (by rw [show shb u = u from if_neg (by rintro rfl; exact ht4 rfl)]; rfl) ⟨rfl, rfl⟩
theorem c78 (u : UInt8) (w : World) : Calls Tryz.prog 78 #[.int .u8 u.toNat] w fun e w' => e = .returned (.int .u8 (rdb u).toNat) ∧ w' = w := by
 refine enter (n := 9) Tryz.func78 rfl rfl (by simp) ?_
 refine wp_seq (c_reg (s_as (v := .int .u8 _) rfl rfl rfl (w_nil (then_n (wp_seq (wp_seq (c_reg (s_mv (v := .int .u8 _) rfl rfl rfl (w_nil ?_)))))))))
 refine then_n (wp_block (wp_seq (c_reg (s_eq rfl rfl rfl rfl rfl rfl (asB rfl rfl rfl (w_nil (then_n ?_)))))))
 refine c_if rfl rfl ?_ ?_
 ·intro ht4
  (try simp only [Q1, Q2, Q3, Q4, Q5] at ht4)
  refine wp_seq (c_reg (s_as (v := .int .u8 _) rfl rfl rfl (w_nil (then_n (wp_ret (inb_r (then_r ?_)))))))
  refine ret1 (t := 2) (v := .int .u8 (rdb u).toNat) rfl rfl (by obtain rfl : u = 95 := (u8eq (n := 95) (by decide)).1 ht4; rfl) ⟨rfl, rfl⟩
 ·intro ht4
  (try simp only [Q1, Q2, Q3, Q4, Q5] at ht4)
  refine wp_seq (c_reg (s_eq rfl rfl rfl rfl rfl rfl (asB rfl rfl rfl (w_nil (then_n ?_)))))
  refine c_if rfl rfl ?_ ?_
  ·intro ht6
   (try simp only [Q1, Q2, Q3, Q4, Q5] at ht6)
   refine wp_seq (c_reg (s_as (v := .int .u8 _) rfl rfl rfl (w_nil (then_n (wp_ret (inb_r (then_r ?_)))))))
   refine ret1 (t := 2) (v := .int .u8 (rdb u).toNat) rfl rfl (by obtain rfl : u = 32 := (u8eq (n := 32) (by decide)).1 ht6; rfl) ⟨rfl, rfl⟩
  ·intro ht6
   (try simp only [Q1, Q2, Q3, Q4, Q5] at ht6)
   refine wp_skip (inb_n (then_n (wp_seq (c_reg (s_mv (v := .int .u8 _) rfl rfl rfl (s_as (v := .int .u8 _) rfl rfl rfl (w_nil (then_n (wp_ret ?_)))))))))
   refine ret1 (t := 2) (v := .int .u8 (rdb u).toNat) rfl rfl (by rw [show rdb u = u by unfold rdb; rw [if_neg (by rintro rfl; exact ht4 rfl), if_neg (by rintro rfl; exact ht6 rfl)]]; rfl) ⟨rfl, rfl⟩
theorem c36 {G : Nat → Prop} (x : Fld) (vs : Value) (w : World) (hs0 : RSubs G w vs x.subs) (hv : VFld VText x) : Calls Tryz.prog 36 #[.agg #[.string x.tag, .int .u8 x.i0, .int .u8 x.i1, vs]] w fun e w' => e = .returned (.string ⟨(ln x).toArray⟩) ∧ New w w' := by
 obtain ⟨W, hW⟩ : ∃ W, W = w := ⟨_, rfl⟩
 subst hW
 have K : New W W := Kp.refl _ _
 have hv0 := hv
 have hi0 := ind_le hv.2.1
 have hi1 := ind_le hv.2.2.1
 have htl := (tag_len hv.1).2
 have hs20 := hv.2.2.2.2.1
 have hh6 := hln_len hv
 have hz32 : (⟨#[32]⟩ : ByteArray).size = 1 := rfl
 have hz36 : (⟨#[32, 36]⟩ : ByteArray).size = 2 := rfl
 obtain ⟨As, cs, rfl, hs⟩ := hs0
 refine enter (n := 59) Tryz.func36 rfl rfl (by simp) ?_
 refine wp_seq (c_reg (s_box (cs := [.string x.tag, .int .u8 x.i0, .int .u8 x.i1, .slice As x.subs.length cs]) rfl rfl rfl rfl ?_))
 intro b1 w1 eb1 o1 kb1 zb1
 have gb1_K : W.heap.size ≤ b1 := by have := K.size; omega
 replace K := K.transN kb1
 refine s_as (v := .string _) rfl rfl rfl (w_nil (then_n (wp_seq (c_reg (s_alloc z116 rfl rfl ?_)))))
 intro b3 w1 eb3 o3 k3 z3
 have gb3_K : W.heap.size ≤ b3 := by have := K.size; omega
 have hb1l := o1.lt
 replace o1 := o1.kp k3 (fun e => e)
 replace K := K.transN k3
 have h3 : Bld w1 b3 [] none := ⟨_, _, o3, .inl rfl, BRow.nil _, by simp⟩
 have ok : ∀ i, (none : Option Nat) = some i → b3 < i := fun i h => by cases h
 have lt3 := h3.lt.1
 refine w_nil (then_n (wp_seq (c_reg (s_fa fi53_0 rfl rfl rfl (s_ld1 (v := .string _) on9 rfl rfl rfl (o1.get 0 rfl) ?_)))))
 refine s_sadd rfl rfl rfl rfl rfl (by have : (⟨#[32]⟩ : ByteArray).size = 1 := rfl; omega) ?_
 refine s_call2 go71 rfl (c71 b3 ([]) (x.tag ++ ⟨#[32]⟩) _ h3 (by simp only [List.length_append, List.length_cons, List.length_nil, tl_len, ByteArray.size_append]; omega)) rfl rfl rfl rfl ?_
 rintro _ w2 ⟨v11, r11, rfl, h11, k11, n11⟩
 have z11 := k11.size
 clear h3
 replace o1 := o1.kp k11 (fun e => by rcases e with e | e; omega; have := ok _ e.symm; omega)
 replace K := K.trans' k11 (fun i hi e => by rcases e with e | e; omega; have := ok _ e.symm; omega)
 have lt3 := h11.lt.1
 replace ok := rok ok n11 (fun b hb => by omega)
 refine ⟨_, rfl, ?_⟩
 refine w_nil (then_n (wp_seq (c_reg (s_fa fi53_1 rfl rfl rfl (s_iaA (j := 0) Tryz.underlying48 sz5 rfl rfl rfl rfl rfl rfl (by decide) ?_)))))
 refine s_ld1 (v := .int .u8 _) on5 rfl rfl rfl (by rw [add_add]; exact o1.get 1 rfl) ?_
 refine s_call1 go73 rfl (c73 (b8 x.i0) _) rfl (iv (u8v (by omega)).symm) ?_
 rintro _ wq ⟨rfl, hwq⟩
 rw [hwq]; clear hwq wq
 refine ⟨_, rfl, ?_⟩
 refine s_call2 go72 rfl (c72 b3 ([] ++ (x.tag ++ ⟨#[32]⟩).data.toList) (shb (b8 x.i0)) _ h11 (by simp only [List.length_append, List.length_cons, List.length_nil, tl_len, ByteArray.size_append]; omega)) rfl rfl rfl rfl ?_
 rintro _ w3 ⟨v16, r16, rfl, h16, k16, n16⟩
 have z16 := k16.size
 clear h11
 replace o1 := o1.kp k16 (fun e => by rcases e with e | e; omega; have := ok _ e.symm; omega)
 replace K := K.trans' k16 (fun i hi e => by rcases e with e | e; omega; have := ok _ e.symm; omega)
 have lt3 := h16.lt.1
 replace ok := rok ok n16 (fun b hb => by omega)
 refine ⟨_, rfl, ?_⟩
 refine w_nil (then_n (wp_seq (c_reg (s_fa fi53_1 rfl rfl rfl (s_iaA (j := 1) Tryz.underlying48 sz5 rfl rfl rfl rfl rfl rfl (by decide) ?_)))))
 refine s_ld1 (v := .int .u8 _) on5 rfl rfl rfl (by rw [add_add]; exact o1.get 2 rfl) ?_
 refine s_call1 go73 rfl (c73 (b8 x.i1) _) rfl (iv (u8v (by omega)).symm) ?_
 rintro _ wq ⟨rfl, hwq⟩
 rw [hwq]; clear hwq wq
 refine ⟨_, rfl, ?_⟩
 refine s_call2 go72 rfl (c72 b3 ([] ++ (x.tag ++ ⟨#[32]⟩).data.toList ++ [shb (b8 x.i0)]) (shb (b8 x.i1)) _ h16 (by simp only [List.length_append, List.length_cons, List.length_nil, tl_len, ByteArray.size_append]; omega)) rfl rfl rfl rfl ?_
 rintro _ w4 ⟨v21, r21, rfl, h21, k21, n21⟩
 have z21 := k21.size
 clear h16
 replace o1 := o1.kp k21 (fun e => by rcases e with e | e; omega; have := ok _ e.symm; omega)
 replace K := K.trans' k21 (fun i hi e => by rcases e with e | e; omega; have := ok _ e.symm; omega)
 have lt3 := h21.lt.1
 replace ok := rok ok n21 (fun b hb => by omega)
 refine ⟨_, rfl, ?_⟩
 refine w_nil (then_n (wp_seq (wp_seq (c_reg (s_fa fi53_2 rfl rfl rfl (s_ld1 (v := .slice As x.subs.length cs) on51 rfl rfl rfl (o1.get 3 rfl) (s_lenL Tryz.underlying51 rfl rfl rfl (mvI rfl rfl rfl (w_nil ?_)))))))))
 refine then_n (wp_block ?_)
 refine c_loop (fun m f w => ∃ g k r, m = x.subs.length - k ∧ k ≤ x.subs.length ∧ f = (upd (upd (upd (upd g 3 (.pointer (some ⟨b3, 0, none⟩))) 23 (.slice As x.subs.length cs)) 24 (.int .i64 (x.subs.length : Nat))) 25 (.int .i64 (k : Nat))) ∧ Bld w b3 (hln x ++ (x.subs.take k).flatMap sln) r ∧ (∀ i, r = some i → b3 < i) ∧ New W w) (x.subs.length) ⟨_, 0, r21, by omega, by omega, (upd_keep' (upd_keep' (upd_keep' (upd_keep' rfl rfl) rfl) rfl) rfl), (by simpa [hln, ByteArray.toList_data_append] using h21), ok, K⟩ ?_
 clear K o1 ok h21
 rintro m _ w0 ⟨g, k, r, rfl, hk, rfl, hb, ok, K⟩
 have lt3 := hb.lt.1
 refine wp_seq (c_reg (s_lss rfl rfl rfl rfl rfl rfl (w_nil (then_n (wp_seq ?_)))))
 refine c_if rfl rfl ?_ ?_
 ·intro ht26
  (try simp only [Q1, Q2, Q3, Q4, Q5] at ht26)
  have hkt : k < x.subs.length := by omega
  obtain ⟨q, hqA, _, hq⟩ := hs.2 k _ (List.getElem?_eq_getElem hkt)
  subst hqA
  obtain ⟨sb, hsb⟩ : ∃ sb, sb = x.subs[k] := ⟨_, rfl⟩
  rw [← hsb] at hq
  obtain ⟨vs1, vs2⟩ := hv.2.2.2.2.2 _ (List.getElem_mem hkt)
  rw [← hsb] at vs1 vs2
  have hcd := cd_le vs1
  have hvt := vs2.2.1
  have hlk := fm_bd (L := x.subs.take k) (f := sln) fun y hy => sln_len (hv.2.2.2.2.2 _ (List.mem_of_mem_take hy))
  rw [List.length_take] at hlk
  refine wp_skip (then_n (wp_seq (wp_block (wp_seq (c_reg (s_iaE el51 rfl rfl rfl rfl rfl rfl (by omega) (s_ldA ag50 rfl rfl rfl (hq.kp K (fun e => e)) rfl ?_)))))))
  have hbl := hb.lt
  refine s_alloc z50 rfl rfl ?_
  intro b5 w5 eb5 o5 k5 z5
  have gb5_K : W.heap.size ≤ b5 := by have := K.size; omega
  replace K := K.transN k5
  replace hb := hb.kp k5 (fun e => e) (fun _ _ e => e)
  replace ok : ∀ i, r = some i → b3 < i ∧ i ≠ b5 := fun i hi => ⟨ok i hi, by have := hbl.2 i hi; omega⟩
  refine s_st 0 sz50 (v := .agg _) rfl rfl rfl rfl rfl rfl rfl o5 rfl rfl rfl ?_
  clear o5; intro w6 o5 ksw6 zsw6
  replace K := K.trans' ksw6 (fun i hi (e : i = b5) => by omega)
  replace hb := hb.kp ksw6 (fun e => by omega) (fun i hi (e : i = b5) => by have := ok i hi; omega)
  refine w_nil (then_n (wp_seq (c_reg ?_)))
  refine s_call2 go71 rfl (c71 b3 (hln x ++ (x.subs.take k).flatMap sln) ((⟨#[32, 36]⟩ : ByteArray)) _ hb (by simp only [List.length_append, List.length_cons, List.length_nil, tl_len, ByteArray.size_append]; omega)) rfl rfl rfl rfl ?_
  rintro _ w7 ⟨v29, r29, rfl, h29, k29, n29⟩
  have z29 := k29.size
  clear hb
  replace o5 := o5.kp k29 (fun e => by rcases e with e | e; omega; have := ok _ e.symm; omega)
  replace K := K.trans' k29 (fun i hi e => by rcases e with e | e; omega; have := ok _ e.symm; omega)
  have lt3 := h29.lt.1
  replace ok := rok ok n29 (fun b hb => by omega)
  refine ⟨_, rfl, ?_⟩
  refine w_nil (then_n (wp_seq (c_reg (s_fa fi50_0 rfl rfl rfl (s_ld1 (v := .int .u8 _) on5 rfl rfl rfl (o5.get 0 rfl) ?_)))))
  refine s_call2 go72 rfl (c72 b3 (hln x ++ (x.subs.take k).flatMap sln ++ ((⟨#[32, 36]⟩ : ByteArray)).data.toList) (b8 sb.code) _ h29 (by simp only [List.length_append, List.length_cons, List.length_nil, tl_len, ByteArray.size_append]; omega)) rfl rfl rfl (iv (u8v (by omega)).symm) ?_
  rintro _ w8 ⟨v32, r32, rfl, h32, k32, n32⟩
  have z32 := k32.size
  clear h29
  replace o5 := o5.kp k32 (fun e => by rcases e with e | e; omega; have := ok _ e.symm; omega)
  replace K := K.trans' k32 (fun i hi e => by rcases e with e | e; omega; have := ok _ e.symm; omega)
  have lt3 := h32.lt.1
  replace ok := rok ok n32 (fun b hb => by omega)
  refine ⟨_, rfl, ?_⟩
  refine w_nil (then_n (wp_seq (c_reg ?_)))
  refine s_call2 go72 rfl (c72 b3 (hln x ++ (x.subs.take k).flatMap sln ++ ((⟨#[32, 36]⟩ : ByteArray)).data.toList ++ [b8 sb.code]) (32) _ h32 (by simp only [List.length_append, List.length_cons, List.length_nil, tl_len, ByteArray.size_append]; omega)) rfl rfl rfl rfl ?_
  rintro _ w9 ⟨v33, r33, rfl, h33, k33, n33⟩
  have z33 := k33.size
  clear h32
  replace o5 := o5.kp k33 (fun e => by rcases e with e | e; omega; have := ok _ e.symm; omega)
  replace K := K.trans' k33 (fun i hi e => by rcases e with e | e; omega; have := ok _ e.symm; omega)
  have lt3 := h33.lt.1
  replace ok := rok ok n33 (fun b hb => by omega)
  refine ⟨_, rfl, ?_⟩
  refine w_nil (then_n (wp_seq (c_reg (s_fa fi50_1 rfl rfl rfl (s_ld1 (v := .string _) on9 rfl rfl rfl (o5.get 1 rfl) (s_lenS Tryz.underlying9 rfl rfl rfl (mvI rfl rfl rfl (w_nil (then_n ?_)))))))))
  refine wp_block ?_
  refine c_loop (fun m f w => ∃ g i r1, m = sb.value.size - i ∧ i ≤ sb.value.size ∧ f = (upd (upd (upd (upd (upd (upd (upd g 3 (.pointer (some ⟨b3, 0, none⟩))) 23 (.slice (some q) x.subs.length cs)) 24 (.int .i64 (x.subs.length : Nat))) 25 (.int .i64 (k : Nat))) 5 (.pointer (some ⟨b5, 0, none⟩))) 36 (.int .i64 (sb.value.size : Nat))) 37 (.int .i64 (i : Nat))) ∧ Bld w b3 (hln x ++ (x.subs.take k).flatMap sln ++ [32, 36, b8 sb.code, 32] ++ esc (sb.value.data.toList.take i)) r1 ∧ (∀ i, r1 = some i → b3 < i ∧ i ≠ b5) ∧ Own w b5 50 [.int .u8 sb.code, .string sb.value] ∧ New W w) (sb.value.size) ⟨_, 0, r33, by omega, by omega, (upd_keep' (upd_keep' (upd_keep' (upd_keep' (upd_keep' (upd_keep' (upd_keep' rfl rfl) rfl) rfl) rfl) rfl) rfl) rfl), (by simpa [esc] using h33), ok, o5, K⟩ ?_
  clear K o5 ok h33
  rintro m _ w6 ⟨g, i, r1, rfl, hi, rfl, hb, ok, o5, K⟩
  have lt3 := hb.lt.1
  have lt5 := o5.lt
  refine wp_seq (c_reg (s_lss rfl rfl rfl rfl rfl rfl (w_nil (then_n (wp_seq ?_)))))
  refine c_if rfl rfl ?_ ?_
  ·intro ht38
   (try simp only [Q1, Q2, Q3, Q4, Q5] at ht38)
   have hit : i < sb.value.size := by omega
   obtain ⟨u, hu⟩ : ∃ u, sb.value.data.toList[i]? = some u := ⟨_, List.getElem?_eq_getElem (by rw [tl_len]; omega)⟩
   have hu2 : sb.value[i]? = some u := by rw [get_list]; exact hu
   have hle := esc_len (sb.value.data.toList.take i)
   rw [List.length_take, tl_len] at hle
   refine wp_skip (then_n (wp_seq (wp_block (wp_seq (c_reg (mvI rfl rfl rfl (asI rfl rfl rfl (w_nil (then_n ?_)))))))))
   refine wp_seq (wp_seq (c_reg (s_fa fi50_1 rfl rfl rfl (s_ld1 (v := .string _) on9 rfl rfl rfl (o5.get 1 rfl) (mvI rfl rfl rfl (s_ixS Tryz.underlying9 rfl rfl rfl rfl rfl (by omega) hu2 (s_as (v := .int .u8 _) rfl rfl rfl (w_nil (then_n ?_)))))))))
   refine wp_seq (c_reg (s_mv (v := .int .u8 _) rfl rfl rfl (s_eq rfl rfl rfl rfl rfl rfl (mvB rfl rfl rfl ?_))))
   refine w_split (t := 46) rfl ?_ ?_
   ·intro hs46
    (try simp only [Q1, Q2, Q3, Q4, Q5] at hs46)
    refine st_skip rfl (st_skip rfl (pTB rfl rfl rfl rfl rfl (w_nil (then_n (c_T rfl rfl (c_reg ?_))))))
    refine s_call2 go72 rfl (c72 b3 (hln x ++ (x.subs.take k).flatMap sln ++ [32, 36, b8 sb.code, 32] ++ esc (sb.value.data.toList.take i)) (92) _ hb (by simp only [List.length_append, List.length_cons, List.length_nil, tl_len, ByteArray.size_append]; omega)) rfl rfl rfl rfl ?_
    rintro _ w10 ⟨v50, r50, rfl, h50, k50, n50⟩
    have z50 := k50.size
    clear hb
    replace o5 := o5.kp k50 (fun e => by rcases e with e | e; omega; have := ok _ e.symm; omega)
    replace K := K.trans' k50 (fun i hi e => by rcases e with e | e; omega; have := ok _ e.symm; omega)
    have lt3 := h50.lt.1
    replace ok := rok ok n50 (fun b hb => by omega)
    refine ⟨_, rfl, ?_⟩
    refine w_nil (then_n (c_reg (s_fa fi50_1 rfl rfl rfl (s_ld1 (v := .string _) on9 rfl rfl rfl (o5.get 1 rfl) (mvI rfl rfl rfl (s_ixS Tryz.underlying9 rfl rfl rfl rfl rfl (by omega) hu2 ?_))))))
    refine s_call2 go72 rfl (c72 b3 (hln x ++ (x.subs.take k).flatMap sln ++ [32, 36, b8 sb.code, 32] ++ esc (sb.value.data.toList.take i) ++ [92]) (u) _ h50 (by simp only [List.length_append, List.length_cons, List.length_nil, tl_len, ByteArray.size_append]; omega)) rfl rfl rfl rfl ?_
    rintro _ w11 ⟨v55, r55, rfl, h55, k55, n55⟩
    have z55 := k55.size
    clear h50
    replace o5 := o5.kp k55 (fun e => by rcases e with e | e; omega; have := ok _ e.symm; omega)
    replace K := K.trans' k55 (fun i hi e => by rcases e with e | e; omega; have := ok _ e.symm; omega)
    have lt3 := h55.lt.1
    replace ok := rok ok n55 (fun b hb => by omega)
    refine ⟨_, rfl, ?_⟩
    refine w_nil (inb_n (then_n (c_reg (s_add rfl rfl rfl rfl rfl (w64 (by omega)) (mvI rfl rfl rfl (w_nil (then_n ?_)))))))
    exact ⟨sb.value.size - (i + 1), _, by omega, rfl, _, i + 1, r55, rfl, by omega, (upd_keep' (upd_keep' (upd_keep' (upd_keep' (upd_keep' (upd_keep' (upd_keep' rfl rfl) rfl) rfl) rfl) rfl) rfl) rfl), (by rw [List.take_add_one, hu]; show Bld _ _ (_ ++ esc (_ ++ [u])) _; rw [esc_snoc]; rw [show esc1 u = [92, u] from if_pos (by first | exact .inl ((u8eq (n := 36) (by decide)).1 hs46) | exact .inr ((u8eq (n := 92) (by decide)).1 (by first | exact ht49 | exact hs48 | assumption)))]; simpa using h55), ok, o5, K⟩
   ·intro hs46
    (try simp only [Q1, Q2, Q3, Q4, Q5] at hs46)
    refine s_mv (v := .int .u8 _) rfl rfl rfl (s_eq rfl rfl rfl rfl rfl rfl (pFB rfl rfl rfl rfl rfl (w_nil (then_n ?_))))
    refine c_if rfl rfl ?_ ?_
    ·intro ht49
     (try simp only [Q1, Q2, Q3, Q4, Q5] at ht49)
     refine c_reg ?_
     refine s_call2 go72 rfl (c72 b3 (hln x ++ (x.subs.take k).flatMap sln ++ [32, 36, b8 sb.code, 32] ++ esc (sb.value.data.toList.take i)) (92) _ hb (by simp only [List.length_append, List.length_cons, List.length_nil, tl_len, ByteArray.size_append]; omega)) rfl rfl rfl rfl ?_
     rintro _ w10 ⟨v50, r50, rfl, h50, k50, n50⟩
     have z50 := k50.size
     clear hb
     replace o5 := o5.kp k50 (fun e => by rcases e with e | e; omega; have := ok _ e.symm; omega)
     replace K := K.trans' k50 (fun i hi e => by rcases e with e | e; omega; have := ok _ e.symm; omega)
     have lt3 := h50.lt.1
     replace ok := rok ok n50 (fun b hb => by omega)
     refine ⟨_, rfl, ?_⟩
     refine w_nil (then_n (c_reg (s_fa fi50_1 rfl rfl rfl (s_ld1 (v := .string _) on9 rfl rfl rfl (o5.get 1 rfl) (mvI rfl rfl rfl (s_ixS Tryz.underlying9 rfl rfl rfl rfl rfl (by omega) hu2 ?_))))))
     refine s_call2 go72 rfl (c72 b3 (hln x ++ (x.subs.take k).flatMap sln ++ [32, 36, b8 sb.code, 32] ++ esc (sb.value.data.toList.take i) ++ [92]) (u) _ h50 (by simp only [List.length_append, List.length_cons, List.length_nil, tl_len, ByteArray.size_append]; omega)) rfl rfl rfl rfl ?_
     rintro _ w11 ⟨v55, r55, rfl, h55, k55, n55⟩
     have z55 := k55.size
     clear h50
     replace o5 := o5.kp k55 (fun e => by rcases e with e | e; omega; have := ok _ e.symm; omega)
     replace K := K.trans' k55 (fun i hi e => by rcases e with e | e; omega; have := ok _ e.symm; omega)
     have lt3 := h55.lt.1
     replace ok := rok ok n55 (fun b hb => by omega)
     refine ⟨_, rfl, ?_⟩
     refine w_nil (inb_n (then_n (c_reg (s_add rfl rfl rfl rfl rfl (w64 (by omega)) (mvI rfl rfl rfl (w_nil (then_n ?_)))))))
     exact ⟨sb.value.size - (i + 1), _, by omega, rfl, _, i + 1, r55, rfl, by omega, (upd_keep' (upd_keep' (upd_keep' (upd_keep' (upd_keep' (upd_keep' (upd_keep' rfl rfl) rfl) rfl) rfl) rfl) rfl) rfl), (by rw [List.take_add_one, hu]; show Bld _ _ (_ ++ esc (_ ++ [u])) _; rw [esc_snoc]; rw [show esc1 u = [92, u] from if_pos (by first | exact .inl ((u8eq (n := 36) (by decide)).1 hs46) | exact .inr ((u8eq (n := 92) (by decide)).1 (by first | exact ht49 | exact hs48 | assumption)))]; simpa using h55), ok, o5, K⟩
    ·intro ht49
     (try simp only [Q1, Q2, Q3, Q4, Q5] at ht49)
     refine wp_skip (then_n (c_reg (s_fa fi50_1 rfl rfl rfl (s_ld1 (v := .string _) on9 rfl rfl rfl (o5.get 1 rfl) (mvI rfl rfl rfl (s_ixS Tryz.underlying9 rfl rfl rfl rfl rfl (by omega) hu2 ?_))))))
     refine s_call2 go72 rfl (c72 b3 (hln x ++ (x.subs.take k).flatMap sln ++ [32, 36, b8 sb.code, 32] ++ esc (sb.value.data.toList.take i)) (u) _ hb (by simp only [List.length_append, List.length_cons, List.length_nil, tl_len, ByteArray.size_append]; omega)) rfl rfl rfl rfl ?_
     rintro _ w10 ⟨v55, r55, rfl, h55, k55, n55⟩
     have z55 := k55.size
     clear hb
     replace o5 := o5.kp k55 (fun e => by rcases e with e | e; omega; have := ok _ e.symm; omega)
     replace K := K.trans' k55 (fun i hi e => by rcases e with e | e; omega; have := ok _ e.symm; omega)
     have lt3 := h55.lt.1
     replace ok := rok ok n55 (fun b hb => by omega)
     refine ⟨_, rfl, ?_⟩
     refine w_nil (inb_n (then_n (c_reg (s_add rfl rfl rfl rfl rfl (w64 (by omega)) (mvI rfl rfl rfl (w_nil (then_n ?_)))))))
     exact ⟨sb.value.size - (i + 1), _, by omega, rfl, _, i + 1, r55, rfl, by omega, (upd_keep' (upd_keep' (upd_keep' (upd_keep' (upd_keep' (upd_keep' (upd_keep' rfl rfl) rfl) rfl) rfl) rfl) rfl) rfl), (by rw [List.take_add_one, hu]; show Bld _ _ (_ ++ esc (_ ++ [u])) _; rw [esc_snoc]; rw [show esc1 u = [u] from if_neg (by rintro (rfl | rfl); exact absurd rfl hs46; exact absurd rfl ht49)]; simpa using h55), ok, o5, K⟩
  ·intro ht38
   (try simp only [Q1, Q2, Q3, Q4, Q5] at ht38)
   refine wp_exit (then_x (then_x (inb_x (inb_n (then_n (c_reg (s_add rfl rfl rfl rfl rfl (w64 (by omega)) (mvI rfl rfl rfl (w_nil ?_)))))))))
   refine then_n ?_
   obtain rfl : i = sb.value.size := by omega
   rw [List.take_of_length_le (l := sb.value.data.toList) (by rw [tl_len]; omega)] at hb
   exact ⟨x.subs.length - (k + 1), _, by omega, rfl, _, k + 1, r1, rfl, by omega, (upd_keep' (upd_keep' (upd_keep' (upd_keep' rfl rfl) rfl) rfl) rfl), (by rw [fm_succ _ _ hkt, ← hsb]; simpa [sln] using hb), (fun i hi => (ok i hi).1), K⟩
 ·intro ht26
  (try simp only [Q1, Q2, Q3, Q4, Q5] at ht26)
  refine wp_exit (then_x (then_x (inb_x (then_n (wp_seq (c_reg ?_))))))
  obtain rfl : k = x.subs.length := by omega
  rw [List.take_length] at hb
  refine s_call1 go74 rfl (Tryz.Builder_String_any W.heap.size b3 (ln x) _ (hb.lib (by omega) (fun i hi => by have := ok i hi; omega)) (by omega)) rfl rfl ?_
  rintro _ w5 ⟨rfl, kb⟩
  replace K := K.trans' (Kp.of_below kb) (fun i hi (e : W.heap.size ≤ i) => by omega)
  refine ⟨_, rfl, ?_⟩
  refine s_as (v := .string _) rfl rfl rfl (w_nil (then_n (wp_ret ?_)))
  exact ret1 (t := 2) (v := .string ⟨(ln x).toArray⟩) rfl rfl rfl ⟨rfl, K⟩
end
section
theorem kp_drewN (w : World) (k : Nat) : New w (w.drewN k) := ⟨rfl, rfl, rfl, Nat.le_refl _, fun _ _ _ => rfl⟩
theorem kp_grow (w : World) (os : Array Obj) : New w («Sort».grow w os) := by
  refine ⟨rfl, rfl, rfl, ?_, fun i hi _ => ?_⟩
  · show w.heap.size ≤ (w.heap ++ os).size
    rw [Array.size_append]; omega
  · show (w.heap ++ os)[i]? = w.heap[i]?
    rw [Array.getElem?_append_left hi]
theorem decD_all (u : Nat) : ∀ c ∈ Lib.decDigits u, 48 ≤ c.toNat ∧ c.toNat ≤ 57 := by
  induction u using Nat.strongRecOn with
  | _ u ih =>
    intro c hc
    by_cases h : u < 10
    · rw [Lib.decDigits_one h] at hc
      simp only [List.mem_singleton] at hc; subst hc; simp; omega
    · rw [Lib.decDigits, dif_neg h] at hc
      rcases List.mem_append.1 hc with hc | hc
      · exact ih (u / 10) (by omega) c hc
      · simp only [List.mem_singleton] at hc; subst hc; simp; omega
theorem decFrom_app (l r : List UInt8) (a : Nat) : Lib.decFrom a (l ++ r) = (Lib.decFrom a l).bind fun b => Lib.decFrom b r := by
  induction l generalizing a with
  | nil => rfl
  | cons c l ih =>
    simp only [List.cons_append, Lib.decFrom]
    cases Lib.digitVal c with
    | none => rfl
    | some d => exact ih _
theorem decFrom_dec (u : Nat) : Lib.decFrom 0 (Lib.decDigits u) = some u := by
  induction u using Nat.strongRecOn with
  | _ u ih =>
    by_cases h : u < 10
    · rw [Lib.decDigits_one h]
      simp only [Lib.decFrom, Lib.digitVal]
      rw [show (UInt8.ofNat (48 + u)).toNat = 48 + u by simp; omega, if_pos (by omega)]
      simp
    · rw [Lib.decDigits, dif_neg h, decFrom_app, ih (u / 10) (by omega)]
      simp only [Option.bind_some, Lib.decFrom, Lib.digitVal]
      rw [show (UInt8.ofNat (48 + u % 10)).toNat = 48 + u % 10 by simp; omega, if_pos (by omega)]
      simp; omega
theorem itoa_nat (n : Nat) : Lib.itoa (n : Int) = Lib.decDigits n := Lib.itoa_nonneg n
theorem dec_pos (n : Nat) : 1 ≤ (Lib.decDigits n).length := by rw [Lib.decDigits_length]; exact Lib.nDigits_pos n
theorem dec_le {n : Nat} (h : n ≤ 1000000000) : (Lib.decDigits n).length ≤ 10 := by
  rw [Lib.decDigits_length]
  have key : ∀ (k u : Nat), u < 10 ^ (k + 1) → Lib.nDigits u ≤ k + 1 := by
    intro k
    induction k with
    | zero => intro u hu; rw [Lib.nDigits_small (by simpa using hu)]; omega
    | succ k ih =>
      intro u hu
      by_cases h : u < 10
      · rw [Lib.nDigits_small h]; omega
      · rw [Lib.nDigits_big h]
        have := ih (u / 10) (by rw [Nat.pow_succ] at hu; omega)
        omega
  exact key 9 n (by omega)
theorem atoi_dec (n : Nat) : Lib.atoi (Lib.decDigits n) = some (n : Int) := by
  have h1 := dec_pos n
  have h2 := decD_all n
  have h3 := decFrom_dec n
  cases hd : Lib.decDigits n with
  | nil => rw [hd] at h1; simp at h1
  | cons c r =>
    rw [hd] at h2 h3
    have hc := h2 c (by simp)
    have e45 : (c == 45) = false := by
      rw [beq_eq_false_iff_ne]; rintro rfl; simp at hc
    have e43 : (c == 43) = false := by
      rw [beq_eq_false_iff_ne]; rintro rfl; simp at hc
    simp only [Lib.atoi, e45, e43, Lib.decNat, List.isEmpty_cons, h3]
    simp
theorem ba_app (x y : List UInt8) : (⟨x.toArray⟩ : ByteArray) ++ ⟨y.toArray⟩ = ⟨(x ++ y).toArray⟩ := by
  apply ByteArray.ext
  rw [ByteArray.data_append]
  simp
theorem ba_size (x : List UInt8) : (⟨x.toArray⟩ : ByteArray).size = x.length := by
  show x.toArray.size = x.length
  simp
theorem nil_eq (w : World) : (binOp .eql 118 .nilIface .nilIface).run Tryz.prog w = .ok (.bool true) w := by kernel_rfl
def hRec : List UInt8 := [114, 101, 99, 111, 114, 100, 32]
def prt (id : Nat) (l : List Fld) : List UInt8 := hRec ++ Lib.decDigits id ++ [10] ++ l.flatMap fun f => ln f ++ [10]
theorem prt_len {id : Nat} {l : List Fld} (h1 : id ≤ 1000000000) (hl : l.length ≤ 60) (h : ∀ f ∈ l, VFld VText f) : (prt id l).length ≤ 970000 := by
  have h2 := fm_bd (L := l) (f := fun f => ln f ++ [10]) (c := 16087) fun f hf => by have := ln_len (h f hf); simp only [List.length_append, List.length_singleton]; omega
  have h3 := dec_le h1
  have : 16087 * l.length ≤ 16087 * 60 := Nat.mul_le_mul_left _ hl
  simp only [prt, List.length_append, List.length_singleton, show hRec.length = 7 from rfl]; omega
section steps
variable {md : Md} {P : Program} {ops : Array Oper} {Q : Exit → Act → World → Prop} {n : Nat} {ds : List Deferred} {f : Nat → Value} {w w' : World} {rest : List Oper}
  {d : Nat} {ty : TypeId} {pos : String} {af : Array Edge} {g : Option (Nat × Bool)} {v : Value} {x y z : Operand} {tx ty' : TypeId}
theorem s_inil {c : Value} (hT : ∀ w, (binOp .eql tx .nilIface .nilIface).run P w = .ok (.bool true) w) (hg : Gd n ops f g = some true) (hb : inb n x = true) (hx : ev f x = .nilIface) (hc : c = .nilIface)
    (k : WL md P ops Q rest n ds (upd f d (.bool true)) w) : WL md P ops Q (⟨some d, .binOp .eql tx x (.const c) ty', ty, pos, af, g⟩ :: rest) n ds f w := by
  subst hc
  refine st_run hg ?_ k
  simp only [execOp, Fr_eval hb, hx, show (Fr n ds f).eval (.const .nilIface) = .nilIface from rfl, eqGuard_nil_constR]
  exact run_val (hT w)
end steps
theorem c35 (n : Nat) (w : World) (hT : Tb w) (h : n ≤ 1000000000) : Calls Tryz.prog 35 #[.int .i64 (n : Nat)] w fun e w' => e = .returned (.string ⟨(Lib.decDigits n).toArray⟩) ∧ New w w' :=
  (Tryz.strconv_Itoa n (by omega) (by omega) w hT.p10).mono (by rintro e w' ⟨rfl, k, os, rfl⟩; exact ⟨by rw [itoa_nat], (kp_drewN w k).trans (kp_grow _ os)⟩)
theorem c77 (n : Nat) (w : World) (h : n ≤ 1000000000) : Calls Tryz.prog 77 #[.string ⟨(Lib.decDigits n).toArray⟩] w fun e w' => e = .returned (.tuple #[.int .i64 (n : Nat), .nilIface]) ∧ New w w' :=
  (Tryz.strconv_Atoi _ n (by rw [ba_size]; have := dec_le h; omega) (by simpa using atoi_dec n) w).mono (by rintro e w' ⟨rfl, t, rfl⟩; exact ⟨rfl, kp_bytes _ w 5 t⟩)
end
section
theorem c39 (n : Nat) (w : World) (hT : Tb w) (h1 : 1 ≤ n) (h : n ≤ 1000000000) : Calls Tryz.prog 39 #[.string ⟨(Lib.decDigits n).toArray⟩] w fun e w' => e = .returned (.tuple #[.int .i64 (n : Nat), .bool true]) ∧ New w w' := by
 obtain ⟨W, hW⟩ : ∃ W, W = w := ⟨_, rfl⟩
 subst hW
 have K : New W W := Kp.refl _ _
 refine enter (n := 28) Tryz.func39 rfl rfl (by simp) ?_
 refine wp_seq (c_reg (asI rfl rfl rfl (asB rfl rfl rfl (w_nil (then_n (wp_seq (c_reg (s_mv (v := .string _) rfl rfl rfl (s_call1 go77 rfl (c77 n _ h) rfl rfl ?_)))))))))
 rintro _ w1 ⟨rfl, k8⟩
 replace K := K.transN k8
 refine ⟨_, rfl, ?_⟩
 refine s_mv (v := .tuple _) rfl rfl rfl (s_ext (v := .int .i64 _) rfl rfl rfl rfl (s_ext (v := _) rfl rfl rfl rfl (asI rfl rfl rfl (s_as (v := _) rfl rfl rfl (w_nil (then_n (wp_seq (c_reg (mvI rfl rfl rfl ?_)))))))))
 refine s_mv (v := _) rfl rfl rfl (s_inil nil_eq rfl rfl rfl rfl (mvB rfl rfl rfl (mvI rfl rfl rfl (s_geq rfl rfl rfl rfl rfl (decide_eq_true (by omega)) (pTB rfl rfl rfl rfl rfl (mvB rfl rfl rfl (mvI rfl rfl rfl (s_leq rfl rfl rfl rfl rfl (decide_eq_true (by omega)) (pTB rfl rfl rfl rfl rfl ?_)))))))))
 refine mvB rfl rfl rfl (mvI rfl rfl rfl (s_call1 go35 rfl (c35 n _ (hT.kp K (fun _ _ _ e => e)) h) rfl rfl ?_))
 rintro _ w2 ⟨rfl, k24⟩
 replace K := K.transN k24
 refine ⟨_, rfl, ?_⟩
 refine s_mv (v := .string _) rfl rfl rfl (s_seq rfl rfl rfl rfl rfl (decide_eq_true rfl) (pTB rfl rfl rfl rfl rfl (asI rfl rfl rfl (asB rfl rfl rfl (w_nil (then_n (wp_ret ?_)))))))
 exact ret2 (t := 2) (u := 3) (v := .int .i64 (n : Nat)) (v' := .bool true) rfl rfl rfl rfl rfl ⟨rfl, K⟩
theorem c14 {G : Nat → Prop} (id : Nat) (l : List Fld) (A : Option Addr) (cap : Nat) (w : World) (hT : Tb w) (hA : FldsAt G w A l) (hv : VRec VText id l) : Calls Tryz.prog 14 #[.agg #[.int .i64 (id : Nat), .slice A l.length cap]] w fun e w' => e = .returned (.tuple #[.string ⟨(prt id l).toArray⟩, .int .i64 0]) ∧ New w w' := by
 obtain ⟨W, hW⟩ : ∃ W, W = w := ⟨_, rfl⟩
 subst hW
 have K : New W W := Kp.refl _ _
 have hid := hv.2.1
 have hl60 := hv.2.2.2.1
 have hd10 := dec_le (n := id) (by omega)
 have h7 : (⟨#[114, 101, 99, 111, 114, 100, 32]⟩ : ByteArray).size = 7 := rfl
 have h1z : (⟨#[10]⟩ : ByteArray).size = 1 := rfl
 have h10z : hRec.length = 7 := rfl
 refine enter (n := 29) Tryz.func14 rfl rfl (by simp) ?_
 refine wp_seq (c_reg (s_box (cs := [.int .i64 (id : Nat), .slice A l.length cap]) rfl rfl rfl rfl ?_))
 intro b1 w1 eb1 o1 kb1 zb1
 have gb1 : W.heap.size ≤ b1 := by omega
 replace K := K.transN kb1
 refine s_as (v := .string _) rfl rfl rfl (asI rfl rfl rfl (w_nil (then_n (wp_seq (wp_seq (c_reg (s_ldA ag24 rfl rfl rfl o1.cells rfl (s_call1 go20 rfl (c20 VText c63c G (id : Nat) A cap l _ (hT.kp K (fun _ _ _ e => e)) (hA.kp K (fun _ _ _ e => e)) hv) rfl rfl ?_))))))))
 rintro _ w2 ⟨rfl, k8⟩
 replace o1 := o1.kp k8 (fun e => e)
 replace K := K.transN k8
 refine ⟨_, rfl, ?_⟩
 refine s_not rfl rfl rfl (w_nil (then_n (c_F rfl rfl (wp_skip (then_n (wp_seq (c_reg (s_fa fi24_0 rfl rfl rfl (s_ld1 (v := .int .i64 _) on3 rfl rfl rfl (o1.get 0 rfl) ?_)))))))))
 refine s_call1 go35 rfl (c35 id _ (hT.kp K (fun _ _ _ e => e)) (by omega)) rfl rfl ?_
 rintro _ w3 ⟨rfl, k12⟩
 replace o1 := o1.kp k12 (fun e => e)
 replace K := K.transN k12
 refine ⟨_, rfl, ?_⟩
 refine s_sadd rfl rfl rfl rfl rfl (by simp only [ByteArray.size_append, ba_size, List.length_append, List.length_singleton, h7, h1z, h10z]; omega) ?_
 refine s_sadd rfl rfl rfl rfl rfl (by simp only [ByteArray.size_append, ba_size, List.length_append, List.length_singleton, h7, h1z, h10z]; omega) ?_
 refine s_as (v := .string _) rfl rfl rfl (w_nil (then_n (wp_seq (wp_seq (c_reg (s_fa fi24_1 rfl rfl rfl (s_ld1 (v := .slice A l.length cap) on22 rfl rfl rfl (o1.get 1 rfl) (s_lenL Tryz.underlying22 rfl rfl rfl (mvI rfl rfl rfl ?_)))))))))
 refine w_nil (then_n (wp_block ?_))
 refine c_loop (fun m f w => ∃ g k, m = l.length - k ∧ k ≤ l.length ∧ f = (upd (upd (upd (upd g 4 (.string ⟨(hRec ++ Lib.decDigits id ++ [10] ++ (l.take k).flatMap (fun f => ln f ++ [10])).toArray⟩)) 16 (.slice A l.length cap)) 17 (.int .i64 (l.length : Nat))) 18 (.int .i64 (k : Nat))) ∧ New W w) (l.length) ⟨_, 0, by omega, by omega, (upd_keep' (upd_keep' (upd_keep' (upd_keep' rfl (by show Value.string _ = Value.string _; congr 1; rw [show (⟨#[114, 101, 99, 111, 114, 100, 32]⟩ : ByteArray) = ⟨hRec.toArray⟩ from rfl, show (⟨#[10]⟩ : ByteArray) = ⟨[(10 : UInt8)].toArray⟩ from rfl, ba_app, ba_app]; simp)) rfl) rfl) rfl), K⟩ ?_
 clear K o1
 rintro m _ w0 ⟨g, k, rfl, hk, rfl, K⟩
 refine wp_seq (c_reg (s_lss rfl rfl rfl rfl rfl rfl (w_nil (then_n (wp_seq ?_)))))
 refine c_if rfl rfl ?_ ?_
 ·intro ht19
  (try simp only [Q1, Q2, Q3, Q4, Q5] at ht19)
  have hlt : k < l.length := by omega
  obtain ⟨p, vs, hpA, _, hp, hs0⟩ := hA.2 k _ (List.getElem?_eq_getElem hlt)
  subst hpA
  obtain ⟨fd, hfd⟩ : ∃ fd, fd = l[k] := ⟨_, rfl⟩
  have hvk := hv.2.2.2.2 _ (List.getElem_mem hlt)
  rw [← hfd] at hp hs0 hvk
  have hs9 := hs0
  obtain ⟨As, cs, rfl, hs⟩ := hs0
  have hlk := fm_bd (L := l.take k) (f := (fun f => ln f ++ [10])) (c := 16087) fun f hf => by have := ln_len (hv.2.2.2.2 f (List.mem_of_mem_take hf)); simp only [List.length_append, List.length_singleton]; omega
  rw [List.length_take] at hlk
  have hln := ln_len hvk
  refine wp_skip (then_n (wp_seq (wp_block (wp_seq (c_reg (s_iaE el22 rfl rfl rfl rfl rfl rfl (by omega) (s_ldA ag53 rfl rfl rfl (hp.kp K (fun e => e)) rfl (s_alloc z53 rfl rfl ?_))))))))
  intro b6 w4 eb6 o6 kb6 zb6
  have gb6_K : W.heap.size ≤ b6 := by have := K.size; omega
  replace K := K.transN kb6
  refine s_st 0 sz53 (v := .agg _) rfl rfl rfl rfl rfl rfl rfl o6 rfl rfl rfl ?_
  clear o6; intro w5 o6 ksw5 zsw5
  replace K := K.trans' ksw5 (fun i hi (e : i = b6) => by omega)
  refine w_nil (then_n (c_reg (s_mv (v := .string _) rfl rfl rfl (s_ldA ag53 rfl rfl rfl o6.cells rfl (s_call1 go36 rfl (c36 (G := G) fd (.slice As fd.subs.length cs) _ (hs9.kp K (fun _ _ _ e => e)) hvk) rfl rfl ?_)))))
  rintro _ w6 ⟨rfl, k24⟩
  replace o6 := o6.kp k24 (fun e => e)
  replace K := K.transN k24
  refine ⟨_, rfl, ?_⟩
  refine s_sadd rfl rfl rfl rfl rfl (by simp only [ByteArray.size_append, ba_size, List.length_append, List.length_singleton, h7, h1z, h10z]; omega) ?_
  refine s_sadd rfl rfl rfl rfl rfl (by simp only [ByteArray.size_append, ba_size, List.length_append, List.length_singleton, h7, h1z, h10z]; omega) ?_
  refine s_as (v := .string _) rfl rfl rfl (w_nil (inb_n (then_n (c_reg (s_add rfl rfl rfl rfl rfl (w64 (by omega)) (mvI rfl rfl rfl (w_nil (then_n ?_))))))))
  exact ⟨l.length - (k + 1), _, by omega, rfl, _, k + 1, rfl, by omega, (upd_keep' (upd_keep' (upd_keep' (upd_keep' rfl (by show Value.string _ = Value.string _; congr 1; rw [fm_succ _ _ hlt, ← hfd, show (⟨#[10]⟩ : ByteArray) = ⟨[(10 : UInt8)].toArray⟩ from rfl, ba_app, ba_app]; simp)) rfl) rfl) rfl), K⟩
 ·intro ht19
  (try simp only [Q1, Q2, Q3, Q4, Q5] at ht19)
  refine wp_exit (then_x (then_x (inb_x (then_n (wp_seq (c_reg (s_mv (v := .string _) rfl rfl rfl (s_as (v := .string _) rfl rfl rfl (asI rfl rfl rfl ?_)))))))))
  refine w_nil (then_n (wp_ret ?_))
  obtain rfl : k = l.length := by omega
  rw [List.take_length]
  exact ret2 (t := 2) (u := 3) (v := .string ⟨(prt id l).toArray⟩) (v' := .int .i64 0) rfl rfl rfl rfl rfl ⟨rfl, K⟩
end
section
section steps
variable {md : Md} {P : Program} {ops : Array Oper} {Q : Exit → Act → World → Prop} {n : Nat} {ds : List Deferred} {f : Nat → Value} {w w' : World} {rest : List Oper}
  {d : Nat} {ty : TypeId} {pos : String} {af : Array Edge} {g : Option (Nat × Bool)} {v : Value} {x y z : Operand} {T U tx ty' : TypeId} {a b c : Int}
theorem s_max2 {at' : Array TypeId} (hg : Gd n ops f g = some true) (hb : inb n x = true) (hb' : inb n y = true) (hx : ev f x = .int .i64 a) (hy : ev f y = .int .i64 b) (hc : (if b > a then b else a) = c)
    (k : WL md P ops Q rest n ds (upd f d (.int .i64 c)) w) : WL md P ops Q (⟨some d, .call ⟨.builtin .max, #[x, y], at'⟩, ty, pos, af, g⟩ :: rest) n ds f w :=
  st_run hg (by subst hc; simp only [execOp, resolve, List.map_toArray, List.map_cons, List.map_nil, Fr_eval hb, Fr_eval hb', hx, hy]; simp [go_sem]; split <;> omega) k
theorem s_callP {F : FuncId} {v1 : Value} {at' : Array TypeId} (hF : isGo P F) (hg : Gd n ops f g = some true) (hc : Calls P F #[v1] w fun e w' => e = .returned v ∧ w' = w) (hb : inb n x = true) (h1 : ev f x = v1)
    (k : WL md P ops Q rest n ds (upd f d v) w) : WL md P ops Q (⟨some d, .call ⟨.value (.func F), #[x], at'⟩, ty, pos, af, g⟩ :: rest) n ds f w :=
  s_call1 hF hg hc hb h1 (by rintro _ _ ⟨rfl, rfl⟩; exact ⟨_, rfl, k⟩)
theorem s_slSH {s : ByteArray} {i : Int} {hi : Nat} (hT : P.underlying T = some .string) (hg : Gd n ops f g = some true) (hb : inb n x = true) (hb1 : inb n y = true) (hx : ev f x = .string s) (hy : ev f y = .int .i64 i) (hi' : i = (hi : Int)) (h1 : hi ≤ s.size)
    (k : WL md P ops Q rest n ds (upd f d (.string (s.extract 0 hi))) w) : WL md P ops Q (⟨some d, .slice T x none (some y) none, ty, pos, af, g⟩ :: rest) n ds f w := by
  subst hi'
  refine st_run hg (v := .string (s.extract 0 hi)) (w' := w) ?_ k
  simp only [execOp, Fr_eval hb, Option.map_some, Option.map_none, Fr_eval hb1, hx, hy]
  refine run_val ?_
  rw [run_sliceAt_string w T _ _ _ _ hT]
  simp [Instr.slice, run_underlying hT, Instr.sliceBounds, run_sliceBound, h1, go_sem]
end steps
theorem ba_get (l : List UInt8) (i : Nat) : (⟨l.toArray⟩ : ByteArray)[i]? = l[i]? := by rw [get_list]
theorem ba_ext (l : List UInt8) (a b : Nat) : (⟨l.toArray⟩ : ByteArray).extract a b = ⟨((l.drop a).take (b - a)).toArray⟩ := by
  apply ByteArray.ext
  rw [ByteArray.data_extract]
  simp
theorem ba_nil (l : List UInt8) : ((⟨l.toArray⟩ : ByteArray) = ⟨#[]⟩) ↔ l = [] := by
  constructor
  · intro h
    have := congrArg (fun b : ByteArray => b.data.toList) h
    simpa using this
  · rintro rfl; rfl
theorem ba_inj (l m : List UInt8) : ((⟨l.toArray⟩ : ByteArray) = ⟨m.toArray⟩) ↔ l = m := by
  constructor
  · intro h
    have := congrArg (fun b : ByteArray => b.data.toList) h
    simpa using this
  · rintro rfl; rfl
theorem trim_sp (v : List UInt8) : Lib.trimSuffix (v ++ [32]) [32] = v := by
  unfold Lib.trimSuffix Lib.hasSuffix
  rw [if_pos (by rw [List.isSuffixOf_iff_suffix]; exact List.suffix_append _ _)]
  simp
theorem idx_ge (l : List UInt8) (c : UInt8) (m : List UInt8) (h : c ∉ l) : Lib.index (l ++ c :: m) [c] = l.length := by
  induction l with
  | nil => simp [Lib.index]
  | cons b l ih =>
    simp only [List.mem_cons, not_or] at h
    have h2 := ih h.2
    simp only [List.cons_append, Lib.index, h2]
    rw [if_neg (by simp [List.isPrefixOf]; exact h.1)]
    rw [if_neg (by first | (simp; done) | (simp; omega))]
    simp
theorem cut_at (l : List UInt8) (c : UInt8) (m : List UInt8) (h : c ∉ l) : Lib.cut (l ++ c :: m) [c] = (l, m, true) := by
  unfold Lib.cut
  rw [idx_ge l c m h, if_pos (by omega)]
  simp
theorem esc_at {V tl : List UInt8} {j : Nat} (h : j < V.length) : esc V ++ tl = esc (V.take j) ++ (esc1 V[j] ++ (esc (V.drop (j + 1)) ++ tl)) := by
  have e := congrArg esc (split_at' h)
  rw [e]; simp only [esc, List.flatMap_append, List.flatMap_cons, List.append_assoc]
theorem esc_full {V : List UInt8} : esc V = esc (V.take V.length) := by rw [List.take_length]
theorem esc_get {V tl : List UInt8} {j k : Nat} {c : UInt8} (h : j < V.length) (hc : (esc1 V[j])[k]? = some c) : (esc V ++ tl)[(esc (V.take j)).length + k]? = some c := by
  rw [esc_at h, List.getElem?_append_right (by omega), Nat.add_sub_cancel_left, List.getElem?_append_left (List.getElem?_eq_some_iff.1 hc).1]; exact hc
end
section
theorem c79 (V tl : List UInt8) (w : World) (ht : tl = [] ∨ (∃ r, tl = 36 :: r) ∧ V ≠ []) (hl : (esc V).length + tl.length ≤ 100000) (hV9 : V.length ≤ 100000) : Calls Tryz.prog 79 #[.string ⟨(esc V ++ tl).toArray⟩] w fun e w' => e = .returned (.tuple #[.string ⟨(if tl = [] then V else Lib.trimSuffix V [32]).toArray⟩, .int .i64 ((if tl = [] then (esc V).length else (esc V).length - 1 : Nat) : Int)]) ∧ New w w' := by
 obtain ⟨W, hW⟩ : ∃ W, W = w := ⟨_, rfl⟩
 subst hW
 have K : New W W := Kp.refl _ _
 refine enter (n := 47) Tryz.func79 rfl rfl (by simp) ?_
 refine wp_seq (c_reg (s_as (v := .string _) rfl rfl rfl (asI rfl rfl rfl (w_nil (then_n (wp_seq (c_reg (s_as (v := .slice _ _ _) rfl rfl rfl (w_nil ?_)))))))))
 refine then_n (wp_seq (wp_seq (c_reg (asI rfl rfl rfl (w_nil (then_n (wp_block ?_)))))))
 refine c_loop (fun m f w => ∃ g j vx r, m = V.length - j ∧ j ≤ V.length ∧ f = (upd (upd (upd g 0 (.string ⟨(esc V ++ tl).toArray⟩)) 4 (vx)) 5 (.int .i64 (((esc (V.take j)).length : Nat) : Int))) ∧ BRow w vx (V.take j) r ∧ (∀ b, r = some b → W.heap.size ≤ b) ∧ New W w) (V.length) ⟨_, 0, _, none, by omega, by omega, (upd_keep' (upd_keep' (upd_keep' rfl rfl) rfl) rfl), BRow.nil _, (fun b h => by cases h), K⟩ ?_
 clear K
 rintro m _ w0 ⟨g, j, vx, r, rfl, hj, rfl, hx, hg, K⟩
 have hle : (esc (V.take j)).length ≤ (esc V).length := fm_le V esc1 j
 refine wp_seq (wp_seq (c_reg (mvI rfl rfl rfl (s_mv (v := .string _) rfl rfl rfl (s_lenS Tryz.underlying9 rfl rfl rfl (s_lss rfl rfl rfl rfl rfl rfl (w_nil (then_n ?_))))))))
 refine c_if rfl rfl ?_ ?_
 ·intro ht9
  (try simp only [Q1, Q2, Q3, Q4, Q5] at ht9)
  have hsz : (⟨(esc V ++ tl).toArray⟩ : ByteArray).size = (esc V).length + tl.length := by rw [ba_size, List.length_append]
  have hit : (esc (V.take j)).length < (esc V ++ tl).length := by rw [List.length_append]; omega
  obtain ⟨c, hc⟩ : ∃ c, (esc V ++ tl)[(esc (V.take j)).length]? = some c := ⟨_, List.getElem?_eq_getElem hit⟩
  have hc2 : (⟨(esc V ++ tl).toArray⟩ : ByteArray)[(esc (V.take j)).length]? = some c := (ba_get _ _).trans hc
  have hcJ : j < V.length → ∃ u, V[j]? = some u ∧ (esc1 u)[0]? = some c := fun h => ⟨V[j], List.getElem?_eq_getElem h, by
   have h0 : 0 < (esc1 V[j]).length := by unfold esc1; split <;> simp
   have h9 := esc_get (tl := tl) h (List.getElem?_eq_getElem h0)
   rw [Nat.add_zero, hc] at h9
   rw [List.getElem?_eq_getElem h0]; exact h9.symm⟩
  have hcE : ¬ j < V.length → tl[0]? = some c := fun h => by
   rw [List.take_of_length_le (by omega), List.getElem?_append_right (Nat.le_refl _), Nat.sub_self] at hc; exact hc
  refine wp_skip (then_n (wp_seq (wp_block (wp_seq (wp_block (wp_seq (c_reg (s_mv (v := .string _) rfl rfl rfl (mvI rfl rfl rfl ?_)))))))))
  refine s_ixS Tryz.underlying9 rfl rfl rfl rfl rfl (by omega) hc2 (s_eq rfl rfl rfl rfl rfl rfl (asB rfl rfl rfl (w_nil (then_n ?_))))
  refine c_if rfl rfl ?_ ?_
  ·intro ht12
   (try simp only [Q1, Q2, Q3, Q4, Q5] at ht12)
   have hJ : ¬ j < V.length := fun h => by
    obtain ⟨u, _, h2⟩ := hcJ h
    have hc36 : c = 36 := (u8eq (n := 36) (by decide)).1 (by assumption)
    subst hc36; unfold esc1 at h2
    split at h2
    ·simp at h2
    ·rename_i h3; simp at h2; exact h3 (.inl h2)
   obtain rfl : j = V.length := by omega
   rw [List.take_length] at hx hle hit hc hc2 ⊢
   have htl : tl ≠ [] := fun e => by have := hcE (by omega); rw [e] at this; simp at this
   have hV : 0 < (esc V).length := by rcases ht with h | ⟨_, h⟩; exact absurd h htl; (cases V with | nil => exact absurd rfl h | cons a b => simp only [esc, List.flatMap_cons, List.length_append, esc1]; split <;> simp <;> omega)
   refine wp_seq (c_reg (s_mv (v := vx) rfl rfl rfl (s_cvBS (s := V) Tryz.underlying38 Tryz.underlying5 Tryz.underlying9 rfl rfl rfl (hx.rbytes (by omega)) ?_)))
   refine s_call2 go100 rfl (Tryz.strings_TrimSuffix ⟨V.toArray⟩ ⟨#[32]⟩ _ (by rw [ba_size]; omega)) rfl rfl rfl rfl ?_
   rintro _ wq ⟨rfl, hwq⟩
   rw [hwq]; clear hwq wq
   refine ⟨_, rfl, ?_⟩
   refine mvI rfl rfl rfl (s_sub rfl rfl rfl rfl rfl (w64 (by omega)) (s_max2 (c := (((esc V).length - 1 : Nat) : Int)) rfl rfl rfl rfl rfl (by split <;> omega) (s_as (v := .string _) rfl rfl rfl (asI rfl rfl rfl (w_nil (then_n (wp_ret (inb_r (then_r ?_)))))))))
   refine inb_r (then_r (then_r (inb_r (then_r ?_))))
   exact ret2 (t := 2) (u := 3) (v := .string ⟨(Lib.trimSuffix V [32]).toArray⟩) (v' := .int .i64 (((esc V).length - 1 : Nat) : Int)) rfl rfl rfl rfl rfl ⟨by rw [if_neg htl, if_neg htl], K⟩
  ·intro ht12
   (try simp only [Q1, Q2, Q3, Q4, Q5] at ht12)
   have hJ : j < V.length := Nat.lt_of_not_le fun h => by
    have h2 := hcE (by omega)
    rcases ht with e | ⟨⟨r2, e⟩, _⟩
    ·rw [e] at h2; simp at h2
    ·rw [e] at h2; simp at h2; subst h2; exact absurd rfl (by assumption)
   obtain ⟨u, hu, hcu⟩ := hcJ hJ
   have hV1 : esc V ++ tl = esc (V.take j) ++ (esc1 u ++ (esc (V.drop (j + 1)) ++ tl)) := by rw [esc_at hJ, (List.getElem?_eq_some_iff.1 hu).2]
   have hnx0 : (esc (V.take (j + 1))).length = (esc (V.take j)).length + (esc1 u).length := by rw [List.take_add_one, hu]; show (esc (_ ++ [u])).length = _; rw [esc_snoc, List.length_append]
   refine wp_seq (c_reg (s_mv (v := .string _) rfl rfl rfl (mvI rfl rfl rfl (s_ixS Tryz.underlying9 rfl rfl rfl rfl rfl (by omega) hc2 (s_eq rfl rfl rfl rfl rfl rfl (mvB rfl rfl rfl ?_))))))
   refine w_split (t := 28) rfl ?_ ?_
   ·intro hs28
    (try simp only [Q1, Q2, Q3, Q4, Q5] at hs28)
    obtain rfl : c = 92 := (u8eq (n := 92) (by decide)).1 (by assumption)
    have he : esc1 u = [92, u] := by
     unfold esc1 at hcu ⊢
     split
     ·rfl
     ·rename_i h3; rw [if_neg h3] at hcu; simp at hcu; exact absurd (.inr hcu) h3
    have hnx : (esc (V.take (j + 1))).length = (esc (V.take j)).length + 1 + 1 := by rw [hnx0, he]; rfl
    have hln : (esc (V.take j)).length + 1 < (esc V ++ tl).length := by rw [hV1, he]; simp
    have hu9 : (⟨(esc V ++ tl).toArray⟩ : ByteArray)[(esc (V.take j)).length + 1]? = some u := by rw [ba_get, hV1, List.getElem?_append_right (by omega), Nat.add_sub_cancel_left, he]; rfl
    rw [List.length_append] at hln
    refine mvI rfl rfl rfl (s_add rfl rfl rfl rfl rfl (w64 (by omega)) (s_mv (v := .string _) rfl rfl rfl (s_lenS Tryz.underlying9 rfl rfl rfl (s_lss rfl rfl rfl rfl rfl (decide_eq_true (by omega)) (pTB rfl rfl rfl rfl rfl (asB rfl rfl rfl (w_nil (then_n (c_T rfl rfl ?_)))))))))
    refine c_reg (mvI rfl rfl rfl (s_add (c := (((esc (V.take j)).length + 1 : Nat) : Int)) rfl rfl rfl rfl rfl (w64c (by omega)) (asI rfl rfl rfl (w_nil (inb_n (then_n (c_reg (s_mv (v := vx) rfl rfl rfl (s_mv (v := .string _) rfl rfl rfl ?_)))))))))
    refine mvI rfl rfl rfl (s_ixS Tryz.underlying9 rfl rfl rfl rfl rfl (by omega) hu9 (s_bs1E (cs := [.int .u8 u.toNat]) el38 rfl (by decide) rfl rfl rfl rfl ?_))
    intro b41 w1 eb41 o41 k41 z41
    replace K := K.transN k41
    replace hx := hx.kp k41 (fun _ _ e => e)
    refine s_appB (s := V.take j) (t := [u]) el38 rfl rfl rfl rfl rfl hx (rb_own (s := [u]) o41 (by simp)) (by rw [List.length_take, List.length_singleton]; omega) ?_
    intro v42 w9 r42 h42 k42 n42
    have g42 := row_fresh hg (show W.heap.size ≤ _ from K.size) n42
    replace K := New.row K hg k42
    rw [show V.take j ++ [u] = V.take (j + 1) by rw [List.take_add_one, hu]; rfl] at h42
    refine s_as (v := v42) rfl rfl rfl (w_nil (inb_n (then_n (c_reg (mvI rfl rfl rfl (s_add rfl rfl rfl rfl rfl (w64 (by omega)) (asI rfl rfl rfl (w_nil (then_n ?_)))))))))
    exact ⟨V.length - (j + 1), _, by omega, rfl, _, j + 1, v42, r42, rfl, by omega, (upd_keep' (upd_keep' (upd_keep' rfl rfl) rfl) (iv (by rw [hnx]; omega))), h42, g42, K⟩
   ·intro hs28
    (try simp only [Q1, Q2, Q3, Q4, Q5] at hs28)
    have he : esc1 u = [c] ∧ c = u := by
     unfold esc1 at hcu ⊢
     split
     ·rename_i h3; rw [if_pos h3] at hcu; simp at hcu; subst hcu; exact absurd rfl (by assumption)
     ·rename_i h3; rw [if_neg h3] at hcu; simp at hcu; subst hcu; exact ⟨rfl, rfl⟩
    obtain ⟨he, rfl⟩ := he
    have hnx : (esc (V.take (j + 1))).length = (esc (V.take j)).length + 1 := by rw [hnx0, he]; rfl
    have hu9 := hc2
    refine st_skip rfl (st_skip rfl (st_skip rfl (st_skip rfl (st_skip rfl (pFB rfl rfl rfl rfl rfl (asB rfl rfl rfl (w_nil (then_n (c_F rfl rfl ?_)))))))))
    refine wp_skip (inb_n (then_n (c_reg (s_mv (v := vx) rfl rfl rfl (s_mv (v := .string _) rfl rfl rfl (mvI rfl rfl rfl (s_ixS Tryz.underlying9 rfl rfl rfl rfl rfl (by omega) hu9 (s_bs1E (cs := [.int .u8 c.toNat]) el38 rfl (by decide) rfl rfl rfl rfl ?_))))))))
    intro b41 w1 eb41 o41 k41 z41
    replace K := K.transN k41
    replace hx := hx.kp k41 (fun _ _ e => e)
    refine s_appB (s := V.take j) (t := [c]) el38 rfl rfl rfl rfl rfl hx (rb_own (s := [c]) o41 (by simp)) (by rw [List.length_take, List.length_singleton]; omega) ?_
    intro v42 w9 r42 h42 k42 n42
    have g42 := row_fresh hg (show W.heap.size ≤ _ from K.size) n42
    replace K := New.row K hg k42
    rw [show V.take j ++ [c] = V.take (j + 1) by rw [List.take_add_one, hu]; rfl] at h42
    refine s_as (v := v42) rfl rfl rfl (w_nil (inb_n (then_n (c_reg (mvI rfl rfl rfl (s_add rfl rfl rfl rfl rfl (w64 (by omega)) (asI rfl rfl rfl (w_nil (then_n ?_)))))))))
    exact ⟨V.length - (j + 1), _, by omega, rfl, _, j + 1, v42, r42, rfl, by omega, (upd_keep' (upd_keep' (upd_keep' rfl rfl) rfl) (iv (by rw [hnx]; omega))), h42, g42, K⟩
 ·intro ht9
  (try simp only [Q1, Q2, Q3, Q4, Q5] at ht9)
  refine wp_exit (then_x (then_x (inb_x (then_n (wp_seq (c_reg (s_mv (v := vx) rfl rfl rfl ?_)))))))
  have hjn : j = V.length := by
   rcases Nat.lt_or_ge j V.length with h | h
   ·have h9 := congrArg List.length (esc_at (tl := tl) h)
    have h0 : 0 < (esc1 V[j]).length := by unfold esc1; split <;> simp
    have hsz : (⟨(esc V ++ tl).toArray⟩ : ByteArray).size = (esc V).length + tl.length := by rw [ba_size, List.length_append]
    simp only [List.length_append] at h9; omega
   ·omega
  rw [List.take_of_length_le (by omega)] at hx
  refine s_cvBS (s := V) Tryz.underlying38 Tryz.underlying5 Tryz.underlying9 rfl rfl rfl (hx.rbytes (by omega)) (s_mv (v := .string _) rfl rfl rfl (s_lenS Tryz.underlying9 rfl rfl rfl (s_as (v := .string _) rfl rfl rfl (asI rfl rfl rfl (w_nil (then_n (wp_ret ?_)))))))
  have hsz : (⟨(esc V ++ tl).toArray⟩ : ByteArray).size = (esc V).length + tl.length := by rw [ba_size, List.length_append]
  subst hjn
  rw [List.take_length] at hle ht9
  have htl : tl = [] := List.length_eq_zero_iff.1 (by omega)
  subst htl
  refine ret2 (t := 2) (u := 3) (v := .string ⟨V.toArray⟩) (v' := .int .i64 (((esc V).length : Nat) : Int)) rfl rfl rfl rfl (iv (by rw [hsz]; simp)) ⟨by simp, K⟩
end
section
theorem c79b (v R : List UInt8) (w : World) (hR : R = [] ∨ ∃ r, R = 32 :: 36 :: r) (hl : (esc v).length + R.length ≤ 90000) (hv : v.length ≤ 90000) : Calls Tryz.prog 79 #[.string ⟨(esc v ++ R).toArray⟩] w fun e w' => e = .returned (.tuple #[.string ⟨v.toArray⟩, .int .i64 (((esc v).length : Nat) : Int)]) ∧ New w w' := by
 rcases hR with rfl | ⟨r, rfl⟩
 ·have h := c79 v [] w (.inl rfl) (by omega) (by omega)
  simpa using h
 ·have e : esc (v ++ [32]) = esc v ++ [32] := by rw [esc_snoc]; rfl
  have h := c79 (v ++ [32]) (36 :: r) w (.inr ⟨⟨r, rfl⟩, by simp⟩) (by rw [e]; simp at hl ⊢; omega) (by simp; omega)
  rw [e, if_neg (by simp), if_neg (by simp), trim_sp, List.length_append, List.length_singleton, Nat.add_sub_cancel, List.append_assoc] at h
  exact h
theorem sub_tl (l : List Sub) : l.flatMap sln = [] ∨ ∃ r, l.flatMap sln = 32 :: 36 :: r := by
 cases l with
 | nil => exact .inl rfl
 | cons s l => exact .inr ⟨_, rfl⟩
theorem sub_nil (l : List Sub) : l.flatMap sln = [] ↔ l = [] := by
 cases l with
 | nil => simp
 | cons s l => simp [sln]
theorem rdsh {x : Int} (h : ind x = true) : (((rdb (shb (b8 x))).toNat : Nat) : Int) = x := by
 have h1 := ind_le h
 have h2 : ∀ k : Fin 123, ind (k.val : Int) = true → (rdb (shb (UInt8.ofNat k.val))).toNat = k.val := by decide
 have h3 := h2 ⟨x.toNat, by omega⟩ (by rw [show ((x.toNat : Nat) : Int) = x by omega]; exact h)
 unfold b8
 simp only at h3
 rw [h3]; omega
theorem sv {s t : ByteArray} (h : s = t) : Value.string s = Value.string t := by rw [h]
theorem len_esc (l : List UInt8) : l.length ≤ (esc l).length := by
 induction l with
 | nil => simp
 | cons a l ih =>
  have : 1 ≤ (esc1 a).length := by unfold esc1; split <;> simp
  simp only [esc, List.flatMap_cons, List.length_append, List.length_cons] at ih ⊢; omega
theorem c40 (x : Fld) (w : World) (hT : Tb w) (hv : VFld VText x) : Calls Tryz.prog 40 #[.string ⟨(ln x).toArray⟩] w fun e w' => ∃ vs, e = .returned (.tuple #[.agg (x.cells vs).toArray, .bool true]) ∧ RSubs (fun i => w.heap.size ≤ i) w' vs x.subs ∧ New w w' := by
 obtain ⟨W, hW⟩ : ∃ W, W = w := ⟨_, rfl⟩
 subst hW
 have K : New W W := Kp.refl _ _
 have hh6 := hln_len hv
 have hll := ln_len hv
 have hs20 := hv.2.2.2.2.1
 have hl6 : 6 ≤ (ln x).length := by simp only [ln, List.length_append]; omega
 have hsz : (⟨(ln x).toArray⟩ : ByteArray).size = (ln x).length := ba_size _
 have htl := tag_len hv.1
 have h6d : (ln x).drop 6 = x.subs.flatMap sln := by unfold ln; rw [← hh6, List.drop_left]
 have hl7 := congrArg List.length h6d
 rw [List.length_drop] at hl7
 have hx3 : (⟨(ln x).toArray⟩ : ByteArray).extract 0 3 = x.tag := by rw [ba_ext]; show (⟨((ln x).take 3).toArray⟩ : ByteArray) = _; rw [show (ln x).take 3 = x.tag.data.toList by unfold ln hln; rw [List.append_assoc, List.take_append_of_le_length (by rw [htl.1]; omega), List.take_of_length_le (by rw [htl.1]; omega)]]
 have h16 := rdsh hv.2.1
 have h19 := rdsh hv.2.2.1
 have hu4 : (⟨(ln x).toArray⟩ : ByteArray)[(4 : Int).toNat]? = some (shb (b8 x.i0)) := by rw [ba_get]; show (ln x)[4]? = _; unfold ln hln; rw [List.append_assoc, List.getElem?_append_right (by rw [htl.1]; omega), htl.1]; rfl
 have hu5 : (⟨(ln x).toArray⟩ : ByteArray)[(5 : Int).toNat]? = some (shb (b8 x.i1)) := by rw [ba_get]; show (ln x)[5]? = _; unfold ln hln; rw [List.append_assoc, List.getElem?_append_right (by rw [htl.1]; omega), htl.1]; rfl
 refine enter (n := 64) Tryz.func40 rfl rfl (by simp) ?_
 refine wp_seq (c_reg (s_alloc z53 rfl rfl ?_))
 intro b2 w1 eb2 o2 kb2 zb2
 have gb2_K : W.heap.size ≤ b2 := by have := K.size; omega
 replace K := K.transN kb2
 refine asB rfl rfl rfl (w_nil (then_n (wp_seq (wp_seq (c_reg (s_mv (v := .string _) rfl rfl rfl (s_lenS Tryz.underlying9 rfl rfl rfl (s_lss rfl rfl rfl rfl rfl (decide_eq_false (by omega)) (w_nil ?_)))))))))
 refine then_n (c_F rfl rfl (wp_skip (then_n (wp_seq ?_))))
 have hb2w := o2.lt
 have kd : New w1 w1.drew := (Kp.refl _ _).drew
 have hdw : w1.drew.heap.size = w1.heap.size := rfl
 replace o2 := o2.kp kd (fun e => e)
 replace K := K.transN kd
 refine c_drawH (fun f => f 0 = .string ⟨(ln x).toArray⟩ ∧ f 2 = .pointer (some ⟨b2, 0, none⟩) ∧ True) (fun i v u => match i with | 0 => v = .string ⟨(ln x).toArray⟩ | 1 => v = .string x.tag | 2 => v = .string ⟨(ln x).toArray⟩ | 3 => v = .int .u8 (shb (b8 x.i0)).toNat | 4 => v = .int .u8 x.i0 | 5 => v = .string ⟨(ln x).toArray⟩ | 6 => v = .int .u8 (shb (b8 x.i1)).toNat | 7 => v = .int .u8 x.i1 | 8 => v = .agg #[.int .u8 x.i0, .int .u8 x.i1] | 9 => v = .agg #[.string x.tag, .int .u8 x.i0, .int .u8 x.i1, .slice none 0 0] | 10 => ∃ b, v = .pointer (some ⟨b, 0, none⟩) ∧ w1.drew.heap.size ≤ b ∧ Own u b 53 [.string ⟨#[]⟩, .int .u8 0, .int .u8 0, .slice none 0 0] | _ => True) [[], [0], [], [2], [3], [], [5], [6], [4, 7], [1, 8], [], [0, 1, 2, 3, 4, 5, 6, 7, 8, 9, 10]] (fun i => i) (rank_back (by kernel_rfl)) (by kernel_rfl) (by kernel_rfl) ⟨rfl, rfl, trivial⟩ ?_ ?_ ?_ ?_
 ·intro i o v f ho hi hL
  obtain ⟨h0, h2, -⟩ := hL
  match i, ho with
  | 0, ho => cases ho; exact ⟨(upd_ne _ _ (by decide)).trans h0, (upd_ne _ _ (by decide)).trans h2, trivial⟩
  | 1, ho => cases ho; exact ⟨(upd_ne _ _ (by decide)).trans h0, (upd_ne _ _ (by decide)).trans h2, trivial⟩
  | 2, ho => cases ho; exact ⟨(upd_ne _ _ (by decide)).trans h0, (upd_ne _ _ (by decide)).trans h2, trivial⟩
  | 3, ho => cases ho; exact ⟨(upd_ne _ _ (by decide)).trans h0, (upd_ne _ _ (by decide)).trans h2, trivial⟩
  | 4, ho => cases ho; exact ⟨(upd_ne _ _ (by decide)).trans h0, (upd_ne _ _ (by decide)).trans h2, trivial⟩
  | 5, ho => cases ho; exact ⟨(upd_ne _ _ (by decide)).trans h0, (upd_ne _ _ (by decide)).trans h2, trivial⟩
  | 6, ho => cases ho; exact ⟨(upd_ne _ _ (by decide)).trans h0, (upd_ne _ _ (by decide)).trans h2, trivial⟩
  | 7, ho => cases ho; exact ⟨(upd_ne _ _ (by decide)).trans h0, (upd_ne _ _ (by decide)).trans h2, trivial⟩
  | 8, ho => cases ho; exact ⟨(upd_ne _ _ (by decide)).trans h0, (upd_ne _ _ (by decide)).trans h2, trivial⟩
  | 9, ho => cases ho; exact ⟨(upd_ne _ _ (by decide)).trans h0, (upd_ne _ _ (by decide)).trans h2, trivial⟩
  | 10, ho => cases ho; exact ⟨(upd_ne _ _ (by decide)).trans h0, (upd_ne _ _ (by decide)).trans h2, trivial⟩
  | 11, ho => exact absurd hi (by decide)
  | k + 12, ho => exact absurd ho (by simp)
 ·intro i v u u' h k
  match i, h with
  | 0, h => exact h
  | 1, h => exact h
  | 2, h => exact h
  | 3, h => exact h
  | 4, h => exact h
  | 5, h => exact h
  | 6, h => exact h
  | 7, h => exact h
  | 8, h => exact h
  | 9, h => exact h
  | 10, h => exact (by obtain ⟨b, h0, h1, h2⟩ := h; exact ⟨b, h0, h1, h2.kp k (fun e => e)⟩)
  | k + 11, h => trivial
 ·intro i o ho hi f u hN hL hA
  obtain ⟨h0, h2, -⟩ := hL
  match i, ho with
  | 0, ho =>
   cases ho
   obtain ⟨g, rfl⟩ : ∃ g, f = upd (g) 0 (.string ⟨(ln x).toArray⟩) := ⟨f, upd_keep' (rfl) h0⟩
   clear hA
   refine s_mv (v := .string _) rfl rfl rfl ?_
   exact w_nil ⟨rfl, _, rfl, Kp.refl _ _, rfl⟩
  | 1, ho =>
   cases ho
   have p0 := hA 0 (by decide) _ _ rfl rfl
   obtain ⟨g, rfl⟩ : ∃ g, f = upd (g) 12 (.string ⟨(ln x).toArray⟩) := ⟨f, upd_keep' (rfl) p0⟩
   clear hA
   refine s_slSH (hi := 3) Tryz.underlying9 rfl rfl rfl rfl rfl rfl (by omega) ?_
   exact w_nil ⟨rfl, _, rfl, Kp.refl _ _, sv hx3⟩
  | 2, ho =>
   cases ho
   obtain ⟨g, rfl⟩ : ∃ g, f = upd (g) 0 (.string ⟨(ln x).toArray⟩) := ⟨f, upd_keep' (rfl) h0⟩
   clear hA
   refine s_mv (v := .string _) rfl rfl rfl ?_
   exact w_nil ⟨rfl, _, rfl, Kp.refl _ _, rfl⟩
  | 3, ho =>
   cases ho
   have p2 := hA 2 (by decide) _ _ rfl rfl
   obtain ⟨g, rfl⟩ : ∃ g, f = upd (g) 14 (.string ⟨(ln x).toArray⟩) := ⟨f, upd_keep' (rfl) p2⟩
   clear hA
   refine s_ixS Tryz.underlying9 rfl rfl rfl rfl rfl (by decide) hu4 ?_
   exact w_nil ⟨rfl, _, rfl, Kp.refl _ _, rfl⟩
  | 4, ho =>
   cases ho
   have p3 := hA 3 (by decide) _ _ rfl rfl
   obtain ⟨g, rfl⟩ : ∃ g, f = upd (g) 15 (.int .u8 (shb (b8 x.i0)).toNat) := ⟨f, upd_keep' (rfl) p3⟩
   clear hA
   refine s_callP go78 rfl (c78 (shb (b8 x.i0)) _) rfl rfl ?_
   exact w_nil ⟨rfl, _, rfl, Kp.refl _ _, iv h16⟩
  | 5, ho =>
   cases ho
   obtain ⟨g, rfl⟩ : ∃ g, f = upd (g) 0 (.string ⟨(ln x).toArray⟩) := ⟨f, upd_keep' (rfl) h0⟩
   clear hA
   refine s_mv (v := .string _) rfl rfl rfl ?_
   exact w_nil ⟨rfl, _, rfl, Kp.refl _ _, rfl⟩
  | 6, ho =>
   cases ho
   have p5 := hA 5 (by decide) _ _ rfl rfl
   obtain ⟨g, rfl⟩ : ∃ g, f = upd (g) 17 (.string ⟨(ln x).toArray⟩) := ⟨f, upd_keep' (rfl) p5⟩
   clear hA
   refine s_ixS Tryz.underlying9 rfl rfl rfl rfl rfl (by decide) hu5 ?_
   exact w_nil ⟨rfl, _, rfl, Kp.refl _ _, rfl⟩
  | 7, ho =>
   cases ho
   have p6 := hA 6 (by decide) _ _ rfl rfl
   obtain ⟨g, rfl⟩ : ∃ g, f = upd (g) 18 (.int .u8 (shb (b8 x.i1)).toNat) := ⟨f, upd_keep' (rfl) p6⟩
   clear hA
   refine s_callP go78 rfl (c78 (shb (b8 x.i1)) _) rfl rfl ?_
   exact w_nil ⟨rfl, _, rfl, Kp.refl _ _, iv h19⟩
  | 8, ho =>
   cases ho
   have p4 := hA 4 (by decide) _ _ rfl rfl
   have p7 := hA 7 (by decide) _ _ rfl rfl
   obtain ⟨g, rfl⟩ : ∃ g, f = upd (upd (g) 16 (.int .u8 x.i0)) 19 (.int .u8 x.i1) := ⟨f, upd_keep' (upd_keep' (rfl) p4) p7⟩
   clear hA
   refine s_bd2 (cells := #[.int .u8 x.i0, .int .u8 x.i1]) bd48 rfl rfl rfl rfl rfl rfl ?_
   exact w_nil ⟨rfl, _, rfl, Kp.refl _ _, rfl⟩
  | 9, ho =>
   cases ho
   have p1 := hA 1 (by decide) _ _ rfl rfl
   have p8 := hA 8 (by decide) _ _ rfl rfl
   obtain ⟨g, rfl⟩ : ∃ g, f = upd (upd (g) 13 (.string x.tag)) 20 (.agg #[.int .u8 x.i0, .int .u8 x.i1]) := ⟨f, upd_keep' (upd_keep' (rfl) p1) p8⟩
   clear hA
   refine s_bd2 (cells := #[.string x.tag, .int .u8 x.i0, .int .u8 x.i1, .slice none 0 0]) bd53 rfl rfl rfl rfl rfl rfl ?_
   exact w_nil ⟨rfl, _, rfl, Kp.refl _ _, rfl⟩
  | 10, ho =>
   cases ho
   obtain ⟨g, rfl⟩ : ∃ g, f = g := ⟨f, rfl⟩
   clear hA
   refine s_alloc z53 rfl rfl ?_
   intro bq uq ebq oq kq zq
   exact w_nil ⟨rfl, _, rfl, kq, ⟨bq, rfl, (by have := hN.size; omega), oq⟩⟩
  | 11, ho => exact absurd hi (by decide)
  | k + 12, ho => exact absurd ho (by simp)
 ·intro i o ho hi f u hN hL hA
  obtain ⟨h0, h2, -⟩ := hL
  obtain rfl : i = 11 := by simpa using hi
  cases ho
  have p9 := hA 9 _ _ (by decide) rfl rfl
  have p10 := hA 10 _ _ (by decide) rfl rfl
  obtain ⟨v4, e4⟩ : ∃ v, f 4 = v := ⟨_, rfl⟩
  rw [e4] at p10
  obtain ⟨b4, rfl, gb4, o4⟩ := p10
  obtain ⟨g, rfl⟩ : ∃ g, f = upd (upd (upd (upd (g) 4 (.pointer (some ⟨b4, 0, none⟩))) 21 (.agg #[.string x.tag, .int .u8 x.i0, .int .u8 x.i1, .slice none 0 0])) 0 (.string ⟨(ln x).toArray⟩)) 2 (.pointer (some ⟨b2, 0, none⟩)) := ⟨f, upd_keep' (upd_keep' (upd_keep' (upd_keep' (rfl) e4) p9) h0) h2⟩
  clear hA
  replace o2 := o2.kp hN (fun e => e)
  replace K := K.transN hN
  refine s_st (b := b4) 0 sz53 (v := .agg #[.string x.tag, .int .u8 x.i0, .int .u8 x.i1, .slice none 0 0]) (new := [.string x.tag, .int .u8 x.i0, .int .u8 x.i1, .slice none 0 0]) (cs' := [.string x.tag, .int .u8 x.i0, .int .u8 x.i1, .slice none 0 0]) rfl rfl rfl rfl rfl rfl rfl o4 rfl rfl rfl ?_
  have hb2u := o2.lt
  clear o4; intro w2 o4 ks zs
  replace o2 := o2.kp ks (show ¬ (_ = _) by omega)
  replace K := K.trans' ks (fun i hi (e : i = b4) => by omega)
  refine w_nil ⟨rfl, _, rfl, ?_⟩
  have hb2l := o2.lt
  have hb4l := o4.lt
  refine then_n (wp_seq (wp_seq (c_reg (s_mv (v := .string _) rfl rfl rfl (s_slS (lo := 6) Tryz.underlying9 rfl rfl rfl rfl rfl rfl (by omega) (s_as (v := .string _) rfl rfl rfl (w_nil (then_n (wp_block ?_)))))))))
  refine c_loop (fun m f w => ∃ g j vs rs, m = x.subs.length - j ∧ j ≤ x.subs.length ∧ f = (upd (upd (upd (upd g 0 (.string ⟨(ln x).toArray⟩)) 2 (.pointer (some ⟨b2, 0, none⟩))) 4 (.pointer (some ⟨b4, 0, none⟩))) 5 (.string ⟨((x.subs.drop j).flatMap sln).toArray⟩)) ∧ Own w b2 53 [.string ⟨#[]⟩, .int .u8 0, .int .u8 0, .slice none 0 0] ∧ Own w b4 53 [.string x.tag, .int .u8 x.i0, .int .u8 x.i1, vs] ∧ Row w vs 50 2 j ((x.subs.take j).flatMap Sub.cells) rs ∧ (∀ b, rs = some b → b4 < b) ∧ New W w) (x.subs.length) ⟨_, 0, _, none, by omega, by omega, (upd_keep' (upd_keep' (upd_keep' (upd_keep' rfl rfl) rfl) rfl) (sv (by rw [ba_ext, hsz, h6d, List.take_of_length_le (by omega), List.drop_zero]))), o2, o4, Row.nil _ 50 2, (fun b h => by cases h), K⟩ ?_
  clear K o2 o4
  rintro m _ w0 ⟨g, j, vs, rs, rfl, hj, rfl, o2, o4, hrow, hgs, K⟩
  obtain ⟨Av, cv, rfl, _⟩ := Row.shape hrow
  have hb4l := o4.lt
  refine wp_seq (wp_seq (c_reg (s_mv (v := .string _) rfl rfl rfl (s_sne rfl rfl rfl rfl rfl rfl (w_nil (then_n ?_))))))
  refine c_if rfl rfl ?_ ?_
  ·intro ht25
   (try simp only [Q1, Q2, Q3, Q4, Q5] at ht25)
   have hne : (x.subs.drop j).flatMap sln ≠ [] := fun e => ht25 ((ba_nil _).2 e)
   have hjt : j < x.subs.length := Nat.lt_of_not_le fun h => hne (by rw [List.drop_eq_nil_of_le h]; rfl)
   obtain ⟨sb, hsb⟩ : ∃ sb, sb = x.subs[j] := ⟨_, rfl⟩
   obtain ⟨vs1, vs2⟩ := hv.2.2.2.2.2 _ (List.getElem_mem hjt)
   rw [← hsb] at vs1 vs2
   have hcd := cd_le vs1
   have hvt := vs2.2.1
   have hvt1 := vs2.1
   obtain ⟨R, hR⟩ : ∃ R, R = (x.subs.drop (j + 1)).flatMap sln := ⟨_, rfl⟩
   have hRs : R = [] ∨ ∃ r, R = 32 :: 36 :: r := hR ▸ sub_tl _
   have hdj : (x.subs.drop j).flatMap sln = [32, 36, b8 sb.code, 32] ++ (esc sb.value.data.toList ++ R) := by rw [List.drop_eq_getElem_cons hjt, List.flatMap_cons, ← hsb, ← hR]; simp [sln]
   have hRl := fm_bd (L := x.subs.drop (j + 1)) (f := sln) fun y hy => sln_len (hv.2.2.2.2.2 _ (List.mem_of_mem_drop hy))
   rw [← hR, List.length_drop] at hRl
   have hel := esc_len sb.value.data.toList
   rw [tl_len] at hel
   have hel1 : sb.value.size ≤ (esc sb.value.data.toList).length := by rw [← tl_len]; exact len_esc _
   rw [hdj]
   have hsj : (⟨([32, 36, b8 sb.code, 32] ++ (esc sb.value.data.toList ++ R)).toArray⟩ : ByteArray).size = 4 + ((esc sb.value.data.toList).length + R.length) := by rw [ba_size]; simp <;> omega
   have hs4 : (⟨([32, 36, b8 sb.code, 32] ++ (esc sb.value.data.toList ++ R)).toArray⟩ : ByteArray).extract 4 (⟨([32, 36, b8 sb.code, 32] ++ (esc sb.value.data.toList ++ R)).toArray⟩ : ByteArray).size = ⟨(esc sb.value.data.toList ++ R).toArray⟩ := by rw [ba_ext, hsj]; congr 2; exact List.take_of_length_le (by simp <;> omega)
   have hs5 : (⟨([32, 36, b8 sb.code, 32] ++ (esc sb.value.data.toList ++ R)).toArray⟩ : ByteArray).extract (4 + (esc sb.value.data.toList).length) (⟨([32, 36, b8 sb.code, 32] ++ (esc sb.value.data.toList ++ R)).toArray⟩ : ByteArray).size = ⟨R.toArray⟩ := by rw [ba_ext, hsj, ← List.drop_drop]; congr 2; rw [show ([32, 36, b8 sb.code, 32] ++ (esc sb.value.data.toList ++ R)).drop 4 = esc sb.value.data.toList ++ R from rfl, List.drop_left]; exact List.take_of_length_le (by omega)
   have hu2 : (⟨([32, 36, b8 sb.code, 32] ++ (esc sb.value.data.toList ++ R)).toArray⟩ : ByteArray)[2]? = some (b8 sb.code) := by rw [ba_get]; rfl
   have hcu : (((b8 sb.code).toNat : Nat) : Int) = sb.code := u8v (by omega)
   refine wp_skip (then_n (wp_block (wp_seq (wp_seq (c_reg (s_mv (v := .string _) rfl rfl rfl (s_lenS Tryz.underlying9 rfl rfl rfl (s_lss rfl rfl rfl rfl rfl (decide_eq_false (by omega)) (mvB rfl rfl rfl ?_)))))))))
   refine s_fa fi53_2 rfl rfl rfl (s_ld1 (v := .slice Av j cv) on51 rfl rfl rfl (o4.get 3 rfl) (s_lenL Tryz.underlying51 rfl rfl rfl (s_gtr rfl rfl rfl rfl rfl (decide_eq_false (by omega)) (pFB rfl rfl rfl rfl rfl (w_nil (then_n (c_F rfl rfl (wp_skip (then_n ?_)))))))))
   refine wp_seq (c_reg (s_mv (v := .string _) rfl rfl rfl (s_slS (lo := 4) Tryz.underlying9 rfl rfl rfl rfl rfl rfl (by omega) ?_)))
   rw [hs4]
   refine s_call1 go79 rfl (c79b sb.value.data.toList R _ hRs (by omega) (by rw [tl_len]; omega)) rfl rfl ?_
   rintro _ w3 ⟨rfl, k39⟩
   replace o2 := o2.kp k39 (fun e => e)
   replace o4 := o4.kp k39 (fun e => e)
   replace K := K.transN k39
   replace hrow := hrow.kp k39 (fun _ _ e => e)
   refine ⟨_, rfl, ?_⟩
   refine s_mv (v := .tuple _) rfl rfl rfl (s_ext (v := .string _) rfl rfl rfl rfl (s_ext (v := .int .i64 _) rfl rfl rfl rfl (s_as (v := .string _) rfl rfl rfl (asI rfl rfl rfl (w_nil (then_n (wp_seq ?_)))))))
   have kd : New w3 w3.drew := (Kp.refl _ _).drew
   have hdw : w3.drew.heap.size = w3.heap.size := rfl
   replace o2 := o2.kp kd (fun e => e)
   replace o4 := o4.kp kd (fun e => e)
   replace K := K.transN kd
   replace hrow := hrow.kp kd (fun _ _ e => e)
   have q_o4 := o4
   refine c_drawL (fun u => Kp (fun k => some k = rs) (w3.drew) u) [false, false, false, false, false, false, true, true, false] [[], [0], [], [2], [], [3, 4], [5], [1, 6], [], [0, 1, 2, 3, 4, 5, 6, 7, 8]] (fun i => i) (rank_back (by kernel_rfl)) (lo := [_, _, _, _, _, _, _, _, _]) rfl rfl (by kernel_rfl) (by kernel_rfl) (Kp.refl _ _) ?_
   have kR : Kp (fun k => some k = rs) (w3.drew) (w3.drew) := Kp.refl _ _
   refine t_q rfl rfl rfl (fun u hF => s_fa fi53_2 rfl rfl rfl (w_nil ⟨rfl, rfl, rfl⟩)) ?_
   refine t_q rfl rfl rfl (fun u hF => s_ld1 (v := .slice Av j cv) on51 rfl rfl rfl ((q_o4.kp hF (fun e => by have := hgs b4 e.symm; omega)).get 3 rfl) (w_nil ⟨rfl, rfl, rfl⟩)) ?_
   refine t_q rfl rfl rfl (fun u hF => s_mv (v := .string _) rfl rfl rfl (w_nil ⟨rfl, rfl, rfl⟩)) ?_
   refine t_q rfl rfl rfl (fun u hF => s_ixS Tryz.underlying9 rfl rfl rfl rfl rfl (by decide) hu2 (w_nil ⟨rfl, rfl, rfl⟩)) ?_
   refine t_q rfl rfl rfl (fun u hF => s_mv (v := .string _) rfl rfl rfl (w_nil ⟨rfl, rfl, rfl⟩)) ?_
   refine t_q rfl rfl rfl (fun u hF => s_bd2 (cells := #[.int .u8 (b8 sb.code).toNat, .string ⟨sb.value.data.toList.toArray⟩]) bd50 rfl rfl rfl rfl rfl rfl (w_nil ⟨rfl, rfl, rfl⟩)) ?_
   refine t_l2 rfl ?_
   refine s_bs1E (cs := [.int .u8 (b8 sb.code).toNat, .string ⟨sb.value.data.toList.toArray⟩]) el51 rfl (by decide) rfl rfl rfl rfl ?_
   intro b48 w4 eb48 o48 k48 z48
   replace o48 : Own w4 b48 50 sb.cells := by have h := o48; rw [hcu] at h; exact h
   replace o2 := o2.kp k48 (fun e => e)
   replace o4 := o4.kp k48 (fun e => e)
   replace K := K.transN k48
   replace kR := kR.transN k48
   replace hrow := hrow.kp k48 (fun _ _ e => e)
   have hk48 := k48.size
   refine w_nil ⟨rfl, _, rfl, kR, ?_⟩
   refine t_l2 rfl ?_
   have hb48 := o48.lt
   have hb4n := o4.lt
   refine s_appR (news := sb.cells) el51 rfl rfl rfl rfl rfl rfl hrow o48.cells rfl rfl (by omega) ?_
   intro v49 wA r49 rowz kA hrz
   have hgz : ∀ b, r49 = some b → b4 < b := by intro b hb; rcases hrz with h | h; (exact hgs b (h ▸ hb)); (rw [h] at hb; cases hb; omega)
   have e9 : (x.subs.take j).flatMap Sub.cells ++ sb.cells = (x.subs.take (j + 1)).flatMap Sub.cells := by rw [hsb]; exact (fm_succ _ _ hjt).symm
   rw [e9] at rowz
   replace o4 := o4.kp kA (fun e => by have := hgs b4 e.symm; omega)
   replace o2 := o2.kp kA (fun e => by have := hgs b2 e.symm; omega)
   replace K := K.trans' kA (fun i hi e => by have := hgs i e.symm; omega)
   replace kR := kR.trans' kA (fun i hi e => e)
   refine w_nil ⟨rfl, _, rfl, kR, ?_⟩
   refine t_q rfl rfl rfl (fun u hF => s_fa fi53_2 rfl rfl rfl (w_nil ⟨rfl, rfl, rfl⟩)) ?_
   refine t_e ?_
   have h1z : v49.cells = #[v49] ∧ v49.oneCell' = true := by obtain ⟨_, _, e, _⟩ := Row.shape rowz; rw [e]; exact ⟨rfl, rfl⟩
   refine s_st (b := b4) 3 sz51 (v := v49) (new := [v49]) (cs' := [.string x.tag, .int .u8 x.i0, .int .u8 x.i1, v49]) rfl rfl rfl rfl rfl h1z.1 (by simp [h1z.2]) o4 rfl rfl rfl ?_
   clear o4; intro w5 o4 kz zz
   replace o2 := o2.kp kz (show ¬ (_ = _) by omega)
   replace K := K.trans' kz (fun i hi (e : i = b4) => by omega)
   replace rowz := rowz.kp kz (fun b hb (e : b = b4) => by have := hgz b hb; omega)
   refine w_nil ⟨rfl, _, rfl, ?_⟩
   refine then_n (c_reg (s_mv (v := .string _) rfl rfl rfl (mvI rfl rfl rfl (s_add (c := ((4 + (esc sb.value.data.toList).length : Nat) : Int)) rfl rfl rfl rfl rfl (w64c (by omega)) (s_slS (lo := 4 + (esc sb.value.data.toList).length) Tryz.underlying9 rfl rfl rfl rfl rfl rfl (by omega) ?_)))))
   rw [hs5, hR]
   refine s_as (v := .string _) rfl rfl rfl (w_nil (inb_n (then_n ?_)))
   exact ⟨x.subs.length - (j + 1), _, by omega, rfl, _, j + 1, v49, r49, rfl, by omega, (upd_keep' (upd_keep' (upd_keep' (upd_keep' rfl rfl) rfl) rfl) rfl), o2, o4, rowz, hgz, K⟩
  ·intro ht25
   (try simp only [Q1, Q2, Q3, Q4, Q5] at ht25)
   have hje : j = x.subs.length := by
    have h0 : (x.subs.drop j).flatMap sln = [] := (ba_nil _).1 ht25
    have h1 := (sub_nil _).1 h0
    rw [List.drop_eq_nil_iff] at h1; omega
   subst hje
   rw [List.take_length] at hrow
   have hRS := rsubs_of_row hrow (by omega)
   refine wp_exit (then_x (then_x (inb_x (then_n (wp_seq ?_)))))
   have kd : New w0 w0.drew := (Kp.refl _ _).drew
   have hdw : w0.drew.heap.size = w0.heap.size := rfl
   replace o2 := o2.kp kd (fun e => e)
   replace o4 := o4.kp kd (fun e => e)
   replace K := K.transN kd
   replace hrow := hrow.kp kd (fun _ _ e => e)
   replace hRS := hRS.kp kd (fun _ _ _ e => e)
   have q_o4 := o4
   refine c_drawG (fun u => Kp (fun k => k = b2) (w0.drew) u) [false, false, true, false, false, true, false, false, false, true, false] [[], [], [1], [2], [2, 3], [2, 3, 4], [3], [3, 5, 6], [3, 7], [0, 2, 5], [8]] (fun i => if i = 9 then 6 else if 6 ≤ i ∧ i ≤ 8 then i + 1 else i) (rank_gc (rk := fun i => if i = 9 then 6 else if 6 ≤ i ∧ i ≤ 8 then i + 1 else i) (by kernel_rfl)) rfl (by kernel_rfl) (Kp.refl _ _) ?_
   have kR : Kp (fun k => k = b2) (w0.drew) (w0.drew) := Kp.refl _ _
   refine t_q rfl rfl rfl (fun u hF => s_ldA ag53 rfl rfl rfl ((q_o4.kp hF (show ¬ (_ = _) by omega)).cells) rfl (w_nil ⟨rfl, rfl, rfl⟩)) ?_
   refine t_q rfl rfl rfl (fun u hF => s_ldA ag53 rfl rfl rfl ((q_o4.kp hF (show ¬ (_ = _) by omega)).cells) rfl (w_nil ⟨rfl, rfl, rfl⟩)) ?_
   refine t_l rfl (s_call1 go25 rfl (c25 (G := fun i => some i = rs) VText c63c x (.slice Av x.subs.length cv) _ (hT.kp K (fun _ _ _ e => e)) hv hRS) rfl rfl ?_)
   rintro _ w3 ⟨rfl, k57⟩
   replace o2 := o2.kp k57 (fun e => e)
   replace o4 := o4.kp k57 (fun e => e)
   replace K := K.transN k57
   replace kR := kR.transN k57
   replace hrow := hrow.kp k57 (fun _ _ e => e)
   replace hRS := hRS.kp k57 (fun _ _ _ e => e)
   refine ⟨_, rfl, ?_⟩
   refine w_nil ⟨rfl, _, rfl, kR, ?_⟩
   refine t_q rfl rfl rfl (fun u hF => mvB rfl rfl rfl (w_nil ⟨rfl, rfl, rfl⟩)) ?_
   refine t_q rfl rfl rfl (fun u hF => s_ldA ag53 rfl rfl rfl ((q_o4.kp hF (show ¬ (_ = _) by omega)).cells) rfl (w_nil ⟨rfl, rfl, rfl⟩)) ?_
   refine t_l rfl (s_call1 go36 rfl (c36 (G := fun i => some i = rs) x (.slice Av x.subs.length cv) _ hRS hv) rfl rfl ?_)
   rintro _ w4 ⟨rfl, k60⟩
   replace o2 := o2.kp k60 (fun e => e)
   replace o4 := o4.kp k60 (fun e => e)
   replace K := K.transN k60
   replace kR := kR.transN k60
   replace hrow := hrow.kp k60 (fun _ _ e => e)
   replace hRS := hRS.kp k60 (fun _ _ _ e => e)
   refine ⟨_, rfl, ?_⟩
   refine w_nil ⟨rfl, _, rfl, kR, ?_⟩
   refine t_q rfl rfl rfl (fun u hF => s_mv (v := .string _) rfl rfl rfl (w_nil ⟨rfl, rfl, rfl⟩)) ?_
   refine t_q rfl rfl rfl (fun u hF => s_seq rfl rfl rfl rfl rfl (decide_eq_true rfl) (w_nil ⟨rfl, rfl, rfl⟩)) ?_
   refine t_q rfl rfl rfl (fun u hF => pTB rfl rfl rfl rfl rfl (w_nil ⟨rfl, rfl, rfl⟩)) ?_
   refine t_l rfl ?_
   have hb2n := o2.lt
   refine s_st (b := b2) 0 sz53 (v := .agg #[.string x.tag, .int .u8 x.i0, .int .u8 x.i1, .slice Av x.subs.length cv]) (new := [.string x.tag, .int .u8 x.i0, .int .u8 x.i1, .slice Av x.subs.length cv]) (cs' := [.string x.tag, .int .u8 x.i0, .int .u8 x.i1, .slice Av x.subs.length cv]) rfl rfl rfl rfl rfl rfl rfl o2 rfl rfl rfl ?_
   clear o2; intro w5 o2 ks zs
   replace K := K.trans' ks (fun i hi (e : i = b2) => by omega)
   replace kR := kR.trans ks
   replace hRS := hRS.kp ks (fun i _ hi (e : i = b2) => by have := hgs i hi.symm; omega)
   refine w_nil ⟨rfl, _, rfl, kR, ?_⟩
   refine t_q rfl rfl rfl (fun u hF => asB rfl rfl rfl (w_nil ⟨rfl, rfl, rfl⟩)) ?_
   refine t_n (then_n (wp_ret ?_))
   exact retC2 (t := 2) (u := 3) (T := 53) (v := .bool true) ag53 rfl rfl rfl rfl rfl o2.cells rfl ⟨.slice Av x.subs.length cv, rfl, hRS.weak (fun i hi => by have := hgs i hi.symm; omega), K⟩
end
section
theorem ln_no {x : Fld} (h : VFld VText x) : (10 : UInt8) ∉ ln x := by
 have he : ∀ v : List UInt8, (∀ u ∈ v, 32 ≤ u.toNat) → (10 : UInt8) ∉ esc v := by
  intro v hv hm
  obtain ⟨u, hu, h2⟩ := List.mem_flatMap.1 hm
  have := hv u hu
  unfold esc1 at h2
  split at h2
  ·simp at h2; subst h2; simp at this
  ·simp at h2; subst h2; simp at this
 have hi : ∀ y : Int, ind y = true → (10 : UInt8) ≠ shb (b8 y) := by
  intro y hy e
  have := rdsh hy
  rw [← e] at this
  have h3 := ind_le hy
  have : (rdb 10).toNat = 10 := by decide
  omega
 intro hm
 obtain ⟨⟨a, b, c, e, h1, h2, h3, -⟩, hi0, hi1, -, -, hs⟩ := h
 simp only [ln, hln, e, List.mem_append, List.mem_cons, List.not_mem_nil, or_false, List.mem_flatMap] at hm
 simp only [dg, Bool.and_eq_true, decide_eq_true_eq] at h1 h2 h3
 rcases hm with (((rfl | rfl | rfl) | hm | hm | hm)) | ⟨s, hs1, hm⟩
 ·simp at h1
 ·simp at h2
 ·simp at h3
 ·exact absurd hm (by decide)
 ·exact hi _ hi0 hm
 ·exact hi _ hi1 hm
 ·obtain ⟨hc, ht⟩ := hs s hs1
  have hcd := cd_le hc
  simp only [sln, List.mem_append, List.mem_cons, List.not_mem_nil, or_false] at hm
  rcases hm with (hm | hm | hm | hm) | hm
  ·exact absurd hm (by decide)
  ·exact absurd hm (by decide)
  ·have := u8v (x := s.code) (by omega)
   have e2 : UInt8.ofNat s.code.toNat = 10 := hm.symm
   rw [e2] at this; simp at this; omega
  ·exact absurd hm (by decide)
  ·exact he _ (text_ge ht) hm
theorem rec_no (id : Nat) : (10 : UInt8) ∉ hRec ++ Lib.decDigits id := by
 intro hm
 rcases List.mem_append.1 hm with hm | hm
 ·exact absurd hm (by decide)
 ·have := decD_all id 10 hm; simp at this
def tx (id : Nat) (l : List Fld) : Nat → List UInt8
 | 0 => prt id l
 | a + 1 => (l.drop a).flatMap fun f => ln f ++ [10]
theorem tx_0 (id : Nat) (l : List Fld) : tx id l 0 = (hRec ++ Lib.decDigits id) ++ 10 :: tx id l 1 := by simp [tx, prt]
theorem tx_k (id : Nat) {l : List Fld} {k : Nat} (h : k < l.length) : tx id l (k + 1) = ln l[k] ++ 10 :: tx id l (k + 2) := by
 simp only [tx]; rw [List.drop_eq_getElem_cons h, List.flatMap_cons, List.append_assoc]; rfl
theorem tx_e (id : Nat) (l : List Fld) : tx id l (l.length + 1) = [] := by simp [tx]
theorem c37a (line rest : List UInt8) (w : World) (hT : Tb w) (hn : (10 : UInt8) ∉ line) (hl : line.length + rest.length ≤ 1000000) : Calls Tryz.prog 37 #[.string ⟨(line ++ 10 :: rest).toArray⟩, .string ⟨#[10]⟩] w fun e w' => e = .returned (.tuple #[.string ⟨line.toArray⟩, .string ⟨rest.toArray⟩, .bool true]) ∧ New w w' := by
 obtain ⟨m, hm⟩ := hT.mx
 refine (Tryz.strings_Cut _ _ m w (by rw [ba_size]; simp; omega) hm).mono ?_
 rintro e w' ⟨rfl, n, rfl⟩
 refine ⟨?_, kp_drewN w n⟩
 have e1 : Lib.cut (⟨(line ++ 10 :: rest).toArray⟩ : ByteArray).data.toList (⟨#[10]⟩ : ByteArray).data.toList = (line, rest, true) := cut_at line 10 rest hn
 rw [e1]
theorem c37b (w : World) (hT : Tb w) : Calls Tryz.prog 37 #[.string ⟨#[]⟩, .string ⟨#[10]⟩] w fun e w' => e = .returned (.tuple #[.string ⟨#[]⟩, .string ⟨#[]⟩, .bool false]) ∧ New w w' := by
 obtain ⟨m, hm⟩ := hT.mx
 refine (Tryz.strings_Cut _ _ m w (by decide) hm).mono ?_
 rintro e w' ⟨rfl, n, rfl⟩
 exact ⟨rfl, kp_drewN w n⟩
theorem c38a (D : List UInt8) (w : World) : Calls Tryz.prog 38 #[.string ⟨(hRec ++ D).toArray⟩, .string ⟨#[114, 101, 99, 111, 114, 100, 32]⟩] w fun e w' => e = .returned (.tuple #[.string ⟨D.toArray⟩, .bool true]) ∧ w' = w := by
 refine (Tryz.strings_CutPrefix _ _ w).mono ?_
 rintro e w' ⟨rfl, rfl⟩
 refine ⟨?_, rfl⟩
 have e1 : Lib.hasPrefix (⟨(hRec ++ D).toArray⟩ : ByteArray).data.toList (⟨#[114, 101, 99, 111, 114, 100, 32]⟩ : ByteArray).data.toList = true := by
  show hRec.isPrefixOf (hRec ++ D) = true
  rw [List.isPrefixOf_iff_prefix]; exact List.prefix_append _ _
 have e2 : Lib.trimPrefix (⟨(hRec ++ D).toArray⟩ : ByteArray).data.toList (⟨#[114, 101, 99, 111, 114, 100, 32]⟩ : ByteArray).data.toList = D := by
  unfold Lib.trimPrefix; rw [if_pos e1]; rfl
 rw [e1, e2]
theorem c15 (id : Nat) (l : List Fld) (w : World) (hT : Tb w) (hv : VRec VText id l) : Calls Tryz.prog 15 #[.string ⟨(prt id l).toArray⟩] w fun e w' => ∃ A2 c2 r, e = .returned (.tuple #[.agg #[.int .i64 (id : Nat), .slice A2 l.length c2], .int .i64 0, .int .i64 0]) ∧ FRow w.heap.size w' (.slice A2 l.length c2) l r ∧ New w w' := by
 obtain ⟨W, hW⟩ : ∃ W, W = w := ⟨_, rfl⟩
 subst hW
 have K : New W W := Kp.refl _ _
 have hid := hv.2.1
 have hid0 := hv.1
 have hl60 := hv.2.2.2.1
 have hl1 := hv.2.2.1
 have htx0 : (tx id l 0).length ≤ 970000 := prt_len (by omega) hl60 hv.2.2.2.2
 have htxk : ∀ k, (tx id l (k + 1)).length ≤ 970000 := fun k => by
  have h9 := fm_bd (L := l.drop k) (f := (fun f => ln f ++ [10])) (c := 16087) fun f hf => by have := ln_len (hv.2.2.2.2 f (List.mem_of_mem_drop hf)); simp only [List.length_append, List.length_singleton]; omega
  rw [List.length_drop] at h9; have : (tx id l (k + 1)).length = ((l.drop k).flatMap (fun f => ln f ++ [10])).length := rfl; omega
 refine enter (n := 74) Tryz.func15 rfl rfl (by simp) ?_
 refine wp_seq (c_reg (s_alloc z24 rfl rfl ?_))
 intro b2 w1 eb2 o2 kb2 zb2
 have gb2_K : W.heap.size ≤ b2 := by have := K.size; omega
 replace K := K.transN kb2
 refine asI rfl rfl rfl (asI rfl rfl rfl (w_nil (then_n (wp_seq (c_reg (asI rfl rfl rfl (w_nil (then_n (wp_block ?_)))))))))
 have hb2l := o2.lt
 refine c_loop (fun m f w => ∃ g a vo rf, m = l.length + 2 - a ∧ a ≤ l.length + 1 ∧ f = (upd (upd (upd g 0 (.string ⟨(tx id l a).toArray⟩)) 2 (.pointer (some ⟨b2, 0, none⟩))) 3 (.int .i64 (a : Nat))) ∧ Own w b2 24 [.int .i64 ((if a = 0 then 0 else id : Nat) : Int), vo] ∧ FRow (b2 + 1) w vo (l.take (a - 1)) rf ∧ New W w) (l.length + 2) ⟨_, 0, _, none, by omega, by omega, (upd_keep' (upd_keep' (upd_keep' rfl rfl) rfl) rfl), o2, FRow.nil _ _, K⟩ ?_
 clear K o2
 rintro m _ w0 ⟨g, a, vo, rf, rfl, ha, rfl, o2, hr, K⟩
 have hcase : a = 0 ∨ (1 ≤ a ∧ a ≤ l.length) ∨ a = l.length + 1 := by omega
 rcases hcase with rfl | ⟨ha1, ha2⟩ | rfl
 ·skip
  rw [tx_0] at htx0
  rw [tx_0]
  simp only [List.length_append, List.length_cons] at htx0
  refine wp_seq (wp_block (wp_seq (c_reg (s_mv (v := .string _) rfl rfl rfl ?_))))
  refine s_call2 go37 rfl (c37a (hRec ++ Lib.decDigits id) (tx id l 1) _ (hT.kp K (fun _ _ _ e => e)) (rec_no id) (by simp only [List.length_append]; omega)) rfl rfl rfl rfl ?_
  rintro _ w2 ⟨rfl, k18⟩
  replace o2 := o2.kp k18 (fun e => e)
  replace K := K.transN k18
  replace hr := hr.kp k18 (fun _ _ _ e => e)
  refine ⟨_, rfl, ?_⟩
  refine s_mv (v := .tuple _) rfl rfl rfl (s_ext (v := .string _) rfl rfl rfl rfl (s_ext (v := .string _) rfl rfl rfl rfl (s_ext (v := .bool true) rfl rfl rfl rfl (s_as (v := .string _) rfl rfl rfl (s_as (v := .string _) rfl rfl rfl (asB rfl rfl rfl (w_nil (then_n (wp_seq ?_)))))))))
  refine wp_seq (c_reg (mvI rfl rfl rfl (s_gtr rfl rfl rfl rfl rfl (decide_eq_false (by omega)) (mvB rfl rfl rfl (st_skip rfl (st_skip rfl (pFB rfl rfl rfl rfl rfl (w_nil (then_n ?_)))))))))
  refine c_F rfl rfl (wp_skip (then_n (wp_seq (wp_seq (c_reg (mvB rfl rfl rfl (s_not rfl rfl rfl (mvB rfl rfl rfl (mvI rfl rfl rfl ?_)))))))))
  refine s_gtr rfl rfl rfl rfl rfl (decide_eq_false (by omega)) (pFB rfl rfl rfl rfl rfl (w_nil (then_n (c_F rfl rfl (wp_skip (then_n (wp_seq (wp_seq (c_reg ?_)))))))))
  refine mvI rfl rfl rfl (s_eq rfl rfl rfl rfl rfl (decide_eq_true (by omega)) (w_nil (then_n (c_T rfl rfl (wp_seq (c_reg (s_mv (v := .string _) rfl rfl rfl (s_call2 go38 rfl (c38a (Lib.decDigits id) _) rfl rfl rfl rfl ?_))))))))
  rintro _ wq ⟨rfl, hwq⟩
  rw [hwq]; clear hwq wq
  refine ⟨_, rfl, ?_⟩
  refine s_mv (v := .tuple _) rfl rfl rfl (s_ext (v := .string _) rfl rfl rfl rfl (s_ext (v := .bool true) rfl rfl rfl rfl (s_as (v := .string _) rfl rfl rfl (asB rfl rfl rfl (w_nil (then_n (wp_seq (c_reg (s_mv (v := .string _) rfl rfl rfl ?_)))))))))
  refine s_call1 go39 rfl (c39 id _ (hT.kp K (fun _ _ _ e => e)) (by omega) (by omega)) rfl rfl ?_
  rintro _ w3 ⟨rfl, k46⟩
  replace o2 := o2.kp k46 (fun e => e)
  replace K := K.transN k46
  replace hr := hr.kp k46 (fun _ _ _ e => e)
  refine ⟨_, rfl, ?_⟩
  refine s_mv (v := .tuple _) rfl rfl rfl (s_ext (v := .int .i64 _) rfl rfl rfl rfl (s_ext (v := .bool true) rfl rfl rfl rfl (asI rfl rfl rfl (asB rfl rfl rfl (w_nil (then_n (wp_seq (wp_seq (c_reg ?_)))))))))
  refine mvB rfl rfl rfl (s_not rfl rfl rfl (mvB rfl rfl rfl (mvB rfl rfl rfl (s_not rfl rfl rfl (pFB rfl rfl rfl rfl rfl (w_nil (then_n (c_F rfl rfl (wp_skip ?_)))))))))
  refine then_n (c_reg (mvI rfl rfl rfl (s_fa fi24_0 rfl rfl rfl (s_st 0 sz3 (v := .int .i64 _) rfl rfl rfl rfl rfl rfl rfl o2 rfl rfl rfl ?_))))
  clear o2; intro w4 o2 ksw4 zsw4
  replace K := K.trans' ksw4 (fun i hi (e : i = b2) => by omega)
  replace hr := hr.kp ksw4 (fun i _ hi (e : i = b2) => by omega)
  refine w_nil (then_n (c_reg (s_mv (v := .string _) rfl rfl rfl (s_as (v := .string _) rfl rfl rfl (w_nil (inb_n (then_n (c_reg (mvI rfl rfl rfl ?_)))))))))
  refine s_add rfl rfl rfl rfl rfl (w64 (by omega)) (asI rfl rfl rfl (w_nil (then_n ?_)))
  exact ⟨l.length + 1, _, by omega, rfl, _, 1, vo, rf, by omega, by omega, (upd_keep' (upd_keep' (upd_keep' rfl rfl) rfl) rfl), o2, hr, K⟩
 ·skip
  obtain ⟨k, rfl⟩ : ∃ k, a = k + 1 := ⟨a - 1, by omega⟩
  have hlt : k < l.length := by omega
  obtain ⟨x, hx⟩ : ∃ x, x = l[k] := ⟨_, rfl⟩
  have hvx := hv.2.2.2.2 _ (List.getElem_mem hlt)
  rw [← hx] at hvx
  have hlx := ln_len hvx
  have htk : (tx id l (k + 2)).length ≤ 970000 := htxk (k + 1)
  rw [tx_k id hlt, ← hx]
  rw [if_neg (by omega)] at o2
  rw [Nat.add_sub_cancel] at hr
  refine wp_seq (wp_block (wp_seq (c_reg (s_mv (v := .string _) rfl rfl rfl (s_call2 go37 rfl (c37a (ln x) (tx id l (k + 2)) _ (hT.kp K (fun _ _ _ e => e)) (ln_no hvx) (by omega)) rfl rfl rfl rfl ?_)))))
  rintro _ w2 ⟨rfl, k18⟩
  replace o2 := o2.kp k18 (fun e => e)
  replace K := K.transN k18
  replace hr := hr.kp k18 (fun _ _ _ e => e)
  refine ⟨_, rfl, ?_⟩
  refine s_mv (v := .tuple _) rfl rfl rfl (s_ext (v := .string _) rfl rfl rfl rfl (s_ext (v := .string _) rfl rfl rfl rfl (s_ext (v := .bool true) rfl rfl rfl rfl (s_as (v := .string _) rfl rfl rfl (s_as (v := .string _) rfl rfl rfl (asB rfl rfl rfl (w_nil (then_n ?_))))))))
  refine c_mid (fun f w => ∃ g, f = (upd (upd (upd (upd (upd (upd (upd g 0 (.string ⟨(ln x ++ 10 :: tx id l (k + 2)).toArray⟩)) 2 (.pointer (some ⟨b2, 0, none⟩))) 3 (.int .i64 ((k + 1 : Nat) : Int))) 5 (.string ⟨(ln x).toArray⟩)) 6 (.string ⟨(tx id l (k + 2)).toArray⟩)) 7 (.bool true)) 27 (.bool false)) ∧ Own w b2 24 [.int .i64 (id : Nat), vo] ∧ FRow (b2 + 1) w vo (l.take k) rf ∧ New W w) ?_ ?_
  ·skip
   refine wp_seq (c_reg (mvI rfl rfl rfl (s_gtr rfl rfl rfl rfl rfl rfl (mvB rfl rfl rfl ?_))))
   refine w_split (t := 24) rfl ?_ ?_
   ·intro hs24
    (try simp only [Q1, Q2, Q3, Q4, Q5] at hs24)
    refine s_mv (v := .string _) rfl rfl rfl ?_
    refine s_seq rfl rfl rfl rfl rfl (decide_eq_false (fun e => by rw [ba_nil] at e; simp at e)) ?_
    refine pTB rfl rfl rfl rfl rfl (w_nil (then_n (c_F rfl rfl (wp_skip (then_n ?_)))))
    exact ⟨_, rfl, _, (upd_keep' (upd_keep' (upd_keep' (upd_keep' (upd_keep' (upd_keep' (upd_keep' rfl rfl) rfl) rfl) rfl) rfl) rfl) rfl), o2, hr, K⟩
   ·intro hs24
    (try simp only [Q1, Q2, Q3, Q4, Q5] at hs24)
    refine st_skip rfl (st_skip rfl (pFB rfl rfl rfl rfl rfl (w_nil (then_n (c_F rfl rfl (wp_skip (then_n ?_)))))))
    exact ⟨_, rfl, _, (upd_keep' (upd_keep' (upd_keep' (upd_keep' (upd_keep' (upd_keep' (upd_keep' rfl rfl) rfl) rfl) rfl) rfl) rfl) rfl), o2, hr, K⟩
  ·clear K o2 hr
   rintro _ w8 ⟨g, rfl, o2, hr, K⟩
   refine wp_seq (wp_seq (c_reg (mvB rfl rfl rfl (s_not rfl rfl rfl (mvB rfl rfl rfl (mvI rfl rfl rfl (s_gtr rfl rfl rfl rfl rfl (decide_eq_false (by omega)) (pFB rfl rfl rfl rfl rfl (w_nil ?_)))))))))
   refine then_n (c_F rfl rfl (wp_skip (then_n (wp_seq (wp_seq (c_reg (mvI rfl rfl rfl (s_eq rfl rfl rfl rfl rfl (decide_eq_false (by omega)) (w_nil ?_)))))))))
   refine then_n (c_F rfl rfl (wp_seq (c_reg (s_mv (v := .string _) rfl rfl rfl ?_))))
   have hrl := hr.rlt
   have hb2w := o2.lt
   refine s_call1 go40 rfl (c40 x _ (hT.kp K (fun _ _ _ e => e)) hvx) rfl rfl ?_
   rintro _ w3 ⟨vs, rfl, hs0, k60⟩
   have hs9 := hs0
   obtain ⟨As, cs, rfl, -⟩ := hs9
   have hk60 := k60.size
   replace o2 := o2.kp k60 (fun e => e)
   replace K := K.transN k60
   replace hr := hr.kp k60 (fun _ _ _ e => e)
   refine ⟨_, rfl, ?_⟩
   refine s_mv (v := .tuple _) rfl rfl rfl (s_ext (v := .agg (x.cells (.slice As x.subs.length cs)).toArray) rfl rfl rfl rfl (s_ext (v := .bool true) rfl rfl rfl rfl ?_))
   have hb2x := o2.lt
   have hrG := FRowG.weak (frow_iff.1 hr) (G' := fun i => b2 + 1 ≤ i ∧ i < w3.heap.size) (fun i hi hg => ⟨hg, hi⟩)
   replace hs0 := hs0.bound.weak (G' := fun i => w8.heap.size ≤ i ∧ i < w3.heap.size) (fun i hi => hi)
   clear hr
   refine s_alloc z53 rfl rfl ?_
   intro b12 w4 eb12 o12 k12 z12
   rw [← eb12] at hrG hs0
   have gb12_K : W.heap.size ≤ b12 := by have := K.size; omega
   replace o2 := o2.kp k12 (fun e => e)
   replace hs0 := hs0.kp k12 (fun _ _ _ e => e)
   replace K := K.transN k12
   replace hrG := hrG.kp k12 (fun _ _ _ e => e)
   refine s_st (b := b12) 0 sz53 (v := .agg #[.string x.tag, .int .u8 x.i0, .int .u8 x.i1, .slice As x.subs.length cs]) (new := [.string x.tag, .int .u8 x.i0, .int .u8 x.i1, .slice As x.subs.length cs]) (cs' := [.string x.tag, .int .u8 x.i0, .int .u8 x.i1, .slice As x.subs.length cs]) rfl rfl rfl rfl rfl rfl rfl o12 rfl rfl rfl ?_
   clear o12; intro w5 o12 ks zs
   replace o2 := o2.kp ks (show ¬ (_ = _) by omega)
   replace hs0 := hs0.kp ks (fun i hi hg (e : i = b12) => by (try dsimp only at hg); omega)
   replace K := K.trans' ks (fun i hi (e : i = b12) => by omega)
   replace hrG := hrG.kp ks (fun i _ hi (e : i = b12) => by omega)
   have hr := frow_iff.2 (hrG.weak (G' := fun i => b2 + 1 ≤ i) (fun i _ hg => hg.1))
   clear hrG
   refine asB rfl rfl rfl (w_nil (then_n (wp_seq (wp_seq (c_reg (mvB rfl rfl rfl (s_not rfl rfl rfl (w_nil (then_n ?_)))))))))
   refine c_F rfl rfl (wp_skip (then_n (c_reg (s_fa fi24_1 rfl rfl rfl (s_ld1 (v := vo) on22 rfl rfl rfl (o2.get 1 rfl) (s_ldA ag53 rfl rfl rfl o12.cells rfl (s_bs1E (cs := x.cells (.slice As x.subs.length cs)) el22 rfl (by decide) rfl rfl rfl rfl ?_)))))))
   intro b70 w6 eb70 o70 k70 z70
   replace o2 := o2.kp k70 (fun e => e)
   replace o12 := o12.kp k70 (fun e => e)
   replace hs0 := hs0.kp k70 (fun _ _ _ e => e)
   replace K := K.transN k70
   replace hr := hr.kp k70 (fun _ _ _ e => e)
   have hk70 := k70.size
   have hb70 := o70.lt
   have hb2n := o2.lt
   have hrg := hr.rge
   refine s_appF1 (e := x) (vs := .slice As x.subs.length cs) el22 rfl rfl rfl rfl rfl rfl hr o70.cells (hs0.weak (fun i hi => ⟨by omega, fun e => by have := hrl i e.symm; omega⟩)) (by omega) (by rw [List.length_take]; omega) ?_
   clear hr
   intro v71 wA r71 hr kA hrA
   rw [show l.take k ++ [x] = l.take (k + 1) by rw [List.take_succ_eq_append_getElem hlt, ← hx]] at hr
   replace o2 := o2.kp kA (fun e => by have := hrg b2 e.symm; omega)
   replace K := K.trans' kA (fun i hi e => by have := hrg i e.symm; omega)
   refine s_fa fi24_1 rfl rfl rfl ?_
   obtain ⟨A6, c6, hsh, _⟩ := FRowG.shape (frow_iff.1 hr)
   have h1z : v71.cells = #[v71] ∧ v71.oneCell' = true := by rw [hsh]; exact ⟨rfl, rfl⟩
   refine s_st (b := b2) 1 sz22 (v := v71) (new := [v71]) (cs' := [.int .i64 (id : Nat), v71]) rfl rfl rfl rfl rfl h1z.1 (by simp [h1z.2]) o2 rfl rfl rfl ?_
   clear o2; intro w7 o2 kz zz
   replace K := K.trans' kz (fun i hi (e : i = b2) => by omega)
   replace hr := hr.kp kz (fun i _ hi (e : i = b2) => by omega)
   refine w_nil (then_n (c_reg (s_mv (v := .string _) rfl rfl rfl (s_as (v := .string _) rfl rfl rfl (w_nil (inb_n (then_n (c_reg (mvI rfl rfl rfl ?_)))))))))
   refine s_add rfl rfl rfl rfl rfl (w64 (by omega)) (asI rfl rfl rfl (w_nil (then_n ?_)))
   exact ⟨l.length + 2 - (k + 2), _, by omega, rfl, _, k + 2, v71, r71, rfl, by omega, (upd_keep' (upd_keep' (upd_keep' rfl rfl) rfl) rfl), (by rw [if_neg (by omega)]; exact o2), hr, K⟩
 ·skip
  rw [if_neg (by omega)] at o2
  rw [Nat.add_sub_cancel, List.take_length] at hr
  obtain ⟨A6, c6, rfl, hc6⟩ := FRowG.shape (frow_iff.1 hr)
  rw [tx_e]
  refine wp_seq (wp_block (wp_seq (c_reg (s_mv (v := .string _) rfl rfl rfl (s_call2 go37 rfl (c37b _ (hT.kp K (fun _ _ _ e => e))) rfl rfl rfl rfl ?_)))))
  rintro _ w2 ⟨rfl, k18⟩
  replace o2 := o2.kp k18 (fun e => e)
  replace K := K.transN k18
  replace hr := hr.kp k18 (fun _ _ _ e => e)
  refine ⟨_, rfl, ?_⟩
  refine s_mv (v := .tuple _) rfl rfl rfl (s_ext (v := .string _) rfl rfl rfl rfl (s_ext (v := .string _) rfl rfl rfl rfl (s_ext (v := .bool false) rfl rfl rfl rfl (s_as (v := .string _) rfl rfl rfl (s_as (v := .string _) rfl rfl rfl (asB rfl rfl rfl (w_nil (then_n (wp_seq ?_)))))))))
  refine wp_seq (c_reg (mvI rfl rfl rfl (s_gtr rfl rfl rfl rfl rfl (decide_eq_true (by omega)) (mvB rfl rfl rfl (s_mv (v := .string _) rfl rfl rfl (s_seq rfl rfl rfl rfl rfl (decide_eq_true rfl) (pTB rfl rfl rfl rfl rfl (w_nil (then_n ?_)))))))))
  refine c_T rfl rfl (wp_seq (c_reg (s_ldA ag24 rfl rfl rfl o2.cells rfl (s_st (b := b2) 0 sz24 (v := .agg #[.int .i64 (id : Nat), .slice A6 l.length c6]) (new := [.int .i64 (id : Nat), .slice A6 l.length c6]) (cs' := [.int .i64 (id : Nat), .slice A6 l.length c6]) rfl rfl rfl rfl rfl rfl rfl o2 rfl rfl rfl ?_))))
  clear o2; intro w3 o2 ks zs
  replace K := K.trans' ks (fun i hi (e : i = b2) => by omega)
  replace hr := hr.kp ks (fun i _ hi (e : i = b2) => by omega)
  refine asI rfl rfl rfl (asI rfl rfl rfl (w_nil (then_n (wp_ret (then_r (inb_r (then_r (then_r (inb_r ?_)))))))))
  exact retC3 (t := 2) (u := 3) (s := 4) (T := 24) (v := .int .i64 0) (v' := .int .i64 0) ag24 rfl rfl rfl rfl rfl rfl rfl o2.cells rfl ⟨A6, c6, rf, rfl, hr.weakB (by omega), K⟩
end
section
theorem ch_all {f m p : Nat} {a b : List Fld} {es : List Edt} (h : Chain f m p a b es) : ∀ e ∈ es, ∃ q : Nat, e.pos = (q : Int) ∧ p + m ≤ q ∧ q + e.old.length ≤ p + a.length ∧ e.old.length + e.new.length ≠ 0 ∧ e.new.length ≤ b.length ∧ (∀ x ∈ e.new, x ∈ b) ∧ (a.drop (q - p)).take e.old.length = e.old := by
  induction h with
  | nil m p c hc => intro e he; simp at he
  | cons m p c o n a b l hm hne hch ih =>
    intro e he
    rcases List.mem_cons.1 he with rfl | he
    · refine ⟨p + c.length, rfl, by omega, by simp; omega, hne, by simp; omega, fun x hx => by simp [hx], ?_⟩
      rw [Nat.add_sub_cancel_left, List.drop_left, List.take_left]
    · obtain ⟨q, h1, h2, h3, h4, h5, h6, h7⟩ := ih e he
      refine ⟨q, h1, by omega, by simp; omega, h4, by simp; omega, fun x hx => by simp [h6 x hx], ?_⟩
      rw [show q - p = c.length + (o.length + (q - (p + c.length + o.length))) by omega, ← List.drop_drop, List.drop_left, ← List.drop_drop, List.drop_left]
      exact h7
theorem ch_sep {f m p : Nat} {a b : List Fld} {es : List Edt} (h : Chain f m p a b es) : ∀ (i : Nat) (e e' : Edt), es[i + 1]? = some e → es[i]? = some e' → e'.pos + (e'.old.length : Int) < e.pos := by
  induction h with
  | nil m p c hc => intro i e e' h1 h2; simp at h1
  | cons m p c o n a b l hm hne hch ih =>
    intro i e e' h1 h2
    cases i with
    | zero =>
      simp only [List.getElem?_cons_zero, Option.some.injEq] at h2
      subst h2
      simp only [List.getElem?_cons_succ] at h1
      obtain ⟨q, h3, h4, _⟩ := ch_all hch e (List.mem_of_getElem? h1)
      rw [h3]; simp only; omega
    | succ i =>
      simp only [List.getElem?_cons_succ] at h1 h2
      exact ih i e e' h1 h2
theorem ch_ve {f : Nat} {la lb : List Fld} {es : List Edt} (h : Chain f 0 0 la lb es) (h1 : la.length ≤ 60) (h2 : lb.length ≤ 60) (h3 : es.length ≤ 61) : VE es := by
  refine ⟨by omega, fun i e he => ?_⟩
  obtain ⟨q, k1, k2, k3, k4, k5, k6, k7⟩ := ch_all h e (List.mem_of_getElem? he)
  refine ⟨by omega, k4, by omega, by omega, by omega, fun e' hi he' => ?_⟩
  obtain ⟨j, rfl⟩ : ∃ j, i = j + 1 := ⟨i - 1, by omega⟩
  exact ch_sep h j e e' he he'
theorem ch_fits {f : Nat} {la lb : List Fld} {es : List Edt} (h : Chain f 0 0 la lb es) : Fits la es := by
  intro e he
  obtain ⟨q, k1, k2, k3, k4, k5, k6, k7⟩ := ch_all h e he
  refine ⟨by omega, by omega, ?_⟩
  rw [k1]; simpa using k7
theorem ch_app {f m p : Nat} {a b : List Fld} {es : List Edt} (h : Chain f m p a b es) : ∀ A : List Fld, A.drop p = a → app A p es = b := by
  induction h with
  | nil m p c hc => intro A hA; exact hA
  | cons m p c o n a b l hm hne hch ih =>
    intro A hA
    have hd : A.drop (p + c.length + o.length) = a := by rw [Nat.add_assoc, ← List.drop_drop, hA, ← List.drop_drop, List.drop_left, List.drop_left]
    simp only [app]
    rw [show ((p + c.length : Nat) : Int).toNat = p + c.length from rfl, ih A hd, hA, Nat.add_sub_cancel_left, List.take_left, List.append_assoc]
theorem ch_inv {f m p : Nat} {a b : List Fld} {es : List Edt} (h : Chain f m p a b es) : ∀ (q : Nat) (sh : Int), sh = (q : Int) - p → Chain f m q b a (inv sh es) := by
  induction h with
  | nil m p c hc => intro q sh hs; exact Chain.nil m q c hc
  | cons m p c o n a b l hm hne hch ih =>
    intro q sh hs
    have h2 := ih (q + c.length + n.length) (sh + n.length - o.length) (by omega)
    have h3 := Chain.cons (f := f) m q c n o b a _ hm (by omega) h2
    simp only [inv]
    rw [show ((p + c.length : Nat) : Int) + sh = ((q + c.length : Nat) : Int) by omega]
    exact h3
theorem inv_len (es : List Edt) : ∀ sh, (inv sh es).length = es.length := by
  induction es with
  | nil => intro sh; rfl
  | cons e l ih => intro sh; simp [inv, ih]
end
section
theorem brow_some {w : World} {v : Value} {s : List UInt8} {r : Option Nat} (h : BRow w v s r) (hs : s ≠ []) (hl : s.length ≤ 1000000) : ∃ b cap, v = .slice (some ⟨b, 0, none⟩) s.length cap ∧ s.length ≤ cap ∧ cap ≤ 9223372036854775807 ∧ r = some b ∧ b < w.heap.size ∧ BytesAt (fun i => i = b) w (some ⟨b, 0, none⟩) s := by
 have h9 := h.rbytes hl
 have hlt := h.lt
 obtain ⟨hx, ⟨hv, hn, hg⟩ | ⟨b, cap, cur, hg, hv, hh, r1, r2, r3, r4⟩⟩ := h
 ·exact absurd (List.length_eq_zero_iff.1 hn) hs
 ·obtain ⟨A, c2, e, h1, h2⟩ := h9
  rw [hv] at e; cases e
  refine ⟨b, cap, hv, r1, Nat.le_trans r2 (by decide), hg, hlt b hg, h2.1, fun i u hu => ?_⟩
  obtain ⟨p, hp, hq, hc⟩ := h2.2 i u hu
  exact ⟨p, hp, by have : some p.block = r := hq; rw [hg] at this; exact Option.some.inj this, hc⟩
theorem frow_b {B : Nat} {w : World} {A : Option Addr} {l : List Fld} {c : Nat} {r : Option Nat} (h : FRow B w (.slice A l.length c) l r) (hl : l.length ≤ 1000000) : FldsAt (fun i => B ≤ i ∧ i < w.heap.size) w A l := (frow_flds h hl).bound
theorem wex_ne (id : Nat) (l : List Fld) : wex id l ≠ [] := by
 intro e
 have := wex_len (id := id) (l := l)
 rw [e] at this; simp at this
theorem renc_len {id : Nat} {l : List Fld} (hl : l.length ≤ 60) (h : ∀ f ∈ l, VFld VText f) : (renc id l).length ≤ 1000000 := by
 have h1 := enc_len id
 have h2 := enc_len l.length
 have h3 := fm_bd (f := fenc) fun f hf => fenc_len (h f hf)
 have : 8443 * l.length ≤ 8443 * 60 := Nat.mul_le_mul_left _ hl
 simp only [renc, List.length_append]; omega
theorem c4 {G : Nat → Prop} (id : Nat) (l : List Fld) (A : Option Addr) (cap : Nat) (w : World) (hT : Tb w) (hA : FldsAt G w A l) (hv : VRec VText id l) : Calls Tryz.prog 4 #[.agg #[.int .i64 (id : Nat), .slice A l.length cap]] w fun e w' => ∃ A2 c2 r, e = .returned (.tuple #[.agg #[.int .i64 (id : Nat), .slice A2 l.length c2], .bool true]) ∧ FRow w.heap.size w' (.slice A2 l.length c2) l r ∧ New w w' := by
 obtain ⟨W, hW⟩ : ∃ W, W = w := ⟨_, rfl⟩
 subst hW
 have K : New W W := Kp.refl _ _
 have hid := hv.2.1
 have hid0 := hv.1
 have hl60 := hv.2.2.2.1
 have hl1 := hv.2.2.1
 have hrl : (renc id l).length ≤ 1000000 := renc_len hl60 hv.2.2.2.2
 have hdl := wdir_len hv.2.2.2.2 0
 have hal := wdat_le hv.2.2.2.2
 have hwl := wex_len (id := id) (l := l)
 refine enter (n := 78) Tryz.func4 rfl rfl (by simp) ?_
 refine wp_seq (c_reg (s_box (cs := [.int .i64 (id : Nat), .slice A l.length cap]) rfl rfl rfl rfl ?_))
 intro b1 w1 eb1 o1 k1 z1
 have gb1_K : W.heap.size ≤ b1 := by have := K.size; omega
 replace K := K.transN k1
 have hb1l := o1.lt
 refine s_alloc z24 rfl rfl ?_
 intro b2 w1 eb2 o2 k2 z2
 have gb2_K : W.heap.size ≤ b2 := by have := K.size; omega
 replace o1 := o1.kp k2 (fun e => e)
 replace K := K.transN k2
 have hb2l := o2.lt
 refine asB rfl rfl rfl (w_nil (then_n (wp_seq (c_reg (s_ldA ag24 rfl rfl rfl o1.cells rfl (s_call1 go12 rfl (c12 (G := G) (id : Nat) A cap l _ (hT.kp K (fun _ _ _ e => e)) (hA.kp K (fun _ _ _ e => e)) hv) rfl rfl ?_))))))
 rintro _ wa ⟨v20, r20, rfl, h20, g20, k20⟩
 replace o1 := o1.kp k20 (fun e => e)
 replace o2 := o2.kp k20 (fun e => e)
 replace K := K.transN k20
 rw [Int.toNat_natCast] at h20
 obtain ⟨q, c9, rfl, hc1, hc2, rfl, hq, hBA⟩ := brow_some h20 (wex_ne id l) (by omega)
 refine ⟨_, rfl, ?_⟩
 refine s_mv (v := .tuple _) rfl rfl rfl ?_
 refine s_ext (v := .slice (some ⟨q, 0, none⟩) (wex id l).length c9) rfl rfl rfl rfl ?_
 refine s_ext (v := .int .i64 0) rfl rfl rfl rfl ?_
 refine s_as (v := .slice (some ⟨q, 0, none⟩) (wex id l).length c9) rfl rfl rfl ?_
 refine asI rfl rfl rfl (w_nil (then_n (wp_seq (c_reg ?_))))
 refine s_mv (v := .slice (some ⟨q, 0, none⟩) (wex id l).length c9) rfl rfl rfl ?_
 refine s_call1 go13 rfl (c13 (id : Nat) l ⟨q, 0, none⟩ c9 _ (hT.kp K (fun _ _ _ e => e)) hv hBA hc1 hc2 hq) rfl rfl ?_
 rintro _ wb ⟨A2, c2, r2, v9, r9, rfl, h9, hr, k25⟩
 replace o1 := o1.kp k25 (fun e => e)
 replace o2 := o2.kp k25 (fun e => e)
 replace K := K.transN k25
 obtain ⟨A9, c9b, rfl⟩ := h9.shape
 have hf := frow_b hr (by omega)
 clear hr
 refine ⟨_, rfl, ?_⟩
 refine s_mv (v := .tuple _) rfl rfl rfl (s_ext (v := .agg #[.int .i64 (id : Nat), .slice A2 l.length c2]) rfl rfl rfl rfl (s_ext (v := .slice A9 0 c9b) rfl rfl rfl rfl (s_ext (v := .int .i64 0) rfl rfl rfl rfl ?_)))
 have hb2x := o2.lt
 refine s_alloc z24 rfl rfl ?_
 intro b6 w2 eb6 o6 k6 z6
 have gb6_K : W.heap.size ≤ b6 := by have := K.size; omega
 rw [← eb6] at hf
 replace o1 := o1.kp k6 (fun e => e)
 replace o2 := o2.kp k6 (fun e => e)
 replace hf := hf.kp k6 (fun _ _ _ e => e)
 replace K := K.transN k6
 refine s_st (b := b6) 0 sz24 (v := .agg #[.int .i64 (id : Nat), .slice A2 l.length c2]) (new := [.int .i64 (id : Nat), .slice A2 l.length c2]) (cs' := [.int .i64 (id : Nat), .slice A2 l.length c2]) rfl rfl rfl rfl rfl rfl rfl o6 rfl rfl rfl ?_
 clear o6; intro w3 o6 ks zs
 replace o2 := o2.kp ks (show ¬ (_ = _) by omega)
 replace hf := hf.kp ks (fun i hi hg (e : i = b6) => by (try dsimp only at hg); omega)
 replace K := K.trans' ks (fun i hi (e : i = b6) => by omega)
 refine s_as (v := .slice A9 0 c9b) rfl rfl rfl (asI rfl rfl rfl (w_nil (then_n (wp_seq (c_reg (s_ldA ag24 rfl rfl rfl o6.cells rfl (s_call1 go14 rfl (c14 (G := fun i => _ ≤ i ∧ i < b6) id l A2 c2 _ (hT.kp K (fun _ _ _ e => e)) hf hv) rfl rfl ?_)))))))
 rintro _ wc ⟨rfl, k31⟩
 replace o2 := o2.kp k31 (fun e => e)
 replace o6 := o6.kp k31 (fun e => e)
 replace K := K.transN k31
 refine ⟨_, rfl, ?_⟩
 refine s_mv (v := .tuple _) rfl rfl rfl ?_
 refine s_ext (v := .string ⟨(prt id l).toArray⟩) rfl rfl rfl rfl ?_
 refine s_ext (v := .int .i64 0) rfl rfl rfl rfl (s_as (v := .string _) rfl rfl rfl (asI rfl rfl rfl (w_nil (then_n (wp_seq (c_reg (s_mv (v := .string _) rfl rfl rfl (s_call1 go15 rfl (c15 id l _ (hT.kp K (fun _ _ _ e => e)) hv) rfl rfl ?_))))))))
 rintro _ wd ⟨A3, c3, r3, rfl, hr, k36⟩
 replace o2 := o2.kp k36 (fun e => e)
 replace K := K.transN k36
 have hg := frow_b hr (by omega)
 clear hr
 refine ⟨_, rfl, ?_⟩
 refine s_mv (v := .tuple _) rfl rfl rfl (s_ext (v := .agg #[.int .i64 (id : Nat), .slice A3 l.length c3]) rfl rfl rfl rfl (s_ext (v := .int .i64 0) rfl rfl rfl rfl (s_ext (v := .int .i64 0) rfl rfl rfl rfl ?_)))
 have hb2x := o2.lt
 refine s_alloc z24 rfl rfl ?_
 intro b11 w4 eb11 o11 k11 z11
 have gb11_K : W.heap.size ≤ b11 := by have := K.size; omega
 rw [← eb11] at hg
 replace o2 := o2.kp k11 (fun e => e)
 replace hg := hg.kp k11 (fun _ _ _ e => e)
 replace K := K.transN k11
 refine s_st (b := b11) 0 sz24 (v := .agg #[.int .i64 (id : Nat), .slice A3 l.length c3]) (new := [.int .i64 (id : Nat), .slice A3 l.length c3]) (cs' := [.int .i64 (id : Nat), .slice A3 l.length c3]) rfl rfl rfl rfl rfl rfl rfl o11 rfl rfl rfl ?_
 clear o11; intro w5 o11 ks zs
 replace o2 := o2.kp ks (show ¬ (_ = _) by omega)
 replace hg := hg.kp ks (fun i hi hg (e : i = b11) => by (try dsimp only at hg); omega)
 replace K := K.trans' ks (fun i hi (e : i = b11) => by omega)
 refine asI rfl rfl rfl (asI rfl rfl rfl (w_nil (then_n (wp_seq (c_reg (s_ldA ag24 rfl rfl rfl o11.cells rfl (s_call1 go16 rfl (c16 (G := fun i => _ ≤ i ∧ i < b11) id l A3 c3 _ (hT.kp K (fun _ _ _ e => e)) hg hv) rfl rfl ?_)))))))
 rintro _ we ⟨v42, r42, rfl, h42, g42, k42⟩
 replace o2 := o2.kp k42 (fun e => e)
 replace K := K.transN k42
 obtain ⟨A4, c4, rfl⟩ := h42.shape
 refine ⟨_, rfl, ?_⟩
 refine s_mv (v := .tuple _) rfl rfl rfl (s_ext (v := .slice A4 (renc id l).length c4) rfl rfl rfl rfl (s_ext (v := .int .i64 0) rfl rfl rfl rfl (s_as (v := .slice A4 (renc id l).length c4) rfl rfl rfl (asI rfl rfl rfl (w_nil (then_n (wp_seq (c_reg (s_mv (v := .slice A4 (renc id l).length c4) rfl rfl rfl ?_)))))))))
 have hb2z := o2.lt
 refine s_call1 go17 rfl (c17 id l A4 c4 _ (hT.kp K (fun _ _ _ e => e)) (h42.rbytes hrl) hv hrl) rfl rfl ?_
 have hKs := K.size
 rintro _ wf ⟨A5, c5, r5, rfl, hr, k47⟩
 replace o2 := o2.kp k47 (fun e => e)
 replace K := K.transN k47
 have hrG := FRowG.weak (frow_iff.1 hr) (G' := fun i => W.heap.size ≤ i ∧ b2 < i ∧ i < wf.heap.size) (fun i hi hg => ⟨by omega, by omega, hi⟩)
 clear hr
 refine ⟨_, rfl, ?_⟩
 refine s_mv (v := .tuple _) rfl rfl rfl (s_ext (v := .agg #[.int .i64 (id : Nat), .slice A5 l.length c5]) rfl rfl rfl rfl (s_ext (v := .int .i64 0) rfl rfl rfl rfl ?_))
 have hb2y := o2.lt
 refine s_alloc z24 rfl rfl ?_
 intro b16 w6 eb16 o16 k16 z16
 have gb16_K : W.heap.size ≤ b16 := by have := K.size; omega
 rw [← eb16] at hrG
 replace o2 := o2.kp k16 (fun e => e)
 replace K := K.transN k16
 replace hrG := hrG.kp k16 (fun _ _ _ e => e)
 refine s_st (b := b16) 0 sz24 (v := .agg #[.int .i64 (id : Nat), .slice A5 l.length c5]) (new := [.int .i64 (id : Nat), .slice A5 l.length c5]) (cs' := [.int .i64 (id : Nat), .slice A5 l.length c5]) rfl rfl rfl rfl rfl rfl rfl o16 rfl rfl rfl ?_
 clear o16; intro w7 o16 ks zs
 replace o2 := o2.kp ks (show ¬ (_ = _) by omega)
 replace K := K.trans' ks (fun i hi (e : i = b16) => by omega)
 replace hrG := hrG.kp ks (fun i _ hi (e : i = b16) => by omega)
 refine asI rfl rfl rfl (w_nil (then_n (wp_seq (c_reg (s_ldA ag24 rfl rfl rfl o16.cells rfl (mvI rfl rfl rfl (s_eq rfl rfl rfl rfl rfl (decide_eq_true (by omega)) (mvB rfl rfl rfl (mvI rfl rfl rfl ?_)))))))))
 refine s_eq rfl rfl rfl rfl rfl (decide_eq_true (by omega)) (pTB rfl rfl rfl rfl rfl (mvB rfl rfl rfl (mvI rfl rfl rfl (s_eq rfl rfl rfl rfl rfl (decide_eq_true (by omega)) (pTB rfl rfl rfl rfl rfl (mvB rfl rfl rfl (mvI rfl rfl rfl (s_eq rfl rfl rfl rfl rfl (decide_eq_true (by omega)) (pTB rfl rfl rfl rfl rfl ?_)))))))))
 refine mvB rfl rfl rfl (mvI rfl rfl rfl (s_eq rfl rfl rfl rfl rfl (decide_eq_true (by omega)) (pTB rfl rfl rfl rfl rfl (mvB rfl rfl rfl (mvI rfl rfl rfl (s_eq rfl rfl rfl rfl rfl (decide_eq_true (by omega)) (pTB rfl rfl rfl rfl rfl (mvB rfl rfl rfl (s_mv (v := .slice A9 0 c9b) rfl rfl rfl ?_)))))))))
 refine s_lenL Tryz.underlying38 rfl rfl rfl (s_eq rfl rfl rfl rfl rfl (decide_eq_true (by omega)) (pTB rfl rfl rfl rfl rfl (s_st (b := b2) 0 sz24 (v := .agg #[.int .i64 (id : Nat), .slice A5 l.length c5]) (new := [.int .i64 (id : Nat), .slice A5 l.length c5]) (cs' := [.int .i64 (id : Nat), .slice A5 l.length c5]) rfl rfl rfl rfl rfl rfl rfl o2 rfl rfl rfl ?_)))
 clear o2; intro w8 o2 ks zs
 replace K := K.trans' ks (fun i hi (e : i = b2) => by omega)
 replace hrG := hrG.kp ks (fun i _ hi (e : i = b2) => by omega)
 refine asB rfl rfl rfl (w_nil (then_n (wp_ret ?_)))
 exact retC2 (t := 2) (u := 3) (T := 24) (v := .bool true) ag24 rfl rfl rfl rfl rfl o2.cells rfl ⟨A5, c5, r5, rfl, frow_iff.2 (hrG.weak (G' := fun i => W.heap.size ≤ i) (fun i _ hg => hg.1)), K⟩
end
section
def smp : Fld := ⟨⟨#[50, 52, 53]⟩, 32, 32, [⟨97, ⟨#[120]⟩⟩]⟩
theorem smp_ok : VRec VText (1 : Nat) [smp] := by
 refine ⟨by decide, by decide, by decide, by decide, fun f hf => ?_⟩
 simp only [List.mem_singleton] at hf; subst hf
 refine ⟨⟨50, 52, 53, rfl, by decide, by decide, by decide, by decide⟩, by decide, by decide, by decide, by decide, fun s hs => ?_⟩
 have hs : s ∈ [(⟨97, ⟨#[120]⟩⟩ : Sub)] := hs
 simp only [List.mem_singleton] at hs; subst hs
 refine ⟨by decide, by decide, by decide, by decide, by decide, ?_⟩
 exact RT.cons 0 1 120 (by decide) (by decide) (by decide) (by decide) RT.nil
theorem c5 (w : World) : Calls Tryz.prog 5 #[.string ⟨#[120]⟩] w fun e w' => ∃ b, e = .returned (.agg #[.int .i64 ((1 : Nat) : Int), .slice (some ⟨b, 0, none⟩) [smp].length 1]) ∧ FldsAt (fun i => w.heap.size ≤ i ∧ i < w'.heap.size) w' (some ⟨b, 0, none⟩) [smp] ∧ New w w' := by
 obtain ⟨W, hW⟩ : ∃ W, W = w := ⟨_, rfl⟩
 subst hW
 have K : New W W := Kp.refl _ _
 refine enter (n := 10) Tryz.func5 rfl rfl (by simp) ?_
 refine wp_seq (c_reg (s_alloc z24 rfl rfl ?_))
 intro b2 w1 eb2 o2 kb2 zb2
 have gb2_K : W.heap.size ≤ b2 := by have := K.size; omega
 replace K := K.transN kb2
 refine w_nil (then_n (wp_seq (c_reg (s_bd2 (cells := #[.int .u8 32, .int .u8 32]) bd48 rfl rfl rfl rfl rfl rfl (s_mv (v := .string _) rfl rfl rfl ?_)))))
 refine s_bd2 (cells := #[.int .u8 97, .string ⟨#[120]⟩]) bd50 rfl rfl rfl rfl rfl rfl ?_
 refine s_bs1E (cs := [.int .u8 97, .string ⟨#[120]⟩]) el51 rfl (by decide) rfl rfl rfl rfl ?_
 intro b6 w2 eb6 o6 k6 z6
 have gb6_K : W.heap.size ≤ b6 := by have := K.size; omega
 replace o2 := o2.kp k6 (fun e => e)
 replace K := K.transN k6
 refine s_bd3 (cells := #[.string ⟨#[50, 52, 53]⟩, .int .u8 32, .int .u8 32, .slice (some ⟨b6, 0, none⟩) 1 1]) bd53 rfl rfl rfl rfl rfl rfl rfl rfl ?_
 refine s_bs1E (cs := [.string ⟨#[50, 52, 53]⟩, .int .u8 32, .int .u8 32, .slice (some ⟨b6, 0, none⟩) 1 1]) el22 rfl (by decide) rfl rfl rfl rfl ?_
 intro b8 w3 eb8 o8 k8 z8
 have gb8_K : W.heap.size ≤ b8 := by have := K.size; omega
 replace o2 := o2.kp k8 (fun e => e)
 replace o6 := o6.kp k8 (fun e => e)
 replace K := K.transN k8
 refine s_bd2 (cells := #[.int .i64 ((1 : Nat) : Int), .slice (some ⟨b8, 0, none⟩) [smp].length 1]) bd24 rfl rfl rfl rfl rfl rfl ?_
 refine s_st (b := b2) 0 sz24 (v := .agg #[.int .i64 ((1 : Nat) : Int), .slice (some ⟨b8, 0, none⟩) [smp].length 1]) (new := [.int .i64 ((1 : Nat) : Int), .slice (some ⟨b8, 0, none⟩) [smp].length 1]) (cs' := [.int .i64 ((1 : Nat) : Int), .slice (some ⟨b8, 0, none⟩) [smp].length 1]) rfl rfl rfl rfl rfl rfl rfl o2 rfl rfl rfl ?_
 have h6l := o6.lt
 have h8l := o8.lt
 clear o2; intro w4 o2 ks zs
 replace o6 := o6.kp ks (show ¬ (_ = _) by omega)
 replace o8 := o8.kp ks (show ¬ (_ = _) by omega)
 replace K := K.trans' ks (fun i hi (e : i = b2) => by omega)
 refine w_nil (then_n (wp_ret ?_))
 refine retC (t := 2) (T := 24) ag24 rfl rfl rfl o2.cells rfl ⟨b8, rfl, (FldsAt.bound (G := fun i => W.heap.size ≤ i) ⟨by decide, fun i f hi => ?_⟩), K⟩
 cases i with
 | succ i => simp at hi
 | zero =>
  simp only [List.getElem?_cons_zero, Option.some.injEq] at hi; subst hi
  refine ⟨_, _, rfl, gb8_K, by rw [Nat.zero_mul, add_lit]; exact o8.cells, ⟨some ⟨b6, 0, none⟩, 1, rfl, by decide, fun i s hs => ?_⟩⟩
  cases i with
  | succ i => simp [smp] at hs
  | zero =>
   have hs : some (⟨97, ⟨#[120]⟩⟩ : Sub) = some s := hs
   cases hs
   exact ⟨_, rfl, gb6_K, by rw [Nat.zero_mul, add_lit]; exact o6.cells⟩
end
section
theorem edts_bound {G : Nat → Prop} {w : World} {B : Option Addr} {l : List Edt} (h : EdtsAt G w B l) : EdtsAt (fun i => G i ∧ i < w.heap.size) w B l := ⟨h.1, fun i e hi => by
 obtain ⟨p, vo, vn, hp, hg, hc, h1, h2⟩ := h.2 i e hi
 have hl := CellsAt.lt hc (.int .i64 e.pos) rfl
 rw [add_block] at hl
 exact ⟨p, vo, vn, hp, ⟨hg, hl⟩, hc, h1.bound, h2.bound⟩⟩
theorem c3 {G : Nat → Prop} (ida idb : Int) (A B : Option Addr) (ca cb : Nat) (la lb : List Fld) (w : World) (hT : Tb w) (hA : FldsAt G w A la) (hB : FldsAt G w B lb) (hca : la.length ≤ ca) : Calls Tryz.prog 3 #[.agg #[.int .i64 ida, .slice A la.length ca], .agg #[.int .i64 idb, .slice B lb.length cb]] w fun e w' => e = .returned (.bool true) ∧ New w w' := by
 obtain ⟨W, hW⟩ : ∃ W, W = w := ⟨_, rfl⟩
 subst hW
 have K : New W W := Kp.refl _ _
 refine enter (n := 121) Tryz.func3 rfl rfl (by simp) ?_
 refine wp_seq (c_reg (s_box (cs := [.int .i64 ida, .slice A la.length ca]) rfl rfl rfl rfl ?_))
 intro b2 w1 eb2 o2 k2 z2
 have gb2_K : W.heap.size ≤ b2 := by have := K.size; omega
 replace K := K.transN k2
 have hlb2 := o2.lt
 refine s_box (cs := [.int .i64 idb, .slice B lb.length cb]) rfl rfl rfl rfl ?_
 intro b3 w2 eb3 o3 k3 z3
 have gb3_K : W.heap.size ≤ b3 := by have := K.size; omega
 replace o2 := o2.kp k3 (fun e => e)
 replace K := K.transN k3
 have hlb3 := o3.lt
 refine asB rfl rfl rfl (w_nil (then_n (wp_seq (wp_seq (c_reg (s_call1 go5 rfl (c5 _) rfl rfl ?_))))))
 rintro _ wa ⟨bs, rfl, hs, k20⟩
 replace o2 := o2.kp k20 (fun e => e)
 replace o3 := o3.kp k20 (fun e => e)
 replace K := K.transN k20
 refine ⟨_, rfl, ?_⟩
 refine s_call1 go4 rfl (c4 1 [smp] _ 1 _ (hT.kp K (fun _ _ _ e => e)) hs smp_ok) rfl rfl ?_
 rintro _ wb ⟨A2, c2, r2, rfl, hr, k21⟩
 replace o2 := o2.kp k21 (fun e => e)
 replace o3 := o3.kp k21 (fun e => e)
 replace K := K.transN k21
 have hf5 := frow_b hr (by decide)
 clear hr hs
 refine ⟨_, rfl, ?_⟩
 refine s_mv (v := .tuple _) rfl rfl rfl (s_ext (v := .agg #[.int .i64 ((1 : Nat) : Int), .slice A2 [smp].length c2]) rfl rfl rfl rfl (s_ext (v := .bool true) rfl rfl rfl rfl ?_))
 have lto25 := o2.lt
 have lto35 := o3.lt
 refine s_alloc z24 rfl rfl ?_
 intro b5 w3 eb5 o5 k5 z5
 have gb5_K : W.heap.size ≤ b5 := by have := K.size; omega
 rw [← eb5] at hf5
 replace o2 := o2.kp k5 (fun e => e)
 replace o3 := o3.kp k5 (fun e => e)
 replace hf5 := hf5.kp k5 (fun _ _ _ e => e)
 replace K := K.transN k5
 have hlb5 := o5.lt
 refine s_st (b := b5) 0 sz24 (v := .agg #[.int .i64 ((1 : Nat) : Int), .slice A2 [smp].length c2]) (new := [.int .i64 ((1 : Nat) : Int), .slice A2 [smp].length c2]) (cs' := [.int .i64 ((1 : Nat) : Int), .slice A2 [smp].length c2]) rfl rfl rfl rfl rfl rfl rfl o5 rfl rfl rfl ?_
 clear o5; intro w4 o5 ks zs
 replace o2 := o2.kp ks (show ¬ (_ = _) by omega)
 replace o3 := o3.kp ks (show ¬ (_ = _) by omega)
 replace hf5 := hf5.kp ks (fun i hi hg (e : i = b5) => by (try dsimp only at hg); omega)
 replace K := K.trans' ks (fun i hi (e : i = b5) => by omega)
 refine asB rfl rfl rfl (w_nil (then_n (wp_seq ?_)))
 have kd : New w4 w4.drew := (Kp.refl _ _).drew
 have hdw : w4.drew.heap.size = w4.heap.size := rfl
 replace o2 := o2.kp kd (fun e => e)
 replace o3 := o3.kp kd (fun e => e)
 replace o5 := o5.kp kd (fun e => e)
 replace hf5 := hf5.kp kd (fun _ _ _ e => e)
 replace K := K.transN kd
 have q_o5 := o5
 refine c_drawG (fun u => Kp (fun _ => False) (w4.drew) u) [false, false, false, false, true, true, false, false] [[], [0], [1], [2], [2], [2, 3, 4], [2, 5], [2, 6]] (fun i => i) (rank_back (by kernel_rfl)) rfl (by kernel_rfl) (Kp.refl _ _) ?_
 have kR : Kp (fun _ => False) (w4.drew) (w4.drew) := Kp.refl _ _
 refine t_q rfl rfl rfl (fun u hF => mvB rfl rfl rfl (w_nil ⟨rfl, rfl, rfl⟩)) ?_
 refine t_q rfl rfl rfl (fun u hF => s_not rfl rfl rfl (w_nil ⟨rfl, rfl, rfl⟩)) ?_
 refine t_q rfl rfl rfl (fun u hF => mvB rfl rfl rfl (w_nil ⟨rfl, rfl, rfl⟩)) ?_
 refine t_q rfl rfl rfl (fun u hF => s_ldA ag24 rfl rfl rfl ((q_o5.kp hF (fun e => e)).cells) rfl (w_nil ⟨rfl, rfl, rfl⟩)) ?_
 refine t_l rfl (s_call1 go5 rfl (c5 _) rfl rfl ?_)
 rintro _ wc ⟨bt, rfl, hs, k28⟩
 replace o2 := o2.kp k28 (fun e => e)
 replace o3 := o3.kp k28 (fun e => e)
 replace o5 := o5.kp k28 (fun e => e)
 replace hf5 := hf5.kp k28 (fun _ _ _ e => e)
 replace K := K.transN k28
 replace kR := kR.transN k28
 refine ⟨_, rfl, ?_⟩
 refine w_nil ⟨rfl, _, rfl, kR, ?_⟩
 refine t_l rfl ?_
 refine s_call2 go6 rfl (c6 _ _ _ _ [smp] [smp] _ ⟨_, _, rfl, hf5⟩ ⟨_, _, rfl, hs⟩) rfl rfl rfl rfl ?_
 rintro _ wd ⟨rfl, k29⟩
 rw [decide_eq_true ⟨rfl, rfl⟩]
 replace o2 := o2.kp k29 (fun e => e)
 replace o3 := o3.kp k29 (fun e => e)
 replace o5 := o5.kp k29 (fun e => e)
 replace hf5 := hf5.kp k29 (fun _ _ _ e => e)
 replace K := K.transN k29
 replace kR := kR.transN k29
 refine ⟨_, rfl, ?_⟩
 refine w_nil ⟨rfl, _, rfl, kR, ?_⟩
 refine t_q rfl rfl rfl (fun u hF => s_not rfl rfl rfl (w_nil ⟨rfl, rfl, rfl⟩)) ?_
 refine t_q rfl rfl rfl (fun u hF => pFB rfl rfl rfl rfl rfl (w_nil ⟨rfl, rfl, rfl⟩)) ?_
 refine t_n (then_n (c_F rfl rfl (wp_skip (then_n (wp_seq (c_reg (s_fa fi24_0 rfl rfl rfl (s_ld1 (v := .int .i64 _) on3 rfl rfl rfl (o2.get 0 rfl) (s_fa fi24_0 rfl rfl rfl ?_)))))))))
 refine s_st (b := b3) 0 sz3 (v := .int .i64 ida) (new := [.int .i64 ida]) (cs' := [.int .i64 ida, .slice B lb.length cb]) rfl rfl rfl rfl rfl rfl rfl o3 rfl rfl rfl ?_
 clear o3; intro w5 o3 ks zs
 replace o2 := o2.kp ks (show ¬ (_ = _) by omega)
 replace K := K.trans' ks (fun i hi (e : i = b3) => by omega)
 refine w_nil (then_n (wp_seq (wp_seq (c_reg (s_ldA ag24 rfl rfl rfl o2.cells rfl (s_call2 go7 rfl (c7 ida 12 A ca la _ (hA.kp K (fun _ _ _ e => e))) rfl rfl rfl rfl ?_))))))
 rintro _ w6 ⟨t36, rfl, k36⟩
 replace o2 := o2.kp k36 (fun e => e)
 replace o3 := o3.kp k36 (fun e => e)
 replace K := K.transN k36
 refine ⟨_, rfl, ?_⟩
 refine s_not rfl rfl rfl (mvB rfl rfl rfl ?_)
 refine w_split (t := 38) rfl ?_ ?_
 ·intro hs38
  (try simp only [Q1, Q2, Q3, Q4, Q5] at hs38)
  refine st_skip rfl (st_skip rfl (st_skip rfl (pTB rfl rfl rfl rfl rfl (mvB rfl rfl rfl (st_skip rfl (st_skip rfl (st_skip rfl (pTB rfl rfl rfl rfl rfl (mvB rfl rfl rfl ?_)))))))))
  refine st_skip rfl (st_skip rfl (st_skip rfl (pTB rfl rfl rfl rfl rfl (w_nil (then_n (c_T rfl rfl (wp_seq (c_reg (asB rfl rfl rfl ?_)))))))))
  refine w_nil (then_n (wp_ret (then_r ?_)))
  exact ret1 (t := 4) (v := .bool true) rfl rfl rfl ⟨rfl, K⟩
 ·intro hs38
  (try simp only [Q1, Q2, Q3, Q4, Q5] at hs38)
  refine s_ldA ag24 rfl rfl rfl o3.cells rfl (s_call2 go7 rfl (c7 ida 12 B cb lb _ (hB.kp K (fun _ _ _ e => e))) rfl rfl rfl rfl ?_)
  rintro _ w7 ⟨t40, rfl, k40⟩
  replace o2 := o2.kp k40 (fun e => e)
  replace o3 := o3.kp k40 (fun e => e)
  replace K := K.transN k40
  refine ⟨_, rfl, ?_⟩
  refine s_not rfl rfl rfl (pFB rfl rfl rfl rfl rfl (mvB rfl rfl rfl ?_))
  refine w_split (t := 43) rfl ?_ ?_
  ·intro hs43
   (try simp only [Q1, Q2, Q3, Q4, Q5] at hs43)
   refine st_skip rfl (st_skip rfl (st_skip rfl (pTB rfl rfl rfl rfl rfl (mvB rfl rfl rfl (st_skip rfl (st_skip rfl (st_skip rfl (pTB rfl rfl rfl rfl rfl (w_nil ?_)))))))))
   refine then_n (c_T rfl rfl (wp_seq (c_reg (asB rfl rfl rfl (w_nil (then_n (wp_ret (then_r ?_))))))))
   exact ret1 (t := 4) (v := .bool true) rfl rfl rfl ⟨rfl, K⟩
  ·intro hs43
   (try simp only [Q1, Q2, Q3, Q4, Q5] at hs43)
   refine s_ldA ag24 rfl rfl rfl o2.cells rfl (s_call1 go8 rfl (c8 VText c49c ida A ca la _ (hA.kp K (fun _ _ _ e => e))) rfl rfl ?_)
   rintro _ w8 ⟨t45, rfl, hva0, k45⟩
   replace o2 := o2.kp k45 (fun e => e)
   replace o3 := o3.kp k45 (fun e => e)
   replace K := K.transN k45
   refine ⟨_, rfl, ?_⟩
   refine s_not rfl rfl rfl (pFB rfl rfl rfl rfl rfl (mvB rfl rfl rfl ?_))
   refine w_split (t := 48) rfl ?_ ?_
   ·intro hs48
    (try simp only [Q1, Q2, Q3, Q4, Q5] at hs48)
    refine st_skip rfl (st_skip rfl (st_skip rfl (pTB rfl rfl rfl rfl rfl (w_nil (then_n (c_T rfl rfl (wp_seq (c_reg (asB rfl rfl rfl ?_)))))))))
    refine w_nil (then_n (wp_ret (then_r ?_)))
    exact ret1 (t := 4) (v := .bool true) rfl rfl rfl ⟨rfl, K⟩
   ·intro hs48
    (try simp only [Q1, Q2, Q3, Q4, Q5] at hs48)
    refine s_ldA ag24 rfl rfl rfl o3.cells rfl (s_call1 go8 rfl (c8 VText c49c ida B cb lb _ (hB.kp K (fun _ _ _ e => e))) rfl rfl ?_)
    rintro _ w9 ⟨t50, rfl, hvb0, k50⟩
    replace o2 := o2.kp k50 (fun e => e)
    replace o3 := o3.kp k50 (fun e => e)
    replace K := K.transN k50
    refine ⟨_, rfl, ?_⟩
    refine s_not rfl rfl rfl (pFB rfl rfl rfl rfl rfl (w_nil (then_n ?_)))
    refine c_if rfl rfl ?_ ?_
    ·intro ht52
     (try simp only [Q1, Q2, Q3, Q4, Q5] at ht52)
     refine wp_seq (c_reg (asB rfl rfl rfl (w_nil (then_n (wp_ret (then_r ?_))))))
     exact ret1 (t := 4) (v := .bool true) rfl rfl rfl ⟨rfl, K⟩
    ·intro ht52
     (try simp only [Q1, Q2, Q3, Q4, Q5] at ht52)
     have ht45 : t45 = true := hs48
     have ht50 : t50 = true := ht52
     have hva := hva0 ht45
     have hvb := hvb0 ht50
     clear hva0 hvb0
     have hid := hva.2.1
     have hid0 := hva.1
     obtain ⟨id, rfl⟩ : ∃ n : Nat, ida = n := ⟨ida.toNat, by omega⟩
     have hla := hva.2.2.2.1
     have hlb := hvb.2.2.2.1
     have hla1 := hva.2.2.1
     have hlb1 := hvb.2.2.1
     have hsa : ∀ f ∈ la, f.subs.length ≤ 1000000 := fun f hf => by have := (hva.2.2.2.2 f hf).2.2.2.2.1; omega
     have hsb : ∀ f ∈ lb, f.subs.length ≤ 1000000 := fun f hf => by have := (hvb.2.2.2.2 f hf).2.2.2.2.1; omega
     refine wp_skip (then_n (wp_seq (c_reg (s_ldA ag24 rfl rfl rfl o2.cells rfl (s_call1 go4 rfl (c4 id la A ca _ (hT.kp K (fun _ _ _ e => e)) (hA.kp K (fun _ _ _ e => e)) hva) rfl rfl ?_)))))
     rintro _ w10 ⟨A7, e7, r55, rfl, hr, k55⟩
     replace o2 := o2.kp k55 (fun e => e)
     replace o3 := o3.kp k55 (fun e => e)
     replace K := K.transN k55
     have hcp7 := (frow_cap hr).2
     have hf7 := frow_b hr (by omega)
     clear hr
     refine ⟨_, rfl, ?_⟩
     refine s_mv (v := .tuple _) rfl rfl rfl (s_ext (v := .agg #[.int .i64 ((id : Nat) : Int), .slice A7 la.length e7]) rfl rfl rfl rfl (s_ext (v := .bool true) rfl rfl rfl rfl ?_))
     have lto27 := o2.lt
     have lto37 := o3.lt
     refine s_alloc z24 rfl rfl ?_
     intro b7 w11 eb7 o7 k7 z7
     have gb7_K : W.heap.size ≤ b7 := by have := K.size; omega
     rw [← eb7] at hf7
     replace o2 := o2.kp k7 (fun e => e)
     replace o3 := o3.kp k7 (fun e => e)
     replace hf7 := hf7.kp k7 (fun _ _ _ e => e)
     replace K := K.transN k7
     have hlb7 := o7.lt
     refine s_st (b := b7) 0 sz24 (v := .agg #[.int .i64 ((id : Nat) : Int), .slice A7 la.length e7]) (new := [.int .i64 ((id : Nat) : Int), .slice A7 la.length e7]) (cs' := [.int .i64 ((id : Nat) : Int), .slice A7 la.length e7]) rfl rfl rfl rfl rfl rfl rfl o7 rfl rfl rfl ?_
     clear o7; intro w12 o7 ks zs
     replace o2 := o2.kp ks (show ¬ (_ = _) by omega)
     replace o3 := o3.kp ks (show ¬ (_ = _) by omega)
     replace hf7 := hf7.kp ks (fun i hi hg (e : i = b7) => by (try dsimp only at hg); omega)
     replace K := K.trans' ks (fun i hi (e : i = b7) => by omega)
     refine asB rfl rfl rfl (w_nil (then_n (wp_seq (c_reg (s_ldA ag24 rfl rfl rfl o3.cells rfl (s_call1 go4 rfl (c4 id lb B cb _ (hT.kp K (fun _ _ _ e => e)) (hB.kp K (fun _ _ _ e => e)) hvb) rfl rfl ?_))))))
     rintro _ w13 ⟨A9, e9, r60, rfl, hr, k60⟩
     replace o2 := o2.kp k60 (fun e => e)
     replace o3 := o3.kp k60 (fun e => e)
     replace o7 := o7.kp k60 (fun e => e)
     replace hf7 := hf7.kp k60 (fun _ _ _ e => e)
     replace K := K.transN k60
     have hcp9 := (frow_cap hr).2
     have hf9 := frow_b hr (by omega)
     clear hr
     refine ⟨_, rfl, ?_⟩
     refine s_mv (v := .tuple _) rfl rfl rfl (s_ext (v := .agg #[.int .i64 ((id : Nat) : Int), .slice A9 lb.length e9]) rfl rfl rfl rfl (s_ext (v := .bool true) rfl rfl rfl rfl ?_))
     have lto29 := o2.lt
     have lto39 := o3.lt
     have lto79 := o7.lt
     refine s_alloc z24 rfl rfl ?_
     intro b9 w14 eb9 o9 k9 z9
     have gb9_K : W.heap.size ≤ b9 := by have := K.size; omega
     rw [← eb9] at hf9
     replace o2 := o2.kp k9 (fun e => e)
     replace o3 := o3.kp k9 (fun e => e)
     replace o7 := o7.kp k9 (fun e => e)
     replace hf7 := hf7.kp k9 (fun _ _ _ e => e)
     replace hf9 := hf9.kp k9 (fun _ _ _ e => e)
     replace K := K.transN k9
     have hlb9 := o9.lt
     refine s_st (b := b9) 0 sz24 (v := .agg #[.int .i64 ((id : Nat) : Int), .slice A9 lb.length e9]) (new := [.int .i64 ((id : Nat) : Int), .slice A9 lb.length e9]) (cs' := [.int .i64 ((id : Nat) : Int), .slice A9 lb.length e9]) rfl rfl rfl rfl rfl rfl rfl o9 rfl rfl rfl ?_
     clear o9; intro w15 o9 ks zs
     replace o2 := o2.kp ks (show ¬ (_ = _) by omega)
     replace o3 := o3.kp ks (show ¬ (_ = _) by omega)
     replace o7 := o7.kp ks (show ¬ (_ = _) by omega)
     replace hf7 := hf7.kp ks (fun i hi hg (e : i = b9) => by (try dsimp only at hg); omega)
     replace hf9 := hf9.kp ks (fun i hi hg (e : i = b9) => by (try dsimp only at hg); omega)
     replace K := K.trans' ks (fun i hi (e : i = b9) => by omega)
     refine asB rfl rfl rfl (w_nil (then_n (wp_seq (c_reg (s_ldA ag24 rfl rfl rfl o7.cells rfl (s_ldA ag24 rfl rfl rfl o9.cells rfl (s_call2 go9 rfl (c9 (VRec VText) (c20c VText c63c) id A7 A9 e7 e9 la lb _ _ _ (hT.kp K (fun _ _ _ e => e)) hva hvb hcp7 hcp9 hf7 hf9 (fun i hi => by omega) (fun i hi => by omega) hla hlb hsa hsb) rfl rfl rfl rfl ?_)))))))
     rintro _ we ⟨v67, es, rfl, hch, hes, hE, k66⟩
     replace o2 := o2.kp k66 (fun e => e)
     replace o3 := o3.kp k66 (fun e => e)
     replace o7 := o7.kp k66 (fun e => e)
     replace o9 := o9.kp k66 (fun e => e)
     replace hf7 := hf7.kp k66 (fun _ _ _ e => e)
     replace K := K.transN k66
     have hve := ch_ve hch hla hlb hes
     have hfit := ch_fits hch
     have happ := ch_app hch la rfl
     have hci := ch_inv hch 0 0 (by omega)
     have hvi := ch_ve hci hlb hla (by rw [inv_len]; exact hes)
     have hfi := ch_fits hci
     have hai := ch_app hci lb rfl
     have hnb : ∀ e ∈ es, ∀ f ∈ e.new, f ∈ lb := fun e he f hf => by obtain ⟨q, h1, h2, h3, h4, h5, h6, h7⟩ := ch_all hch e he; exact h6 f hf
     have hob : ∀ e ∈ es, ∀ f ∈ e.old, f ∈ la := fun e he f hf => by rw [← (hfit e he).2.2] at hf; exact List.mem_of_mem_drop (List.mem_of_mem_take hf)
     have hni : ∀ e ∈ inv 0 es, ∀ f ∈ e.new, f ∈ la := fun e he f hf => by obtain ⟨q, h1, h2, h3, h4, h5, h6, h7⟩ := ch_all hci e he; exact h6 f hf
     obtain ⟨B1, cb1, rfl, hE1⟩ := hE
     have hE2 := edts_bound hE1
     refine ⟨_, rfl, ?_⟩
     refine s_mv (v := .tuple _) rfl rfl rfl (s_ext (v := .slice B1 es.length cb1) rfl rfl rfl rfl (s_ext (v := .int .i64 0) rfl rfl rfl rfl (s_as (v := .slice B1 es.length cb1) rfl rfl rfl (asI rfl rfl rfl (w_nil (then_n (wp_seq (c_reg (s_ldA ag24 rfl rfl rfl o2.cells rfl ?_)))))))))
     refine s_mv (v := .slice B1 es.length cb1) rfl rfl rfl ?_
     refine s_call2 go10 rfl (c10 VText c63c (GA := G) id A ca la B1 cb1 es _ (hT.kp K (fun _ _ _ e => e)) hca (hA.kp K (fun _ _ _ e => e)) hva hsa hE2 hve hfit (fun e he f hf => hsb f (hnb e he f hf)) (fun e he f hf => hvb.2.2.2.2 f (hnb e he f hf)) (by rw [happ]; exact hlb1) (by rw [happ]; exact hlb)) rfl rfl rfl rfl ?_
     rintro _ wf ⟨A13, e13, r13, rfl, hr, k72⟩
     replace o2 := o2.kp k72 (fun e => e)
     replace o3 := o3.kp k72 (fun e => e)
     replace o7 := o7.kp k72 (fun e => e)
     replace o9 := o9.kp k72 (fun e => e)
     replace hf7 := hf7.kp k72 (fun _ _ _ e => e)
     replace hE2 := hE2.kp k72 (fun _ _ _ e => e)
     replace K := K.transN k72
     have hk72 := k72.size
     rw [happ] at hr ⊢
     have hcp13 := (frow_cap hr).2
     have hf13 := frow_b hr (by omega)
     clear hr
     refine ⟨_, rfl, ?_⟩
     refine s_mv (v := .tuple _) rfl rfl rfl (s_ext (v := .agg #[.int .i64 ((id : Nat) : Int), .slice A13 lb.length e13]) rfl rfl rfl rfl (s_ext (v := .int .i64 0) rfl rfl rfl rfl ?_))
     have lto213 := o2.lt
     have lto313 := o3.lt
     have lto713 := o7.lt
     have lto913 := o9.lt
     refine s_alloc z24 rfl rfl ?_
     intro b13 w16 eb13 o13 k13 z13
     have gb13_K : W.heap.size ≤ b13 := by have := K.size; omega
     rw [← eb13] at hf13
     replace o2 := o2.kp k13 (fun e => e)
     replace o3 := o3.kp k13 (fun e => e)
     replace o7 := o7.kp k13 (fun e => e)
     replace o9 := o9.kp k13 (fun e => e)
     replace hf7 := hf7.kp k13 (fun _ _ _ e => e)
     replace hE2 := hE2.kp k13 (fun _ _ _ e => e)
     replace hf13 := hf13.kp k13 (fun _ _ _ e => e)
     replace K := K.transN k13
     have hlb13 := o13.lt
     refine s_st (b := b13) 0 sz24 (v := .agg #[.int .i64 ((id : Nat) : Int), .slice A13 lb.length e13]) (new := [.int .i64 ((id : Nat) : Int), .slice A13 lb.length e13]) (cs' := [.int .i64 ((id : Nat) : Int), .slice A13 lb.length e13]) rfl rfl rfl rfl rfl rfl rfl o13 rfl rfl rfl ?_
     clear o13; intro w17 o13 ks zs
     replace o2 := o2.kp ks (show ¬ (_ = _) by omega)
     replace o3 := o3.kp ks (show ¬ (_ = _) by omega)
     replace o7 := o7.kp ks (show ¬ (_ = _) by omega)
     replace o9 := o9.kp ks (show ¬ (_ = _) by omega)
     replace hf7 := hf7.kp ks (fun i hi hg (e : i = b13) => by (try dsimp only at hg); omega)
     replace hE2 := hE2.kp ks (fun i hi hg (e : i = b13) => by (try dsimp only at hg); omega)
     replace hf13 := hf13.kp ks (fun i hi hg (e : i = b13) => by (try dsimp only at hg); omega)
     replace K := K.trans' ks (fun i hi (e : i = b13) => by omega)
     refine asI rfl rfl rfl (w_nil (then_n (wp_seq (c_reg (s_mv (v := .slice B1 es.length cb1) rfl rfl rfl ?_)))))
     refine s_call1 go11 rfl (c11 B1 cb1 es _ hE2 hve (fun e he => ⟨fun f hf => hsa f (hob e he f hf), fun f hf => hsb f (hnb e he f hf)⟩)) rfl rfl ?_
     rintro _ wg ⟨v78, rfl, hI, k77⟩
     replace o2 := o2.kp k77 (fun e => e)
     replace o3 := o3.kp k77 (fun e => e)
     replace o7 := o7.kp k77 (fun e => e)
     replace o9 := o9.kp k77 (fun e => e)
     replace o13 := o13.kp k77 (fun e => e)
     replace hf7 := hf7.kp k77 (fun _ _ _ e => e)
     replace hE2 := hE2.kp k77 (fun _ _ _ e => e)
     replace hf13 := hf13.kp k77 (fun _ _ _ e => e)
     replace K := K.transN k77
     obtain ⟨B2, cb2, rfl, hI2⟩ := hI
     refine ⟨_, rfl, ?_⟩
     refine s_mv (v := .tuple _) rfl rfl rfl (s_ext (v := .slice B2 (inv 0 es).length cb2) rfl rfl rfl rfl (s_ext (v := .int .i64 0) rfl rfl rfl rfl (s_as (v := .slice B2 (inv 0 es).length cb2) rfl rfl rfl (asI rfl rfl rfl (w_nil (then_n (wp_seq (c_reg (s_ldA ag24 rfl rfl rfl o13.cells rfl ?_)))))))))
     refine s_mv (v := .slice B2 (inv 0 es).length cb2) rfl rfl rfl ?_
     refine s_call2 go10 rfl (c10 VText c63c id A13 e13 lb B2 cb2 (inv 0 es) _ (hT.kp K (fun _ _ _ e => e)) hcp13 hf13 hvb hsb hI2 hvi hfi (fun e he f hf => hsa f (hni e he f hf)) (fun e he f hf => hva.2.2.2.2 f (hni e he f hf)) (by rw [hai]; exact hla1) (by rw [hai]; exact hla)) rfl rfl rfl rfl ?_
     rintro _ wh ⟨A17, e17, r17, rfl, hr, k83⟩
     replace o2 := o2.kp k83 (fun e => e)
     replace o3 := o3.kp k83 (fun e => e)
     replace o7 := o7.kp k83 (fun e => e)
     replace o9 := o9.kp k83 (fun e => e)
     replace o13 := o13.kp k83 (fun e => e)
     replace hf7 := hf7.kp k83 (fun _ _ _ e => e)
     replace hf13 := hf13.kp k83 (fun _ _ _ e => e)
     replace K := K.transN k83
     rw [hai] at hr ⊢
     have hf17 := frow_b hr (by omega)
     clear hr
     refine ⟨_, rfl, ?_⟩
     refine s_mv (v := .tuple _) rfl rfl rfl (s_ext (v := .agg #[.int .i64 ((id : Nat) : Int), .slice A17 la.length e17]) rfl rfl rfl rfl (s_ext (v := .int .i64 0) rfl rfl rfl rfl ?_))
     have lto217 := o2.lt
     have lto317 := o3.lt
     have lto717 := o7.lt
     have lto917 := o9.lt
     have lto1317 := o13.lt
     refine s_alloc z24 rfl rfl ?_
     intro b17 w18 eb17 o17 k17 z17
     have gb17_K : W.heap.size ≤ b17 := by have := K.size; omega
     rw [← eb17] at hf17
     replace o2 := o2.kp k17 (fun e => e)
     replace o3 := o3.kp k17 (fun e => e)
     replace o7 := o7.kp k17 (fun e => e)
     replace o9 := o9.kp k17 (fun e => e)
     replace o13 := o13.kp k17 (fun e => e)
     replace hf7 := hf7.kp k17 (fun _ _ _ e => e)
     replace hf13 := hf13.kp k17 (fun _ _ _ e => e)
     replace hf17 := hf17.kp k17 (fun _ _ _ e => e)
     replace K := K.transN k17
     have hlb17 := o17.lt
     refine s_st (b := b17) 0 sz24 (v := .agg #[.int .i64 ((id : Nat) : Int), .slice A17 la.length e17]) (new := [.int .i64 ((id : Nat) : Int), .slice A17 la.length e17]) (cs' := [.int .i64 ((id : Nat) : Int), .slice A17 la.length e17]) rfl rfl rfl rfl rfl rfl rfl o17 rfl rfl rfl ?_
     clear o17; intro w19 o17 ks zs
     replace o2 := o2.kp ks (show ¬ (_ = _) by omega)
     replace o3 := o3.kp ks (show ¬ (_ = _) by omega)
     replace o7 := o7.kp ks (show ¬ (_ = _) by omega)
     replace o9 := o9.kp ks (show ¬ (_ = _) by omega)
     replace o13 := o13.kp ks (show ¬ (_ = _) by omega)
     replace hf7 := hf7.kp ks (fun i hi hg (e : i = b17) => by (try dsimp only at hg); omega)
     replace hf13 := hf13.kp ks (fun i hi hg (e : i = b17) => by (try dsimp only at hg); omega)
     replace hf17 := hf17.kp ks (fun i hi hg (e : i = b17) => by (try dsimp only at hg); omega)
     replace K := K.trans' ks (fun i hi (e : i = b17) => by omega)
     refine asI rfl rfl rfl (w_nil (then_n (wp_seq (c_reg (mvB rfl rfl rfl (mvB rfl rfl rfl (mvB rfl rfl rfl (pTB rfl rfl rfl rfl rfl (mvB rfl rfl rfl ?_)))))))))
     refine mvI rfl rfl rfl (s_eq rfl rfl rfl rfl rfl (decide_eq_true (by omega)) (pTB rfl rfl rfl rfl rfl (mvB rfl rfl rfl (mvI rfl rfl rfl (s_eq rfl rfl rfl rfl rfl (decide_eq_true (by omega)) (pTB rfl rfl rfl rfl rfl (mvB rfl rfl rfl (mvI rfl rfl rfl (s_eq rfl rfl rfl rfl rfl (decide_eq_true (by omega)) ?_)))))))))
     refine pTB rfl rfl rfl rfl rfl (mvB rfl rfl rfl (mvI rfl rfl rfl (s_eq rfl rfl rfl rfl rfl (decide_eq_true (by omega)) (pTB rfl rfl rfl rfl rfl (mvB rfl rfl rfl (s_ldA ag24 rfl rfl rfl o7.cells rfl (s_ldA ag24 rfl rfl rfl o2.cells rfl ?_)))))))
     refine s_call2 go6 rfl (c6 _ _ _ _ la la _ ⟨_, _, rfl, hf7⟩ ⟨_, _, rfl, (hA.kp K (fun _ _ _ e => e))⟩) rfl rfl rfl rfl ?_
     rintro _ w20 ⟨rfl, k109⟩
     rw [decide_eq_true ⟨rfl, rfl⟩]
     replace o2 := o2.kp k109 (fun e => e)
     replace o3 := o3.kp k109 (fun e => e)
     replace o7 := o7.kp k109 (fun e => e)
     replace o9 := o9.kp k109 (fun e => e)
     replace o13 := o13.kp k109 (fun e => e)
     replace o17 := o17.kp k109 (fun e => e)
     replace hf7 := hf7.kp k109 (fun _ _ _ e => e)
     replace hf13 := hf13.kp k109 (fun _ _ _ e => e)
     replace hf17 := hf17.kp k109 (fun _ _ _ e => e)
     replace K := K.transN k109
     refine ⟨_, rfl, ?_⟩
     refine pTB rfl rfl rfl rfl rfl (mvB rfl rfl rfl (s_ldA ag24 rfl rfl rfl o13.cells rfl (s_ldA ag24 rfl rfl rfl o3.cells rfl ?_)))
     refine s_call2 go6 rfl (c6 _ _ _ _ lb lb _ ⟨_, _, rfl, hf13⟩ ⟨_, _, rfl, (hB.kp K (fun _ _ _ e => e))⟩) rfl rfl rfl rfl ?_
     rintro _ w21 ⟨rfl, k114⟩
     rw [decide_eq_true ⟨rfl, rfl⟩]
     replace o2 := o2.kp k114 (fun e => e)
     replace o3 := o3.kp k114 (fun e => e)
     replace o7 := o7.kp k114 (fun e => e)
     replace o9 := o9.kp k114 (fun e => e)
     replace o13 := o13.kp k114 (fun e => e)
     replace o17 := o17.kp k114 (fun e => e)
     replace hf7 := hf7.kp k114 (fun _ _ _ e => e)
     replace hf13 := hf13.kp k114 (fun _ _ _ e => e)
     replace hf17 := hf17.kp k114 (fun _ _ _ e => e)
     replace K := K.transN k114
     refine ⟨_, rfl, ?_⟩
     refine pTB rfl rfl rfl rfl rfl (mvB rfl rfl rfl (s_ldA ag24 rfl rfl rfl o17.cells rfl (s_ldA ag24 rfl rfl rfl o2.cells rfl ?_)))
     refine s_call2 go6 rfl (c6 _ _ _ _ la la _ ⟨_, _, rfl, hf17⟩ ⟨_, _, rfl, (hA.kp K (fun _ _ _ e => e))⟩) rfl rfl rfl rfl ?_
     rintro _ w22 ⟨rfl, k119⟩
     rw [decide_eq_true ⟨rfl, rfl⟩]
     replace o2 := o2.kp k119 (fun e => e)
     replace o3 := o3.kp k119 (fun e => e)
     replace o7 := o7.kp k119 (fun e => e)
     replace o9 := o9.kp k119 (fun e => e)
     replace o13 := o13.kp k119 (fun e => e)
     replace o17 := o17.kp k119 (fun e => e)
     replace hf7 := hf7.kp k119 (fun _ _ _ e => e)
     replace hf13 := hf13.kp k119 (fun _ _ _ e => e)
     replace hf17 := hf17.kp k119 (fun _ _ _ e => e)
     replace K := K.transN k119
     refine ⟨_, rfl, ?_⟩
     refine pTB rfl rfl rfl rfl rfl (asB rfl rfl rfl (w_nil (then_n (wp_ret ?_))))
     exact ret1 (t := 4) (v := .bool true) rfl rfl rfl ⟨rfl, K⟩
end
end Go.Proofs.YtkabfelhicohnaaGreatDoor.V
