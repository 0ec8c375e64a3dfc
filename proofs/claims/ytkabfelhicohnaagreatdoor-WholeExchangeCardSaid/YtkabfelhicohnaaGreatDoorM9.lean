/- The readings opened. No condition. -/
import Derived.Test.YtkabfelhicohnaaGreatDoorM8
import Derived.ProofKit
import Derived.OpenShut
import Derived.SizedLaws
import Derived.Test.YtkabfelhicohnaaGreatDoorTie
import Derived.Test.YtkabfelhicohnaaGreatDoorCards
import Derived.Lib.LaidU8T
import Derived.PinnedBridge
import Derived.Lay
import Derived.HandedShaped
import Derived.Shelf.Vars
set_option linter.unusedSimpArgs false
set_option linter.unusedVariables false
set_option maxRecDepth 4000
set_option maxHeartbeats 2000000
namespace Go.Proofs.YtkabfelhicohnaaGreatDoor.V
open Go.RowKit
section
variable {H : Type} {enc : TypeId × Value → H} {w : World} {sp : Nat → Bool} {held : Bool} {n : Nat} {cs : List Value} {x : DataW H × List MemPlace}
theorem co5 : Tryz.prog.cellsOf 5 = 1 := by kernel_rfl
theorem co3 : Tryz.prog.cellsOf 3 = 1 := by kernel_rfl
theorem co9 : Tryz.prog.cellsOf 9 = 1 := by kernel_rfl
theorem co50 : Tryz.prog.cellsOf 50 = 2 := by kernel_rfl
theorem co51 : Tryz.prog.cellsOf 51 = 1 := by kernel_rfl
theorem co53 : Tryz.prog.cellsOf 53 = 4 := by kernel_rfl
theorem co48 : Tryz.prog.cellsOf 48 = 2 := by kernel_rfl
theorem co22 : Tryz.prog.cellsOf 22 = 1 := by kernel_rfl
theorem co24 : Tryz.prog.cellsOf 24 = 2 := by kernel_rfl
theorem by50 : Tryz.prog.bytesOf 50 = 24 := by kernel_rfl
theorem by53 : Tryz.prog.bytesOf 53 = 48 := by kernel_rfl
theorem list_of {α : Type} {p : Nat → α → Prop} : ∀ n, (∀ i, i < n → ∃ y, p i y) → ∃ l : List α, l.length = n ∧ ∀ i y, l[i]? = some y → p i y := by
  intro n
  induction n with
  | zero => intro _; exact ⟨[], rfl, fun i y h => by simp at h⟩
  | succ n ih =>
    intro h
    obtain ⟨l, hl, hp⟩ := ih fun i hi => h i (by omega)
    obtain ⟨y, hy⟩ := h n (by omega)
    refine ⟨l ++ [y], by simp [hl], fun i z hz => ?_⟩
    by_cases hi : i < l.length
    · rw [List.getElem?_append_left hi] at hz; exact hp i z hz
    · rw [List.getElem?_append_right (by omega)] at hz
      have h2 := (List.getElem?_eq_some_iff.1 hz).1
      simp only [List.length_singleton] at h2
      obtain rfl : i = n := by omega
      rw [show i - l.length = 0 by omega] at hz
      simp at hz; exact hz ▸ hy
def Wd (t : TypeId) (d : DataW H) : Prop := ∀ m ∈ d.weights Tryz.prog t, m ≤ reachBytes
theorem rb_lt : reachBytes < 140737488355328 := by decide
theorem Wd.part {t : TypeId} {fs : Array Field} {ds : List (DataW H)} (h : Wd t (.agg ds)) (hu : Tryz.prog.underlying t = some (.struct fs)) {j : Nat} {f : Field} {d : DataW H} (hf : fs[j]? = some f) (hd : ds[j]? = some d) : Wd f.type d := by
  intro m hm
  refine h m ?_
  simp only [DataW.weights, hu]
  exact DataW.weights_mem_each (j := j) (by simp [hf]) hd m hm
theorem wAll {e : TypeId} : ∀ {l : List (DataW H)} {d : DataW H}, d ∈ l → ∀ m ∈ d.weights Tryz.prog e, m ∈ DataW.weightsAll Tryz.prog e l := by
  intro l
  induction l with
  | nil => intro d h; simp at h
  | cons a l ih =>
    intro d h m hm
    simp only [DataW.weightsAll, List.mem_append]
    rcases List.mem_cons.1 h with rfl | h
    · exact .inl hm
    · exact .inr (ih h m hm)
theorem Wd.elem {t e : TypeId} {l r : List (DataW H)} (h : Wd t (.slice l r)) (hu : Tryz.prog.underlying t = some (.slice e)) {d : DataW H} (hd : d ∈ l) : Wd e d := by
  intro m hm
  refine h m ?_
  simp only [DataW.weights, hu, List.mem_cons, List.mem_append]
  exact .inr (.inl (wAll hd m hm))
theorem Wd.len {t e : TypeId} {l r : List (DataW H)} (h : Wd t (.slice l r)) (hu : Tryz.prog.underlying t = some (.slice e)) : (l.length + r.length) * Tryz.prog.bytesOf e ≤ reachBytes :=
  h _ (by simp [DataW.weights, hu])
theorem one_of {cs : List Value} {k : Nat} {v : Value} (h : (cs.drop k).take 1 = [v]) : cs[k]? = some v := by
  have := congrArg (·[0]?) h
  simpa [List.getElem?_take, List.getElem?_drop] using this
set_option maxRecDepth 100000 in
theorem open_sub (h : DataW.trod enc Tryz.prog w 0 sp held n 50 cs = some x) : ∃ s : Sub, cs = s.cells := by
  obtain ⟨y0, y1, m, hx, hl, h0, h1⟩ := ChangeShapes.trod_struct2 Tryz.underlying50 h
  obtain ⟨k, e0, -⟩ := DataW.trod_int Tryz.underlying5 h0
  obtain ⟨s, e1, -⟩ := DataW.trod_string Tryz.underlying9 h1
  simp only [co5, co9, co50] at e0 e1 hl
  have f0 := one_of e0
  have f1 := one_of e1
  match cs, hl with
  | [a, b], _ =>
    simp at f0 f1
    subst f0; subst f1
    exact ⟨⟨k, s⟩, rfl⟩
set_option maxRecDepth 100000 in
theorem open_subs (h : DataW.trod enc Tryz.prog w 0 sp held n 51 cs = some x) (hw : Wd 51 x.1) : ∃ v l, cs = [v] ∧ RSubs (fun _ => True) w v l := by
  rcases DataW.trod_slice Tryz.underlying51 h with ⟨rfl, -⟩ | ⟨a, len, cap, elems, rest, m, -, rfl, hx, -, hlc, hcm, hel, hei, -⟩
  · exact ⟨_, [], rfl, none, 0, rfl, by decide, fun i s hs => by simp at hs⟩
  · have key : ∀ i, i < len → ∃ s : Sub, w.cells? 0 (a.add (i * 2)) 2 = some s.cells := by
      intro i hi
      have := hei i hi
      rw [co50, List.getElem?_eq_getElem (by omega)] at this
      obtain ⟨c2, h2, h3⟩ := Option.bind_eq_some_iff.1 this
      obtain ⟨s, rfl⟩ := open_sub h3
      exact ⟨s, h2⟩
    obtain ⟨l, hl, hp⟩ := list_of len key
    rw [hx] at hw
    have hln := hw.len Tryz.underlying51
    rw [by50, List.length_map, List.length_map] at hln
    have := rb_lt
    refine ⟨_, l, rfl, some a, cap, by rw [hl], by unfold big; omega, fun i s hs => ⟨a, rfl, trivial, ?_⟩⟩
    have hc := World.cells?_some (hp i s hs)
    intro j v hv
    have hj : j < 2 := by have := (List.getElem?_eq_some_iff.1 hv).1; simpa [Sub.cells] using this
    rw [hc.2.2 j hj]; exact hv
set_option maxRecDepth 100000 in
theorem open_fld (h : DataW.trod enc Tryz.prog w 0 sp held n 53 cs = some x) (hw : Wd 53 x.1) : ∃ (f : Fld) (vs : Value), cs = f.cells vs ∧ RSubs (fun _ => True) w vs f.subs := by
  obtain ⟨xs, m, -, rfl, hl, hxl, hf⟩ := DataW.trod_struct Tryz.underlying53 h
  have h0 : DataW.trod enc Tryz.prog w 0 sp held m 9 ((cs.drop 0).take (Tryz.prog.cellsOf 9)) = xs[0]? := hf 0 _ rfl
  have h1 : DataW.trod enc Tryz.prog w 0 sp held m 48 ((cs.drop 1).take (Tryz.prog.cellsOf 48)) = xs[1]? := hf 1 _ rfl
  have h2 : DataW.trod enc Tryz.prog w 0 sp held m 51 ((cs.drop 3).take (Tryz.prog.cellsOf 51)) = xs[2]? := hf 2 _ rfl
  rw [co9] at h0; rw [co48] at h1; rw [co51] at h2
  match xs, hxl with
  | [x0, x1, x2], _ =>
    obtain ⟨s, e0, -⟩ := DataW.trod_string Tryz.underlying9 h0
    obtain ⟨ys, m1, -, -, hyl, hyn, hy⟩ := DataW.trod_array Tryz.underlying48 h1
    have g0 := hy 0 (by decide)
    have g1 := hy 1 (by decide)
    rw [co5] at g0 g1
    match ys, hyn with
    | [y0, y1], _ =>
      obtain ⟨i0, e1, -⟩ := DataW.trod_int Tryz.underlying5 g0
      obtain ⟨i1, e2, -⟩ := DataW.trod_int Tryz.underlying5 g1
      obtain ⟨v, l, e3, hs⟩ := open_subs h2 (hw.part Tryz.underlying53 (j := 2) rfl rfl)
      have k0 := one_of e0
      have k1 := one_of e1
      have k2 := one_of e2
      have k3 := one_of e3
      rw [co53] at hl
      match cs, hl with
      | [a, b, c, d], _ =>
        simp at k0 k1 k2 k3
        subst k0; subst k1; subst k2; subst k3
        exact ⟨⟨s, i0, i1, l⟩, d, rfl, hs⟩
set_option maxRecDepth 100000 in
theorem open_flds (h : DataW.trod enc Tryz.prog w 0 sp held n 22 cs = some x) (hw : Wd 22 x.1) : ∃ A cap l, cs = [.slice A l.length cap] ∧ FldsAt (fun _ => True) w A l ∧ l.length ≤ cap := by
  rcases DataW.trod_slice Tryz.underlying22 h with ⟨rfl, -⟩ | ⟨a, len, cap, elems, rest, m, -, rfl, hx, -, hlc, hcm, hel, hei, -⟩
  · exact ⟨none, 0, [], rfl, ⟨by decide, fun i s hs => by simp at hs⟩, Nat.le_refl _⟩
  · rw [hx] at hw
    have key : ∀ i, i < len → ∃ f : Fld, ∃ vs, w.cells? 0 (a.add (i * 4)) 4 = some (f.cells vs) ∧ RSubs (fun _ => True) w vs f.subs := by
      intro i hi
      have := hei i hi
      rw [co53, List.getElem?_eq_getElem (by omega)] at this
      obtain ⟨c2, h2, h3⟩ := Option.bind_eq_some_iff.1 this
      obtain ⟨f, vs, rfl, hs⟩ := open_fld h3 (hw.elem Tryz.underlying22 (List.mem_map_of_mem (List.getElem_mem _)))
      exact ⟨f, vs, h2, hs⟩
    obtain ⟨l, hl, hp⟩ := list_of len key
    have hln := hw.len Tryz.underlying22
    rw [by53, List.length_map, List.length_map] at hln
    have := rb_lt
    refine ⟨some a, cap, l, by rw [hl], ⟨by unfold big; omega, fun i f hs => ?_⟩, by omega⟩
    obtain ⟨vs, h1, h2⟩ := hp i f hs
    refine ⟨a, vs, rfl, trivial, ?_, h2⟩
    have hc := World.cells?_some h1
    intro j v hv
    have hj : j < 4 := by have := (List.getElem?_eq_some_iff.1 hv).1; simpa [Fld.cells] using this
    rw [hc.2.2 j hj]; exact hv
set_option maxRecDepth 100000 in
theorem open_rec {v : Value} {d : DataW H} {ps : List MemPlace} {r : Reach} {b0 : Nat} (hv : Value.okWide Tryz.prog w r b0 24 v) (h : DataW.Trod enc Tryz.prog w 0 sp held 24 v d ps) (hw : Wd 24 d) :
    ∃ id A cap l, v = .agg #[.int .i64 id, .slice A (List.length l) cap] ∧ FldsAt (fun _ => True) w A l ∧ l.length ≤ cap := by
  unfold Value.okWide at hv
  rw [Tryz.underlying24] at hv
  obtain ⟨vs, rfl, -, -⟩ := hv
  obtain ⟨fuel, h⟩ := h
  obtain ⟨y0, y1, m, hx, hl, h0, h1⟩ := ChangeShapes.trod_struct2 Tryz.underlying24 h
  obtain ⟨id, e0, -⟩ := DataW.trod_int Tryz.underlying3 h0
  simp only [Prod.mk.injEq] at hx
  obtain ⟨A, cap, l, e1, hf, hc⟩ := open_flds h1 ((hx.1 ▸ hw).part Tryz.underlying24 (j := 1) rfl rfl)
  simp only [co3, co22, co24] at e0 e1 hl
  have f0 := one_of e0
  have f1 := one_of e1
  have hcs : (Value.agg vs).cells.toList = [.int .i64 id, .slice A l.length cap] := by
    match hh : (Value.agg vs).cells.toList, hl with
    | [a, b], _ =>
      rw [hh] at f0 f1
      simp at f0 f1
      rw [f0, f1]
  refine ⟨id, A, cap, l, ?_, hf, hc⟩
  have : vs.toList = [.int .i64 id, .slice A l.length cap] := hcs
  rw [show vs = vs.toList.toArray by simp, this]
end
section
open Go.RowKit Go.Shelf Go.Lib
noncomputable abbrev lds : List (String × DataW Unit) := Rows.wholeExchangeRow.laid
theorem accept_eq : Rows.laid_unicode_utf8_acceptRanges = acceptData := by kernel_rfl
theorem pow_eq : Rows.laid_internal_strconv_uint64pow10 (H := Unit) = tabData .u64 pow10Tab := by kernel_rfl
theorem tPow : (Tryz.prog.globals[1]?).map (·.type) = some 179 := by kernel_rfl
theorem gl8 : Tryz.prog.globals.size = 8 := by kernel_rfl
theorem row0 : ((begin Tryz.prog (fun _ _ => 0) default).world.heap[0]?).bind Obj.row? = some (#[.int .i64 0], 3) := by kernel_rfl
theorem row7 : (((begin Tryz.prog (fun _ _ => 0) default).world.heap[7]?).bind Obj.row?).isSome = true := by kernel_rfl
theorem xU : U8Extra Tryz.prog Tryz.lays260_ren := ⟨by kernel_rfl, by kernel_rfl, by kernel_rfl, by kernel_rfl, by kernel_rfl, by kernel_rfl, by kernel_rfl⟩
theorem tb_of {w : World} (hs : w.ShapedOpen Tryz.prog) (hL : laidMet Tryz.prog lds w) : Tb w := by
  refine ⟨?_, ?_, ?_, ?_⟩
  · have h3 := laidMet.reads hL (n := "unicode/utf8.first") (d := Rows.laid_unicode_utf8_first) (by simp [lds, Rows.wholeExchangeRow])
    have h4 := laidMet.reads hL (n := "unicode/utf8.acceptRanges") (d := Rows.laid_unicode_utf8_acceptRanges) (by simp [lds, Rows.wholeExchangeRow])
    rw [accept_eq] at h4
    rw [show Rows.laid_unicode_utf8_first = firstData from Pinned.utf8First_eq] at h3
    exact utf8Tabs_of_readsT (U8Types.of260 Tryz.lays260) xU h3 h4
  · have h3 := laidMet.reads hL (n := "internal/strconv.uint64pow10") (d := Rows.laid_internal_strconv_uint64pow10) (by simp [lds, Rows.wholeExchangeRow])
    rw [pow_eq] at h3
    obtain ⟨g, t, cs, fuel, p, hg, hty, hvar, hd⟩ := h3
    obtain rfl := Option.some.inj (glob1.symm.trans hg)
    obtain rfl := Option.some.inj (tPow.symm.trans hty)
    have hcs := cells_of_tab Tryz.underlying179 Tryz.underlying145 (by kernel_rfl) (by kernel_rfl) hd
    unfold TabIs
    rw [hvar, ← hcs]
  · exact cell_of_shapedOpen_int hs (by rw [gl8]; decide) row0 rfl (by kernel_rfl) (by kernel_rfl) Tryz.underlying3
  · obtain ⟨zt, hz⟩ := Option.isSome_iff_exists.1 row7
    obtain ⟨z, t⟩ := zt
    obtain ⟨cs, h1, -⟩ := hs.1 7 z t (by rw [gl8]; decide) hz
    have := (Array.getElem?_eq_some_iff.1 h1).1
    omega
end
end Go.Proofs.YtkabfelhicohnaaGreatDoor.V
