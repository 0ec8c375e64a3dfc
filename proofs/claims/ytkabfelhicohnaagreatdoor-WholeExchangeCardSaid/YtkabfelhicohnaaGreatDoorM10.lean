/- WholeExchange returns true at every input, and its arguments read behind the call as they read before: the tied card. Conditions: none beyond the card's own. -/
import Derived.Test.YtkabfelhicohnaaGreatDoorM9
import Derived.Stop.Joined
namespace Go.Proofs.YtkabfelhicohnaaGreatDoor
open Go.ChangeShapes Go.WideShapes Go.ChangeAt Go.RowKit Go.Shelf Go.Lib V
theorem ownK : ownKnob Tryz.prog.godebug = none := by kernel_rfl
theorem lo24 : laidOutB Tryz.prog = true := by kernel_rfl
theorem rr24 : Tryz.prog.readableRec 24 = true := by kernel_rfl
theorem sz24x : 24 < Tryz.prog.types.size := of_decide_eq_true (by kernel_rfl)
set_option maxRecDepth 100000 in
theorem law {H : Type} {enc : TypeId × Value → H} {W : World} {base : Nat} {args : Array Value} {ds gs : List (DataW H)} {before : List MemPlace}
    (hval0 : ∀ (j : Nat) t v, Tryz.f3.params[j]? = some t → args[j]? = some v → Value.okWide Tryz.prog W .any base t v)
    (hW : DataW.Whole enc Tryz.prog Tryz.f3.params.toList Rows.wholeExchangeSpec.vars false W args.toList ds gs before)
    (hz : (DataW.weightsEach Tryz.prog (Tryz.f3.params.toList ++ Rows.wholeExchangeSpec.plain.varTypes Tryz.prog) (ds ++ gs)).all (· ≤ reachBytes) = true)
    (hL : laidMet Tryz.prog lds W) (hs : W.ShapedOpen Tryz.prog) :
    Calls Tryz.prog 3 args W fun e W' => ∃ v, e = .returned v ∧ Rows.wholeExchangeSpec.post enc Tryz.prog Tryz.f3 false true false false W args v W' := by
  have hW' := hW
  obtain ⟨p, q, hA0, hV, rfl, hfz, hnd⟩ := hW
  have hA : DataW.TrodAll enc Tryz.prog W 0 (fun _ => true) true Tryz.f3.params.toList args.toList ds p := hA0
  rw [Tryz.params3] at hA hval0 hz
  obtain ⟨v0, v1, d0, d1, p0, p1, rfl, rfl, rfl, h0, h1⟩ := trodAll_two hA
  obtain ⟨rfl, rfl⟩ := trodVars_none hV
  have hz0 : Wd 24 d0 := fun m hm => by
    have := List.all_eq_true.1 hz m (DataW.weights_mem_each (j := 0) rfl rfl m hm)
    simpa using this
  have hz1 : Wd 24 d1 := fun m hm => by
    have := List.all_eq_true.1 hz m (DataW.weights_mem_each (j := 1) rfl rfl m hm)
    simpa using this
  obtain ⟨ida, A, ca, la, rfl, hFA, hca⟩ := open_rec (hval0 0 24 v0 rfl rfl) h0 hz0
  obtain ⟨idb, B, cb, lb, rfl, hFB, hcb⟩ := open_rec (hval0 1 24 v1 rfl rfl) h1 hz1
  simp only [List.append_nil] at hW' 
  refine (c3 ida idb A B ca cb la lb W (tb_of hs hL) hFA hFB hca).mono fun e W' ⟨he, hk⟩ => ?_
  subst he
  have hb : Below W.heap.size W W' := Kp.below hk (Nat.le_refl _) (fun i _ h => h.elim)
  have hlt : ∀ x ∈ p0 ++ p1, x.block < W.heap.size := DataW.TrodAll.lt hA
  exact ⟨_, rfl, _, _, _, [], p0 ++ p1, [], hW', trodAll_mk1 (shut_bool Tryz.underlying4 _), trodAll_mk2 (Below.trod lo24 rr24 sz24x h0 hb (fun x hx => hlt x (by simp [hx]))) (Below.trod lo24 rr24 sz24x h1 hb (fun x hx => hlt x (by simp [hx]))), rfl, hb.frame _, fun h => by cases h⟩
set_option maxRecDepth 100000 in
theorem lifted (os : Os) (started : os.Started) (H : Type) (enc : TypeId × Value → H) :
    ReturnsInHanded {} Tryz.checked os 3 .any (fun w args => (Rows.wholeExchangeSpec.pre enc Tryz.prog Tryz.f3 [] false w args ∧ laidMetH Tryz.prog lds w) ∧ sizedMet enc Tryz.prog Tryz.f3 (OpenSpec.ofChange Rows.wholeExchangeSpec) false w args)
      (Rows.wholeExchangeSpec.post enc Tryz.prog Tryz.f3 false true false false) := by
  refine returnsInHanded_of_calls (C := Tryz.checked) ownK started (by kernel_rfl)
    (ChangeSpec.witness_shaped (enc := enc) (C := Tryz.checked) (os := os) (s := Rows.wholeExchangeSpec) (X := fun w _ => laidMetH Tryz.prog lds w) false (World.laidAll Tryz.prog os lds) #[.agg #[.int .i64 0, .slice none 0 0], .agg #[.int .i64 0, .slice none 0 0]] 8 (World.laidAll_os _ _ _)
      (World.shaped_of_ZipB (by kernel_rfl) (by kernel_rfl)) (by kernel_rfl) (by kernel_rfl) (by kernel_rfl)
      (by rw [MakeChecks.laidMetH_plain _ _ _ (by kernel_rfl)]; exact laidMet_laidAll _ (by kernel_rfl) (by kernel_rfl))) ?_
  intro w tape i _ hsh _ hok hpre hholds
  obtain ⟨_, _, _, fn', hfn', _, _, _, _, hval⟩ := hok
  obtain rfl : fn' = Tryz.f3 := Option.some.inj (hfn'.symm.trans Tryz.func3)
  obtain ⟨⟨⟨ds, gs, before, hw, hc⟩, hx⟩, hz⟩ := hpre
  have hw' := DataW.Whole.of_heap (w' := w.forCall tape i) (by rfl) hw
  have hL : laidMetH Tryz.prog lds (w.forCall tape i) := laidMetH.of_heap (by rfl) hx
  rw [MakeChecks.laidMetH_plain _ _ _ (by kernel_rfl)] at hL
  refine (law (base := w.heap.size) hval hw' (hz.weights hw) hL hsh).mono fun e W' ⟨v, he, hp⟩ => ?_
  subst he
  exact ChangeSpec.post_blind hp
theorem row_holds : Rows.WholeExchangeSaid :=
  OpenClaim.holds_of_wide 3 Tryz.f3 rfl rfl rfl rfl rfl rfl rfl ⟨rfl, rfl, rfl, rfl, rfl⟩ rfl rfl rfl rfl rfl (by kernel_rfl) Tryz.func3 (by kernel_rfl)
    (of_decide_eq_true (by kernel_rfl)) (by unfold Func.isWrapper; first | (rw [if_pos (by decide +kernel)]; kernel_rfl) | (rw [if_neg (by decide +kernel)]; exact ⟨rfl, rfl⟩))
    (fun os started H enc _ => lifted os started H enc)
theorem card_holds : Rows.WholeExchangeCardSaid :=
  Claim7.holds_tied_plain_at .later [] [.data, .data, .data, .data, .sentinel, .sentinel, .pinned] true (true, "f979de3cc1c6a14b911c1483edc89033b2872328b3873fe6cdfd6c4abae684f3") true row_holds (fun _ h => by cases h) (by kernel_rfl) (fun _ h => by cases h) wholeExchange_row_tie rfl ⟨rfl, rfl⟩ (by kernel_rfl) rfl
    (fun f fn hf hfn => by
      obtain rfl : f = 3 := Option.some.inj ((show Tryz.prog.funcNamed "bookplate/bookplatetop.WholeExchange" = some 3 by kernel_rfl).symm.trans hf) |>.symm
      obtain rfl : fn = Tryz.f3 := (Option.some.inj (Tryz.func3.symm.trans hfn)).symm
      exact ⟨by kernel_rfl, fun j t ht => by
        rw [Tryz.params3] at ht
        have hm : t ∈ [24, 24] := by simpa using Array.mem_of_getElem? ht
        have hall : ([24, 24].all fun u => !Tryz.prog.wantsStandIn u) = true := by kernel_rfl
        exact (show Tryz.prog.wantsStandIn t = false by simpa using List.all_eq_true.1 hall t hm)⟩)
    (by kernel_rfl)
#print axioms card_holds
end Go.Proofs.YtkabfelhicohnaaGreatDoor
